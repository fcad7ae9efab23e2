/- Parts: Run, Exec, Cells, Pool0. -/
import Derived.Test.YtjjpiefgdggghaaGreatDoorA03
import Derived.Test.YtjjpiefgdggghaaGreatDoorA13
import Derived.Test.YtjjpiefgdggghaaGreatDoorA22
import Derived.Test.YtjjpiefgdggghaaGreatDoorA20
import Derived.Test.YtjjpiefgdggghaaGreatDoorA04
set_option linter.unusedVariables false
set_option linter.unusedSimpArgs false
set_option maxRecDepth 100000
set_option maxHeartbeats 40000000
namespace Go.Proofs.YtjjpiefgdggghaaGreatDoor
section
open Go.RowKit Go.Proofs.YtjjpiefgdggghaaGreatDoorW.PrintWords
theorem Ig{W:World}{g:Nat}{t:TypeId}{y0 y1 y2 y3 y4 y5 y6 y7 y8:Value}(b:W.heap[g]?=some (.cells #[y0,y1,y2,y3,y4,y5,y6,y7,y8] t (0,0))) :
  W.cell? ⟨g,0,none⟩=some y0∧W.cell? ⟨g,1,none⟩=some y1∧W.cell? ⟨g,2,none⟩=some y2∧W.cell? ⟨g,3,none⟩=some y3∧W.cell? ⟨g,4,none⟩=some y4∧W.cell? ⟨g,5,none⟩=some y5∧W.cell? ⟨g,6,none⟩=some y6∧W.cell? ⟨g,7,none⟩=some y7∧W.cell? ⟨g,8,none⟩=some y8 :=
 ⟨(Bc b 0).trans rfl,(Bc b 1).trans rfl,(Bc b 2).trans rfl,(Bc b 3).trans rfl,(Bc b 4).trans rfl,(Bc b 5).trans rfl,(Bc b 6).trans rfl,(Bc b 7).trans rfl,(Bc b 8).trans rfl⟩
theorem Pe{W:World}{g:Nat}{t:TypeId}{cs:Array Value}(b:W.heap[g]?=some (.cells cs t (0,0))) :
  W.frozen? ⟨g,0,none⟩=false∧W.frozen? ⟨g,1,none⟩=false∧W.frozen? ⟨g,2,none⟩=false∧W.frozen? ⟨g,3,none⟩=false∧W.frozen? ⟨g,4,none⟩=false∧W.frozen? ⟨g,5,none⟩=false∧W.frozen? ⟨g,6,none⟩=false∧W.frozen? ⟨g,7,none⟩=false∧W.frozen? ⟨g,8,none⟩=false :=
 ⟨Bf b 0,Bf b 1,Bf b 2,Bf b 3,Bf b 4,Bf b 5,Bf b 6,Bf b 7,Bf b 8⟩
structure CoreM.ok (c:CoreM):Prop where
 len:c.r.length=8
 TQ:∀ j,c.r.getD j 0<4294967296
theorem CoreM.ok.at{c:CoreM}(h:c.ok)(p:Int):(c.at p).ok:=⟨h.len,h.TQ⟩
theorem CoreM.ok.set{c:CoreM}(h:c.ok)(d:Int){v:Nat}(hv:v<4294967296):(c.set d v).ok:=by
 refine⟨by rw[Ed];exact h.len,fun j=>?_⟩;have:=h.TQ j;simp only[CoreM.set,List.getD_eq_getElem?_getD,List.getElem?_set]at this ⊢;split
 ·split
  ·exact hv
  ·decide
 ·exact this
structure GQ (i:In):Prop where
 op:i.op=1∨i.op=2∨i.op=3∨i.op=4∨i.op=5∨i.op=6∨i.op=7∨i.op=8∨i.op=9∨i.op=10∨i.op=11∨i.op=12∨i.op=13∨16≤i.op
 d:0≤i.d∧i.d<8
 s:0≤i.s∧i.s<8
 t:0≤i.t∧i.t<8
 u:0≤i.u∧i.u<8
 k:0≤i.k∧i.k<4294967296
 sh:i.op=5∨i.op=6→i.k<32
theorem O3{c:CoreM}{i:In}{self:Nat}(h:c.ok)(hi:GQ i)(hs:self<4294967296)(h16:¬i.op≥16)(h13:i.op≠13):(E5 c i self).ok:=by
 have hk:i.k.toNat<4294967296:=by have:=hi.k;omega
 have hg:=h.TQ i.s.toNat;have hg2:=h.TQ i.t.toNat;rcases hi.op with e |e |e |e |e |e |e |e |e |e |e |e |e |e
 ·simp only[E5,e];exact(h.set _ hk).at _
 ·simp only[E5,e];exact(h.set _ hg).at _
 ·simp only[E5,e];exact(h.set _ (Nat.mod_lt _ (by decide))).at _
 ·simp only[E5,e];exact(h.set _ (Nat.lt_of_le_of_lt Nat.and_le_left hg)).at _
 ·simp only[E5,e];exact(h.set _ (Nat.mod_lt _ (by decide))).at _
 ·simp only[E5,e];exact(h.set _ (Nat.lt_of_le_of_lt (Nat.div_le_self _ _) hg)).at _
 ·simp only[E5,e];exact(h.set _ (Nat.or_lt_two_pow (n:=32) hg hg2)).at _
 ·simp only[E5,e];exact h.at _
 ·simp only[E5,e];exact h.at _
 ·simp only[E5,e];exact h.at _
 ·simp only[E5,e];exact(h.set _ hs).at _
 ·simp only[E5,e];exact h.at _
 ·exact absurd e h13
 ·exact absurd e h16
theorem Uj(c:CoreM)(i:In)(self:Nat)(w:World)(hc:c.ok)(hi:GQ i)(hs:self<4294967296)(h16:¬i.op≥16)(h13:i.op≠13)(hp0:0≤c.pc)(hp1:c.pc≤100000) :
  Calls Tryz.prog 152 #[c.v,i.v,.int .i64 self] w fun e W'=>e=.returned (E5 c i self).v∧Below w.heap.size w W':=by
 obtain⟨op,d,s,t,u,a,k,q⟩:=i;obtain⟨h1,h2,h3,h4,h5,h6,h7⟩:=hi;simp only at h1 h2 h3 h4 h5 h6 h7 h16 h13;obtain⟨d,rfl⟩:∃ n:Nat,d=n:=⟨d.toNat,by omega⟩
 obtain⟨s,rfl⟩:∃ n:Nat,s=n:=⟨s.toNat,by omega⟩
 obtain⟨t,rfl⟩:∃ n:Nat,t=n:=⟨t.toNat,by omega⟩
 obtain⟨k,rfl⟩:∃ n:Nat,k=n:=⟨k.toNat,by omega⟩
 exact Ms c d s t k op u a q self w hc.len (by omega) (fun e=>by have:=h7 e;omega) (by omega) (by omega) (by omega) (by omega) hc.TQ hs hp0 hp1
structure Mt (w W:World) (N N1 G:Nat) (vc:Value) (lock unlock:Int) (c:CoreM) (vm:Value) (ms:List Int):Prop where
 h1:N<N1
 hG:N<G
 b:Below N w W
 b3:W.heap[N]?=some (.cells c.arr 155 (0,0))
 b4:W.heap[N1]?=some (.cells #[vc,.int .i64 lock,.int .i64 unlock] 25 (0,0))
 b6:W.heap[G]?=some (.cells Jk 155 (0,0))
 m:AS W N vm ms
 c:c.ok
section
variable {w W W1:World} {N N1 G:Nat} {vc vm u:Value} {lock unlock y:Int} {c c':CoreM} {ms:List Int}
theorem Mt.hz(h:Mt w W N N1 G vc lock unlock c vm ms):N≤W.heap.size:=Nat.le_of_lt (Bl h.b3)
theorem Mt.keep(h:Mt w W N N1 G vc lock unlock c vm ms)(hb:Below W.heap.size W W1):Mt w W1 N N1 G vc lock unlock c vm ms :=
 ⟨h.h1,h.hG,h.b.trans (hb.mono h.hz),Bk hb h.b3,Bk hb h.b4,Bk hb h.b6,h.m.keep hb,h.c⟩
theorem Mt.app(h:Mt w W N N1 G vc lock unlock c vm ms)(hr:AS W1 N u (ms++[y]))(hg:W.grownBy W1 vm.ownBlock):Mt w W1 N N1 G vc lock unlock c u (ms++[y]) :=
 ⟨h.h1,h.hG,h.b.grown hg h.hz (fun k hk=>Ob h.m k hk),Bg h.b3 hg (Oa h.m h.b3 (by decide)),Bg h.b4 hg (Oa h.m h.b4 (by decide)),Bg h.b6 hg (Oa h.m h.b6 (by decide)),hr,h.c⟩
end
theorem Lj{P:Program}{fn:Func}{p u v x:Tmp}{ty:TypeId}(h:fn.results=#[.cell p ty,.tmp u,.tmp v,.tmp x])(tmps:Array Value)(w:World)(g:Nat)(t:TypeId)(cs:Array Value)(fr:Nat×Nat)(d:TypeDesc)
  (hp:tmps.getD p undef=.pointer (some ⟨g,0,none⟩))(hg:w.heap[g]?=some (.cells cs t fr))
  (hu:P.underlying ty=some d)(hd:(match d with |.struct _ |.array _ _=>true |_=>false)=true)(hi:(P.info? ty).map (·.size)=some cs.size) :
  (results fn tmps).run P w=.ok (.tuple #[.agg cs,tmps.getD u undef,tmps.getD v undef,tmps.getD x undef]) w:=by
 have hp':tmps[p]?.getD undef=.pointer (some ⟨g,0,none⟩):=by simpa using hp
 have hl:=run_loadVar_row w g t ty cs fr d hg hu hd hi;simp only[results,h];simp[Sem.run_bind,Result.andThen,hp',asAddr,hl]
theorem Ep{W:World}{g k:Nat}(hk:k≠g)(v0 v1 v2 v3 v4 v5 v6 v7 v8:Value):(((((((((W.setCell ⟨g,0,none⟩ v0).setCell ⟨g,1,none⟩ v1).setCell ⟨g,2,none⟩ v2).setCell ⟨g,3,none⟩ v3).setCell ⟨g,4,none⟩ v4).setCell ⟨g,5,none⟩ v5).setCell ⟨g,6,none⟩ v6).setCell ⟨g,7,none⟩ v7).setCell ⟨g,8,none⟩ v8).heap[k]?=W.heap[k]?:=by
 rw[Below.heap_setCell _ ⟨g,8,none⟩ _ k hk,Below.heap_setCell _ ⟨g,7,none⟩ _ k hk,Below.heap_setCell _ ⟨g,6,none⟩ _ k hk,Below.heap_setCell _ ⟨g,5,none⟩ _ k hk,Below.heap_setCell _ ⟨g,4,none⟩ _ k hk,Below.heap_setCell _ ⟨g,3,none⟩ _ k hk,Below.heap_setCell _ ⟨g,2,none⟩ _ k hk,Below.heap_setCell _ ⟨g,1,none⟩ _ k hk,Below.heap_setCell _ ⟨g,0,none⟩ _ k hk]
section
variable {w W W1:World} {N N1 G:Nat} {vc vm u:Value} {lock unlock y:Int} {c c':CoreM} {ms:List Int}
theorem Mt.Uk(h:Mt w W N N1 G vc lock unlock c vm ms)(v0 v1 v2 v3 v4 v5 v6 v7 v8:Value):∀ W',W'=(((((((((W.setCell ⟨G,0,none⟩ v0).setCell ⟨G,1,none⟩ v1).setCell ⟨G,2,none⟩ v2).setCell ⟨G,3,none⟩ v3).setCell ⟨G,4,none⟩ v4).setCell ⟨G,5,none⟩ v5).setCell ⟨G,6,none⟩ v6).setCell ⟨G,7,none⟩ v7).setCell ⟨G,8,none⟩ v8) →
  W'.heap[G]?=some (.cells #[v0,v1,v2,v3,v4,v5,v6,v7,v8] 155 (0,0))∧AS W' N vm ms∧Below N w W':=by
 rintro W' rfl;exact⟨FV h.b6 _ _ _ _ _ _ _ _ _,h.m.move fun k hk=>Ep (fun e=>Oa h.m h.b6 (by decide) (by rw[hk,e])) _ _ _ _ _ _ _ _ _,Er h.b (Nat.le_of_lt h.hG) _ _ _ _ _ _ _ _ _⟩
theorem Mt.Vf(h:Mt w W N N1 G vc lock unlock c vm ms)(v0 v1 v2 v3 v4 v5 v6 v7 v8:Value)(hc:c'.arr=#[v0,v1,v2,v3,v4,v5,v6,v7,v8])(ho:c'.ok):∀ W',W'=(((((((((W.setCell ⟨N,0,none⟩ v0).setCell ⟨N,1,none⟩ v1).setCell ⟨N,2,none⟩ v2).setCell ⟨N,3,none⟩ v3).setCell ⟨N,4,none⟩ v4).setCell ⟨N,5,none⟩ v5).setCell ⟨N,6,none⟩ v6).setCell ⟨N,7,none⟩ v7).setCell ⟨N,8,none⟩ v8)→Mt w W' N N1 G vc lock unlock c' vm ms:=by
 rintro W' rfl;obtain⟨z0,z1,z2,z3,z4,z5,z6,z7,z8,hz⟩:=BU h.c.len;have b3:=h.b3;rw[hz]at b3;exact⟨h.h1,h.hG,Er h.b (Nl _) _ _ _ _ _ _ _ _ _,by rw[hc];exact FV b3 _ _ _ _ _ _ _ _ _,(Ep (by have:=h.h1;omega) _ _ _ _ _ _ _ _ _).trans h.b4,(Ep (by have:=h.hG;omega) _ _ _ _ _ _ _ _ _).trans h.b6,
  h.m.move fun k hk=>Ep (fun e=>Oa h.m h.b3 (by decide) (by rw[hk,e])) _ _ _ _ _ _ _ _ _,ho⟩
end
theorem Ul{W:World}{N B G:Nat}(hN:N≠G)(hB:B≠G){z0 z1 z2 z3 z4 z5 z6 z7 z8 y v0 v1 v2 v3 v4 v5 v6 v7 v8:Value}(h:(W.cell? ⟨N,0,none⟩=some z0∧W.cell? ⟨N,1,none⟩=some z1∧W.cell? ⟨N,2,none⟩=some z2∧W.cell? ⟨N,3,none⟩=some z3∧W.cell? ⟨N,4,none⟩=some z4∧W.cell? ⟨N,5,none⟩=some z5∧W.cell? ⟨N,6,none⟩=some z6∧W.cell? ⟨N,7,none⟩=some z7∧W.cell? ⟨N,8,none⟩=some z8)∧W.cell? ⟨B,6,none⟩=some y):∀ W',W'=(((((((((W.setCell ⟨G,0,none⟩ v0).setCell ⟨G,1,none⟩ v1).setCell ⟨G,2,none⟩ v2).setCell ⟨G,3,none⟩ v3).setCell ⟨G,4,none⟩ v4).setCell ⟨G,5,none⟩ v5).setCell ⟨G,6,none⟩ v6).setCell ⟨G,7,none⟩ v7).setCell ⟨G,8,none⟩ v8)→(W'.drew.cell? ⟨N,0,none⟩=some z0∧W'.drew.cell? ⟨N,1,none⟩=some z1∧W'.drew.cell? ⟨N,2,none⟩=some z2∧W'.drew.cell? ⟨N,3,none⟩=some z3∧W'.drew.cell? ⟨N,4,none⟩=some z4∧W'.drew.cell? ⟨N,5,none⟩=some z5∧W'.drew.cell? ⟨N,6,none⟩=some z6∧W'.drew.cell? ⟨N,7,none⟩=some z7∧W'.drew.cell? ⟨N,8,none⟩=some z8)∧W'.drew.cell? ⟨B,6,none⟩=some y:=by
 intro W' hW;have f:∀ k j,k≠G→W'.drew.cell? ⟨k,j,none⟩=W.cell? ⟨k,j,none⟩:=fun k j hk=>World.cell?_of_block (w:=W) (w':=W'.drew) (a:=⟨k,j,none⟩) (show W'.heap[k]?=_ by rw[hW];exact Ep hk v0 v1 v2 v3 v4 v5 v6 v7 v8)
 rw[f N 0 hN,f N 1 hN,f N 2 hN,f N 3 hN,f N 4 hN,f N 5 hN,f N 6 hN,f N 7 hN,f N 8 hN,f B 6 hB];exact h
theorem Mt.Vg{w W:World}{N N1 G:Nat}{vc vm:Value}{lock unlock:Int}{c:CoreM}{ms:List Int}(h:Mt w W N N1 G vc lock unlock c vm ms)(v0 v1 v2 v3 v4 v5 v6 v7 v8:Value):∀ W',W'=(((((((((W.setCell ⟨G,0,none⟩ v0).setCell ⟨G,1,none⟩ v1).setCell ⟨G,2,none⟩ v2).setCell ⟨G,3,none⟩ v3).setCell ⟨G,4,none⟩ v4).setCell ⟨G,5,none⟩ v5).setCell ⟨G,6,none⟩ v6).setCell ⟨G,7,none⟩ v7).setCell ⟨G,8,none⟩ v8) →
  W'.drew.heap[G]?=some (.cells #[v0,v1,v2,v3,v4,v5,v6,v7,v8] 155 (0,0))∧AS W'.drew N vm ms∧Below N w W'.drew:=by
 intro W' hW;obtain⟨h1,h2,h3⟩:=h.Uk v0 v1 v2 v3 v4 v5 v6 v7 v8 W' hW;exact⟨Be h1,h2,Bd h3⟩
def Q6(w:World)(fin:CoreM×List Int×Int×Int)(e:Ending)(w':World):Prop :=
 ∃ vm,e=.returned (.tuple #[fin.1.v,vm,.int .i64 fin.2.2.1,.int .i64 fin.2.2.2])∧AS w' w.heap.size vm fin.2.1∧Below w.heap.size w w'
theorem Sz(w:World)(G:Nat)(fin:CoreM×List Int×Int×Int)(a:Act)(W:World)(cs:Array Value)(vm:Value)(hd:a.defers=[])
  (h2:a.tmps.getD 6 undef=.pointer (some ⟨G,0,none⟩))(h7:a.tmps.getD 7 undef=vm)(h8:a.tmps.getD 8 undef=.int .i64 fin.2.2.1)(h9:a.tmps.getD 9 undef=.int .i64 fin.2.2.2)
  (hc:fin.1.arr=cs)(hl:fin.1.r.length=8)
  (h:W.heap[G]?=some (.cells cs 155 (0,0))∧AS W w.heap.size vm fin.2.1∧Below w.heap.size w W) :
  bodyPost Tryz.prog Tryz.f124 (Q6 w fin) .ret a W :=
 bodyPost_ret (Lj rfl _ _ G _ cs (0,0) _ h2 h.1 Tryz.underlying155 rfl (by rw[←hc,Mi _ hl];kernel_rfl)) hd ⟨vm,by rw[h7,h8,h9,←hc];rfl,h.2.1,h.2.2⟩
theorem Mu{code:List In}{t m:Nat}{c:CoreM}{ms:List Int}(h:c.pc<0∨c.pc≥code.length):runM code t (m+1) c ms=(c,ms,-1,11):=by
 rw[runM,if_pos h]
theorem Q7{code:List In}{t m p:Nat}{c:CoreM}{ms:List Int}(hp:c.pc=(p:Int))(h:p<code.length)(h16:16≤(code.getD p In.zero).op):runM code t (m+1) c ms=(c,ms,-1,0):=by
 rw[runM,if_neg (by omega),hp,Int.toNat_natCast,if_pos h16]
theorem Pf{code:List In}{t p:Nat}{c:CoreM}{ms:List Int}(hp:c.pc=(p:Int))(h:p<code.length)(h16:¬16≤(code.getD p In.zero).op):runM code t 1 c ms=(c,ms,-1,11):=by
 rw[runM,if_neg (by omega),hp,Int.toNat_natCast,if_neg h16,if_pos rfl]
theorem Ph{code:List In}{t m p:Nat}{c:CoreM}{ms:List Int}(hp:c.pc=(p:Int))(h:p<code.length)(h13:(code.getD p In.zero).op=13)(hm:m≠0):runM code t (m+1) c ms=(c,ms,(code.getD p In.zero).k,0):=by
 rw[runM,if_neg (by omega),hp,Int.toNat_natCast,if_neg (by omega),if_neg hm,if_pos h13]
theorem Pj{code:List In}{t m p:Nat}{c:CoreM}{ms:List Int}(hp:c.pc=(p:Int))(h:p<code.length)(h16:¬16≤(code.getD p In.zero).op)(h13:(code.getD p In.zero).op≠13)(hm:m≠0) :
  runM code t (m+1) c ms=runM code t m (E5 c (code.getD p In.zero) t) (if (code.getD p In.zero).op=12 then ms++[(code.getD p In.zero).k] else ms):=by
 rw[runM,if_neg (by omega),hp,Int.toNat_natCast,if_neg h16,if_neg hm,if_neg h13]
theorem Pd(c:CoreM)(code:List In)(vc:Value)(lock unlock:Int)(t:Nat)(w:World)(hc:c.ok)(hr:Bx w vc code.length (AQ code))(hok:∀ i∈code,GQ i)(hlen:code.length≤64)(ht:t<4294967296) :
  Calls Tryz.prog 124 #[c.v,.agg #[vc,.int .i64 lock,.int .i64 unlock],.int .i64 t] w (Q6 w (runM code t 257 c [])):=by
 obtain⟨fin,hfin⟩:∃ fin,runM code t 257 c []=fin:=⟨_,rfl⟩
 rw[hfin];obtain⟨A,cap,rfl⟩:=hr.slice;obtain⟨a0,a1,a2,a3,a4,a5,a6,a7,a8,he⟩:=BU hc.len;have hI:Mt w (((w.alloc (.cells c.arr 155)).alloc (.cells #[.slice A code.length cap,.int .i64 lock,.int .i64 unlock] 25)).alloc (.cells Jk 155)) w.heap.size (w.heap.size+1) (w.heap.size+1+1) (.slice A code.length cap) lock unlock c (.slice none 0 0) [] :=
  ⟨by omega,by omega,(((Below.refl w.heap.size w).alloc (Nl _) _).alloc (by simp) _).alloc (by simp;omega) _,AZ (AZ (Bv w _) _) _,AZ (Cv w _ _) _,Jp w _ _ _,.nil _ _,hc⟩
 obtain⟨m,hm⟩:∃ m,code.length=m:=⟨_,rfl⟩
 unfold CoreM.v;rw[he]at hI ⊢;rw[hm]at hI hr ⊢;obtain⟨W0,hW0⟩:∃ x,(((w.alloc (.cells #[.int .i64 a0,.int .i64 a1,.int .i64 a2,.int .i64 a3,.int .i64 a4,.int .i64 a5,.int .i64 a6,.int .i64 a7,.int .i64 a8] 155)).alloc (.cells #[.slice A m cap,.int .i64 lock,.int .i64 unlock] 25)).alloc (.cells Jk 155))=x:=⟨_,rfl⟩
 rw[hW0]at hI;have hQ:=Az (fun a W cs vm=>Sz w (w.heap.size+1+1) fin a W cs vm);replace hI:=Az hI;replace hfin:=Az hfin;replace hr:=Az hr;replace hm:=Az hm;go_enter Tryz.func124,Tryz.ntmps124;go_wp2_with fail
 rw[show(((w.alloc (.cells #[.int .i64 a0,.int .i64 a1,.int .i64 a2,.int .i64 a3,.int .i64 a4,.int .i64 a5,.int .i64 a6,.int .i64 a7,.int .i64 a8] 155)).alloc (.cells #[.slice A m cap,.int .i64 lock,.int .i64 unlock] 25)).alloc (.cells #[.int .i64 0,.int .i64 0,.int .i64 0,.int .i64 0,.int .i64 0,.int .i64 0,.int .i64 0,.int .i64 0,.int .i64 0] 155))=W0 from hW0];clear hW0;generalize w.heap.size+1+1=G at *;generalize w.heap.size+1=N1 at *;go_loopw [10,11] (fun v10 v11 wr=>∃ (n:Nat) (c':CoreM) (ms:List Int),v11=.int .i64 n∧n≤257∧ms.length≤n∧Ag (runM code t (257-n) c' ms=fin)∧Ag (Mt w wr w.heap.size N1 G (.slice A m cap) lock unlock c' v10 ms)) (fun _ v11 _=>257-(intOf v11).toNat)
 case atStart=>exact⟨0,c,[],rfl,by omega,by simp,hfin,hI⟩
 case round =>
  obtain⟨n,c1,ms,rfl,hn,hms,hF,hI⟩:=hrel;obtain⟨z0,z1,z2,z3,z4,z5,z6,z7,z8,hz⟩:=BU hI.out.c.len;have hO:=fun v0 v1 v2 v3 v4 v5 v6 v7 v8 W' e=>hI.out.Uk v0 v1 v2 v3 v4 v5 v6 v7 v8 W' e
  replace hO:=Az hO;have p8:=(Bc hI.out.b3 8).trans (Ih hI.out.c.len);have q0:wr.cell? ⟨N1,0,none⟩=some (.slice A m cap):=(Bc hI.out.b4 0).trans rfl;have b3:=hI.out.b3;rw[hz]at b3;obtain⟨g0,g1,g2,g3,g4,g5,g6,g7,g8⟩:=Ig b3;obtain⟨x0,x1,x2,x3,x4,x5,x6,x7,x8⟩:=Ig hI.out.b6;obtain⟨y0,y1,y2,y3,y4,y5,y6,y7,y8⟩:=Pe hI.out.b6;have e8:=g8.symm.trans p8;injection e8 with e8
  injection e8 with _ e8
  subst e8;replace hz:=Az hz;have hl:=Az hI.out.c.len;clear b3;by_cases hn7:n≤256
  ·have n1:(n:Int)≤256:=by omega
   obtain⟨mm,hmm⟩:∃ mm,257-n=mm+1:=⟨256-n,by omega⟩
   rw[hmm]at hF;by_cases hneg:c1.pc<0
   ·have hf:=hF.out;rw[Mu (.inl hneg)]at hf;subst hf;go_wp2;exact hQ.out _ _ _ _ rfl rfl rfl rfl rfl hz.out hl.out (hO.out _ _ _ _ _ _ _ _ _ _ rfl)
   ·by_cases hge:c1.pc≥code.length
    ·have hf:=hF.out;rw[Mu (.inr hge)]at hf;subst hf;rw[hm.out]at hge;have hge':(m:Int)≤c1.pc:=hge;go_wp2;exact hQ.out _ _ _ _ rfl rfl rfl rfl rfl hz.out hl.out (hO.out _ _ _ _ _ _ _ _ _ _ rfl)
    ·obtain⟨p,hp⟩:∃ p:Nat,c1.pc=p:=⟨c1.pc.toNat,by omega⟩
     have hpl:p<code.length:=by omega
     have hpm:p<m:=by rw[←hm.out];exact hpl
     rw[hp]at p8 hneg;replace hz:=hz.out;rw[hp]at hz;replace hz:=Az hz;have p0:(0:Int)≤(p:Int):=by omega
     have p1:(p:Int)<(m:Int):=by omega
     have p2:¬(p:Int)≥(m:Int):=by omega
     obtain⟨g,c',hv,hcell⟩:=(hr.out.keep hI.out.b).cells (by omega);obtain⟨rfl,rfl⟩:A=some ⟨g,0,none⟩∧cap=c':=by injection hv with h1 h2 h3;exact⟨h1,h3⟩
     obtain⟨⟨op,d,s,tt,u,a,k,q⟩,hi⟩:∃ i,code.getD p In.zero=i:=⟨_,rfl⟩
     obtain⟨i0,i1,i2,i3,i4,i5,i6,i7⟩:=D7 hcell hpl hi;have hok1:GQ ⟨op,d,s,tt,u,a,k,q⟩:=by rw[←hi];exact hok _ (by rw[List.getD_eq_getElem?_getD,List.getElem?_eq_getElem hpl];exact List.getElem_mem _)
     replace hok1:=Az hok1;replace hi:=Az hi;clear hcell hv hge;go_upto_region 8 with fail
     have hI1:=hI.out.keep (Bw wr (.cells #[.int .i64 op,.int .i64 d,.int .i64 s,.int .i64 tt,.int .i64 u,.int .i64 a,.int .u32 k,.int .i64 q] 114));have hbx:=Bv wr (.cells #[.int .i64 op,.int .i64 d,.int .i64 s,.int .i64 tt,.int .i64 u,.int .i64 a,.int .u32 k,.int .i64 q] 114);generalize wr.alloc (.cells #[.int .i64 op,.int .i64 d,.int .i64 s,.int .i64 tt,.int .i64 u,.int .i64 a,.int .u32 k,.int .i64 q] 114)=W1 at *;generalize wr.heap.size=B at *;have j0:W1.cell? ⟨B,0,none⟩=some (.int .i64 op):=(Bc hbx 0).trans rfl;have j1:W1.cell? ⟨B,1,none⟩=some (.int .i64 d):=(Bc hbx 1).trans rfl;have j2:W1.cell? ⟨B,2,none⟩=some (.int .i64 s):=(Bc hbx 2).trans rfl;have j3:W1.cell? ⟨B,3,none⟩=some (.int .i64 tt):=(Bc hbx 3).trans rfl;have j4:W1.cell? ⟨B,4,none⟩=some (.int .i64 u):=(Bc hbx 4).trans rfl;have j5:W1.cell? ⟨B,5,none⟩=some (.int .i64 a):=(Bc hbx 5).trans rfl;have j7:W1.cell? ⟨B,7,none⟩=some (.int .i64 q):=(Bc hbx 7).trans rfl;have j6:W1.cell? ⟨B,6,none⟩=some (.int .u32 k):=(Bc hbx 6).trans rfl;clear hO p8 q0 g0 g1 g2 g3 g4 g5 g6 g7 g8 x0 x1 x2 x3 x4 x5 x6 x7 x8 y0 y1 y2 y3 y4 y5 y6 y7 y8 hI i0 i1 i2 i3 i4 i5 i6 i7;have hO:=fun v0 v1 v2 v3 v4 v5 v6 v7 v8 W' e=>hI1.Uk v0 v1 v2 v3 v4 v5 v6 v7 v8 W' e
     replace hO:=Az hO;have b3:=hI1.b3;rw[hz.out]at b3;obtain⟨g0,g1,g2,g3,g4,g5,g6,g7,g8⟩:=Ig b3;obtain⟨x0,x1,x2,x3,x4,x5,x6,x7,x8⟩:=Ig hI1.b6;obtain⟨y0,y1,y2,y3,y4,y5,y6,y7,y8⟩:=Pe hI1.b6;clear b3;replace hI1:=Az hI1;replace hbx:=Az hbx;by_cases h16:op≥16
     ·have hf:=hF.out;rw[Q7 hp hpl (by rw[hi.out];exact h16)]at hf;subst hf;go_wp2;exact hQ.out _ _ _ _ rfl rfl rfl rfl rfl hz.out hl.out (hO.out _ _ _ _ _ _ _ _ _ _ rfl)
     ·by_cases hnl:n=256
      ·subst hnl;have hf:=hF.out;obtain rfl:mm=0:=by omega
       rw[Pf hp hpl (by rw[hi.out];exact h16)]at hf;subst hf;go_wp2;exact hQ.out _ _ _ _ rfl rfl rfl rfl rfl hz.out hl.out (hO.out _ _ _ _ _ _ _ _ _ _ rfl)
      ·have hm0:mm≠0:=by omega
       have n2:((n:Int)==256)=false:=Bq (by omega);by_cases h13:op=13
       ·subst h13;have hf:=hF.out;rw[Ph hp hpl (by rw[hi.out]) hm0,hi.out]at hf;subst hf;have hkw:IntKind.i64.wrap k=k:=by have:=hok1.out.k;rw[IntKind.wrap_i64];simp only at this;omega
        have hNG:w.heap.size≠G:=by have:=hI1.out.hG;omega
        have hBG:B≠G:=fun e=>by have:=hI1.out.b6;rw[←e,hbx.out]at this;injection this with h;injection h with _ h;exact absurd h (by decide)
        have hS:(W1.drew.cell? ⟨w.heap.size,0,none⟩=some (.int .i64 z0)∧W1.drew.cell? ⟨w.heap.size,1,none⟩=some (.int .i64 z1)∧W1.drew.cell? ⟨w.heap.size,2,none⟩=some (.int .i64 z2)∧W1.drew.cell? ⟨w.heap.size,3,none⟩=some (.int .i64 z3)∧W1.drew.cell? ⟨w.heap.size,4,none⟩=some (.int .i64 z4)∧W1.drew.cell? ⟨w.heap.size,5,none⟩=some (.int .i64 z5)∧W1.drew.cell? ⟨w.heap.size,6,none⟩=some (.int .i64 z6)∧W1.drew.cell? ⟨w.heap.size,7,none⟩=some (.int .i64 z7)∧W1.drew.cell? ⟨w.heap.size,8,none⟩=some (.int .i64 p))∧W1.drew.cell? ⟨B,6,none⟩=some (.int .u32 k) :=
         ⟨⟨g0,g1,g2,g3,g4,g5,g6,g7,g8⟩,j6⟩
        go_wp2_with fail
        go_region_held3 (fun W=>(W.cell? ⟨w.heap.size,0,none⟩=some (.int .i64 z0)∧W.cell? ⟨w.heap.size,1,none⟩=some (.int .i64 z1)∧W.cell? ⟨w.heap.size,2,none⟩=some (.int .i64 z2)∧W.cell? ⟨w.heap.size,3,none⟩=some (.int .i64 z3)∧W.cell? ⟨w.heap.size,4,none⟩=some (.int .i64 z4)∧W.cell? ⟨w.heap.size,5,none⟩=some (.int .i64 z5)∧W.cell? ⟨w.heap.size,6,none⟩=some (.int .i64 z6)∧W.cell? ⟨w.heap.size,7,none⟩=some (.int .i64 z7)∧W.cell? ⟨w.heap.size,8,none⟩=some (.int .i64 p))∧W.cell? ⟨B,6,none⟩=some (.int .u32 k)) (first |(with_reducible exact hS) |(with_reducible exact Ul hNG hBG ⟨⟨g0,g1,g2,g3,g4,g5,g6,g7,g8⟩,j6⟩ _ rfl)) (first |fail)
        go_wp2;exact hQ.out _ _ _ _ rfl rfl rfl rfl rfl hz.out hl.out (hI1.out.Vg _ _ _ _ _ _ _ _ _ _ rfl)
       ·have h13':(op==13)=false:=Bq h13;have hpc2:c1.pc≤100000:=by rw[hp];omega
        have hone:=fun W=>Uj c1 ⟨op,d,s,tt,u,a,k,q⟩ t W hI1.out.c hok1.out ht h16 h13 (by rw[hp];omega) hpc2
        have hokc:=O3 (self:=t) hI1.out.c hok1.out ht h16 h13;have hstep:=hF.out;rw[Pj hp hpl (by rw[hi.out];exact h16) (by rw[hi.out];exact h13) hm0,hi.out]at hstep;simp only at hstep;obtain⟨c2,hc2⟩:∃ x,E5 c1 ⟨op,d,s,tt,u,a,k,q⟩ t=x:=⟨_,rfl⟩
        rw[hc2]at hstep hokc;obtain⟨r0,r1,r2,r3,r4,r5,r6,r7,r8,hr2⟩:=BU hokc.len;simp only[hc2,CoreM.v,hr2,hz.out,In.v]at hone;replace hone:=Az hone;replace hstep:=Az hstep;replace hokc:=Az hokc;replace hr2:=Az hr2;clear hO x0 x1 x2 x3 x4 x5 x6 x7 x8 y0 y1 y2 y3 y4 y5 y6 y7 y8;have hnw:IntKind.i64.wrap ((n:Int)+1)=(n:Int)+1:=by rw[IntKind.wrap_i64];omega
        by_cases h12:op=12
        ·subst h12;replace hstep:=hstep.out;rw[if_pos rfl]at hstep;replace hstep:=Az hstep;have hkw:IntKind.i64.wrap k=k:=by have:=hok1.out.k;rw[IntKind.wrap_i64];simp only at this;omega
         have hIa:=hI1.out.keep (Bw W1 (.cells #[.int .i64 k] 3));have hbxa:=AZ hbx.out (.cells #[.int .i64 k] 3);replace hIa:=Az hIa;replace hbxa:=Az hbxa;go_wp2_with (at_builtin;refine Lc rfl (.tmp 56) (.tmp 60) rfl w.heap.size W1.heap.size k u10 ms rfl hIa.out.m rfl (Bv _ _) ?hl3 ?hb3 ?_)
         case hl3=>omega
         case hb3=>have:=hIa.out.hz;simpa using this
         rintro v3 W3 hr3 hg3 -;have hI3:=hIa.out.app hr3 hg3;have hbx3:=Bg hbxa.out hg3 (Oa hIa.out.m hbxa.out (by decide));have b3:=hI3.b3;rw[hz.out]at b3;clear g0 g1 g2 g3 g4 g5 g6 g7 g8 j0 j1 j2 j3 j4 j5 j6 j7 hr3 hg3 hbxa;obtain⟨g0,g1,g2,g3,g4,g5,g6,g7,g8⟩:=Ig b3;have j0:W3.cell? ⟨B,0,none⟩=some (.int .i64 12):=(Bc hbx3 0).trans rfl;have j1:W3.cell? ⟨B,1,none⟩=some (.int .i64 d):=(Bc hbx3 1).trans rfl;have j2:W3.cell? ⟨B,2,none⟩=some (.int .i64 s):=(Bc hbx3 2).trans rfl;have j3:W3.cell? ⟨B,3,none⟩=some (.int .i64 tt):=(Bc hbx3 3).trans rfl;have j4:W3.cell? ⟨B,4,none⟩=some (.int .i64 u):=(Bc hbx3 4).trans rfl;have j5:W3.cell? ⟨B,5,none⟩=some (.int .i64 a):=(Bc hbx3 5).trans rfl;have j6:W3.cell? ⟨B,6,none⟩=some (.int .u32 k):=(Bc hbx3 6).trans rfl;have j7:W3.cell? ⟨B,7,none⟩=some (.int .i64 q):=(Bc hbx3 7).trans rfl;clear b3;go_wp2_with fail
         refine(hone.out _).mono ?_;rintro e w2 ⟨rfl,hb2⟩;have hI2:=hI3.keep hb2;clear hone g0 g1 g2 g3 g4 g5 g6 g7 g8 j0 j1 j2 j3 j4 j5 j6 j7 hI1 hbx hbx3 hIa hI3;have b3:=hI2.b3;rw[hz.out]at b3;obtain⟨g0,g1,g2,g3,g4,g5,g6,g7,g8⟩:=Ig b3;obtain⟨y0,y1,y2,y3,y4,y5,y6,y7,y8⟩:=Pe hI2.b3;have hP:=fun W' e=>hI2.Vf (.int .i64 r0) (.int .i64 r1) (.int .i64 r2) (.int .i64 r3) (.int .i64 r4) (.int .i64 r5) (.int .i64 r6) (.int .i64 r7) (.int .i64 r8) hr2.out hokc.out W' e
         replace hP:=Az hP;clear b3 hI2;go_wp2;go_roundw
         case rel=>exact⟨n+1,c2,ms++[k],by go_num,by omega,by simp;omega,⟨by rw[show 257-(n+1)=mm by omega];exact hstep.out⟩,⟨hP.out _ rfl⟩⟩
         case measure=>simp[intOf];omega
        ·have h12':(op==12)=false:=Bq h12;replace hstep:=hstep.out;rw[if_neg h12]at hstep;replace hstep:=Az hstep;go_wp2_with fail
         refine(hone.out _).mono ?_;rintro e w2 ⟨rfl,hb2⟩;have hI2:=hI1.out.keep hb2;clear hone g0 g1 g2 g3 g4 g5 g6 g7 g8 j0 j1 j2 j3 j4 j5 j6 j7 hI1 hbx;have b3:=hI2.b3;rw[hz.out]at b3;obtain⟨g0,g1,g2,g3,g4,g5,g6,g7,g8⟩:=Ig b3;obtain⟨y0,y1,y2,y3,y4,y5,y6,y7,y8⟩:=Pe hI2.b3;have hP:=fun W' e=>hI2.Vf (.int .i64 r0) (.int .i64 r1) (.int .i64 r2) (.int .i64 r3) (.int .i64 r4) (.int .i64 r5) (.int .i64 r6) (.int .i64 r7) (.int .i64 r8) hr2.out hokc.out W' e
         replace hP:=Az hP;clear b3 hI2;go_wp2;go_roundw
         case rel=>exact⟨n+1,c2,ms,by go_num,by omega,by omega,⟨by rw[show 257-(n+1)=mm by omega];exact hstep.out⟩,⟨hP.out _ rfl⟩⟩
         case measure=>simp[intOf];omega
  ·obtain rfl:n=257:=by omega
   have n1:¬((257:Nat):Int)≤256:=by omega
   have hf:=hF.out;simp only[Nat.sub_self,runM]at hf;subst hf;go_wp2;exact hQ.out _ _ _ _ rfl rfl rfl rfl rfl hz.out hl.out (hO.out _ _ _ _ _ _ _ _ _ _ rfl)
theorem K8:(Tryz.prog.info? 155).map (fun i=>(i.zero,i.size,i.bytes))=some (some (.agg Jk),9,72):=by kernel_rfl
def Cc:List CoreM→List Value
 |[]=>[]
 |c::l=>c.arr.toList++Cc l
theorem FJ:∀ (l:List CoreM) (c:CoreM),Cc (l++[c])=Cc l++c.arr.toList
 |[],c=>by simp[Cc]
 |d::l,c=>by simp[Cc,FJ l c]
theorem Qi(a0 a1 a2 a3 a4 a5 a6 a7 a8:Value)(r:List Value)(k:Nat):(a0::a1::a2::a3::a4::a5::a6::a7::a8::r)[k+9]?=r[k]?:=rfl
theorem Hm:∀ (l:List CoreM) (t j:Nat),t<l.length→j<9→(∀ c∈l,c.ok)→(Cc l)[t*9+j]?=(l.getD t ⟨[],0⟩).arr[j]?
 |c::l,0,j,_,hj,h=>by
  obtain⟨a0,a1,a2,a3,a4,a5,a6,a7,a8,he⟩:=BU (h c (List.mem_cons_self ..)).len;simp only[Cc,he,Nat.zero_mul,Nat.zero_add,List.getD_cons_zero];rw[List.getElem?_append_left (by simpa using hj),Array.getElem?_toList]
 |c::l,t+1,j,ht,hj,h=>by
  obtain⟨a0,a1,a2,a3,a4,a5,a6,a7,a8,he⟩:=BU (h c (List.mem_cons_self ..)).len;have ih:=Hm l t j (by simpa using ht) hj (fun c hc=>h c (List.mem_cons_of_mem _ hc));rw[show(t+1)*9+j=(t*9+j)+9 by omega];simp only[Cc,he,List.getD_cons_succ];exact(Qi _ _ _ _ _ _ _ _ _ _ _).trans ih
def Ss(l:List Value)(k:Nat)(z0 z1 z2 z3 z4 z5 z6 z7 z8:Value):List Value:=((((((((l.set k z0).set (k+1) z1).set (k+2) z2).set (k+3) z3).set (k+4) z4).set (k+5) z5).set (k+6) z6).set (k+7) z7).set (k+8) z8
theorem GF{c':CoreM}{z0 z1 z2 z3 z4 z5 z6 z7 z8:Value}(hz:c'.arr=#[z0,z1,z2,z3,z4,z5,z6,z7,z8]):∀ (l:List CoreM) (t:Nat),t<l.length→(∀ c∈l,c.ok) →
  Ss (Cc l) (t*9) z0 z1 z2 z3 z4 z5 z6 z7 z8=Cc (l.set t c')
 |c::l,0,_,h=>by
  obtain⟨a0,a1,a2,a3,a4,a5,a6,a7,a8,he⟩:=BU (h c (List.mem_cons_self ..)).len;simp[Cc,he,hz,Ss]
 |c::l,t+1,ht,h=>by
  obtain⟨a0,a1,a2,a3,a4,a5,a6,a7,a8,he⟩:=BU (h c (List.mem_cons_self ..)).len;have ih:=GF hz l t (by simpa using ht) (fun c hc=>h c (List.mem_cons_of_mem _ hc));unfold Ss at ih ⊢;simp only[Cc,he,Sc,List.cons_append,List.nil_append];rw[←ih,show(t+1)*9=t*9+9 by omega,show t*9+9+1=t*9+1+9 by omega,show t*9+9+2=t*9+2+9 by omega,show t*9+9+3=t*9+3+9 by omega,show t*9+9+4=t*9+4+9 by omega,
   show t*9+9+5=t*9+5+9 by omega,show t*9+9+6=t*9+6+9 by omega,show t*9+9+7=t*9+7+9 by omega,show t*9+9+8=t*9+8+9 by omega]
  rfl
def Ec(W:World)(N:Nat)(v:Value)(xs:List CoreM):Prop:=W.ownsRow N 155 9 v xs.length (Cc xs)
def DP(W:World)(N:Nat)(v:Value)(xs:List Nat):Prop:=W.ownsRow N 45 1 v xs.length (xs.map fun x:Nat=>Value.int .u32 x)
def D6(xs:List (Nat×Nat)):List Value:=xs.flatMap fun p=>[.int .i64 (p.1:Int),.int .i64 (p.2:Int)]
def CP(W:World)(N:Nat)(v:Value)(xs:List (Nat×Nat)):Prop:=W.ownsRow N 128 2 v xs.length (D6 xs)
theorem EW{W:World}{b b':Nat}{e:TypeId}{size n:Nat}{v:Value}{xs:List Value}(h:W.ownsRow b e size v n xs)(hb:b'≤b):W.ownsRow b' e size v n xs:=by
 obtain⟨h1,h2⟩:=h;refine⟨h1,h2.imp id ?_⟩;rintro⟨g,cap,cur,hv,hg,r⟩;exact⟨g,cap,cur,hv,Nat.le_trans hb hg,r⟩
theorem Qj{W:World}{base:Nat}{e:TypeId}{size n g c:Nat}{xs:List Value}(h:W.ownsRow base e size (.slice (some ⟨g,0,none⟩) n c) n xs)(k:Nat)(hk:k+8<n*size)(v0 v1 v2 v3 v4 v5 v6 v7 v8:Value) :
  (((((((((W.setCell ⟨g,k,none⟩ v0).setCell ⟨g,k+1,none⟩ v1).setCell ⟨g,k+2,none⟩ v2).setCell ⟨g,k+3,none⟩ v3).setCell ⟨g,k+4,none⟩ v4).setCell ⟨g,k+5,none⟩ v5).setCell ⟨g,k+6,none⟩ v6).setCell ⟨g,k+7,none⟩ v7).setCell ⟨g,k+8,none⟩ v8).ownsRow base e size (.slice (some ⟨g,0,none⟩) n c) n (Ss xs k v0 v1 v2 v3 v4 v5 v6 v7 v8) :=
 Dk (Dk (Dk (Dk (Dk (Dk (Dk (Dk (Dk h k (by omega) v0) (k+1) (by omega) v1) (k+2) (by omega) v2) (k+3) (by omega) v3) (k+4) (by omega) v4) (k+5) (by omega) v5) (k+6) (by omega) v6) (k+7) (by omega) v7) (k+8) (by omega) v8
theorem Qk{B:Nat}{Ts:List TypeId}{M:Nat→Prop}{a W:World}{g k:Nat}{cs:Array Value}{t:TypeId}(h:BX B Ts M a W)(hg:W.heap[g]?=some (.cells cs t (0,0)))(ht:t∈Ts)(hB:B≤g)(v0 v1 v2 v3 v4 v5 v6 v7 v8:Value) :
  BX B Ts M a (((((((((W.setCell ⟨g,k,none⟩ v0).setCell ⟨g,k+1,none⟩ v1).setCell ⟨g,k+2,none⟩ v2).setCell ⟨g,k+3,none⟩ v3).setCell ⟨g,k+4,none⟩ v4).setCell ⟨g,k+5,none⟩ v5).setCell ⟨g,k+6,none⟩ v6).setCell ⟨g,k+7,none⟩ v7).setCell ⟨g,k+8,none⟩ v8):=by
 have b0:=Bs hg k v0;have f0:=h.set (p:=⟨g,k,none⟩) hg ht hB v0;have b1:=Bs b0 (k+1) v1;have f1:=f0.set (p:=⟨g,k+1,none⟩) b0 ht hB v1;have b2:=Bs b1 (k+2) v2;have f2:=f1.set (p:=⟨g,k+2,none⟩) b1 ht hB v2;have b3:=Bs b2 (k+3) v3;have f3:=f2.set (p:=⟨g,k+3,none⟩) b2 ht hB v3;have b4:=Bs b3 (k+4) v4;have f4:=f3.set (p:=⟨g,k+4,none⟩) b3 ht hB v4;have b5:=Bs b4 (k+5) v5;have f5:=f4.set (p:=⟨g,k+5,none⟩) b4 ht hB v5;have b6:=Bs b5 (k+6) v6;have f6:=f5.set (p:=⟨g,k+6,none⟩) b5 ht hB v6;have b7:=Bs b6 (k+7) v7;have f7:=f6.set (p:=⟨g,k+7,none⟩) b6 ht hB v7;exact f7.set (p:=⟨g,k+8,none⟩) b7 ht hB v8
def Ia:List TypeId:=[155,45,94]
structure CS (w W:World) (px:Nat) (vl vc vw vr:Value) (pl:Option Addr) (x:AF):Prop where
 b:Below w.heap.size w W
 Ko:w.heap.size≤px
 bx:∃ acc:Int,W.heap[px]?=some (.cells #[vl,.int .i64 x.pg.lock,.int .i64 x.pg.unlock,vc,vw,.pointer pl,vr,.int .i64 acc] 94 (0,0))
 code:Bx w vl x.pg.l.length (AQ x.pg.l)
 cells:CP W w.heap.size vc x.cells
 words:DP W w.heap.size vw x.words
 AG:Ec W w.heap.size vr x.AG
 ok:∀ c∈x.AG,c.ok
 Sl:∀ v∈x.words,v<4294967296
section
variable {w W W1:World} {px:Nat} {vl vc vw vr:Value} {pl:Option Addr} {x:AF} {M:Nat→Prop}
theorem CS.hz(h:CS w W px vl vc vw vr pl x):w.heap.size≤W.heap.size:=h.b.size
theorem CS.keep(h:CS w W px vl vc vw vr pl x)(hb:Below W.heap.size W W1):CS w W1 px vl vc vw vr pl x :=
 ⟨h.b.trans (hb.mono h.hz),h.Ko,h.bx.imp fun _ hb'=>Bk hb hb',h.code,Om h.cells (fun k hk=>hb.block k (Ol h.cells k hk)),Om h.words (fun k hk=>hb.block k (Ol h.words k hk)),Om h.AG (fun k hk=>hb.block k (Ol h.AG k hk)),h.ok,h.Sl⟩
theorem CS.core(h:CS w W px vl vc vw vr pl x){t:Nat}(ht:t<x.AG.length):(x.core t).ok:=by
 refine h.ok _ ?_;unfold AF.core;rw[List.getD_eq_getElem?_getD,List.getElem?_eq_getElem ht];exact List.getElem_mem _
theorem CS.row(h:CS w W px vl vc vw vr pl x){t:Nat}(ht:t<x.AG.length) :
  ∃ g c,vr=.slice (some ⟨g,0,none⟩) x.AG.length c∧w.heap.size≤g∧(∃ cs,W.heap[g]?=some (.cells cs 155 (0,0)))∧∀ j,j<9→W.cell? ⟨g,t*9+j,none⟩=(x.core t).arr[j]?:=by
 obtain⟨g,c,hv,_,hg,⟨cs,hcs,_⟩,hcell⟩:=Cw h.AG (by omega);refine⟨g,c,hv,hg,⟨cs,hcs⟩,fun j hj=>?_⟩;have e:=Hm x.AG t j ht hj h.ok;have hl:∃ y,(x.core t).arr[j]?=some y:=⟨_,Array.getElem?_eq_getElem (by rw[Mi _ (h.core ht).len];exact hj)⟩
 obtain⟨y,hy⟩:=hl;rw[hy];exact hcell _ _ (e.trans hy)
theorem KZ{W:World}{b1 b2:Nat}{e1 e2:TypeId}{s1 s2 n1 n2 g c:Nat}{v:Value}{xs ys:List Value}(h1:W.ownsRow b1 e1 s1 v n1 xs)(h2:W.ownsRow b2 e2 s2 (.slice (some ⟨g,0,none⟩) n2 c) n2 ys)(hne:e1≠e2):∀ k,v.ownBlock=some k→k≠g:=by
 intro k hk e;subst e;rcases h2.2 with ⟨h,_⟩ |⟨g',cap,cur,h,_,hh,_⟩
 ·cases h
 ·cases h;exact Oa h1 hh hne hk.symm
theorem CS.put{g cap t:Nat}{c':CoreM}{v0 v1 v2 v3 v4 v5 v6 v7 v8:Value}(h:CS w W px vl vc vw vr pl x)(hv:vr=.slice (some ⟨g,0,none⟩) x.AG.length cap)(ht:t<x.AG.length)(hc:c'.arr=#[v0,v1,v2,v3,v4,v5,v6,v7,v8])(ho:c'.ok) :
  ∀ W',W'=(((((((((W.setCell ⟨g,t*9,none⟩ v0).setCell ⟨g,t*9+1,none⟩ v1).setCell ⟨g,t*9+2,none⟩ v2).setCell ⟨g,t*9+3,none⟩ v3).setCell ⟨g,t*9+4,none⟩ v4).setCell ⟨g,t*9+5,none⟩ v5).setCell ⟨g,t*9+6,none⟩ v6).setCell ⟨g,t*9+7,none⟩ v7).setCell ⟨g,t*9+8,none⟩ v8)→CS w W' px vl vc vw vr pl {x with AG:=x.AG.set t c'}∧BX w.heap.size Ia M W W':=by
 rintro W' rfl;subst hv;have hcores:=h.AG;unfold Ec at hcores;obtain⟨g',c2,hv2,hg,⟨cs,hcs⟩,_⟩:=h.row ht;obtain⟨rfl,rfl⟩:g=g'∧cap=c2:=by cases hv2;exact⟨rfl,rfl⟩
 obtain⟨acc,hbx⟩:=h.bx;have F:BX w.heap.size Ia M W _:=Qk (k:=t*9) (BX.refl _ _ _ W) hcs (by decide) hg v0 v1 v2 v3 v4 v5 v6 v7 v8;have far:∀ k,k≠g→((((((((((W.setCell ⟨g,t*9,none⟩ v0).setCell ⟨g,t*9+1,none⟩ v1).setCell ⟨g,t*9+2,none⟩ v2).setCell ⟨g,t*9+3,none⟩ v3).setCell ⟨g,t*9+4,none⟩ v4).setCell ⟨g,t*9+5,none⟩ v5).setCell ⟨g,t*9+6,none⟩ v6).setCell ⟨g,t*9+7,none⟩ v7).setCell ⟨g,t*9+8,none⟩ v8)).heap[k]?=W.heap[k]?:=fun k hk=>by
  rw[Below.heap_setCell _ ⟨g,t*9+8,none⟩ _ k hk,Below.heap_setCell _ ⟨g,t*9+7,none⟩ _ k hk,Below.heap_setCell _ ⟨g,t*9+6,none⟩ _ k hk,Below.heap_setCell _ ⟨g,t*9+5,none⟩ _ k hk,Below.heap_setCell _ ⟨g,t*9+4,none⟩ _ k hk,Below.heap_setCell _ ⟨g,t*9+3,none⟩ _ k hk,Below.heap_setCell _ ⟨g,t*9+2,none⟩ _ k hk,Below.heap_setCell _ ⟨g,t*9+1,none⟩ _ k hk,Below.heap_setCell _ ⟨g,t*9,none⟩ _ k hk]
 refine⟨⟨h.b.trans (F.below h.hz),h.Ko,⟨acc,(far px (C0 hbx hcs (by decide))).trans hbx⟩,h.code,Om h.cells (fun k hk=>far k (KZ h.cells hcores (by decide) k hk)),Om h.words (fun k hk=>far k (KZ h.words hcores (by decide) k hk)),?_,?_,h.Sl⟩,F⟩
 ·unfold Ec;rw[←GF hc x.AG t ht h.ok,List.length_set];exact Qj hcores (t*9) (by omega) v0 v1 v2 v3 v4 v5 v6 v7 v8
 ·intro c hcm;rcases List.mem_or_eq_of_mem_set hcm with hm |rfl
  ·exact h.ok c hm
  ·exact ho
end
theorem Tf:(Tryz.prog.info? 128).map (fun i=>(i.zero,i.size,i.bytes))=some (some (.agg #[.int .i64 0,.int .i64 0]),2,16):=by kernel_rfl
section
variable {ops:Array Oper} {rest:List Oper} {o:Oper} {a:Act} {Q:Exit→Act→World→Prop} {W:World}
theorem U5(hgd:o.guard=none)(s x:Operand)(ho:o.op=.call {callee:=.builtin .append,args:=#[s,x],argTypes:=#[77,77]})
  (base g:Nat)(y:Nat×Nat)(v:Value)(xs:List (Nat×Nat))(hs:a.eval s=v)(hr:CP W base v xs)(hx:a.eval x=.slice (some ⟨g,0,none⟩) 1 1)
  (hy:W.heap[g]?=some (.cells #[.int .i64 (y.1:Int),.int .i64 (y.2:Int)] 128 (0,0)))(hl:xs.length≤1000000)(hb:base≤W.heap.size)
  (h:∀ v' W1,CP W1 base v' (xs++[y])→W.grownBy W1 v.ownBlock→wpList Tryz.prog ops Q rest (a.put o.dst v') W1) :
  wpList Tryz.prog ops Q (o::rest) a W:=by
 obtain⟨i9,hi,hz0,hz1,hz2⟩:=info_parts Tf;refine wpList_append_own_at _ hgd s x 77 ho base 128 i9 (.agg #[.int .i64 0,.int .i64 0]) 2 16 Tryz.underlying77 hi hz0 hz1 hz2 rfl (by decide) v xs.length (D6 xs) hs hr ⟨g,0,none⟩ 1 1 [.int .i64 (y.1:Int),.int .i64 (y.2:Int)] hx rfl ?_ ?_ ?_ ?_ hb ?_
 ·intro j u hj;rw[add_plain];exact(Bc hy j).trans (by simpa using hj)
 ·intro u hu;simp at hu;rcases hu with rfl |rfl<;>rfl
 ·simp[maxLen];omega
 ·omega
 ·intro v' W1 h1 h2 _ h4;refine h v' W1 ?_ h2;unfold CP;rw[show D6 (xs++[y])=D6 xs++[.int .i64 (y.1:Int),.int .i64 (y.2:Int)] by simp[D6],List.length_append];exact h1
end
theorem IG{W:World}{base n size:Nat}{e:TypeId}{v:Value}{xs:List Value}(h:W.ownsRow base e size v n xs):∃ A c,v=.slice A n c:=by
 rcases h.2 with ⟨rfl,h0⟩ |⟨g,cap,cur,rfl,_⟩
 ·exact⟨none,0,by rw[h0]⟩
 ·exact⟨_,_,rfl⟩
theorem Gn:∀ (l:List Nat) (k s:Nat),By k (l++[s])=By k l++(List.range s).map (fun i=>(k+l.length,i))
 |[],k,s=>by simp[By]
 |x::l,k,s=>by
  rw[List.cons_append,By,Gn l,By,List.append_assoc,List.length_cons];rw[show k+1+l.length=k+(l.length+1) by omega]
theorem Oc{ss:List Nat}{a:Nat}(h:a<ss.length):By 0 (ss.take (a+1))=By 0 (ss.take a)++(List.range (ss.getD a 0)).map (fun i=>(a,i)):=by
 rw[List.take_succ_eq_append_getElem h,Gn,List.length_take,Nat.min_eq_left (by omega),Nat.zero_add,List.getD_eq_getElem?_getD,List.getElem?_eq_getElem h];rfl
theorem G6:∀ (l:List Nat) (k:Nat),(By k l).length=l.sum
 |[],_=>rfl
 |x::l,k=>by simp[By,G6 l]
theorem IH(W:World)(vs:Value)(ss:List Nat)(hs:Bx W vs ss.length (ss.map fun s:Nat=>Value.int .i64 (s:Int)))(h8:ss.length≤8)(hle:∀ s∈ss,s≤4096)(E6:ss.sum≤8192) :
  Calls Tryz.prog 37 #[vs] W fun e W'=>∃ v,e=.returned (.tuple #[v,.bool true])∧CP W' W.heap.size v (Bt ss)∧Below W.heap.size W W':=by
 obtain⟨A,c,rfl⟩:=hs.slice;obtain⟨m,hm⟩:∃ m,ss.length=m:=⟨_,rfl⟩
 obtain⟨fin,hfin⟩:∃ z,Bt ss=z:=⟨_,rfl⟩
 have hfl:fin.length≤8192:=by rw[←hfin];unfold Bt;rw[G6];exact E6
 rw[hm]at hs h8 ⊢;rw[hfin];have m8:¬(8:Int)<(m:Int):=by omega
 replace hm:=Az hm;replace hs:=Az hs;replace hfin:=Az hfin;replace hle:=Az hle;replace E6:=Az E6;go_enter Tryz.func37,Tryz.ntmps37;go_wp2_with fail
 go_loopw [4,13] (fun v4 v13 wr=>∃ (k:Nat),v13=.int .i64 (k:Int)∧k≤m∧Ag (CP wr W.heap.size v4 (By 0 (ss.take k)))∧Ag (Below W.heap.size W wr)) (fun _ v13 _=>m-(intOf v13).toNat)
 case atStart=>exact⟨0,rfl,Nat.zero_le _,⟨⟨rfl,.inl ⟨rfl,rfl⟩⟩⟩,⟨Below.refl _ _⟩⟩
 case round =>
  obtain⟨k,rfl,hk,hR,hB⟩:=hrel;clear m8;by_cases hlt:k<m
  ·have hkl:k<ss.length:=by rw[hm.out];exact hlt
   obtain⟨g,c',hvs,hcell⟩:=(hs.out.keep hB.out).cells (by omega);cases hvs;have ck:=hcell k (.int .i64 ((ss.getD k 0:Nat):Int)) (by simp[hkl,List.getD_eq_getElem?_getD]);have hct:=Oc hkl;have hsl:ss.getD k 0≤4096:=hle.out _ (by rw[List.getD_eq_getElem?_getD,List.getElem?_eq_getElem hkl];exact List.getElem_mem _);have hpre:(By 0 (ss.take (k+1))).length≤8192:=by
    rw[G6];have h1:ss.sum=(ss.take (k+1)).sum+(ss.drop (k+1)).sum:=by rw[←List.sum_append,List.take_append_drop]
    have:=E6.out;omega
   generalize ss.getD k 0=s at ck hct hsl;rw[hct]at hpre;rw[List.length_append,List.length_map,List.length_range]at hpre;have s0:¬(s:Int)<0:=by omega
   have s1:¬(4096:Int)<(s:Int):=by omega
   have k0:(0:Int)≤(k:Int):=by omega
   have k1:(k:Int)<(m:Int):=by omega
   have nw:IntKind.i64.wrap ((k:Int)+1)=(k:Int)+1:=by rw[IntKind.wrap_i64];omega
   replace hct:=Az hct;clear hcell;go_wp2_with fail
   go_loopw [4,7] (fun v4 v7 wr=>∃ (i:Nat),v7=.int .i64 (i:Int)∧i≤s∧Ag (CP wr W.heap.size v4 (By 0 (ss.take k)++(List.range i).map (fun j=>(k,j))))∧Ag (Below W.heap.size W wr)) (fun _ v7 _=>s-(intOf v7).toNat)
   case atStart=>exact⟨0,rfl,Nat.zero_le _,⟨by simpa using hR.out⟩,hB⟩
   case round =>
    obtain⟨i,rfl,hi,hRi,hBi⟩:=hrel;clear ck s0 s1;by_cases Nh:i<s
    ·have i1:(i:Int)<(s:Int):=by omega
     have iw:IntKind.i64.wrap ((i:Int)+1)=(i:Int)+1:=by rw[IntKind.wrap_i64];omega
     have hbl:=Bw wr (.cells #[.int .i64 (k:Int),.int .i64 (i:Int)] 128);have hR2:CP (wr.alloc (.cells #[.int .i64 (k:Int),.int .i64 (i:Int)] 128)) W.heap.size _ _:=Om hRi.out (fun k hk=>hbl.block k (Ol hRi.out k hk));have hsz:=hBi.out.size;have hll:(By 0 (ss.take k)++(List.range i).map (fun j=>(k,j))).length≤1000000:=by
      rw[List.length_append,List.length_map,List.length_range];omega
     replace hbl:=Az (hBi.out.trans (hbl.mono hsz));replace hR2:=Az hR2;go_wp2_with (at_builtin;refine U5 rfl (.tmp 29) (.tmp 33) rfl W.heap.size wr.heap.size (k,i) _ _ rfl hR2.out rfl (Bv _ _) hll ?hb3 ?_)
     case hb3=>simp;omega
     rintro v3 W3 hr3 hg3;have hb3:=hbl.out.grown hg3 (by simp;omega) (fun k hk=>Ob hR2.out k hk);rw[show(List.range i).map (fun j=>(k,j))++[(k,i)]=(List.range (i+1)).map (fun j=>(k,j)) by rw[List.range_succ,List.map_append];rfl]at hr3;replace hr3:=Az hr3;replace hb3:=Az hb3;clear hR2 hg3 hbl;go_wp2;go_roundw
     case rel=>exact⟨i+1,by go_num,Nh,hr3,hb3⟩
     case measure=>simp[intOf];omega
    ·obtain rfl:i=s:=by omega
     have i1:¬(i:Int)<(i:Int):=by omega
     have hRk:=hRi.out;rw[←hct.out]at hRk;replace hRk:=Az hRk;go_wp2;go_roundw
     case rel=>exact⟨k+1,by go_num,hlt,hRk,hBi⟩
     case measure=>simp[intOf];omega
  ·obtain rfl:k=m:=by omega
   have n1:¬(k:Int)<(k:Int):=by omega
   have hRk:=hR.out;rw[←hm.out,List.take_length,show By 0 ss=fin from hfin.out]at hRk;obtain⟨A3,c3,rfl⟩:=IG hRk;replace hRk:=Az hRk;have fl:(fin.length:Int)≤8192:=by omega
   go_wp2;go_ret2
   exact⟨_,rfl,hRk.out,hB.out⟩
theorem Sq:(Tryz.prog.info? 26).map (fun i=>(i.zero,i.size,i.bytes))=some (some (.slice none 0 0),1,24):=by kernel_rfl
def HY(W:World)(base:Nat)(v:Value)(k:Nat):Prop:=W.ownsRow base 26 1 v k (List.replicate k (.slice none 0 0))
section
variable {ops:Array Oper} {rest:List Oper} {o:Oper} {a:Act} {Q:Exit→Act→World→Prop} {W:World}
theorem Sr(hgd:o.guard=none)(s x:Operand)(ho:o.op=.call {callee:=.builtin .append,args:=#[s,x],argTypes:=#[137,137]})
  (base g:Nat)(v:Value)(k:Nat)(hs:a.eval s=v)(hr:HY W base v k)(hx:a.eval x=.slice (some ⟨g,0,none⟩) 1 1)
  (hy:W.heap[g]?=some (.cells #[.slice none 0 0] 26 (0,0)))(hl:k≤1000000)(hb:base≤W.heap.size)
  (h:∀ v' W1,HY W1 base v' (k+1)→W.grownBy W1 v.ownBlock→wpList Tryz.prog ops Q rest (a.put o.dst v') W1) :
  wpList Tryz.prog ops Q (o::rest) a W:=by
 obtain⟨i9,hi,hz0,hz1,hz2⟩:=info_parts Sq;refine wpList_append_own_at _ hgd s x 137 ho base 26 i9 (.slice none 0 0) 1 24 Tryz.underlying137 hi hz0 hz1 hz2 rfl (by decide) v k (List.replicate k (.slice none 0 0)) hs hr ⟨g,0,none⟩ 1 1 [.slice none 0 0] hx rfl ?_ ?_ ?_ ?_ hb ?_
 ·intro j u hj;rw[add_plain];exact(Bc hy j).trans (by simpa using hj)
 ·intro u hu;simp at hu;subst hu;rfl
 ·simp[maxLen];omega
 ·omega
 ·intro v' W1 h1 h2 _ h4;refine h v' W1 ?_ h2;unfold HY;rw[List.replicate_succ'];exact h1
end
theorem Mh(W:World)(n:Nat)(h1:1≤n)(h2:n≤64) :
  Calls Tryz.prog 101 #[.int .i64 (n:Int),.int .i64 0] W fun e W'=>∃ g,e=.returned (.pointer (some ⟨g,0,none⟩))∧Below W.heap.size W W':=by
 have a1:¬(n:Int)<1:=by omega
 have a2:¬(64:Int)<(n:Int):=by omega
 have hb0:=Bw W (.cells #[.int .i64 0,.slice none 0 0,.slice none 0 0,.slice none 0 0] 139);have hn0:=Bv W (.cells #[.int .i64 0,.slice none 0 0,.slice none 0 0,.slice none 0 0] 139);replace hb0:=Az hb0;replace hn0:=Az hn0;go_enter Tryz.func101,Tryz.ntmps101;go_wp2_with fail
 go_loopw [6] (fun v6 wr=>∃ (k:Nat) (vf:Value),v6=.int .i64 (k:Int)∧k≤n∧Ag (wr.heap[W.heap.size]?=some (.cells #[.int .i64 0,vf,.slice none 0 0,.slice none 0 0] 139 (0,0)))∧Ag (HY wr W.heap.size vf k)∧Ag (Below W.heap.size W wr)) (fun v6 _=>n-(intOf v6).toNat)
 case atStart=>exact⟨0,.slice none 0 0,rfl,Nat.zero_le _,hn0,⟨⟨rfl,.inl ⟨rfl,rfl⟩⟩⟩,hb0⟩
 case round =>
  obtain⟨k,vf,rfl,hk,hn,hR,hB⟩:=hrel;clear hn0 hb0 a1 a2;by_cases hlt:k<n
  ·have k1:(k:Int)<(n:Int):=by omega
   have kw:IntKind.i64.wrap ((k:Int)+1)=(k:Int)+1:=by rw[IntKind.wrap_i64];omega
   have hbl:=Bw wr (.cells #[.slice none 0 0] 26);have hR2:HY (wr.alloc (.cells #[.slice none 0 0] 26)) W.heap.size vf k:=Om hR.out (fun k hk=>hbl.block k (Ol hR.out k hk));have hn2:=Bk hbl hn.out;have hsz:=hB.out.size;have c1:wr.cell? ⟨W.heap.size,1,none⟩=some vf:=(Bc hn.out 1).trans rfl;have z0:W.heap.size<wr.heap.size:=Bl hn.out;replace hbl:=Az (hB.out.trans (hbl.mono hsz));replace hR2:=Az hR2;replace hn2:=Az hn2;clear hn;go_wp2_with fail
   go_loopw [7,8] (fun v7 v8 wi=>v7=.slice none 0 0∧v8=.int .i64 1∧wi=wr) (fun _ v8 _=>0)
   case atStart=>exact⟨rfl,rfl,rfl⟩
   case round =>
    obtain⟨rfl,rfl,hw⟩:=hrel;subst hw;go_wp2_with (at_builtin;refine Sr rfl (.tmp 66) (.tmp 68) rfl W.heap.size wr.heap.size vf k rfl hR2.out rfl (Bv _ _) ?hl3 ?hb3 ?_)
    case hl3=>omega
    case hb3=>simp;omega
    rintro v3 W3 hr3 hg3;have hb3:=hbl.out.grown hg3 (by simp;omega) (fun k hk=>Ob hR2.out k hk);have hn3:=Bg hn2.out hg3 (Oa hR2.out hn2.out (by decide));have f3:=Bf hn3 1;have c3:W3.cell? ⟨W.heap.size,1,none⟩=some vf:=(Bc hn3 1).trans rfl;have hn4:=Bs hn3 1 v3;have hr4:HY _ W.heap.size v3 (k+1):=Rs hr3 hn3 (by decide) 1 v3;have hb4:=hb3.setCell (p:=⟨W.heap.size,1,none⟩) (Nl _) v3;obtain⟨A3,n3,c3',rfl⟩:=AV hr3;replace hn4:=Az hn4;replace hr4:=Az hr4;replace hb4:=Az hb4;clear hr3 hg3 hn3 hb3 hR2 hbl hn2;go_wp2;go_roundw
    case rel=>exact⟨k+1,_,by go_num,hlt,hn4,hr4,hb4⟩
    case measure=>simp[intOf];omega
  ·obtain rfl:k=n:=by omega
   have n1:¬(k:Int)<(k:Int):=by omega
   go_wp2;go_ret;exact⟨⟨_,rfl⟩,hB.out⟩
end
end Go.Proofs.YtjjpiefgdggghaaGreatDoor

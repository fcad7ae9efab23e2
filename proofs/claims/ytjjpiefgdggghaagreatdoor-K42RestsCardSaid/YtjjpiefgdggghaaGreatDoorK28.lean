/- Parts: Run. -/
import Derived.Test.YtjjpiefgdggghaaGreatDoorK05
import Derived.Test.YtjjpiefgdggghaaGreatDoorK11
import Derived.Test.YtjjpiefgdggghaaGreatDoorK26
set_option linter.unusedVariables false
set_option linter.unusedSimpArgs false
set_option maxRecDepth 100000
set_option maxHeartbeats 40000000
namespace Go.Proofs.YtjjpiefgdggghaaGreatDoor
section
open Go.RowKit Go.Proofs.YtjjpiefgdggghaaGreatDoorW.PrintWords
theorem Jj{W:World}{g:Nat}{t:TypeId}{y0 y1 y2 y3 y4 y5 y6 y7 y8:Value}(b:W.heap[g]?=some (.cells #[y0,y1,y2,y3,y4,y5,y6,y7,y8] t (0,0))) :
  W.cell? ⟨g,0,none⟩=some y0∧W.cell? ⟨g,1,none⟩=some y1∧W.cell? ⟨g,2,none⟩=some y2∧W.cell? ⟨g,3,none⟩=some y3∧W.cell? ⟨g,4,none⟩=some y4∧W.cell? ⟨g,5,none⟩=some y5∧W.cell? ⟨g,6,none⟩=some y6∧W.cell? ⟨g,7,none⟩=some y7∧W.cell? ⟨g,8,none⟩=some y8 :=
 ⟨(Bc b 0).trans rfl,(Bc b 1).trans rfl,(Bc b 2).trans rfl,(Bc b 3).trans rfl,(Bc b 4).trans rfl,(Bc b 5).trans rfl,(Bc b 6).trans rfl,(Bc b 7).trans rfl,(Bc b 8).trans rfl⟩
theorem Tp{W:World}{g:Nat}{t:TypeId}{cs:Array Value}(b:W.heap[g]?=some (.cells cs t (0,0))) :
  W.frozen? ⟨g,0,none⟩=false∧W.frozen? ⟨g,1,none⟩=false∧W.frozen? ⟨g,2,none⟩=false∧W.frozen? ⟨g,3,none⟩=false∧W.frozen? ⟨g,4,none⟩=false∧W.frozen? ⟨g,5,none⟩=false∧W.frozen? ⟨g,6,none⟩=false∧W.frozen? ⟨g,7,none⟩=false∧W.frozen? ⟨g,8,none⟩=false :=
 ⟨Bf b 0,Bf b 1,Bf b 2,Bf b 3,Bf b 4,Bf b 5,Bf b 6,Bf b 7,Bf b 8⟩
structure CoreM.ok (c:CoreM):Prop where
 len:c.r.length=8
 XV:∀ j,c.r.getD j 0<4294967296
theorem CoreM.ok.at{c:CoreM}(h:c.ok)(p:Int):(c.at p).ok:=⟨h.len,h.XV⟩
theorem CoreM.ok.set{c:CoreM}(h:c.ok)(d:Int){v:Nat}(hv:v<4294967296):(c.set d v).ok:=by
 refine⟨by rw[EP];exact h.len,fun j=>?_⟩;have:=h.XV j;simp only[CoreM.set,List.getD_eq_getElem?_getD,List.getElem?_set]at this ⊢;split
 ·split
  ·exact hv
  ·decide
 ·exact this
structure Ib (i:In):Prop where
 op:i.op=1∨i.op=2∨i.op=3∨i.op=8∨i.op=9∨i.op=10∨i.op=11∨i.op=12∨i.op=13∨16≤i.op
 d:0≤i.d∧i.d<8
 s:0≤i.s∧i.s<8
 t:0≤i.t∧i.t<8
 u:0≤i.u∧i.u<8
 k:0≤i.k∧i.k<4294967296
theorem RS{c:CoreM}{i:In}{self:Nat}(h:c.ok)(hi:Ib i)(hs:self<4294967296)(h16:¬i.op≥16)(h13:i.op≠13):(Fz c i self).ok:=by
 have hk:i.k.toNat<4294967296:=by have:=hi.k;omega
 have hg:=h.XV i.s.toNat;rcases hi.op with e |e |e |e |e |e |e |e |e |e
 ·simp only[Fz,e];exact(h.set _ hk).at _
 ·simp only[Fz,e];exact(h.set _ hg).at _
 ·simp only[Fz,e];exact(h.set _ (Nat.mod_lt _ (by decide))).at _
 ·simp only[Fz,e];exact h.at _
 ·simp only[Fz,e];exact h.at _
 ·simp only[Fz,e];exact h.at _
 ·simp only[Fz,e];exact(h.set _ hs).at _
 ·simp only[Fz,e];exact h.at _
 ·exact absurd e h13
 ·exact absurd e h16
theorem YA(c:CoreM)(i:In)(self:Nat)(w:World)(hc:c.ok)(hi:Ib i)(hs:self<4294967296)(h16:¬i.op≥16)(h13:i.op≠13)(hp0:0≤c.pc)(hp1:c.pc≤100000) :
  Calls Tryz.prog 152 #[c.v,i.v,.int .i64 self] w fun e W'=>e=.returned (Fz c i self).v∧Below w.heap.size w W':=by
 obtain⟨op,d,s,t,u,a,k,q⟩:=i;obtain⟨h1,h2,h3,h4,h5,h6⟩:=hi;simp only at h1 h2 h3 h4 h5 h6 h16 h13;obtain⟨d,rfl⟩:∃ n:Nat,d=n:=⟨d.toNat,by omega⟩
 obtain⟨s,rfl⟩:∃ n:Nat,s=n:=⟨s.toNat,by omega⟩
 obtain⟨t,rfl⟩:∃ n:Nat,t=n:=⟨t.toNat,by omega⟩
 obtain⟨k,rfl⟩:∃ n:Nat,k=n:=⟨k.toNat,by omega⟩
 exact Pw c d s t k op u a q self w hc.len (by omega) (by omega) (by omega) (by omega) (by omega) hc.XV hs hp0 hp1
structure Px (w W:World) (N N1 G:Nat) (vc:Value) (lock unlock:Int) (c:CoreM) (vm:Value) (ms:List Int):Prop where
 h1:N<N1
 hG:N<G
 b:Below N w W
 b3:W.heap[N]?=some (.cells c.arr 155 (0,0))
 b4:W.heap[N1]?=some (.cells #[vc,.int .i64 lock,.int .i64 unlock] 25 (0,0))
 b6:W.heap[G]?=some (.cells Ld 155 (0,0))
 m:Bo W N vm ms
 c:c.ok
section
variable {w W W1:World} {N N1 G:Nat} {vc vm u:Value} {lock unlock y:Int} {c c':CoreM} {ms:List Int}
theorem Px.hz(h:Px w W N N1 G vc lock unlock c vm ms):N≤W.heap.size:=Nat.le_of_lt (Bl h.b3)
theorem Px.keep(h:Px w W N N1 G vc lock unlock c vm ms)(hb:Below W.heap.size W W1):Px w W1 N N1 G vc lock unlock c vm ms :=
 ⟨h.h1,h.hG,h.b.trans (hb.mono h.hz),Bk hb h.b3,Bk hb h.b4,Bk hb h.b6,h.m.keep hb,h.c⟩
theorem Px.app(h:Px w W N N1 G vc lock unlock c vm ms)(hr:Bo W1 N u (ms++[y]))(hg:W.grownBy W1 vm.ownBlock):Px w W1 N N1 G vc lock unlock c u (ms++[y]) :=
 ⟨h.h1,h.hG,h.b.grown hg h.hz (fun k hk=>Ob h.m k hk),Bg h.b3 hg (Oa h.m h.b3 (by decide)),Bg h.b4 hg (Oa h.m h.b4 (by decide)),Bg h.b6 hg (Oa h.m h.b6 (by decide)),hr,h.c⟩
end
theorem NT{P:Program}{fn:Func}{p u v x:Tmp}{ty:TypeId}(h:fn.results=#[.cell p ty,.tmp u,.tmp v,.tmp x])(tmps:Array Value)(w:World)(g:Nat)(t:TypeId)(cs:Array Value)(fr:Nat×Nat)(d:TypeDesc)
  (hp:tmps.getD p undef=.pointer (some ⟨g,0,none⟩))(hg:w.heap[g]?=some (.cells cs t fr))
  (hu:P.underlying ty=some d)(hd:(match d with |.struct _ |.array _ _=>true |_=>false)=true)(hi:(P.info? ty).map (·.size)=some cs.size) :
  (results fn tmps).run P w=.ok (.tuple #[.agg cs,tmps.getD u undef,tmps.getD v undef,tmps.getD x undef]) w:=by
 have hp':tmps[p]?.getD undef=.pointer (some ⟨g,0,none⟩):=by simpa using hp
 have hl:=run_loadVar_row w g t ty cs fr d hg hu hd hi;simp only[results,h];simp[Sem.run_bind,Result.andThen,hp',asAddr,hl]
theorem Fs{W:World}{g k:Nat}(hk:k≠g)(v0 v1 v2 v3 v4 v5 v6 v7 v8:Value):(((((((((W.setCell ⟨g,0,none⟩ v0).setCell ⟨g,1,none⟩ v1).setCell ⟨g,2,none⟩ v2).setCell ⟨g,3,none⟩ v3).setCell ⟨g,4,none⟩ v4).setCell ⟨g,5,none⟩ v5).setCell ⟨g,6,none⟩ v6).setCell ⟨g,7,none⟩ v7).setCell ⟨g,8,none⟩ v8).heap[k]?=W.heap[k]?:=by
 rw[Below.heap_setCell _ ⟨g,8,none⟩ _ k hk,Below.heap_setCell _ ⟨g,7,none⟩ _ k hk,Below.heap_setCell _ ⟨g,6,none⟩ _ k hk,Below.heap_setCell _ ⟨g,5,none⟩ _ k hk,Below.heap_setCell _ ⟨g,4,none⟩ _ k hk,Below.heap_setCell _ ⟨g,3,none⟩ _ k hk,Below.heap_setCell _ ⟨g,2,none⟩ _ k hk,Below.heap_setCell _ ⟨g,1,none⟩ _ k hk,Below.heap_setCell _ ⟨g,0,none⟩ _ k hk]
section
variable {w W W1:World} {N N1 G:Nat} {vc vm u:Value} {lock unlock y:Int} {c c':CoreM} {ms:List Int}
theorem Px.YB(h:Px w W N N1 G vc lock unlock c vm ms)(v0 v1 v2 v3 v4 v5 v6 v7 v8:Value):∀ W',W'=(((((((((W.setCell ⟨G,0,none⟩ v0).setCell ⟨G,1,none⟩ v1).setCell ⟨G,2,none⟩ v2).setCell ⟨G,3,none⟩ v3).setCell ⟨G,4,none⟩ v4).setCell ⟨G,5,none⟩ v5).setCell ⟨G,6,none⟩ v6).setCell ⟨G,7,none⟩ v7).setCell ⟨G,8,none⟩ v8) →
  W'.heap[G]?=some (.cells #[v0,v1,v2,v3,v4,v5,v6,v7,v8] 155 (0,0))∧Bo W' N vm ms∧Below N w W':=by
 rintro W' rfl;exact⟨Hk h.b6 _ _ _ _ _ _ _ _ _,h.m.move fun k hk=>Fs (fun e=>Oa h.m h.b6 (by decide) (by rw[hk,e])) _ _ _ _ _ _ _ _ _,Ft h.b (Nat.le_of_lt h.hG) _ _ _ _ _ _ _ _ _⟩
theorem Px.Zx(h:Px w W N N1 G vc lock unlock c vm ms)(v0 v1 v2 v3 v4 v5 v6 v7 v8:Value)(hc:c'.arr=#[v0,v1,v2,v3,v4,v5,v6,v7,v8])(ho:c'.ok):∀ W',W'=(((((((((W.setCell ⟨N,0,none⟩ v0).setCell ⟨N,1,none⟩ v1).setCell ⟨N,2,none⟩ v2).setCell ⟨N,3,none⟩ v3).setCell ⟨N,4,none⟩ v4).setCell ⟨N,5,none⟩ v5).setCell ⟨N,6,none⟩ v6).setCell ⟨N,7,none⟩ v7).setCell ⟨N,8,none⟩ v8)→Px w W' N N1 G vc lock unlock c' vm ms:=by
 rintro W' rfl;obtain⟨z0,z1,z2,z3,z4,z5,z6,z7,z8,hz⟩:=Cm h.c.len;have b3:=h.b3;rw[hz]at b3;exact⟨h.h1,h.hG,Ft h.b (Nl _) _ _ _ _ _ _ _ _ _,by rw[hc];exact Hk b3 _ _ _ _ _ _ _ _ _,(Fs (by have:=h.h1;omega) _ _ _ _ _ _ _ _ _).trans h.b4,(Fs (by have:=h.hG;omega) _ _ _ _ _ _ _ _ _).trans h.b6,
  h.m.move fun k hk=>Fs (fun e=>Oa h.m h.b3 (by decide) (by rw[hk,e])) _ _ _ _ _ _ _ _ _,ho⟩
end
theorem YC{W:World}{N B G:Nat}(hN:N≠G)(hB:B≠G){z0 z1 z2 z3 z4 z5 z6 z7 z8 y v0 v1 v2 v3 v4 v5 v6 v7 v8:Value}(h:(W.cell? ⟨N,0,none⟩=some z0∧W.cell? ⟨N,1,none⟩=some z1∧W.cell? ⟨N,2,none⟩=some z2∧W.cell? ⟨N,3,none⟩=some z3∧W.cell? ⟨N,4,none⟩=some z4∧W.cell? ⟨N,5,none⟩=some z5∧W.cell? ⟨N,6,none⟩=some z6∧W.cell? ⟨N,7,none⟩=some z7∧W.cell? ⟨N,8,none⟩=some z8)∧W.cell? ⟨B,6,none⟩=some y):∀ W',W'=(((((((((W.setCell ⟨G,0,none⟩ v0).setCell ⟨G,1,none⟩ v1).setCell ⟨G,2,none⟩ v2).setCell ⟨G,3,none⟩ v3).setCell ⟨G,4,none⟩ v4).setCell ⟨G,5,none⟩ v5).setCell ⟨G,6,none⟩ v6).setCell ⟨G,7,none⟩ v7).setCell ⟨G,8,none⟩ v8)→(W'.drew.cell? ⟨N,0,none⟩=some z0∧W'.drew.cell? ⟨N,1,none⟩=some z1∧W'.drew.cell? ⟨N,2,none⟩=some z2∧W'.drew.cell? ⟨N,3,none⟩=some z3∧W'.drew.cell? ⟨N,4,none⟩=some z4∧W'.drew.cell? ⟨N,5,none⟩=some z5∧W'.drew.cell? ⟨N,6,none⟩=some z6∧W'.drew.cell? ⟨N,7,none⟩=some z7∧W'.drew.cell? ⟨N,8,none⟩=some z8)∧W'.drew.cell? ⟨B,6,none⟩=some y:=by
 intro W' hW;have f:∀ k j,k≠G→W'.drew.cell? ⟨k,j,none⟩=W.cell? ⟨k,j,none⟩:=fun k j hk=>World.cell?_of_block (w:=W) (w':=W'.drew) (a:=⟨k,j,none⟩) (show W'.heap[k]?=_ by rw[hW];exact Fs hk v0 v1 v2 v3 v4 v5 v6 v7 v8)
 rw[f N 0 hN,f N 1 hN,f N 2 hN,f N 3 hN,f N 4 hN,f N 5 hN,f N 6 hN,f N 7 hN,f N 8 hN,f B 6 hB];exact h
theorem Px.Zy{w W:World}{N N1 G:Nat}{vc vm:Value}{lock unlock:Int}{c:CoreM}{ms:List Int}(h:Px w W N N1 G vc lock unlock c vm ms)(v0 v1 v2 v3 v4 v5 v6 v7 v8:Value):∀ W',W'=(((((((((W.setCell ⟨G,0,none⟩ v0).setCell ⟨G,1,none⟩ v1).setCell ⟨G,2,none⟩ v2).setCell ⟨G,3,none⟩ v3).setCell ⟨G,4,none⟩ v4).setCell ⟨G,5,none⟩ v5).setCell ⟨G,6,none⟩ v6).setCell ⟨G,7,none⟩ v7).setCell ⟨G,8,none⟩ v8) →
  W'.drew.heap[G]?=some (.cells #[v0,v1,v2,v3,v4,v5,v6,v7,v8] 155 (0,0))∧Bo W'.drew N vm ms∧Below N w W'.drew:=by
 intro W' hW;obtain⟨h1,h2,h3⟩:=h.YB v0 v1 v2 v3 v4 v5 v6 v7 v8 W' hW;exact⟨Be h1,h2,Bd h3⟩
def UO(w:World)(fin:CoreM×List Int×Int×Int)(e:Ending)(w':World):Prop :=
 ∃ vm,e=.returned (.tuple #[fin.1.v,vm,.int .i64 fin.2.2.1,.int .i64 fin.2.2.2])∧Bo w' w.heap.size vm fin.2.1∧Below w.heap.size w w'
theorem Xc(w:World)(G:Nat)(fin:CoreM×List Int×Int×Int)(a:Act)(W:World)(cs:Array Value)(vm:Value)(hd:a.defers=[])
  (h2:a.tmps.getD 6 undef=.pointer (some ⟨G,0,none⟩))(h7:a.tmps.getD 7 undef=vm)(h8:a.tmps.getD 8 undef=.int .i64 fin.2.2.1)(h9:a.tmps.getD 9 undef=.int .i64 fin.2.2.2)
  (hc:fin.1.arr=cs)(hl:fin.1.r.length=8)
  (h:W.heap[G]?=some (.cells cs 155 (0,0))∧Bo W w.heap.size vm fin.2.1∧Below w.heap.size w W) :
  bodyPost Tryz.prog Tryz.f124 (UO w fin) .ret a W :=
 bodyPost_ret (NT rfl _ _ G _ cs (0,0) _ h2 h.1 Tryz.underlying155 rfl (by rw[←hc,Py _ hl];kernel_rfl)) hd ⟨vm,by rw[h7,h8,h9,←hc];rfl,h.2.1,h.2.2⟩
theorem Pz{code:List In}{t m:Nat}{c:CoreM}{ms:List Int}(h:c.pc<0∨c.pc≥code.length):runM code t (m+1) c ms=(c,ms,-1,11):=by
 rw[runM,if_pos h]
theorem UP{code:List In}{t m p:Nat}{c:CoreM}{ms:List Int}(hp:c.pc=(p:Int))(h:p<code.length)(h16:16≤(code.getD p In.zero).op):runM code t (m+1) c ms=(c,ms,-1,0):=by
 rw[runM,if_neg (by omega),hp,Int.toNat_natCast,if_pos h16]
theorem Tq{code:List In}{t p:Nat}{c:CoreM}{ms:List Int}(hp:c.pc=(p:Int))(h:p<code.length)(h16:¬16≤(code.getD p In.zero).op):runM code t 1 c ms=(c,ms,-1,11):=by
 rw[runM,if_neg (by omega),hp,Int.toNat_natCast,if_neg h16,if_pos rfl]
theorem Tr{code:List In}{t m p:Nat}{c:CoreM}{ms:List Int}(hp:c.pc=(p:Int))(h:p<code.length)(h13:(code.getD p In.zero).op=13)(hm:m≠0):runM code t (m+1) c ms=(c,ms,(code.getD p In.zero).k,0):=by
 rw[runM,if_neg (by omega),hp,Int.toNat_natCast,if_neg (by omega),if_neg hm,if_pos h13]
theorem Tt{code:List In}{t m p:Nat}{c:CoreM}{ms:List Int}(hp:c.pc=(p:Int))(h:p<code.length)(h16:¬16≤(code.getD p In.zero).op)(h13:(code.getD p In.zero).op≠13)(hm:m≠0) :
  runM code t (m+1) c ms=runM code t m (Fz c (code.getD p In.zero) t) (if (code.getD p In.zero).op=12 then ms++[(code.getD p In.zero).k] else ms):=by
 rw[runM,if_neg (by omega),hp,Int.toNat_natCast,if_neg h16,if_neg hm,if_neg h13]
theorem Tu(c:CoreM)(code:List In)(vc:Value)(lock unlock:Int)(t:Nat)(w:World)(hc:c.ok)(hr:Cg w vc code.length (By code))(hok:∀ i∈code,Ib i)(hlen:code.length≤64)(ht:t<4294967296) :
  Calls Tryz.prog 124 #[c.v,.agg #[vc,.int .i64 lock,.int .i64 unlock],.int .i64 t] w (UO w (runM code t 257 c [])):=by
 obtain⟨fin,hfin⟩:∃ fin,runM code t 257 c []=fin:=⟨_,rfl⟩
 rw[hfin];obtain⟨A,cap,rfl⟩:=hr.slice;obtain⟨a0,a1,a2,a3,a4,a5,a6,a7,a8,he⟩:=Cm hc.len;have hI:Px w (((w.alloc (.cells c.arr 155)).alloc (.cells #[.slice A code.length cap,.int .i64 lock,.int .i64 unlock] 25)).alloc (.cells Ld 155)) w.heap.size (w.heap.size+1) (w.heap.size+1+1) (.slice A code.length cap) lock unlock c (.slice none 0 0) [] :=
  ⟨by omega,by omega,(((Below.refl w.heap.size w).alloc (Nl _) _).alloc (by simp) _).alloc (by simp;omega) _,AF (AF (Bv w _) _) _,AF (Dh w _ _) _,Lz w _ _ _,.nil _ _,hc⟩
 obtain⟨m,hm⟩:∃ m,code.length=m:=⟨_,rfl⟩
 unfold CoreM.v;rw[he]at hI ⊢;rw[hm]at hI hr ⊢;obtain⟨W0,hW0⟩:∃ x,(((w.alloc (.cells #[.int .i64 a0,.int .i64 a1,.int .i64 a2,.int .i64 a3,.int .i64 a4,.int .i64 a5,.int .i64 a6,.int .i64 a7,.int .i64 a8] 155)).alloc (.cells #[.slice A m cap,.int .i64 lock,.int .i64 unlock] 25)).alloc (.cells Ld 155))=x:=⟨_,rfl⟩
 rw[hW0]at hI;have hQ:=Az (fun a W cs vm=>Xc w (w.heap.size+1+1) fin a W cs vm);replace hI:=Az hI;replace hfin:=Az hfin;replace hr:=Az hr;replace hm:=Az hm;go_enter Tryz.func124,Tryz.ntmps124;go_wp2_with fail
 rw[show(((w.alloc (.cells #[.int .i64 a0,.int .i64 a1,.int .i64 a2,.int .i64 a3,.int .i64 a4,.int .i64 a5,.int .i64 a6,.int .i64 a7,.int .i64 a8] 155)).alloc (.cells #[.slice A m cap,.int .i64 lock,.int .i64 unlock] 25)).alloc (.cells #[.int .i64 0,.int .i64 0,.int .i64 0,.int .i64 0,.int .i64 0,.int .i64 0,.int .i64 0,.int .i64 0,.int .i64 0] 155))=W0 from hW0];clear hW0;generalize w.heap.size+1+1=G at *;generalize w.heap.size+1=N1 at *;go_loopw [10,11] (fun v10 v11 wr=>∃ (n:Nat) (c':CoreM) (ms:List Int),v11=.int .i64 n∧n≤257∧ms.length≤n∧Af (runM code t (257-n) c' ms=fin)∧Af (Px w wr w.heap.size N1 G (.slice A m cap) lock unlock c' v10 ms)) (fun _ v11 _=>257-(intOf v11).toNat)
 case atStart=>exact⟨0,c,[],rfl,by omega,by simp,hfin,hI⟩
 case round =>
  obtain⟨n,c1,ms,rfl,hn,hms,hF,hI⟩:=hrel;obtain⟨z0,z1,z2,z3,z4,z5,z6,z7,z8,hz⟩:=Cm hI.out.c.len;have hO:=fun v0 v1 v2 v3 v4 v5 v6 v7 v8 W' e=>hI.out.YB v0 v1 v2 v3 v4 v5 v6 v7 v8 W' e
  replace hO:=Az hO;have p8:=(Bc hI.out.b3 8).trans (Jk hI.out.c.len);have q0:wr.cell? ⟨N1,0,none⟩=some (.slice A m cap):=(Bc hI.out.b4 0).trans rfl;have b3:=hI.out.b3;rw[hz]at b3;obtain⟨g0,g1,g2,g3,g4,g5,g6,g7,g8⟩:=Jj b3;obtain⟨x0,x1,x2,x3,x4,x5,x6,x7,x8⟩:=Jj hI.out.b6;obtain⟨y0,y1,y2,y3,y4,y5,y6,y7,y8⟩:=Tp hI.out.b6;have e8:=g8.symm.trans p8;injection e8 with e8
  injection e8 with _ e8
  subst e8;replace hz:=Az hz;have hl:=Az hI.out.c.len;clear b3;by_cases hn7:n≤256
  ·have n1:(n:Int)≤256:=by omega
   obtain⟨mm,hmm⟩:∃ mm,257-n=mm+1:=⟨256-n,by omega⟩
   rw[hmm]at hF;by_cases hneg:c1.pc<0
   ·have hf:=hF.out;rw[Pz (.inl hneg)]at hf;subst hf;go_wp2;exact hQ.out _ _ _ _ rfl rfl rfl rfl rfl hz.out hl.out (hO.out _ _ _ _ _ _ _ _ _ _ rfl)
   ·by_cases hge:c1.pc≥code.length
    ·have hf:=hF.out;rw[Pz (.inr hge)]at hf;subst hf;rw[hm.out]at hge;have hge':(m:Int)≤c1.pc:=hge;go_wp2;exact hQ.out _ _ _ _ rfl rfl rfl rfl rfl hz.out hl.out (hO.out _ _ _ _ _ _ _ _ _ _ rfl)
    ·obtain⟨p,hp⟩:∃ p:Nat,c1.pc=p:=⟨c1.pc.toNat,by omega⟩
     have hpl:p<code.length:=by omega
     have hpm:p<m:=by rw[←hm.out];exact hpl
     rw[hp]at p8 hneg;replace hz:=hz.out;rw[hp]at hz;replace hz:=Az hz;have p0:(0:Int)≤(p:Int):=by omega
     have p1:(p:Int)<(m:Int):=by omega
     have p2:¬(p:Int)≥(m:Int):=by omega
     obtain⟨g,c',hv,hcell⟩:=(hr.out.keep hI.out.b).cells (by omega);obtain⟨rfl,rfl⟩:A=some ⟨g,0,none⟩∧cap=c':=by injection hv with h1 h2 h3;exact⟨h1,h3⟩
     obtain⟨⟨op,d,s,tt,u,a,k,q⟩,hi⟩:∃ i,code.getD p In.zero=i:=⟨_,rfl⟩
     obtain⟨i0,i1,i2,i3,i4,i5,i6,i7⟩:=FI hcell hpl hi;have hok1:Ib ⟨op,d,s,tt,u,a,k,q⟩:=by rw[←hi];exact hok _ (by rw[List.getD_eq_getElem?_getD,List.getElem?_eq_getElem hpl];exact List.getElem_mem _)
     replace hok1:=Az hok1;replace hi:=Az hi;clear hcell hv hge;go_upto_region 8 with fail
     have hI1:=hI.out.keep (Bw wr (.cells #[.int .i64 op,.int .i64 d,.int .i64 s,.int .i64 tt,.int .i64 u,.int .i64 a,.int .u32 k,.int .i64 q] 114));have hbx:=Bv wr (.cells #[.int .i64 op,.int .i64 d,.int .i64 s,.int .i64 tt,.int .i64 u,.int .i64 a,.int .u32 k,.int .i64 q] 114);generalize wr.alloc (.cells #[.int .i64 op,.int .i64 d,.int .i64 s,.int .i64 tt,.int .i64 u,.int .i64 a,.int .u32 k,.int .i64 q] 114)=W1 at *;generalize wr.heap.size=B at *;have j0:W1.cell? ⟨B,0,none⟩=some (.int .i64 op):=(Bc hbx 0).trans rfl;have j1:W1.cell? ⟨B,1,none⟩=some (.int .i64 d):=(Bc hbx 1).trans rfl;have j2:W1.cell? ⟨B,2,none⟩=some (.int .i64 s):=(Bc hbx 2).trans rfl;have j3:W1.cell? ⟨B,3,none⟩=some (.int .i64 tt):=(Bc hbx 3).trans rfl;have j4:W1.cell? ⟨B,4,none⟩=some (.int .i64 u):=(Bc hbx 4).trans rfl;have j5:W1.cell? ⟨B,5,none⟩=some (.int .i64 a):=(Bc hbx 5).trans rfl;have j7:W1.cell? ⟨B,7,none⟩=some (.int .i64 q):=(Bc hbx 7).trans rfl;have j6:W1.cell? ⟨B,6,none⟩=some (.int .u32 k):=(Bc hbx 6).trans rfl;clear hO p8 q0 g0 g1 g2 g3 g4 g5 g6 g7 g8 x0 x1 x2 x3 x4 x5 x6 x7 x8 y0 y1 y2 y3 y4 y5 y6 y7 y8 hI i0 i1 i2 i3 i4 i5 i6 i7;have hO:=fun v0 v1 v2 v3 v4 v5 v6 v7 v8 W' e=>hI1.YB v0 v1 v2 v3 v4 v5 v6 v7 v8 W' e
     replace hO:=Az hO;have b3:=hI1.b3;rw[hz.out]at b3;obtain⟨g0,g1,g2,g3,g4,g5,g6,g7,g8⟩:=Jj b3;obtain⟨x0,x1,x2,x3,x4,x5,x6,x7,x8⟩:=Jj hI1.b6;obtain⟨y0,y1,y2,y3,y4,y5,y6,y7,y8⟩:=Tp hI1.b6;clear b3;replace hI1:=Az hI1;replace hbx:=Az hbx;by_cases h16:op≥16
     ·have hf:=hF.out;rw[UP hp hpl (by rw[hi.out];exact h16)]at hf;subst hf;go_wp2;exact hQ.out _ _ _ _ rfl rfl rfl rfl rfl hz.out hl.out (hO.out _ _ _ _ _ _ _ _ _ _ rfl)
     ·by_cases hnl:n=256
      ·subst hnl;have hf:=hF.out;obtain rfl:mm=0:=by omega
       rw[Tq hp hpl (by rw[hi.out];exact h16)]at hf;subst hf;go_wp2;exact hQ.out _ _ _ _ rfl rfl rfl rfl rfl hz.out hl.out (hO.out _ _ _ _ _ _ _ _ _ _ rfl)
      ·have hm0:mm≠0:=by omega
       have n2:((n:Int)==256)=false:=Bq (by omega);by_cases h13:op=13
       ·subst h13;have hf:=hF.out;rw[Tr hp hpl (by rw[hi.out]) hm0,hi.out]at hf;subst hf;have hkw:IntKind.i64.wrap k=k:=by have:=hok1.out.k;rw[IntKind.wrap_i64];simp only at this;omega
        have hNG:w.heap.size≠G:=by have:=hI1.out.hG;omega
        have hBG:B≠G:=fun e=>by have:=hI1.out.b6;rw[←e,hbx.out]at this;injection this with h;injection h with _ h;exact absurd h (by decide)
        have hS:(W1.drew.cell? ⟨w.heap.size,0,none⟩=some (.int .i64 z0)∧W1.drew.cell? ⟨w.heap.size,1,none⟩=some (.int .i64 z1)∧W1.drew.cell? ⟨w.heap.size,2,none⟩=some (.int .i64 z2)∧W1.drew.cell? ⟨w.heap.size,3,none⟩=some (.int .i64 z3)∧W1.drew.cell? ⟨w.heap.size,4,none⟩=some (.int .i64 z4)∧W1.drew.cell? ⟨w.heap.size,5,none⟩=some (.int .i64 z5)∧W1.drew.cell? ⟨w.heap.size,6,none⟩=some (.int .i64 z6)∧W1.drew.cell? ⟨w.heap.size,7,none⟩=some (.int .i64 z7)∧W1.drew.cell? ⟨w.heap.size,8,none⟩=some (.int .i64 p))∧W1.drew.cell? ⟨B,6,none⟩=some (.int .u32 k) :=
         ⟨⟨g0,g1,g2,g3,g4,g5,g6,g7,g8⟩,j6⟩
        go_wp2_with fail
        go_region_held3 (fun W=>(W.cell? ⟨w.heap.size,0,none⟩=some (.int .i64 z0)∧W.cell? ⟨w.heap.size,1,none⟩=some (.int .i64 z1)∧W.cell? ⟨w.heap.size,2,none⟩=some (.int .i64 z2)∧W.cell? ⟨w.heap.size,3,none⟩=some (.int .i64 z3)∧W.cell? ⟨w.heap.size,4,none⟩=some (.int .i64 z4)∧W.cell? ⟨w.heap.size,5,none⟩=some (.int .i64 z5)∧W.cell? ⟨w.heap.size,6,none⟩=some (.int .i64 z6)∧W.cell? ⟨w.heap.size,7,none⟩=some (.int .i64 z7)∧W.cell? ⟨w.heap.size,8,none⟩=some (.int .i64 p))∧W.cell? ⟨B,6,none⟩=some (.int .u32 k)) (first |(with_reducible exact hS) |(with_reducible exact YC hNG hBG ⟨⟨g0,g1,g2,g3,g4,g5,g6,g7,g8⟩,j6⟩ _ rfl)) (first |fail)
        go_wp2;exact hQ.out _ _ _ _ rfl rfl rfl rfl rfl hz.out hl.out (hI1.out.Zy _ _ _ _ _ _ _ _ _ _ rfl)
       ·have h13':(op==13)=false:=Bq h13;have hpc2:c1.pc≤100000:=by rw[hp];omega
        have hone:=fun W=>YA c1 ⟨op,d,s,tt,u,a,k,q⟩ t W hI1.out.c hok1.out ht h16 h13 (by rw[hp];omega) hpc2
        have hokc:=RS (self:=t) hI1.out.c hok1.out ht h16 h13;have hstep:=hF.out;rw[Tt hp hpl (by rw[hi.out];exact h16) (by rw[hi.out];exact h13) hm0,hi.out]at hstep;simp only at hstep;obtain⟨c2,hc2⟩:∃ x,Fz c1 ⟨op,d,s,tt,u,a,k,q⟩ t=x:=⟨_,rfl⟩
        rw[hc2]at hstep hokc;obtain⟨r0,r1,r2,r3,r4,r5,r6,r7,r8,hr2⟩:=Cm hokc.len;simp only[hc2,CoreM.v,hr2,hz.out,In.v]at hone;replace hone:=Az hone;replace hstep:=Az hstep;replace hokc:=Az hokc;replace hr2:=Az hr2;clear hO x0 x1 x2 x3 x4 x5 x6 x7 x8 y0 y1 y2 y3 y4 y5 y6 y7 y8;have hnw:IntKind.i64.wrap ((n:Int)+1)=(n:Int)+1:=by rw[IntKind.wrap_i64];omega
        by_cases h12:op=12
        ·subst h12;replace hstep:=hstep.out;rw[if_pos rfl]at hstep;replace hstep:=Az hstep;have hkw:IntKind.i64.wrap k=k:=by have:=hok1.out.k;rw[IntKind.wrap_i64];simp only at this;omega
         have hIa:=hI1.out.keep (Bw W1 (.cells #[.int .i64 k] 3));have hbxa:=AF hbx.out (.cells #[.int .i64 k] 3);replace hIa:=Az hIa;replace hbxa:=Az hbxa;go_wp2_with (at_builtin;refine NU rfl (.tmp 56) (.tmp 60) rfl w.heap.size W1.heap.size k u10 ms rfl hIa.out.m rfl (Bv _ _) ?hl3 ?hb3 ?_)
         case hl3=>omega
         case hb3=>have:=hIa.out.hz;simpa using this
         rintro v3 W3 hr3 hg3 -;have hI3:=hIa.out.app hr3 hg3;have hbx3:=Bg hbxa.out hg3 (Oa hIa.out.m hbxa.out (by decide));have b3:=hI3.b3;rw[hz.out]at b3;clear g0 g1 g2 g3 g4 g5 g6 g7 g8 j0 j1 j2 j3 j4 j5 j6 j7 hr3 hg3 hbxa;obtain⟨g0,g1,g2,g3,g4,g5,g6,g7,g8⟩:=Jj b3;have j0:W3.cell? ⟨B,0,none⟩=some (.int .i64 12):=(Bc hbx3 0).trans rfl;have j1:W3.cell? ⟨B,1,none⟩=some (.int .i64 d):=(Bc hbx3 1).trans rfl;have j2:W3.cell? ⟨B,2,none⟩=some (.int .i64 s):=(Bc hbx3 2).trans rfl;have j3:W3.cell? ⟨B,3,none⟩=some (.int .i64 tt):=(Bc hbx3 3).trans rfl;have j4:W3.cell? ⟨B,4,none⟩=some (.int .i64 u):=(Bc hbx3 4).trans rfl;have j5:W3.cell? ⟨B,5,none⟩=some (.int .i64 a):=(Bc hbx3 5).trans rfl;have j6:W3.cell? ⟨B,6,none⟩=some (.int .u32 k):=(Bc hbx3 6).trans rfl;have j7:W3.cell? ⟨B,7,none⟩=some (.int .i64 q):=(Bc hbx3 7).trans rfl;clear b3;go_wp2_with fail
         refine(hone.out _).mono ?_;rintro e w2 ⟨rfl,hb2⟩;have hI2:=hI3.keep hb2;clear hone g0 g1 g2 g3 g4 g5 g6 g7 g8 j0 j1 j2 j3 j4 j5 j6 j7 hI1 hbx hbx3 hIa hI3;have b3:=hI2.b3;rw[hz.out]at b3;obtain⟨g0,g1,g2,g3,g4,g5,g6,g7,g8⟩:=Jj b3;obtain⟨y0,y1,y2,y3,y4,y5,y6,y7,y8⟩:=Tp hI2.b3;have hP:=fun W' e=>hI2.Zx (.int .i64 r0) (.int .i64 r1) (.int .i64 r2) (.int .i64 r3) (.int .i64 r4) (.int .i64 r5) (.int .i64 r6) (.int .i64 r7) (.int .i64 r8) hr2.out hokc.out W' e
         replace hP:=Az hP;clear b3 hI2;go_wp2;go_roundw
         case rel=>exact⟨n+1,c2,ms++[k],by go_num,by omega,by simp;omega,⟨by rw[show 257-(n+1)=mm by omega];exact hstep.out⟩,⟨hP.out _ rfl⟩⟩
         case measure=>simp[intOf];omega
        ·have h12':(op==12)=false:=Bq h12;replace hstep:=hstep.out;rw[if_neg h12]at hstep;replace hstep:=Az hstep;go_wp2_with fail
         refine(hone.out _).mono ?_;rintro e w2 ⟨rfl,hb2⟩;have hI2:=hI1.out.keep hb2;clear hone g0 g1 g2 g3 g4 g5 g6 g7 g8 j0 j1 j2 j3 j4 j5 j6 j7 hI1 hbx;have b3:=hI2.b3;rw[hz.out]at b3;obtain⟨g0,g1,g2,g3,g4,g5,g6,g7,g8⟩:=Jj b3;obtain⟨y0,y1,y2,y3,y4,y5,y6,y7,y8⟩:=Tp hI2.b3;have hP:=fun W' e=>hI2.Zx (.int .i64 r0) (.int .i64 r1) (.int .i64 r2) (.int .i64 r3) (.int .i64 r4) (.int .i64 r5) (.int .i64 r6) (.int .i64 r7) (.int .i64 r8) hr2.out hokc.out W' e
         replace hP:=Az hP;clear b3 hI2;go_wp2;go_roundw
         case rel=>exact⟨n+1,c2,ms,by go_num,by omega,by omega,⟨by rw[show 257-(n+1)=mm by omega];exact hstep.out⟩,⟨hP.out _ rfl⟩⟩
         case measure=>simp[intOf];omega
  ·obtain rfl:n=257:=by omega
   have n1:¬((257:Nat):Int)≤256:=by omega
   have hf:=hF.out;simp only[Nat.sub_self,runM]at hf;subst hf;go_wp2;exact hQ.out _ _ _ _ rfl rfl rfl rfl rfl hz.out hl.out (hO.out _ _ _ _ _ _ _ _ _ _ rfl)
end
end Go.Proofs.YtjjpiefgdggghaaGreatDoor

/- Parts: Run, RefAsmPlain, RefFind, Frame, Exec. -/
import Derived.Test.YtnmahobjmpdkdaaGreatDoorQ02
import Derived.Test.YtnmahobjmpdkdaaGreatDoorQ06
import Derived.Test.YtnmahobjmpdkdaaGreatDoorQ14
import Derived.Test.YtnmahobjmpdkdaaGreatDoorQ07
import Derived.Test.YtnmahobjmpdkdaaGreatDoorQ03
import Derived.Test.YtnmahobjmpdkdaaGreatDoorQ12
set_option linter.unusedVariables false
set_option linter.unusedSimpArgs false
set_option maxRecDepth 100000
set_option maxHeartbeats 40000000
namespace Go.Proofs.YtnmahobjmpdkdaaGreatDoor
section
open Go.RowKit Go.Proofs.YtnmahobjmpdkdaaGreatDoorW.PrintWords
theorem IJ{W:World}{g:Nat}{t:TypeId}{y0 y1 y2 y3 y4 y5 y6 y7 y8:Value}(b:W.heap[g]?=some (.cells #[y0,y1,y2,y3,y4,y5,y6,y7,y8] t (0,0))) :
  W.cell? ⟨g,0,none⟩=some y0∧W.cell? ⟨g,1,none⟩=some y1∧W.cell? ⟨g,2,none⟩=some y2∧W.cell? ⟨g,3,none⟩=some y3∧W.cell? ⟨g,4,none⟩=some y4∧W.cell? ⟨g,5,none⟩=some y5∧W.cell? ⟨g,6,none⟩=some y6∧W.cell? ⟨g,7,none⟩=some y7∧W.cell? ⟨g,8,none⟩=some y8 :=
 ⟨(Bc b 0).trans rfl,(Bc b 1).trans rfl,(Bc b 2).trans rfl,(Bc b 3).trans rfl,(Bc b 4).trans rfl,(Bc b 5).trans rfl,(Bc b 6).trans rfl,(Bc b 7).trans rfl,(Bc b 8).trans rfl⟩
theorem Sl{W:World}{g:Nat}{t:TypeId}{cs:Array Value}(b:W.heap[g]?=some (.cells cs t (0,0))) :
  W.frozen? ⟨g,0,none⟩=false∧W.frozen? ⟨g,1,none⟩=false∧W.frozen? ⟨g,2,none⟩=false∧W.frozen? ⟨g,3,none⟩=false∧W.frozen? ⟨g,4,none⟩=false∧W.frozen? ⟨g,5,none⟩=false∧W.frozen? ⟨g,6,none⟩=false∧W.frozen? ⟨g,7,none⟩=false∧W.frozen? ⟨g,8,none⟩=false :=
 ⟨Bf b 0,Bf b 1,Bf b 2,Bf b 3,Bf b 4,Bf b 5,Bf b 6,Bf b 7,Bf b 8⟩
structure CoreM.ok (c:CoreM):Prop where
 len:c.r.length=8
 Xu:∀ j,c.r.getD j 0<4294967296
theorem CoreM.ok.at{c:CoreM}(h:c.ok)(p:Int):(c.at p).ok:=⟨h.len,h.Xu⟩
theorem CoreM.ok.set{c:CoreM}(h:c.ok)(d:Int){v:Nat}(hv:v<4294967296):(c.set d v).ok:=by
 refine⟨by rw[I3];exact h.len,fun j=>?_⟩;have:=h.Xu j;simp only[CoreM.set,List.getD_eq_getElem?_getD,List.getElem?_set]at this ⊢;split
 ·split
  ·exact hv
  ·decide
 ·exact this
structure H9 (i:In):Prop where
 op:i.op=1∨i.op=2∨i.op=3∨i.op=8∨i.op=9∨i.op=10∨i.op=11∨i.op=12∨i.op=13∨16≤i.op
 d:0≤i.d∧i.d<8
 s:0≤i.s∧i.s<8
 t:0≤i.t∧i.t<8
 u:0≤i.u∧i.u<8
 k:0≤i.k∧i.k<4294967296
theorem QO{c:CoreM}{i:In}{self:Nat}(h:c.ok)(hi:H9 i)(hs:self<4294967296)(h16:¬i.op≥16)(h13:i.op≠13):(G6 c i self).ok:=by
 have hk:i.k.toNat<4294967296:=by have:=hi.k;omega
 have hg:=h.Xu i.s.toNat;rcases hi.op with e |e |e |e |e |e |e |e |e |e
 ·simp only[G6,e];exact(h.set _ hk).at _
 ·simp only[G6,e];exact(h.set _ hg).at _
 ·simp only[G6,e];exact(h.set _ (Nat.mod_lt _ (by decide))).at _
 ·simp only[G6,e];exact h.at _
 ·simp only[G6,e];exact h.at _
 ·simp only[G6,e];exact h.at _
 ·simp only[G6,e];exact(h.set _ hs).at _
 ·simp only[G6,e];exact h.at _
 ·exact absurd e h13
 ·exact absurd e h16
theorem Xv(c:CoreM)(i:In)(self:Nat)(w:World)(hc:c.ok)(hi:H9 i)(hs:self<4294967296)(h16:¬i.op≥16)(h13:i.op≠13)(hp0:0≤c.pc)(hp1:c.pc≤100000) :
  Calls Tryz.prog 117 #[c.v,i.v,.int .i64 self] w fun e W'=>e=.returned (G6 c i self).v∧Below w.heap.size w W':=by
 obtain⟨op,d,s,t,u,a,k,q⟩:=i;obtain⟨h1,h2,h3,h4,h5,h6⟩:=hi;simp only at h1 h2 h3 h4 h5 h6 h16 h13;obtain⟨d,rfl⟩:∃ n:Nat,d=n:=⟨d.toNat,by omega⟩
 obtain⟨s,rfl⟩:∃ n:Nat,s=n:=⟨s.toNat,by omega⟩
 obtain⟨t,rfl⟩:∃ n:Nat,t=n:=⟨t.toNat,by omega⟩
 obtain⟨k,rfl⟩:∃ n:Nat,k=n:=⟨k.toNat,by omega⟩
 exact O5 c d s t k op u a q self w hc.len (by omega) (by omega) (by omega) (by omega) (by omega) hc.Xu hs hp0 hp1
structure O6 (w W:World) (N N1 G:Nat) (vc:Value) (lock unlock:Int) (c:CoreM) (vm:Value) (ms:List Int):Prop where
 h1:N<N1
 hG:N<G
 b:Below N w W
 b3:W.heap[N]?=some (.cells c.arr 133 (0,0))
 b4:W.heap[N1]?=some (.cells #[vc,.int .i64 lock,.int .i64 unlock] 26 (0,0))
 b6:W.heap[G]?=some (.cells K1 133 (0,0))
 m:Bj W N vm ms
 c:c.ok
section
variable {w W W1:World} {N N1 G:Nat} {vc vm u:Value} {lock unlock y:Int} {c c':CoreM} {ms:List Int}
theorem O6.hz(h:O6 w W N N1 G vc lock unlock c vm ms):N≤W.heap.size:=Nat.le_of_lt (Bl h.b3)
theorem O6.keep(h:O6 w W N N1 G vc lock unlock c vm ms)(hb:Below W.heap.size W W1):O6 w W1 N N1 G vc lock unlock c vm ms :=
 ⟨h.h1,h.hG,h.b.trans (hb.mono h.hz),Bk hb h.b3,Bk hb h.b4,Bk hb h.b6,h.m.keep hb,h.c⟩
theorem O6.app(h:O6 w W N N1 G vc lock unlock c vm ms)(hr:Bj W1 N u (ms++[y]))(hg:W.grownBy W1 vm.ownBlock):O6 w W1 N N1 G vc lock unlock c u (ms++[y]) :=
 ⟨h.h1,h.hG,h.b.grown hg h.hz (fun k hk=>Ob h.m k hk),Bg h.b3 hg (Oa h.m h.b3 (by decide)),Bg h.b4 hg (Oa h.m h.b4 (by decide)),Bg h.b6 hg (Oa h.m h.b6 (by decide)),hr,h.c⟩
end
theorem Nc{P:Program}{fn:Func}{p u v x:Tmp}{ty:TypeId}(h:fn.results=#[.cell p ty,.tmp u,.tmp v,.tmp x])(tmps:Array Value)(w:World)(g:Nat)(t:TypeId)(cs:Array Value)(fr:Nat×Nat)(d:TypeDesc)
  (hp:tmps.getD p undef=.pointer (some ⟨g,0,none⟩))(hg:w.heap[g]?=some (.cells cs t fr))
  (hu:P.underlying ty=some d)(hd:(match d with |.struct _ |.array _ _=>true |_=>false)=true)(hi:(P.info? ty).map (·.size)=some cs.size) :
  (results fn tmps).run P w=.ok (.tuple #[.agg cs,tmps.getD u undef,tmps.getD v undef,tmps.getD x undef]) w:=by
 have hp':tmps[p]?.getD undef=.pointer (some ⟨g,0,none⟩):=by simpa using hp
 have hl:=run_loadVar_row w g t ty cs fr d hg hu hd hi;simp only[results,h];simp[Sem.run_bind,Result.andThen,hp',asAddr,hl]
theorem Fb{W:World}{g k:Nat}(hk:k≠g)(v0 v1 v2 v3 v4 v5 v6 v7 v8:Value):(((((((((W.setCell ⟨g,0,none⟩ v0).setCell ⟨g,1,none⟩ v1).setCell ⟨g,2,none⟩ v2).setCell ⟨g,3,none⟩ v3).setCell ⟨g,4,none⟩ v4).setCell ⟨g,5,none⟩ v5).setCell ⟨g,6,none⟩ v6).setCell ⟨g,7,none⟩ v7).setCell ⟨g,8,none⟩ v8).heap[k]?=W.heap[k]?:=by
 rw[Below.heap_setCell _ ⟨g,8,none⟩ _ k hk,Below.heap_setCell _ ⟨g,7,none⟩ _ k hk,Below.heap_setCell _ ⟨g,6,none⟩ _ k hk,Below.heap_setCell _ ⟨g,5,none⟩ _ k hk,Below.heap_setCell _ ⟨g,4,none⟩ _ k hk,Below.heap_setCell _ ⟨g,3,none⟩ _ k hk,Below.heap_setCell _ ⟨g,2,none⟩ _ k hk,Below.heap_setCell _ ⟨g,1,none⟩ _ k hk,Below.heap_setCell _ ⟨g,0,none⟩ _ k hk]
section
variable {w W W1:World} {N N1 G:Nat} {vc vm u:Value} {lock unlock y:Int} {c c':CoreM} {ms:List Int}
theorem O6.Xw(h:O6 w W N N1 G vc lock unlock c vm ms)(v0 v1 v2 v3 v4 v5 v6 v7 v8:Value):∀ W',W'=(((((((((W.setCell ⟨G,0,none⟩ v0).setCell ⟨G,1,none⟩ v1).setCell ⟨G,2,none⟩ v2).setCell ⟨G,3,none⟩ v3).setCell ⟨G,4,none⟩ v4).setCell ⟨G,5,none⟩ v5).setCell ⟨G,6,none⟩ v6).setCell ⟨G,7,none⟩ v7).setCell ⟨G,8,none⟩ v8) →
  W'.heap[G]?=some (.cells #[v0,v1,v2,v3,v4,v5,v6,v7,v8] 133 (0,0))∧Bj W' N vm ms∧Below N w W':=by
 rintro W' rfl;exact⟨GU h.b6 _ _ _ _ _ _ _ _ _,h.m.move fun k hk=>Fb (fun e=>Oa h.m h.b6 (by decide) (by rw[hk,e])) _ _ _ _ _ _ _ _ _,Fc h.b (Nat.le_of_lt h.hG) _ _ _ _ _ _ _ _ _⟩
theorem O6.Yf(h:O6 w W N N1 G vc lock unlock c vm ms)(v0 v1 v2 v3 v4 v5 v6 v7 v8:Value)(hc:c'.arr=#[v0,v1,v2,v3,v4,v5,v6,v7,v8])(ho:c'.ok):∀ W',W'=(((((((((W.setCell ⟨N,0,none⟩ v0).setCell ⟨N,1,none⟩ v1).setCell ⟨N,2,none⟩ v2).setCell ⟨N,3,none⟩ v3).setCell ⟨N,4,none⟩ v4).setCell ⟨N,5,none⟩ v5).setCell ⟨N,6,none⟩ v6).setCell ⟨N,7,none⟩ v7).setCell ⟨N,8,none⟩ v8)→O6 w W' N N1 G vc lock unlock c' vm ms:=by
 rintro W' rfl;obtain⟨z0,z1,z2,z3,z4,z5,z6,z7,z8,hz⟩:=Cn h.c.len;have b3:=h.b3;rw[hz]at b3;exact⟨h.h1,h.hG,Fc h.b (Nl _) _ _ _ _ _ _ _ _ _,by rw[hc];exact GU b3 _ _ _ _ _ _ _ _ _,(Fb (by have:=h.h1;omega) _ _ _ _ _ _ _ _ _).trans h.b4,(Fb (by have:=h.hG;omega) _ _ _ _ _ _ _ _ _).trans h.b6,
  h.m.move fun k hk=>Fb (fun e=>Oa h.m h.b3 (by decide) (by rw[hk,e])) _ _ _ _ _ _ _ _ _,ho⟩
end
theorem Xx{W:World}{N B G:Nat}(hN:N≠G)(hB:B≠G){z0 z1 z2 z3 z4 z5 z6 z7 z8 y v0 v1 v2 v3 v4 v5 v6 v7 v8:Value}(h:(W.cell? ⟨N,0,none⟩=some z0∧W.cell? ⟨N,1,none⟩=some z1∧W.cell? ⟨N,2,none⟩=some z2∧W.cell? ⟨N,3,none⟩=some z3∧W.cell? ⟨N,4,none⟩=some z4∧W.cell? ⟨N,5,none⟩=some z5∧W.cell? ⟨N,6,none⟩=some z6∧W.cell? ⟨N,7,none⟩=some z7∧W.cell? ⟨N,8,none⟩=some z8)∧W.cell? ⟨B,6,none⟩=some y):∀ W',W'=(((((((((W.setCell ⟨G,0,none⟩ v0).setCell ⟨G,1,none⟩ v1).setCell ⟨G,2,none⟩ v2).setCell ⟨G,3,none⟩ v3).setCell ⟨G,4,none⟩ v4).setCell ⟨G,5,none⟩ v5).setCell ⟨G,6,none⟩ v6).setCell ⟨G,7,none⟩ v7).setCell ⟨G,8,none⟩ v8)→(W'.drew.cell? ⟨N,0,none⟩=some z0∧W'.drew.cell? ⟨N,1,none⟩=some z1∧W'.drew.cell? ⟨N,2,none⟩=some z2∧W'.drew.cell? ⟨N,3,none⟩=some z3∧W'.drew.cell? ⟨N,4,none⟩=some z4∧W'.drew.cell? ⟨N,5,none⟩=some z5∧W'.drew.cell? ⟨N,6,none⟩=some z6∧W'.drew.cell? ⟨N,7,none⟩=some z7∧W'.drew.cell? ⟨N,8,none⟩=some z8)∧W'.drew.cell? ⟨B,6,none⟩=some y:=by
 intro W' hW;have f:∀ k j,k≠G→W'.drew.cell? ⟨k,j,none⟩=W.cell? ⟨k,j,none⟩:=fun k j hk=>World.cell?_of_block (w:=W) (w':=W'.drew) (a:=⟨k,j,none⟩) (show W'.heap[k]?=_ by rw[hW];exact Fb hk v0 v1 v2 v3 v4 v5 v6 v7 v8)
 rw[f N 0 hN,f N 1 hN,f N 2 hN,f N 3 hN,f N 4 hN,f N 5 hN,f N 6 hN,f N 7 hN,f N 8 hN,f B 6 hB];exact h
theorem O6.Yg{w W:World}{N N1 G:Nat}{vc vm:Value}{lock unlock:Int}{c:CoreM}{ms:List Int}(h:O6 w W N N1 G vc lock unlock c vm ms)(v0 v1 v2 v3 v4 v5 v6 v7 v8:Value):∀ W',W'=(((((((((W.setCell ⟨G,0,none⟩ v0).setCell ⟨G,1,none⟩ v1).setCell ⟨G,2,none⟩ v2).setCell ⟨G,3,none⟩ v3).setCell ⟨G,4,none⟩ v4).setCell ⟨G,5,none⟩ v5).setCell ⟨G,6,none⟩ v6).setCell ⟨G,7,none⟩ v7).setCell ⟨G,8,none⟩ v8) →
  W'.drew.heap[G]?=some (.cells #[v0,v1,v2,v3,v4,v5,v6,v7,v8] 133 (0,0))∧Bj W'.drew N vm ms∧Below N w W'.drew:=by
 intro W' hW;obtain⟨h1,h2,h3⟩:=h.Xw v0 v1 v2 v3 v4 v5 v6 v7 v8 W' hW;exact⟨Be h1,h2,Bd h3⟩
def TF(w:World)(fin:CoreM×List Int×Int×Int)(e:Ending)(w':World):Prop :=
 ∃ vm,e=.returned (.tuple #[fin.1.v,vm,.int .i64 fin.2.2.1,.int .i64 fin.2.2.2])∧Bj w' w.heap.size vm fin.2.1∧Below w.heap.size w w'
theorem V7(w:World)(G:Nat)(fin:CoreM×List Int×Int×Int)(a:Act)(W:World)(cs:Array Value)(vm:Value)(hd:a.defers=[])
  (h2:a.tmps.getD 6 undef=.pointer (some ⟨G,0,none⟩))(h7:a.tmps.getD 7 undef=vm)(h8:a.tmps.getD 8 undef=.int .i64 fin.2.2.1)(h9:a.tmps.getD 9 undef=.int .i64 fin.2.2.2)
  (hc:fin.1.arr=cs)(hl:fin.1.r.length=8)
  (h:W.heap[G]?=some (.cells cs 133 (0,0))∧Bj W w.heap.size vm fin.2.1∧Below w.heap.size w W) :
  bodyPost Tryz.prog Tryz.f98 (TF w fin) .ret a W :=
 bodyPost_ret (Nc rfl _ _ G _ cs (0,0) _ h2 h.1 Tryz.underlying133 rfl (by rw[←hc,O7 _ hl];kernel_rfl)) hd ⟨vm,by rw[h7,h8,h9,←hc];rfl,h.2.1,h.2.2⟩
theorem O8{code:List In}{t m:Nat}{c:CoreM}{ms:List Int}(h:c.pc<0∨c.pc≥code.length):runM code t (m+1) c ms=(c,ms,-1,11):=by
 rw[runM,if_pos h]
theorem TG{code:List In}{t m p:Nat}{c:CoreM}{ms:List Int}(hp:c.pc=(p:Int))(h:p<code.length)(h16:16≤(code.getD p In.zero).op):runM code t (m+1) c ms=(c,ms,-1,0):=by
 rw[runM,if_neg (by omega),hp,Int.toNat_natCast,if_pos h16]
theorem Sm{code:List In}{t p:Nat}{c:CoreM}{ms:List Int}(hp:c.pc=(p:Int))(h:p<code.length)(h16:¬16≤(code.getD p In.zero).op):runM code t 1 c ms=(c,ms,-1,11):=by
 rw[runM,if_neg (by omega),hp,Int.toNat_natCast,if_neg h16,if_pos rfl]
theorem Sn{code:List In}{t m p:Nat}{c:CoreM}{ms:List Int}(hp:c.pc=(p:Int))(h:p<code.length)(h13:(code.getD p In.zero).op=13)(hm:m≠0):runM code t (m+1) c ms=(c,ms,(code.getD p In.zero).k,0):=by
 rw[runM,if_neg (by omega),hp,Int.toNat_natCast,if_neg (by omega),if_neg hm,if_pos h13]
theorem So{code:List In}{t m p:Nat}{c:CoreM}{ms:List Int}(hp:c.pc=(p:Int))(h:p<code.length)(h16:¬16≤(code.getD p In.zero).op)(h13:(code.getD p In.zero).op≠13)(hm:m≠0) :
  runM code t (m+1) c ms=runM code t m (G6 c (code.getD p In.zero) t) (if (code.getD p In.zero).op=12 then ms++[(code.getD p In.zero).k] else ms):=by
 rw[runM,if_neg (by omega),hp,Int.toNat_natCast,if_neg h16,if_neg hm,if_neg h13]
theorem Sq(c:CoreM)(code:List In)(vc:Value)(lock unlock:Int)(t:Nat)(w:World)(hc:c.ok)(hr:Cj w vc code.length (Bu code))(hok:∀ i∈code,H9 i)(hlen:code.length≤64)(ht:t<4294967296) :
  Calls Tryz.prog 98 #[c.v,.agg #[vc,.int .i64 lock,.int .i64 unlock],.int .i64 t] w (TF w (runM code t 257 c [])):=by
 obtain⟨fin,hfin⟩:∃ fin,runM code t 257 c []=fin:=⟨_,rfl⟩
 rw[hfin];obtain⟨A,cap,rfl⟩:=hr.slice;obtain⟨a0,a1,a2,a3,a4,a5,a6,a7,a8,he⟩:=Cn hc.len;have hI:O6 w (((w.alloc (.cells c.arr 133)).alloc (.cells #[.slice A code.length cap,.int .i64 lock,.int .i64 unlock] 26)).alloc (.cells K1 133)) w.heap.size (w.heap.size+1) (w.heap.size+1+1) (.slice A code.length cap) lock unlock c (.slice none 0 0) [] :=
  ⟨by omega,by omega,(((Below.refl w.heap.size w).alloc (Nl _) _).alloc (by simp) _).alloc (by simp;omega) _,AJ (AJ (Bv w _) _) _,AJ (Df w _ _) _,KP w _ _ _,.nil _ _,hc⟩
 obtain⟨m,hm⟩:∃ m,code.length=m:=⟨_,rfl⟩
 unfold CoreM.v;rw[he]at hI ⊢;rw[hm]at hI hr ⊢;obtain⟨W0,hW0⟩:∃ x,(((w.alloc (.cells #[.int .i64 a0,.int .i64 a1,.int .i64 a2,.int .i64 a3,.int .i64 a4,.int .i64 a5,.int .i64 a6,.int .i64 a7,.int .i64 a8] 133)).alloc (.cells #[.slice A m cap,.int .i64 lock,.int .i64 unlock] 26)).alloc (.cells K1 133))=x:=⟨_,rfl⟩
 rw[hW0]at hI;have hQ:=Az (fun a W cs vm=>V7 w (w.heap.size+1+1) fin a W cs vm);replace hI:=Az hI;replace hfin:=Az hfin;replace hr:=Az hr;replace hm:=Az hm;go_enter Tryz.func98,Tryz.ntmps98;go_wp2_with fail
 rw[show(((w.alloc (.cells #[.int .i64 a0,.int .i64 a1,.int .i64 a2,.int .i64 a3,.int .i64 a4,.int .i64 a5,.int .i64 a6,.int .i64 a7,.int .i64 a8] 133)).alloc (.cells #[.slice A m cap,.int .i64 lock,.int .i64 unlock] 26)).alloc (.cells #[.int .i64 0,.int .i64 0,.int .i64 0,.int .i64 0,.int .i64 0,.int .i64 0,.int .i64 0,.int .i64 0,.int .i64 0] 133))=W0 from hW0];clear hW0;generalize w.heap.size+1+1=G at *;generalize w.heap.size+1=N1 at *;go_loopw [10,11] (fun v10 v11 wr=>∃ (n:Nat) (c':CoreM) (ms:List Int),v11=.int .i64 n∧n≤257∧ms.length≤n∧Af (runM code t (257-n) c' ms=fin)∧Af (O6 w wr w.heap.size N1 G (.slice A m cap) lock unlock c' v10 ms)) (fun _ v11 _=>257-(intOf v11).toNat)
 case atStart=>exact⟨0,c,[],rfl,by omega,by simp,hfin,hI⟩
 case round =>
  obtain⟨n,c1,ms,rfl,hn,hms,hF,hI⟩:=hrel;obtain⟨z0,z1,z2,z3,z4,z5,z6,z7,z8,hz⟩:=Cn hI.out.c.len;have hO:=fun v0 v1 v2 v3 v4 v5 v6 v7 v8 W' e=>hI.out.Xw v0 v1 v2 v3 v4 v5 v6 v7 v8 W' e
  replace hO:=Az hO;have p8:=(Bc hI.out.b3 8).trans (IK hI.out.c.len);have q0:wr.cell? ⟨N1,0,none⟩=some (.slice A m cap):=(Bc hI.out.b4 0).trans rfl;have b3:=hI.out.b3;rw[hz]at b3;obtain⟨g0,g1,g2,g3,g4,g5,g6,g7,g8⟩:=IJ b3;obtain⟨x0,x1,x2,x3,x4,x5,x6,x7,x8⟩:=IJ hI.out.b6;obtain⟨y0,y1,y2,y3,y4,y5,y6,y7,y8⟩:=Sl hI.out.b6;have e8:=g8.symm.trans p8;injection e8 with e8
  injection e8 with _ e8
  subst e8;replace hz:=Az hz;have hl:=Az hI.out.c.len;clear b3;by_cases hn7:n≤256
  ·have n1:(n:Int)≤256:=by omega
   obtain⟨mm,hmm⟩:∃ mm,257-n=mm+1:=⟨256-n,by omega⟩
   rw[hmm]at hF;by_cases hneg:c1.pc<0
   ·have hf:=hF.out;rw[O8 (.inl hneg)]at hf;subst hf;go_wp2;exact hQ.out _ _ _ _ rfl rfl rfl rfl rfl hz.out hl.out (hO.out _ _ _ _ _ _ _ _ _ _ rfl)
   ·by_cases hge:c1.pc≥code.length
    ·have hf:=hF.out;rw[O8 (.inr hge)]at hf;subst hf;rw[hm.out]at hge;have hge':(m:Int)≤c1.pc:=hge;go_wp2;exact hQ.out _ _ _ _ rfl rfl rfl rfl rfl hz.out hl.out (hO.out _ _ _ _ _ _ _ _ _ _ rfl)
    ·obtain⟨p,hp⟩:∃ p:Nat,c1.pc=p:=⟨c1.pc.toNat,by omega⟩
     have hpl:p<code.length:=by omega
     have hpm:p<m:=by rw[←hm.out];exact hpl
     rw[hp]at p8 hneg;replace hz:=hz.out;rw[hp]at hz;replace hz:=Az hz;have p0:(0:Int)≤(p:Int):=by omega
     have p1:(p:Int)<(m:Int):=by omega
     have p2:¬(p:Int)≥(m:Int):=by omega
     obtain⟨g,c',hv,hcell⟩:=(hr.out.keep hI.out.b).cells (by omega);obtain⟨rfl,rfl⟩:A=some ⟨g,0,none⟩∧cap=c':=by injection hv with h1 h2 h3;exact⟨h1,h3⟩
     obtain⟨⟨op,d,s,tt,u,a,k,q⟩,hi⟩:∃ i,code.getD p In.zero=i:=⟨_,rfl⟩
     obtain⟨i0,i1,i2,i3,i4,i5,i6,i7⟩:=Fx hcell hpl hi;have hok1:H9 ⟨op,d,s,tt,u,a,k,q⟩:=by rw[←hi];exact hok _ (by rw[List.getD_eq_getElem?_getD,List.getElem?_eq_getElem hpl];exact List.getElem_mem _)
     replace hok1:=Az hok1;replace hi:=Az hi;clear hcell hv hge;go_upto_region 8 with fail
     have hI1:=hI.out.keep (Bw wr (.cells #[.int .i64 op,.int .i64 d,.int .i64 s,.int .i64 tt,.int .i64 u,.int .i64 a,.int .u32 k,.int .i64 q] 90));have hbx:=Bv wr (.cells #[.int .i64 op,.int .i64 d,.int .i64 s,.int .i64 tt,.int .i64 u,.int .i64 a,.int .u32 k,.int .i64 q] 90);generalize wr.alloc (.cells #[.int .i64 op,.int .i64 d,.int .i64 s,.int .i64 tt,.int .i64 u,.int .i64 a,.int .u32 k,.int .i64 q] 90)=W1 at *;generalize wr.heap.size=B at *;have j0:W1.cell? ⟨B,0,none⟩=some (.int .i64 op):=(Bc hbx 0).trans rfl;have j1:W1.cell? ⟨B,1,none⟩=some (.int .i64 d):=(Bc hbx 1).trans rfl;have j2:W1.cell? ⟨B,2,none⟩=some (.int .i64 s):=(Bc hbx 2).trans rfl;have j3:W1.cell? ⟨B,3,none⟩=some (.int .i64 tt):=(Bc hbx 3).trans rfl;have j4:W1.cell? ⟨B,4,none⟩=some (.int .i64 u):=(Bc hbx 4).trans rfl;have j5:W1.cell? ⟨B,5,none⟩=some (.int .i64 a):=(Bc hbx 5).trans rfl;have j7:W1.cell? ⟨B,7,none⟩=some (.int .i64 q):=(Bc hbx 7).trans rfl;have j6:W1.cell? ⟨B,6,none⟩=some (.int .u32 k):=(Bc hbx 6).trans rfl;clear hO p8 q0 g0 g1 g2 g3 g4 g5 g6 g7 g8 x0 x1 x2 x3 x4 x5 x6 x7 x8 y0 y1 y2 y3 y4 y5 y6 y7 y8 hI i0 i1 i2 i3 i4 i5 i6 i7;have hO:=fun v0 v1 v2 v3 v4 v5 v6 v7 v8 W' e=>hI1.Xw v0 v1 v2 v3 v4 v5 v6 v7 v8 W' e
     replace hO:=Az hO;have b3:=hI1.b3;rw[hz.out]at b3;obtain⟨g0,g1,g2,g3,g4,g5,g6,g7,g8⟩:=IJ b3;obtain⟨x0,x1,x2,x3,x4,x5,x6,x7,x8⟩:=IJ hI1.b6;obtain⟨y0,y1,y2,y3,y4,y5,y6,y7,y8⟩:=Sl hI1.b6;clear b3;replace hI1:=Az hI1;replace hbx:=Az hbx;by_cases h16:op≥16
     ·have hf:=hF.out;rw[TG hp hpl (by rw[hi.out];exact h16)]at hf;subst hf;go_wp2;exact hQ.out _ _ _ _ rfl rfl rfl rfl rfl hz.out hl.out (hO.out _ _ _ _ _ _ _ _ _ _ rfl)
     ·by_cases hnl:n=256
      ·subst hnl;have hf:=hF.out;obtain rfl:mm=0:=by omega
       rw[Sm hp hpl (by rw[hi.out];exact h16)]at hf;subst hf;go_wp2;exact hQ.out _ _ _ _ rfl rfl rfl rfl rfl hz.out hl.out (hO.out _ _ _ _ _ _ _ _ _ _ rfl)
      ·have hm0:mm≠0:=by omega
       have n2:((n:Int)==256)=false:=Bq (by omega);by_cases h13:op=13
       ·subst h13;have hf:=hF.out;rw[Sn hp hpl (by rw[hi.out]) hm0,hi.out]at hf;subst hf;have hkw:IntKind.i64.wrap k=k:=by have:=hok1.out.k;rw[IntKind.wrap_i64];simp only at this;omega
        have hNG:w.heap.size≠G:=by have:=hI1.out.hG;omega
        have hBG:B≠G:=fun e=>by have:=hI1.out.b6;rw[←e,hbx.out]at this;injection this with h;injection h with _ h;exact absurd h (by decide)
        have hS:(W1.drew.cell? ⟨w.heap.size,0,none⟩=some (.int .i64 z0)∧W1.drew.cell? ⟨w.heap.size,1,none⟩=some (.int .i64 z1)∧W1.drew.cell? ⟨w.heap.size,2,none⟩=some (.int .i64 z2)∧W1.drew.cell? ⟨w.heap.size,3,none⟩=some (.int .i64 z3)∧W1.drew.cell? ⟨w.heap.size,4,none⟩=some (.int .i64 z4)∧W1.drew.cell? ⟨w.heap.size,5,none⟩=some (.int .i64 z5)∧W1.drew.cell? ⟨w.heap.size,6,none⟩=some (.int .i64 z6)∧W1.drew.cell? ⟨w.heap.size,7,none⟩=some (.int .i64 z7)∧W1.drew.cell? ⟨w.heap.size,8,none⟩=some (.int .i64 p))∧W1.drew.cell? ⟨B,6,none⟩=some (.int .u32 k) :=
         ⟨⟨g0,g1,g2,g3,g4,g5,g6,g7,g8⟩,j6⟩
        go_wp2_with fail
        go_region_held3 (fun W=>(W.cell? ⟨w.heap.size,0,none⟩=some (.int .i64 z0)∧W.cell? ⟨w.heap.size,1,none⟩=some (.int .i64 z1)∧W.cell? ⟨w.heap.size,2,none⟩=some (.int .i64 z2)∧W.cell? ⟨w.heap.size,3,none⟩=some (.int .i64 z3)∧W.cell? ⟨w.heap.size,4,none⟩=some (.int .i64 z4)∧W.cell? ⟨w.heap.size,5,none⟩=some (.int .i64 z5)∧W.cell? ⟨w.heap.size,6,none⟩=some (.int .i64 z6)∧W.cell? ⟨w.heap.size,7,none⟩=some (.int .i64 z7)∧W.cell? ⟨w.heap.size,8,none⟩=some (.int .i64 p))∧W.cell? ⟨B,6,none⟩=some (.int .u32 k)) (first |(with_reducible exact hS) |(with_reducible exact Xx hNG hBG ⟨⟨g0,g1,g2,g3,g4,g5,g6,g7,g8⟩,j6⟩ _ rfl)) (first |fail)
        go_wp2;exact hQ.out _ _ _ _ rfl rfl rfl rfl rfl hz.out hl.out (hI1.out.Yg _ _ _ _ _ _ _ _ _ _ rfl)
       ·have h13':(op==13)=false:=Bq h13;have hpc2:c1.pc≤100000:=by rw[hp];omega
        have hone:=fun W=>Xv c1 ⟨op,d,s,tt,u,a,k,q⟩ t W hI1.out.c hok1.out ht h16 h13 (by rw[hp];omega) hpc2
        have hokc:=QO (self:=t) hI1.out.c hok1.out ht h16 h13;have hstep:=hF.out;rw[So hp hpl (by rw[hi.out];exact h16) (by rw[hi.out];exact h13) hm0,hi.out]at hstep;simp only at hstep;obtain⟨c2,hc2⟩:∃ x,G6 c1 ⟨op,d,s,tt,u,a,k,q⟩ t=x:=⟨_,rfl⟩
        rw[hc2]at hstep hokc;obtain⟨r0,r1,r2,r3,r4,r5,r6,r7,r8,hr2⟩:=Cn hokc.len;simp only[hc2,CoreM.v,hr2,hz.out,In.v]at hone;replace hone:=Az hone;replace hstep:=Az hstep;replace hokc:=Az hokc;replace hr2:=Az hr2;clear hO x0 x1 x2 x3 x4 x5 x6 x7 x8 y0 y1 y2 y3 y4 y5 y6 y7 y8;have hnw:IntKind.i64.wrap ((n:Int)+1)=(n:Int)+1:=by rw[IntKind.wrap_i64];omega
        by_cases h12:op=12
        ·subst h12;replace hstep:=hstep.out;rw[if_pos rfl]at hstep;replace hstep:=Az hstep;have hkw:IntKind.i64.wrap k=k:=by have:=hok1.out.k;rw[IntKind.wrap_i64];simp only at this;omega
         have hIa:=hI1.out.keep (Bw W1 (.cells #[.int .i64 k] 3));have hbxa:=AJ hbx.out (.cells #[.int .i64 k] 3);replace hIa:=Az hIa;replace hbxa:=Az hbxa;go_wp2_with (at_builtin;refine Nd rfl (.tmp 56) (.tmp 60) rfl w.heap.size W1.heap.size k u10 ms rfl hIa.out.m rfl (Bv _ _) ?hl3 ?hb3 ?_)
         case hl3=>omega
         case hb3=>have:=hIa.out.hz;simpa using this
         rintro v3 W3 hr3 hg3 -;have hI3:=hIa.out.app hr3 hg3;have hbx3:=Bg hbxa.out hg3 (Oa hIa.out.m hbxa.out (by decide));have b3:=hI3.b3;rw[hz.out]at b3;clear g0 g1 g2 g3 g4 g5 g6 g7 g8 j0 j1 j2 j3 j4 j5 j6 j7 hr3 hg3 hbxa;obtain⟨g0,g1,g2,g3,g4,g5,g6,g7,g8⟩:=IJ b3;have j0:W3.cell? ⟨B,0,none⟩=some (.int .i64 12):=(Bc hbx3 0).trans rfl;have j1:W3.cell? ⟨B,1,none⟩=some (.int .i64 d):=(Bc hbx3 1).trans rfl;have j2:W3.cell? ⟨B,2,none⟩=some (.int .i64 s):=(Bc hbx3 2).trans rfl;have j3:W3.cell? ⟨B,3,none⟩=some (.int .i64 tt):=(Bc hbx3 3).trans rfl;have j4:W3.cell? ⟨B,4,none⟩=some (.int .i64 u):=(Bc hbx3 4).trans rfl;have j5:W3.cell? ⟨B,5,none⟩=some (.int .i64 a):=(Bc hbx3 5).trans rfl;have j6:W3.cell? ⟨B,6,none⟩=some (.int .u32 k):=(Bc hbx3 6).trans rfl;have j7:W3.cell? ⟨B,7,none⟩=some (.int .i64 q):=(Bc hbx3 7).trans rfl;clear b3;go_wp2_with fail
         refine(hone.out _).mono ?_;rintro e w2 ⟨rfl,hb2⟩;have hI2:=hI3.keep hb2;clear hone g0 g1 g2 g3 g4 g5 g6 g7 g8 j0 j1 j2 j3 j4 j5 j6 j7 hI1 hbx hbx3 hIa hI3;have b3:=hI2.b3;rw[hz.out]at b3;obtain⟨g0,g1,g2,g3,g4,g5,g6,g7,g8⟩:=IJ b3;obtain⟨y0,y1,y2,y3,y4,y5,y6,y7,y8⟩:=Sl hI2.b3;have hP:=fun W' e=>hI2.Yf (.int .i64 r0) (.int .i64 r1) (.int .i64 r2) (.int .i64 r3) (.int .i64 r4) (.int .i64 r5) (.int .i64 r6) (.int .i64 r7) (.int .i64 r8) hr2.out hokc.out W' e
         replace hP:=Az hP;clear b3 hI2;go_wp2;go_roundw
         case rel=>exact⟨n+1,c2,ms++[k],by go_num,by omega,by simp;omega,⟨by rw[show 257-(n+1)=mm by omega];exact hstep.out⟩,⟨hP.out _ rfl⟩⟩
         case measure=>simp[intOf];omega
        ·have h12':(op==12)=false:=Bq h12;replace hstep:=hstep.out;rw[if_neg h12]at hstep;replace hstep:=Az hstep;go_wp2_with fail
         refine(hone.out _).mono ?_;rintro e w2 ⟨rfl,hb2⟩;have hI2:=hI1.out.keep hb2;clear hone g0 g1 g2 g3 g4 g5 g6 g7 g8 j0 j1 j2 j3 j4 j5 j6 j7 hI1 hbx;have b3:=hI2.b3;rw[hz.out]at b3;obtain⟨g0,g1,g2,g3,g4,g5,g6,g7,g8⟩:=IJ b3;obtain⟨y0,y1,y2,y3,y4,y5,y6,y7,y8⟩:=Sl hI2.b3;have hP:=fun W' e=>hI2.Yf (.int .i64 r0) (.int .i64 r1) (.int .i64 r2) (.int .i64 r3) (.int .i64 r4) (.int .i64 r5) (.int .i64 r6) (.int .i64 r7) (.int .i64 r8) hr2.out hokc.out W' e
         replace hP:=Az hP;clear b3 hI2;go_wp2;go_roundw
         case rel=>exact⟨n+1,c2,ms,by go_num,by omega,by omega,⟨by rw[show 257-(n+1)=mm by omega];exact hstep.out⟩,⟨hP.out _ rfl⟩⟩
         case measure=>simp[intOf];omega
  ·obtain rfl:n=257:=by omega
   have n1:¬((257:Nat):Int)≤256:=by omega
   have hf:=hF.out;simp only[Nat.sub_self,runM]at hf;subst hf;go_wp2;exact hQ.out _ _ _ _ rfl rfl rfl rfl rfl hz.out hl.out (hO.out _ _ _ _ _ _ _ _ _ _ rfl)
end
section
open Go Go.Lib
def DJ(s:List UInt8):In×List UInt8×Bool :=
 let r:=Iv (BR s++[48])
 if r.2=true∧DV r.1=true∧Cq (CG s)=true then (r.1,CG s,true) else
 let r:=Iv s
 if r.2=false∨DV r.1=true then (In.zero,[],false) else (r.1,[],true)
def KC(L:List (List UInt8×Nat))(s:List UInt8):Bool:=L.any (fun p=>p.1==s)
def Ed(x:Src)(s:List UInt8)(n:Int):Src×Int :=
 if s.getLast?=some 58∧Cq s.dropLast=true then
  (if KC x.labels s.dropLast=true then (x,2) else ({x with labels:=x.labels++[(s.dropLast,x.l.length)]},0))
 else if (DJ s).2.2=false then (x,8)
 else if 64≤x.l.length then (x,9)
 else ({x with l:=x.l++[(DJ s).1],names:=x.names++[(DJ s).2.1],rows:=x.rows++[n]},0)
def Fu:List (List UInt8)→Int→Src→Src×Int×Int
 |[],n,x=>(x,n,0)
 |s::ls,n,x=>if s.getLast?≠some 10 then (x,n+1,8) else
  if (Ed x s.dropLast (n+1)).2=0 then Fu ls (n+1) (Ed x s.dropLast (n+1)).1 else (x,n+1,(Ed x s.dropLast (n+1)).2)
def Cz(L:List (List UInt8×Nat))(s:List UInt8)(n:Nat):Int :=
 match L.find? (fun p=>p.1==s&&decide (p.2<n)) with
 |some p=>(p.2:Int)
 |none => -1
def GP(L:List (List UInt8×Nat))(n:Nat):List In→List (List UInt8)→List Int→List In ⊕ Int
 |i::l,s::names,r::rows =>
  if s=[] then (match GP L n l names rows with |.inl k=>.inl (i::k) |.inr e=>.inr e)
  else if Cz L s n<0 then .inr r
  else match GP L n l names rows with |.inl k=>.inl ({i with q:=Cz L s n}::k) |.inr e=>.inr e
 |_,_,_=>.inl []
def AS(t:List UInt8):Pg×Int×Int :=
 let r:=Fu (Bh t) 0 Src.zero
 if r.2.2≠0 then (Pg.zero,r.2.1,r.2.2) else
 match GP r.1.labels r.1.l.length r.1.l r.1.names r.1.rows with
 |.inr e=>(Pg.zero,e,10)
 |.inl k =>
  if Cz r.1.labels [108,111,99,107] r.1.l.length<0∨Cz r.1.labels [117,110,108,111,99,107] r.1.l.length<0 then (Pg.zero,0,10)
  else (⟨k,Cz r.1.labels [108,111,99,107] r.1.l.length,Cz r.1.labels [117,110,108,111,99,107] r.1.l.length⟩,0,0)
structure RL (x y:Src):Prop where
 l:y.l=x.l
 n:y.names=x.names
 r:y.rows=x.rows
 b:y.labels=x.labels.reverse
 u:(x.labels.map (·.1)).Nodup
end
section
open Go.RowKit Go.Proofs.YtnmahobjmpdkdaaGreatDoorW.PrintWords
theorem CJ{W:World}{base n size:Nat}{e:TypeId}{v:Value}{xs:List Value}(h:W.ownsRow base e size v n xs)(hn:0<n) :
  ∃ g c,v=.slice (some ⟨g,0,none⟩) n c∧n≤c∧base≤g∧(∃ cs,W.heap[g]?=some (.cells cs e (0,0))∧n*size≤cs.size)∧∀ j u,xs[j]?=some u→W.cell? ⟨g,j,none⟩=some u:=by
 obtain⟨h1,h2⟩:=h;rcases h2 with ⟨rfl,h0⟩ |⟨g,cap,cur,rfl,hg,hh,hc,hm,hs,ht⟩
 ·omega
 ·refine⟨g,cap,rfl,hc,hg,⟨cur,hh,by rw[hs];exact Nat.mul_le_mul_right _ hc⟩,fun j u hj=>(Bc hh j).trans ?_⟩;have hlt:j<n*size:=by rw[←h1];exact(List.getElem?_eq_some_iff.1 hj).1
  rw[←ht,List.getElem?_take_of_lt hlt,Array.getElem?_toList]at hj;exact hj
theorem QP:(Tryz.prog.info? 88).map (fun i=>(i.zero,i.size,i.bytes))=some (some (.agg #[.string ⟨#[]⟩,.int .i64 0]),2,24):=by kernel_rfl
def EH:List (List UInt8×Nat)→List Value
 |[]=>[]
 |p::L=>.string ⟨p.1.toArray⟩::.int .i64 (p.2:Int)::EH L
theorem I7:∀ (L:List (List UInt8×Nat)) (p:List UInt8×Nat),EH (L++[p])=EH L++[.string ⟨p.1.toArray⟩,.int .i64 (p.2:Int)]
 |[],p=>rfl
 |q::L,p=>by simp[EH,I7 L p]
theorem HV:∀ (L:List (List UInt8×Nat)) (k:Nat) (hk:k<L.length),(EH L)[k*2]?=some (.string ⟨(L[k]).1.toArray⟩)∧(EH L)[k*2+1]?=some (.int .i64 ((L[k]).2:Int))
 |p::L,0,_=>⟨rfl,rfl⟩
 |p::L,k+1,hk=>by
  have:=HV L k (by simpa using hk);rw[show(k+1)*2=k*2+1+1 by omega]
  simpa [EH]using this
def Gy(W:World)(base:Nat)(v:Value)(L:List (List UInt8×Nat)):Prop:=W.ownsRow base 88 2 v L.length (EH L)
theorem Gy.nil(W:World)(base:Nat):Gy W base (.slice none 0 0) []:=⟨rfl,.inl ⟨rfl,rfl⟩⟩
theorem Gy.keep{W W1:World}{base:Nat}{v:Value}{L:List (List UInt8×Nat)}(h:Gy W base v L)(hb:Below W.heap.size W W1):Gy W1 base v L:=Om h fun k hk=>hb.block k (Ol h k hk)
theorem PV{L:List (List UInt8×Nat)}{s:List UInt8}{n:Nat}:∀ (k:Nat),k<L.length→(∀ h:k<L.length,¬(L[k].1=s∧L[k].2<n))→Cz (L.drop k) s n=Cz (L.drop (k+1)) s n:=by
 intro k hk h;unfold Cz;rw[List.drop_eq_getElem_cons hk,List.find?_cons_of_neg]
 simpa using h hk
theorem GX(v:Value)(L:List (List UInt8×Nat))(s:List UInt8)(n:Nat)(base:Nat)(W:World)(h:Gy W base v L)(hl:L.length≤1000000) :
  Calls Tryz.prog 60 #[v,.string ⟨s.toArray⟩,.int .i64 (n:Int)] W fun e W'=>e=.returned (.int .i64 (Cz L s n))∧Below W.heap.size W W':=by
 obtain⟨fin,hf⟩:∃ r,Cz L s n=r:=⟨_,rfl⟩
 rw[hf];obtain⟨A,m,c,rfl⟩:=AK h;obtain⟨k0,hk0⟩:∃ k,L.length=k:=⟨_,rfl⟩
 have hm:m=k0:=by
  rcases h.2 with ⟨e,h0⟩ |⟨g,cap,cur,e,_⟩
  ·injection e with e1 e2 e3;omega
  ·injection e with e1 e2 e3;omega
 subst hm;replace hf:=Az hf;replace h:=Az h;replace hk0:=Az hk0;have hl':m≤1000000:=by rw[←hk0.out];exact hl
 clear hl;go_enter Tryz.func60,Tryz.ntmps60;go_wp2_with fail
 go_loopw [11] (fun v11 wr=>∃ k:Nat,v11=.int .i64 k∧k≤m∧Af (Cz (L.drop k) s n=fin)∧Af (Below W.heap.size W wr)) (fun v11 _=>m-(intOf v11).toNat)
 case atStart=>exact⟨0,rfl,Nat.zero_le _,⟨by simpa using hf.out⟩,⟨Below.refl _ _⟩⟩
 case round =>
  obtain⟨k,rfl,hk,hF,hB⟩:=hrel;by_cases hlt:k<m
  ·have hkx:k<L.length:=by rw[hk0.out];exact hlt
   obtain⟨g,c',hv,hc,hg,_,hcell⟩:=CJ (h.out.keep hB.out) (by omega);obtain⟨rfl,rfl⟩:A=some ⟨g,0,none⟩∧c=c':=by injection hv with h1 h2 h3;exact⟨h1,h3⟩
   obtain⟨e1,e2⟩:=HV L k hkx;have c1:=hcell _ _ e1;have c2:=hcell _ _ e2;have hstep:=PV (L:=L) (s:=s) (n:=n) k hkx;have hit:(L[k]'hkx).1=s→(L[k]'hkx).2<n→Cz (L.drop k) s n=((L[k]'hkx).2:Int):=fun h1 h2=>by
    unfold Cz;rw[List.drop_eq_getElem_cons hkx,List.find?_cons_of_pos (by simp[h1,h2])]
   have hstep':¬((L[k]'hkx).1=s∧(L[k]'hkx).2<n)→Cz (L.drop (k+1)) s n=fin:=fun hn=>by rw[←hstep (fun _=>hn)];exact hF.out
   rw[hF.out]at hit;generalize L[k].1=nm at c1 hit hstep';generalize L[k].2=pl at c2 hit hstep';have hk0':(0:Int)≤(k:Int):=by omega
   have hk1:(k:Int)<(m:Int):=by omega
   have hkw:IntKind.i64.wrap ((k:Int)+1)=(k:Int)+1:=by rw[IntKind.wrap_i64];omega
   have hb2:=Az (hB.out.alloc hB.out.size (.cells #[.string ⟨nm.toArray⟩,.int .i64 (pl:Int)] 88));replace hstep':=Az hstep';replace hit:=Az hit;clear hcell hv e1 e2 hF hstep;by_cases hn:nm=s
   ·subst hn;have hq:(nm==nm)=true:=beq_self_eq_true nm;by_cases hp:pl<n
    ·have hp':(pl:Int)<(n:Int):=by omega
     have hfin:fin=(pl:Int):=hit.out rfl hp;subst hfin;clear hit hstep';go_wp2;go_ret;exact⟨rfl,hb2.out⟩
    ·have hp':¬(pl:Int)<(n:Int):=by omega
     replace hstep':=Az (hstep'.out (fun h=>hp h.2));clear hit;go_wp2;go_roundw
     case rel=>exact⟨k+1,by go_num,hlt,hstep',hb2⟩
     case measure=>simp[intOf];omega
   ·have hq:(nm==s)=false:=Bq hn;replace hstep':=Az (hstep'.out (fun h=>hn h.1));clear hit;go_wp2;go_roundw
    case rel=>exact⟨k+1,by go_num,hlt,hstep',hb2⟩
    case measure=>simp[intOf];omega
  ·obtain rfl:k=m:=by omega
   have hge:¬(k:Int)<(k:Int):=by omega
   have hfin:fin = -1:=by rw[←hF.out,List.drop_eq_nil_of_le (by rw[hk0.out];exact Nl _)];rfl
   subst hfin;go_wp2;go_ret;exact⟨rfl,hB.out⟩
structure Cr (B:Nat) (Ts:List TypeId) (M:Nat→Prop) (w w':World):Prop where
 os:w'.os=w.os
 tape:w'.tape=w.tape
 output:w'.output=w.output
 size:w.heap.size≤w'.heap.size
 block:∀ k,k<w.heap.size→(k<B∨(¬M k∧∀ cs t fr,w.heap[k]?=some (.cells cs t fr)→t∉Ts))→w'.heap[k]?=w.heap[k]?
section
variable {B:Nat} {Ts Ts':List TypeId} {M:Nat→Prop} {a w w':World}
theorem Cr.refl(B:Nat)(Ts:List TypeId)(M:Nat→Prop)(w:World):Cr B Ts M w w:=⟨rfl,rfl,rfl,Nl _,fun _ _ _=>rfl⟩
theorem Cr.trans{b c:World}(h:Cr B Ts M a b)(k:Cr B Ts M b c):Cr B Ts M a c :=
 ⟨k.os.trans h.os,k.tape.trans h.tape,k.output.trans h.output,Nat.le_trans h.size k.size,fun i hi hc=>by
  have e:=h.block i hi hc;rw[k.block i (Nat.lt_of_lt_of_le hi h.size) (hc.imp id fun⟨h1,h2⟩=>⟨h1,fun cs t fr ht=>h2 cs t fr (by rw[←e];exact ht)⟩),e]⟩
theorem Cr.mono(h:Cr B Ts M w w')(hs:∀ t∈Ts,t∈Ts'):Cr B Ts' M w w' :=
 ⟨h.os,h.tape,h.output,h.size,fun k hk hc=>h.block k hk (hc.imp id fun⟨h1,h2⟩=>⟨h1,fun cs t fr ht hm=>h2 cs t fr ht (hs t hm)⟩)⟩
theorem Cr.CF(h:Below w.heap.size w w'):Cr B Ts M w w':=⟨h.os,h.tape,h.output,h.size,fun k hk _=>h.block k hk⟩
theorem Cr.below(h:Cr B Ts M w w')(hB:B≤w.heap.size):Below B w w':=⟨h.os,h.tape,h.output,h.size,fun k hk=>h.block k (by omega) (.inl hk)⟩
theorem Cr.set(h:Cr B Ts M a w){p:Addr}{cs:Array Value}{t:TypeId}{fr:Nat×Nat}(hp:w.heap[p.block]?=some (.cells cs t fr))(ht:t∈Ts)(hB:B≤p.block)(v:Value):Cr B Ts M a (w.setCell p v) :=
 h.trans ⟨rfl,rfl,rfl,by simp[World.setCell],fun k hk hc=>Below.heap_setCell _ _ _ _ fun e=>by
  subst e;rcases hc with hc |⟨_,hc⟩
  ·omega
  ·exact hc cs t fr hp ht⟩
theorem Cr.grown(h:Cr B Ts M a w){e:TypeId}{size n:Nat}{v:Value}{xs:List Value}(ho:w.ownsRow B e size v n xs)(ht:e∈Ts)(hg:w.grownBy w' v.ownBlock):Cr B Ts M a w' :=
 h.trans ⟨hg.os,hg.tape,hg.output,hg.size,fun k hk hc=>hg.block k hk fun e1=>by
  rcases ho.2 with ⟨rfl,_⟩ |⟨g,cap,cur,rfl,hb,hh,_⟩
  ·cases e1
  ·have:k=g:=by simpa [Value.ownBlock]using e1
   subst this;rcases hc with hc |⟨_,hc⟩
   ·omega
   ·exact hc cur e (0,0) hh ht⟩
theorem Cr.then(h:Cr B Ts M a w)(k:Below w.heap.size w w'):Cr B Ts M a w':=h.trans (Cr.CF k)
theorem Cr.drew(h:Cr B Ts M a w):Cr B Ts M a w.drew:=⟨h.os,h.tape,h.output,h.size,h.block⟩
theorem Cr.G8(h:Cr B Ts M w w'){g:Nat}{cs:Array Value}{t:TypeId}{fr:Nat×Nat}(hg:w.heap[g]?=some (.cells cs t fr))(ht:t∉Ts)(hm:¬M g):w'.heap[g]?=some (.cells cs t fr) :=
 (h.block g (Bl hg) (.inr ⟨hm,fun cs' t' fr' he=>by rw[hg]at he;cases he;exact ht⟩)).trans hg
theorem Cr.own(h:Cr B Ts M w w'){base:Nat}{e:TypeId}{size n:Nat}{v:Value}{xs:List Value}(ho:w.ownsRow base e size v n xs)(ht:e∉Ts)(hm:∀ k,v.ownBlock=some k→¬M k):w'.ownsRow base e size v n xs:=by
 refine Om ho fun k hk=>?_
 rcases ho.2 with ⟨rfl,_⟩ |⟨g,cap,cur,rfl,hb,hh,_⟩
 ·cases hk
 ·have:k=g:=by simpa [Value.ownBlock]using hk.symm
  subst this;exact(h.G8 hh ht (hm k hk)).trans hh.symm
end
theorem DD{W:World}{base:Nat}{e:TypeId}{size n g c:Nat}{xs:List Value}(h:W.ownsRow base e size (.slice (some ⟨g,0,none⟩) n c) n xs)(j:Nat)(hj:j<n*size)(u:Value) :
  (W.setCell ⟨g,j,none⟩ u).ownsRow base e size (.slice (some ⟨g,0,none⟩) n c) n (xs.set j u):=by
 obtain⟨h1,h2⟩:=h;refine⟨by rw[List.length_set];exact h1,?_⟩;rcases h2 with ⟨e1,_⟩ |⟨g',cap,cur,e1,hg,hh,hc,hm,hs,ht⟩
 ·cases e1
 ·cases e1;refine .inr ⟨g,c,cur.set! j u,rfl,hg,?_,hc,hm,by simpa using hs,?_⟩
  ·simpa using Bs hh j u
  ·rw[←ht];simp[List.take_set]
theorem Ml:(Tryz.prog.info? 133).map (fun i=>(i.zero,i.size,i.bytes))=some (some (.agg K1),9,72):=by kernel_rfl
def Cy:List CoreM→List Value
 |[]=>[]
 |c::l=>c.arr.toList++Cy l
theorem GG:∀ (l:List CoreM) (c:CoreM),Cy (l++[c])=Cy l++c.arr.toList
 |[],c=>by simp[Cy]
 |d::l,c=>by simp[Cy,GG l c]
theorem U3(a0 a1 a2 a3 a4 a5 a6 a7 a8:Value)(r:List Value)(k:Nat):(a0::a1::a2::a3::a4::a5::a6::a7::a8::r)[k+9]?=r[k]?:=rfl
theorem IG:∀ (l:List CoreM) (t j:Nat),t<l.length→j<9→(∀ c∈l,c.ok)→(Cy l)[t*9+j]?=(l.getD t ⟨[],0⟩).arr[j]?
 |c::l,0,j,_,hj,h=>by
  obtain⟨a0,a1,a2,a3,a4,a5,a6,a7,a8,he⟩:=Cn (h c (List.mem_cons_self ..)).len;simp only[Cy,he,Nat.zero_mul,Nat.zero_add,List.getD_cons_zero];rw[List.getElem?_append_left (by simpa using hj),Array.getElem?_toList]
 |c::l,t+1,j,ht,hj,h=>by
  obtain⟨a0,a1,a2,a3,a4,a5,a6,a7,a8,he⟩:=Cn (h c (List.mem_cons_self ..)).len;have ih:=IG l t j (by simpa using ht) hj (fun c hc=>h c (List.mem_cons_of_mem _ hc));rw[show(t+1)*9+j=(t*9+j)+9 by omega];simp only[Cy,he,List.getD_cons_succ];exact(U3 _ _ _ _ _ _ _ _ _ _ _).trans ih
def VZ(l:List Value)(k:Nat)(z0 z1 z2 z3 z4 z5 z6 z7 z8:Value):List Value:=((((((((l.set k z0).set (k+1) z1).set (k+2) z2).set (k+3) z3).set (k+4) z4).set (k+5) z5).set (k+6) z6).set (k+7) z7).set (k+8) z8
theorem H7{c':CoreM}{z0 z1 z2 z3 z4 z5 z6 z7 z8:Value}(hz:c'.arr=#[z0,z1,z2,z3,z4,z5,z6,z7,z8]):∀ (l:List CoreM) (t:Nat),t<l.length→(∀ c∈l,c.ok) →
  VZ (Cy l) (t*9) z0 z1 z2 z3 z4 z5 z6 z7 z8=Cy (l.set t c')
 |c::l,0,_,h=>by
  obtain⟨a0,a1,a2,a3,a4,a5,a6,a7,a8,he⟩:=Cn (h c (List.mem_cons_self ..)).len;simp[Cy,he,hz,VZ]
 |c::l,t+1,ht,h=>by
  obtain⟨a0,a1,a2,a3,a4,a5,a6,a7,a8,he⟩:=Cn (h c (List.mem_cons_self ..)).len;have ih:=H7 hz l t (by simpa using ht) (fun c hc=>h c (List.mem_cons_of_mem _ hc));unfold VZ at ih ⊢;simp only[Cy,he,Sc,List.cons_append,List.nil_append];rw[←ih,show(t+1)*9=t*9+9 by omega,show t*9+9+1=t*9+1+9 by omega,show t*9+9+2=t*9+2+9 by omega,show t*9+9+3=t*9+3+9 by omega,show t*9+9+4=t*9+4+9 by omega,
   show t*9+9+5=t*9+5+9 by omega,show t*9+9+6=t*9+6+9 by omega,show t*9+9+7=t*9+7+9 by omega,show t*9+9+8=t*9+8+9 by omega]
  rfl
def ED(W:World)(N:Nat)(v:Value)(xs:List CoreM):Prop:=W.ownsRow N 133 9 v xs.length (Cy xs)
def Eu(W:World)(N:Nat)(v:Value)(xs:List Nat):Prop:=W.ownsRow N 22 1 v xs.length (xs.map fun x:Nat=>Value.int .u32 x)
def DW(xs:List (Nat×Nat)):List Value:=xs.flatMap fun p=>[.int .i64 (p.1:Int),.int .i64 (p.2:Int)]
def Dl(W:World)(N:Nat)(v:Value)(xs:List (Nat×Nat)):Prop:=W.ownsRow N 106 2 v xs.length (DW xs)
theorem FP{W:World}{b b':Nat}{e:TypeId}{size n:Nat}{v:Value}{xs:List Value}(h:W.ownsRow b e size v n xs)(hb:b'≤b):W.ownsRow b' e size v n xs:=by
 obtain⟨h1,h2⟩:=h;refine⟨h1,h2.imp id ?_⟩;rintro⟨g,cap,cur,hv,hg,r⟩;exact⟨g,cap,cur,hv,Nat.le_trans hb hg,r⟩
theorem U4{W:World}{base:Nat}{e:TypeId}{size n g c:Nat}{xs:List Value}(h:W.ownsRow base e size (.slice (some ⟨g,0,none⟩) n c) n xs)(k:Nat)(hk:k+8<n*size)(v0 v1 v2 v3 v4 v5 v6 v7 v8:Value) :
  (((((((((W.setCell ⟨g,k,none⟩ v0).setCell ⟨g,k+1,none⟩ v1).setCell ⟨g,k+2,none⟩ v2).setCell ⟨g,k+3,none⟩ v3).setCell ⟨g,k+4,none⟩ v4).setCell ⟨g,k+5,none⟩ v5).setCell ⟨g,k+6,none⟩ v6).setCell ⟨g,k+7,none⟩ v7).setCell ⟨g,k+8,none⟩ v8).ownsRow base e size (.slice (some ⟨g,0,none⟩) n c) n (VZ xs k v0 v1 v2 v3 v4 v5 v6 v7 v8) :=
 DD (DD (DD (DD (DD (DD (DD (DD (DD h k (by omega) v0) (k+1) (by omega) v1) (k+2) (by omega) v2) (k+3) (by omega) v3) (k+4) (by omega) v4) (k+5) (by omega) v5) (k+6) (by omega) v6) (k+7) (by omega) v7) (k+8) (by omega) v8
theorem U5{B:Nat}{Ts:List TypeId}{M:Nat→Prop}{a W:World}{g k:Nat}{cs:Array Value}{t:TypeId}(h:Cr B Ts M a W)(hg:W.heap[g]?=some (.cells cs t (0,0)))(ht:t∈Ts)(hB:B≤g)(v0 v1 v2 v3 v4 v5 v6 v7 v8:Value) :
  Cr B Ts M a (((((((((W.setCell ⟨g,k,none⟩ v0).setCell ⟨g,k+1,none⟩ v1).setCell ⟨g,k+2,none⟩ v2).setCell ⟨g,k+3,none⟩ v3).setCell ⟨g,k+4,none⟩ v4).setCell ⟨g,k+5,none⟩ v5).setCell ⟨g,k+6,none⟩ v6).setCell ⟨g,k+7,none⟩ v7).setCell ⟨g,k+8,none⟩ v8):=by
 have b0:=Bs hg k v0;have f0:=h.set (p:=⟨g,k,none⟩) hg ht hB v0;have b1:=Bs b0 (k+1) v1;have f1:=f0.set (p:=⟨g,k+1,none⟩) b0 ht hB v1;have b2:=Bs b1 (k+2) v2;have f2:=f1.set (p:=⟨g,k+2,none⟩) b1 ht hB v2;have b3:=Bs b2 (k+3) v3;have f3:=f2.set (p:=⟨g,k+3,none⟩) b2 ht hB v3;have b4:=Bs b3 (k+4) v4;have f4:=f3.set (p:=⟨g,k+4,none⟩) b3 ht hB v4;have b5:=Bs b4 (k+5) v5;have f5:=f4.set (p:=⟨g,k+5,none⟩) b4 ht hB v5;have b6:=Bs b5 (k+6) v6;have f6:=f5.set (p:=⟨g,k+6,none⟩) b5 ht hB v6;have b7:=Bs b6 (k+7) v7;have f7:=f6.set (p:=⟨g,k+7,none⟩) b6 ht hB v7;exact f7.set (p:=⟨g,k+8,none⟩) b7 ht hB v8
def IZ:List TypeId:=[133,22,80]
structure Dm (w W:World) (px:Nat) (vl vc vw vr:Value) (pl:Option Addr) (x:AM):Prop where
 b:Below w.heap.size w W
 LA:w.heap.size≤px
 bx:∃ acc:Int,W.heap[px]?=some (.cells #[vl,.int .i64 x.pg.lock,.int .i64 x.pg.unlock,vc,vw,.pointer pl,vr,.int .i64 acc] 80 (0,0))
 code:Cj w vl x.pg.l.length (Bu x.pg.l)
 cells:Dl W w.heap.size vc x.cells
 words:Eu W w.heap.size vw x.words
 AQ:ED W w.heap.size vr x.AQ
 ok:∀ c∈x.AQ,c.ok
 UT:∀ v∈x.words,v<4294967296
section
variable {w W W1:World} {px:Nat} {vl vc vw vr:Value} {pl:Option Addr} {x:AM} {M:Nat→Prop}
theorem Dm.hz(h:Dm w W px vl vc vw vr pl x):w.heap.size≤W.heap.size:=h.b.size
theorem Dm.keep(h:Dm w W px vl vc vw vr pl x)(hb:Below W.heap.size W W1):Dm w W1 px vl vc vw vr pl x :=
 ⟨h.b.trans (hb.mono h.hz),h.LA,h.bx.imp fun _ hb'=>Bk hb hb',h.code,Om h.cells (fun k hk=>hb.block k (Ol h.cells k hk)),Om h.words (fun k hk=>hb.block k (Ol h.words k hk)),Om h.AQ (fun k hk=>hb.block k (Ol h.AQ k hk)),h.ok,h.UT⟩
theorem Dm.core(h:Dm w W px vl vc vw vr pl x){t:Nat}(ht:t<x.AQ.length):(x.core t).ok:=by
 refine h.ok _ ?_;unfold AM.core;rw[List.getD_eq_getElem?_getD,List.getElem?_eq_getElem ht];exact List.getElem_mem _
theorem Dm.row(h:Dm w W px vl vc vw vr pl x){t:Nat}(ht:t<x.AQ.length) :
  ∃ g c,vr=.slice (some ⟨g,0,none⟩) x.AQ.length c∧w.heap.size≤g∧(∃ cs,W.heap[g]?=some (.cells cs 133 (0,0)))∧∀ j,j<9→W.cell? ⟨g,t*9+j,none⟩=(x.core t).arr[j]?:=by
 obtain⟨g,c,hv,_,hg,⟨cs,hcs,_⟩,hcell⟩:=CJ h.AQ (by omega);refine⟨g,c,hv,hg,⟨cs,hcs⟩,fun j hj=>?_⟩;have e:=IG x.AQ t j ht hj h.ok;have hl:∃ y,(x.core t).arr[j]?=some y:=⟨_,Array.getElem?_eq_getElem (by rw[O7 _ (h.core ht).len];exact hj)⟩
 obtain⟨y,hy⟩:=hl;rw[hy];exact hcell _ _ (e.trans hy)
theorem Nb{W:World}{b1 b2:Nat}{e1 e2:TypeId}{s1 s2 n1 n2 g c:Nat}{v:Value}{xs ys:List Value}(h1:W.ownsRow b1 e1 s1 v n1 xs)(h2:W.ownsRow b2 e2 s2 (.slice (some ⟨g,0,none⟩) n2 c) n2 ys)(hne:e1≠e2):∀ k,v.ownBlock=some k→k≠g:=by
 intro k hk e;subst e;rcases h2.2 with ⟨h,_⟩ |⟨g',cap,cur,h,_,hh,_⟩
 ·cases h
 ·cases h;exact Oa h1 hh hne hk.symm
theorem Dm.put{g cap t:Nat}{c':CoreM}{v0 v1 v2 v3 v4 v5 v6 v7 v8:Value}(h:Dm w W px vl vc vw vr pl x)(hv:vr=.slice (some ⟨g,0,none⟩) x.AQ.length cap)(ht:t<x.AQ.length)(hc:c'.arr=#[v0,v1,v2,v3,v4,v5,v6,v7,v8])(ho:c'.ok) :
  ∀ W',W'=(((((((((W.setCell ⟨g,t*9,none⟩ v0).setCell ⟨g,t*9+1,none⟩ v1).setCell ⟨g,t*9+2,none⟩ v2).setCell ⟨g,t*9+3,none⟩ v3).setCell ⟨g,t*9+4,none⟩ v4).setCell ⟨g,t*9+5,none⟩ v5).setCell ⟨g,t*9+6,none⟩ v6).setCell ⟨g,t*9+7,none⟩ v7).setCell ⟨g,t*9+8,none⟩ v8)→Dm w W' px vl vc vw vr pl {x with AQ:=x.AQ.set t c'}∧Cr w.heap.size IZ M W W':=by
 rintro W' rfl;subst hv;have hcores:=h.AQ;unfold ED at hcores;obtain⟨g',c2,hv2,hg,⟨cs,hcs⟩,_⟩:=h.row ht;obtain⟨rfl,rfl⟩:g=g'∧cap=c2:=by cases hv2;exact⟨rfl,rfl⟩
 obtain⟨acc,hbx⟩:=h.bx;have F:Cr w.heap.size IZ M W _:=U5 (k:=t*9) (Cr.refl _ _ _ W) hcs (by decide) hg v0 v1 v2 v3 v4 v5 v6 v7 v8;have far:∀ k,k≠g→((((((((((W.setCell ⟨g,t*9,none⟩ v0).setCell ⟨g,t*9+1,none⟩ v1).setCell ⟨g,t*9+2,none⟩ v2).setCell ⟨g,t*9+3,none⟩ v3).setCell ⟨g,t*9+4,none⟩ v4).setCell ⟨g,t*9+5,none⟩ v5).setCell ⟨g,t*9+6,none⟩ v6).setCell ⟨g,t*9+7,none⟩ v7).setCell ⟨g,t*9+8,none⟩ v8)).heap[k]?=W.heap[k]?:=fun k hk=>by
  rw[Below.heap_setCell _ ⟨g,t*9+8,none⟩ _ k hk,Below.heap_setCell _ ⟨g,t*9+7,none⟩ _ k hk,Below.heap_setCell _ ⟨g,t*9+6,none⟩ _ k hk,Below.heap_setCell _ ⟨g,t*9+5,none⟩ _ k hk,Below.heap_setCell _ ⟨g,t*9+4,none⟩ _ k hk,Below.heap_setCell _ ⟨g,t*9+3,none⟩ _ k hk,Below.heap_setCell _ ⟨g,t*9+2,none⟩ _ k hk,Below.heap_setCell _ ⟨g,t*9+1,none⟩ _ k hk,Below.heap_setCell _ ⟨g,t*9,none⟩ _ k hk]
 refine⟨⟨h.b.trans (F.below h.hz),h.LA,⟨acc,(far px (CU hbx hcs (by decide))).trans hbx⟩,h.code,Om h.cells (fun k hk=>far k (Nb h.cells hcores (by decide) k hk)),Om h.words (fun k hk=>far k (Nb h.words hcores (by decide) k hk)),?_,?_,h.UT⟩,F⟩
 ·unfold ED;rw[←H7 hc x.AQ t ht h.ok,List.length_set];exact U4 hcores (t*9) (by omega) v0 v1 v2 v3 v4 v5 v6 v7 v8
 ·intro c hcm;rcases List.mem_or_eq_of_mem_set hcm with hm |rfl
  ·exact h.ok c hm
  ·exact ho
end
end
end Go.Proofs.YtnmahobjmpdkdaaGreatDoor

/- Parts: AsmA, Awake7, Same. -/
import Derived.Test.YtjjpiefgdggghaaGreatDoorZ02
import Derived.Test.YtjjpiefgdggghaaGreatDoorZ24
import Derived.Test.YtjjpiefgdggghaaGreatDoorZ10
import Derived.Test.YtjjpiefgdggghaaGreatDoorZ05
import Derived.Test.YtjjpiefgdggghaaGreatDoorZ16
import Derived.Deep.RegionHeld3
set_option linter.unusedVariables false
set_option linter.unusedSimpArgs false
set_option maxRecDepth 100000
set_option maxHeartbeats 40000000
namespace Go.Proofs.YtjjpiefgdggghaaGreatDoor
section
open Go.RowKit Go.Proofs.YtjjpiefgdggghaaGreatDoorW.PrintWords
attribute [local go_sem] Oper.semAt_some run_makeMap
theorem LB{t:List UInt8}{pre rest:List (List UInt8)}(h:AH t=pre++rest)(hb:(BR pre 0 Src.zero).2.2≠0):At t=(Pg.zero,(BR pre 0 Src.zero).2.1,(BR pre 0 Src.zero).2.2):=by
 unfold At;rw[h,HP rest pre 0 Src.zero hb];simp only[];rw[if_pos hb]
theorem NP{t:List UInt8}(hb:(BR (AH t) 0 Src.zero).2.2=0):At t =
  match FA (BR (AH t) 0 Src.zero).1 0 []with
  |.inr e=>(Pg.zero,e,10)
  |.inl k=>match (BR (AH t) 0 Src.zero).1.place [108,111,99,107],(BR (AH t) 0 Src.zero).1.place [117,110,108,111,99,107]with
   |some a,some b=>(⟨k,a,b⟩,0,0)
   |_,_=>(Pg.zero,0,10):=by
 unfold At;rw[LC];simp only[];rw[if_neg (by rw[hb];simp)];cases fixF (BR (AH t) 0 Src.zero).1 (BR (AH t) 0 Src.zero).1.l (BR (AH t) 0 Src.zero).1.names (BR (AH t) 0 Src.zero).1.rows<;>rfl
def Pe(w:World)(fin:Pg×Int×Int)(e:Ending)(w':World):Prop :=
 ∃ v,e=.returned (.tuple #[.agg #[v,.int .i64 fin.1.lock,.int .i64 fin.1.unlock],.int .i64 fin.2.1,.int .i64 fin.2.2])∧BN w' w.heap.size v fin.1.l∧Below w.heap.size w w'
theorem NQ(w:World)(fin:Pg×Int×Int)(a:Act)(W:World)(D:Nat)(v:Value)(hd:a.defers=[{target:=.collected D,args:=#[]}])(hD:W.heap[D]?=some (.deferred (some [])))(hN:w.heap.size+8≤D)
  (h2:a.tmps.getD 2 undef=.pointer (some ⟨w.heap.size,0,none⟩))(h3:a.tmps.getD 3 undef=.pointer (some ⟨w.heap.size+1,0,none⟩))(h4:a.tmps.getD 4 undef=.pointer (some ⟨w.heap.size+2,0,none⟩))
  (c2:W.heap[w.heap.size]?=some (.cells #[v,.int .i64 fin.1.lock,.int .i64 fin.1.unlock] 35 (0,0)))(c3:W.heap[w.heap.size+1]?=some (.cells #[.int .i64 fin.2.1] 3 (0,0)))
  (c4:W.heap[w.heap.size+2]?=some (.cells #[.int .i64 fin.2.2] 38 (0,0)))(hr:BN W w.heap.size v fin.1.l)(hb:Below w.heap.size w W) :
  bodyPostM Fence.wide 9 Tryz.prog Tryz.f35 (Pe w fin) .ret a W:=by
 have far:∀ {j:Nat} {o:Obj},W.heap[j]?=some o→j<w.heap.size+8→(W.putObj D (.deferred none)).heap[j]?=some o:=fun hj hlt=>(World.putObj_heap_other (by omega)).trans hj
 refine LD hd hD ⟨_,Jt rfl _ _ _ _ _ #[v,.int .i64 fin.1.lock,.int .i64 fin.1.unlock] (.int .i64 fin.2.1) (.int .i64 fin.2.2) (0,0) (0,0) (0,0) _ h2 (far c2 (by omega)) Tryz.underlying35 rfl (by kernel_rfl) h3 ?_ h4 ?_,v,rfl,?_,FP hb (by omega) _⟩
 ·have c:=far c3 (by omega);have c0:(W.putObj D (.deferred none)).cell? ⟨w.heap.size+1,0,none⟩=some (.int .i64 fin.2.1):=(Bc c 0).trans rfl;go_simp
 ·have c:=far c4 (by omega);have c0:(W.putObj D (.deferred none)).cell? ⟨w.heap.size+2,0,none⟩=some (.int .i64 fin.2.2):=(Bc c 0).trans rfl;go_simp
 ·exact Om hr fun j hj=>by
   obtain⟨cells,hc⟩:=Cg hr j hj;refine World.putObj_heap_other (fun e=>?_);subst e;rw[hD]at hc;cases hc
theorem BU{w:World}{n:Nat}(h:w.heap.size=n)(o:Obj):(w.alloc o).heap[n]?=some o:=h▸Bv w o
theorem AI.start(w:World)(t:List UInt8) :
  AI w ((((((((w.alloc (.cells #[.slice none 0 0,.int .i64 0,.int .i64 0] 35)).alloc (.cells #[.int .i64 0] 3)).alloc (.cells #[.int .i64 0] 38)).alloc (.map #[] 0)).alloc
  (.cells #[.slice none 0 0,.slice none 0 0,.slice none 0 0,.map (some (w.heap.size+3))] 121)).alloc (.cells #[.pointer (some ⟨w.heap.size+4,0,none⟩)] 118)).alloc (.cells #[.int .i64 0] 3)).alloc (.cells #[.string ⟨t.toArray⟩] 9)) w.heap.size Src.zero 0∧((((((((w.alloc (.cells #[.slice none 0 0,.int .i64 0,.int .i64 0] 35)).alloc (.cells #[.int .i64 0] 3)).alloc (.cells #[.int .i64 0] 38)).alloc (.map #[] 0)).alloc
  (.cells #[.slice none 0 0,.slice none 0 0,.slice none 0 0,.map (some (w.heap.size+3))] 121)).alloc (.cells #[.pointer (some ⟨w.heap.size+4,0,none⟩)] 118)).alloc (.cells #[.int .i64 0] 3)).alloc (.cells #[.string ⟨t.toArray⟩] 9)).heap[w.heap.size+7]?=some (.cells #[.string ⟨t.toArray⟩] 9 (0,0))∧((((((((w.alloc (.cells #[.slice none 0 0,.int .i64 0,.int .i64 0] 35)).alloc (.cells #[.int .i64 0] 3)).alloc (.cells #[.int .i64 0] 38)).alloc (.map #[] 0)).alloc
  (.cells #[.slice none 0 0,.slice none 0 0,.slice none 0 0,.map (some (w.heap.size+3))] 121)).alloc (.cells #[.pointer (some ⟨w.heap.size+4,0,none⟩)] 118)).alloc (.cells #[.int .i64 0] 3)).alloc (.cells #[.string ⟨t.toArray⟩] 9)).heap.size=w.heap.size+8:=by
 have hm:=DU.made (((w.alloc (.cells #[.slice none 0 0,.int .i64 0,.int .i64 0] 35)).alloc (.cells #[.int .i64 0] 3)).alloc (.cells #[.int .i64 0] 38));obtain⟨w1,e1⟩:∃ x,w.alloc (.cells #[.slice none 0 0,.int .i64 0,.int .i64 0] 35)=x:=⟨_,rfl⟩
 have z1:w1.heap.size=w.heap.size+1:=by rw[←e1];simp
 have n0:w1.heap[w.heap.size]?=_:=e1▸Bv w _;have b1:Below w.heap.size w w1:=e1▸(Below.refl _ w).alloc (Nl _) _;rw[e1]at hm ⊢;obtain⟨w2,e2⟩:∃ x,w1.alloc (.cells #[.int .i64 0] 3)=x:=⟨_,rfl⟩
 have z2:w2.heap.size=w.heap.size+2:=by rw[←e2];simp[z1]
 have n1:w2.heap[w.heap.size+1]?=_:=e2▸BU z1 _;replace n0:=e2▸As n0 (.cells #[.int .i64 0] 3);have b2:Below w.heap.size w w2:=e2▸b1.alloc (by omega) _;rw[e2]at hm ⊢;obtain⟨w3,e3⟩:∃ x,w2.alloc (.cells #[.int .i64 0] 38)=x:=⟨_,rfl⟩
 have z3:w3.heap.size=w.heap.size+3:=by rw[←e3];simp[z2]
 have n2:w3.heap[w.heap.size+2]?=_:=e3▸BU z2 _;replace n0:=e3▸As n0 (.cells #[.int .i64 0] 38);replace n1:=e3▸As n1 (.cells #[.int .i64 0] 38);have b3:Below w.heap.size w w3:=e3▸b2.alloc (by omega) _;rw[e3]at hm ⊢;rw[z3]at hm;obtain⟨w4,e4⟩:∃ x,w3.alloc (.map #[] 0)=x:=⟨_,rfl⟩
 have z4:w4.heap.size=w.heap.size+4:=by rw[←e4];simp[z3]
 have k3:Below w3.heap.size w3 w4:=e4▸Bw w3 _;rw[e4]at hm ⊢;obtain⟨w5,e5⟩:∃ x,w4.alloc (.cells #[.slice none 0 0,.slice none 0 0,.slice none 0 0,.map (some (w.heap.size+3))] 121)=x:=⟨_,rfl⟩
 have z5:w5.heap.size=w.heap.size+5:=by rw[←e5];simp[z4]
 have n4:w5.heap[w.heap.size+4]?=_:=e5▸BU z4 _;have k4:Below w4.heap.size w4 w5:=e5▸Bw w4 _;rw[e5];obtain⟨w6,e6⟩:∃ x,w5.alloc (.cells #[.pointer (some ⟨w.heap.size+4,0,none⟩)] 118)=x:=⟨_,rfl⟩
 have z6:w6.heap.size=w.heap.size+6:=by rw[←e6];simp[z5]
 have n5:w6.heap[w.heap.size+5]?=_:=e6▸BU z5 _;have k5:Below w5.heap.size w5 w6:=e6▸Bw w5 _;rw[e6];obtain⟨w7,e7⟩:∃ x,w6.alloc (.cells #[.int .i64 0] 3)=x:=⟨_,rfl⟩
 have z7:w7.heap.size=w.heap.size+7:=by rw[←e7];simp[z6]
 have n6:w7.heap[w.heap.size+6]?=_:=e7▸BU z6 _;have k6:Below w6.heap.size w6 w7:=e7▸Bw w6 _;rw[e7];obtain⟨w8,e8⟩:∃ x,w7.alloc (.cells #[.string ⟨t.toArray⟩] 9)=x:=⟨_,rfl⟩
 have z8:w8.heap.size=w.heap.size+8:=by rw[←e8];simp[z7]
 have n7:w8.heap[w.heap.size+7]?=_:=e8▸BU z7 _;have k7:Below w7.heap.size w7 w8:=e8▸Bw w7 _;rw[e8];have k48:Below w4.heap.size w4 w8:=((k4.trans (k5.mono (by omega))).trans (k6.mono (by omega))).trans (k7.mono (by omega));have k38:Below w3.heap.size w3 w8:=k3.trans (k48.mono (by omega));have k58:Below w5.heap.size w5 w8:=(k5.trans (k6.mono (by omega))).trans (k7.mono (by omega));have k68:Below w6.heap.size w6 w8:=k6.trans (k7.mono (by omega));have nn:∀ j:Nat,(Value.slice none 0 0).ownBlock=some j→w.heap.size+8≤j:=fun j h=>by cases h
 exact⟨⟨b3.trans (k38.mono (by omega)),Bk k38 n0,Bk k38 n1,Bk k38 n2,Bk k68 n5,Bk k7 n6,by omega,⟨rfl,rfl,by simp[Src.zero],Nl _,fun s h=>by cases h⟩,
  _,_,_,⟨Bk k58 n4,.nil _ _,.nil _ _,.nil _ _,hm.keep (k48.block _ hm.lt),by omega,by omega⟩,nn,nn,nn⟩,n7,z8⟩
theorem C9(t:List UInt8)(w:World)(he:Env w)(ht:t.length≤90000) :
  Calls Tryz.prog 35 #[.string ⟨t.toArray⟩] w fun e w'=>∃ v,e=.returned (.tuple #[.agg #[v,.int .i64 (At t).1.lock,.int .i64 (At t).1.unlock],.int .i64 (At t).2.1,.int .i64 (At t).2.2]) ∧
   BN w' w.heap.size v (At t).1.l∧Below w.heap.size w w':=by
 obtain⟨fin,hA⟩:∃ fin,At t=fin:=⟨_,rfl⟩
 rw[hA];refine callsIn_wide.1 (callsIn_of_wp_marks (n:=9) Tryz.func35 rfl trivial ?_ rfl);simp only[Tryz.ntmps35,List.size_toArray,List.length_cons,List.length_nil,Nat.reduceAdd,Nat.reduceSub,Array.replicate_succ,Array.replicate_zero,List.push_toArray,List.append_toArray,List.nil_append,List.cons_append];refine wpIn_wide.2 ?_;have hQ:=Az (fun a W D v=>NQ w fin a W D v)
 change Code.wp Tryz.prog _ (bodyPostM Fence.wide 9 Tryz.prog Tryz.f35 (Pe w fin)) _ w
 generalize bodyPostM Fence.wide 9 Tryz.prog Tryz.f35 (Pe w fin)=Q at hQ ⊢;replace hA:=Az hA;have L:=Az (fun W=>Ju t W);go_wp2_with fail
 refine(L.out _).mono ?_;rintro e w1 ⟨rfl,rfl⟩;go_wp2_with fail
 simp only[Nat.add_assoc,Nat.reduceAdd];obtain⟨hI0,h70,hz0⟩:=AI.start w t;generalize ((((((((w.alloc (.cells #[.slice none 0 0,.int .i64 0,.int .i64 0] 35)).alloc (.cells #[.int .i64 0] 3)).alloc (.cells #[.int .i64 0] 38)).alloc (.map #[] 0)).alloc  (.cells #[.slice none 0 0,.slice none 0 0,.slice none 0 0,.map (some (w.heap.size+3))] 121)).alloc (.cells #[.pointer (some ⟨w.heap.size+4,0,none⟩)] 118)).alloc (.cells #[.int .i64 0] 3)).alloc (.cells #[.string ⟨t.toArray⟩] 9))=W0 at *;refine wpIn_wide.1 (Kt (F:=Fence.wide) (n:=9) (P:=Tryz.prog) (gf:=94) (lb:=#[.pointer (some ⟨w.heap.size+7,0,none⟩)]) rfl (by decide) rfl trivial (fun _ _=>rfl)
  (enc:=fun x:List UInt8=>Value.string ⟨x.toArray⟩) (c:=w.heap.size+7) (by omega) (Ku _ t _ W0 (by omega) h70)
  (fun pre W=>(BR pre 0 Src.zero).2.2=0∧AI w W w.heap.size (BR pre 0 Src.zero).1 pre.length) (fun pre W=>(BR pre 0 Src.zero).2.2≠0∧AX w W w.heap.size (BR pre 0 Src.zero).2.1 (BR pre 0 Src.zero).2.2)
  ?hI ?hIx ?hIp ?hIxp ?h0 ?a1 ?hassign ?hbody ?hdone ?hstop)
 case hassign =>
  intro l x W K hK
  gi_wp2
  exact hK
 case hI=>exact⟨fun s W W' h hb=>⟨h.1,h.2.keep hb⟩,fun s W v h=>⟨h.1,h.2.GV 0 v⟩⟩
 case hIx=>exact⟨fun s W W' h hb=>⟨h.1,h.2.far (h.2.b.trans (hb.mono (Nat.le_of_lt (Bl h.2.c2)))) fun j hj=>hb.block j (by have:=Bl h.2.c4;omega)⟩,
  fun s W v h=>⟨h.1,h.2.far (h.2.b.setCell (show w.heap.size≤w.heap.size+7 by omega) v) fun j hj=>Below.heap_setCell W ⟨w.heap.size+7,0,none⟩ v j (show j≠w.heap.size+7 by omega)⟩⟩
 case hIp=>exact fun s W l o o' h hl ho hn=>⟨h.1,h.2.put (by omega) ho hn⟩
 case hIxp=>exact fun s W l o o' h hl ho hn=>⟨h.1,h.2.far (FP h.2.b (by omega) o') fun j hj=>World.putObj_heap_other (by omega)⟩
 case h0=>exact⟨rfl,hI0⟩
 case hbody =>
  rintro l pre x W ⟨rest,hsp⟩ ⟨OP,hi⟩;have hx:x.length≤90000:=Nat.le_trans (EX t x (by rw[hsp];simp)) ht;have hpre:pre.length+1≤90000:=by
   have h1:=Gg t;rw[hsp]at h1;simp at h1;omega
  have hsn:=HQ x pre 0 Src.zero OP;generalize BR pre 0 Src.zero=r0 at *;have hw6:IntKind.i64.wrap ((pre.length:Int)+1)=(pre.length:Int)+1:=by rw[IntKind.wrap_i64];omega
  have hi1:=hi.num (pre.length+1) ⟨hi.ok.n,hi.ok.r,hi.ok.l,Nat.le_succ_of_le hi.ok.b,hi.ok.s⟩;have c6:W.cell? ⟨w.heap.size+6,0,none⟩=some (.int .i64 (pre.length:Int)):=(Bc hi.c6 0).trans rfl;have f6:=Bf hi.c6 0;have z6:w.heap.size+6<W.heap.size:=Bl hi.c6;have e61:((pre.length+1:Nat):Int)=(pre.length:Int)+1:=by omega
  rw[e61]at hi1;obtain⟨v0,v1,v2,hs,o0,o1,o2⟩:=hi1.s;have C:=Az (Kv _ _ _ _ (pre.length+1) _ _ _ _ x ((pre.length:Int)+1) (he.below (hi1.b)) hs hx (by have:=hi1.z;omega) hi1.ok (by omega));have hok:=MF r0.1 x ((pre.length:Int)+1) hi.ok;have c5:W.cell? ⟨w.heap.size+5,0,none⟩=some (.pointer (some ⟨w.heap.size+4,0,none⟩)):=(Bc hi.c5 0).trans rfl;have hk6:KeepsFrom W0.heap.size W (W.setCell ⟨w.heap.size+6,0,none⟩ (.int .i64 ((pre.length:Int)+1))):=KeepsFrom.setCell _ (show w.heap.size+6<W0.heap.size by omega);have hc6:(W.setCell ⟨w.heap.size+6,0,none⟩ (.int .i64 ((pre.length:Int)+1))).heap[w.heap.size+7]?=W.heap[w.heap.size+7]?:=Below.heap_setCell W ⟨w.heap.size+6,0,none⟩ _ _ (show w.heap.size+7≠w.heap.size+6 by omega);rw[Int.zero_add]at hsn;replace hi1:=Az hi1;replace hs:=Az hs;replace hsn:=Az hsn;replace hk6:=Az hk6;replace hc6:=Az hc6;replace hok:=Az hok;clear hi e61 hsp;have hline:=Az (fun(W1:World) (u0 u1 u2:Value) (hs1:Cr W1 w.heap.size (w.heap.size+4) (w.heap.size+3) u0 u1 u2 (BB r0.1 x ((pre.length:Int)+1)).1) hK1=>hi1.out.line hok.out o0 o1 o2 hs1 hK1);have hkl:=Az (fun(W1:World) (u0 u1 u2:Value) hK1=>KeepsFrom.line (W1:=W1) (u0:=u0) (u1:=u1) (u2:=u2) (B:=W0.heap.size) hs.out (by omega) (by omega) hK1);clear o0 o1 o2 hs hi1 hok;generalize BB r0.1 x ((pre.length:Int)+1)=ln at *;obtain⟨x',er⟩:=ln;dsimp only at hline hsn C
  gi_wp2
  refine⟨trivial,?_⟩;refine CallsIn.mono (CallsIn.inRound l (callsIn_wide.2 C.out)) ?_;rintro e W1 ⟨rfl,u0,u1,u2,hs1,hK1⟩;obtain⟨hi2,hc2⟩:=hline.out _ _ _ _ hs1 hK1;have hk2:=hk6.out.trans (hkl.out _ _ _ _ hK1);have hcc:=hc2.trans hc6.out;clear hline hkl hk6 hc6 hs1 hK1 C hc2;by_cases her:er=0
  ·subst her;have hr1:=Az (show BR (pre++[x]) 0 Src.zero=(x',(pre.length:Int)+1,0) by rw[hsn.out,if_pos rfl]);clear hsn;replace hi2:=Az hi2;replace hk2:=Az hk2;replace hcc:=Az hcc
   gi_wp2
   have e2:(pre++[x]).length=pre.length+1:=by simp
   refine⟨hk2.out,hcc.out,?_⟩
   show(BR (pre++[x]) 0 Src.zero).2.2=0∧AI w _ w.heap.size (BR (pre++[x]) 0 Src.zero).1 (pre++[x]).length
   rw[hr1.out,e2];exact⟨rfl,hi2.out⟩
  ·have hr1:=Az (show BR (pre++[x]) 0 Src.zero=(r0.1,(pre.length:Int)+1,er) by rw[hsn.out,if_neg her]);have hne:(er != 0)=true:=by simpa using her
   have c6':W1.cell? ⟨w.heap.size+6,0,none⟩=some (.int .i64 ((pre.length:Int)+1)):=(Bc hi2.c6 0).trans rfl;have c20:W1.cell? ⟨w.heap.size,0,none⟩=some (.slice none 0 0):=(Bc hi2.c2 0).trans rfl;have c21:W1.cell? ⟨w.heap.size,1,none⟩=some (.int .i64 0):=(Bc hi2.c2 1).trans rfl;have c22:W1.cell? ⟨w.heap.size,2,none⟩=some (.int .i64 0):=(Bc hi2.c2 2).trans rfl;have c3:W1.cell? ⟨w.heap.size+1,0,none⟩=some (.int .i64 0):=(Bc hi2.c3 0).trans rfl;have c4:W1.cell? ⟨w.heap.size+2,0,none⟩=some (.int .i64 0):=(Bc hi2.c4 0).trans rfl;have f20:=Bf hi2.c2 0;have f21:=Bf hi2.c2 1;have f22:=Bf hi2.c2 2;have f3:=Bf hi2.c3 0;have f4:=Bf hi2.c4 0;have z0:w.heap.size<W1.heap.size:=Bl hi2.c2;have z1:w.heap.size+1<W1.heap.size:=Bl hi2.c3;have z2:w.heap.size+2<W1.heap.size:=Bl hi2.c4;replace hi2:=Az hi2;replace hk2:=Az hk2;clear hsn hcc
   gi_wp2
   gi_region
   all_goals (
    gi_wp2
    refine⟨?_,?_⟩
    ·exact KeepsFrom.QN hk2.out (by omega) _ _ _ _ _
    ·show(BR (pre++[x]) 0 Src.zero).2.2≠0∧AX w _ w.heap.size (BR (pre++[x]) 0 Src.zero).2.1 (BR (pre++[x]) 0 Src.zero).2.2
     rw[hr1.out];exact⟨her,AX.NR hi2.out _ _⟩)
 case hdone =>
  rintro D xs W hD rfl ⟨OP,hi⟩ hd;have hfin:=Az (hA.out.symm.trans (NP OP));have hok:=hi.ok;generalize (BR (AH t) 0 Src.zero).1=x at *;obtain⟨v0,v1,v2,hs,o0,o1,o2⟩:=hi.s;obtain⟨A,c,rfl⟩:∃ A c,v0=.slice A x.l.length c:=by
   rcases hs.r0.2 with ⟨rfl,h0⟩ |⟨g,cap,cur,rfl,_⟩
   ·exact⟨none,0,by rw[h0]⟩
   ·exact⟨_,_,rfl⟩
  have hB:BI w W w.heap.size D (.slice A x.l.length c) v1 v2 x x.l:=⟨hi.b,hi.c2,hi.c3,hi.c4,hi.c5,hd,hs,o0,o1,o2⟩
  have c5:W.cell? ⟨w.heap.size+5,0,none⟩=some (.pointer (some ⟨w.heap.size+4,0,none⟩)):=(Bc hB.c5 0).trans rfl;have s0:W.cell? ⟨w.heap.size+4,0,none⟩=some (.slice A x.l.length c):=(Bc hB.s.s 0).trans rfl;have hJ0:=Az (show FA x 0 []=FA x 0 [] from rfl);generalize hfx:FA x 0 []=fx at hfin;rw[hfx]at hJ0;replace hJ0:=Az hfx;replace hB:=Az hB;have n0:=hok.n;have r0:=hok.r;have l0:=hok.l;have hok5:=hok.s;clear hi OP hd hs hfx hI0 h70 o0 o1 o2 hok hA;dsimp only;obtain⟨n,hn⟩:∃ n,x.l.length=n:=⟨_,rfl⟩
  rw[hn]at hB s0 n0 r0 l0;replace hn:=Az hn;go_wp2_with fail
  go_loopw [38] (fun v38 wr=>∃ (kk:Nat) (done:List In),v38=.int .i64 kk∧kk≤n∧Ai (done.length=kk)∧Ai (FA x kk done=fx)∧Ai (BI w wr w.heap.size D (.slice A n c) v1 v2 x (done++x.l.drop kk))) (fun v38 _=>n-(intOf v38).toNat)
  case atStart=>exact⟨0,[],rfl,Nat.zero_le _,⟨rfl⟩,⟨hJ0.out⟩,⟨by simpa using hB.out⟩⟩
  case round =>
   obtain⟨kk,done,rfl,hkk,hdl,hJ,hB⟩:=hrel;have hlen:(done++x.l.drop kk).length=n:=by rw[List.length_append,List.length_drop,hn.out,hdl.out];omega
   have c5:wr.cell? ⟨w.heap.size+5,0,none⟩=some (.pointer (some ⟨w.heap.size+4,0,none⟩)):=(Bc hB.out.c5 0).trans rfl;by_cases hlt:kk<n
   ·obtain⟨g0,c0',hv,hc0,_,_,_,cs,hg0,hcs⟩:=hB.out.s.r0.cell (show 0<(done++x.l.drop kk).length by omega);obtain⟨rfl,rfl⟩:A=some ⟨g0,0,none⟩∧c=c0':=by
     injection hv with h1 h2 h3
     exact⟨h1,h3⟩
    obtain⟨g1,c1,rfl,hc1,hn1⟩:=hB.out.s.r1.cell (show 0<x.names.length by omega);have nk:=hn1 kk (show kk<x.names.length by omega);dsimp only at nk;have hstep:=LF (x:=x) (k:=kk) (done:=done) (by rw[hn.out];exact hlt) (by rw[hn.out];exact n0) (by rw[hn.out];exact r0);rw[hJ.out]at hstep;have hnl:(x.names.getD kk []).length≤16:=hok5 _ (by rw[List.getD_eq_getElem?_getD,List.getElem?_eq_getElem (show kk<x.names.length by omega)];exact List.getElem_mem _);generalize x.names.getD kk []=nm at nk hstep hnl;have s0:wr.cell? ⟨w.heap.size+4,0,none⟩=some (.slice (some ⟨g0,0,none⟩) n c):=(Bc hB.out.s.s 0).trans rfl;have s1:wr.cell? ⟨w.heap.size+4,1,none⟩=some (.slice (some ⟨g1,0,none⟩) n c1):=(Bc hB.out.s.s 1).trans (by rw[←n0];rfl);have hk0:(0:Int)≤(kk:Int):=by omega
    have hk1:(kk:Int)<(n:Int):=by omega
    have hkw:IntKind.i64.wrap ((kk:Int)+1)=(kk:Int)+1:=by rw[IntKind.wrap_i64];omega
    have hkc:(kk:Int)+1=((kk+1:Nat):Int):=by omega
    have hdl1:∀ i:In,(done++[i]).length=kk+1:=fun i=>by rw[List.length_append,hdl.out];rfl
    replace hstep:=Az hstep;replace hdl1:=Az hdl1;replace hkc:=Az hkc;clear hn1 hv hc1;cases nm with
    |nil =>
     go_wp2_with fail
     go_roundw
     case rel =>
      refine⟨kk+1,done++[x.l.getD kk In.zero],congrArg (Value.int .i64) hkc.out,hlt,⟨hdl1.out _⟩,⟨(hstep.out.trans (if_pos rfl)).symm⟩,⟨?_⟩⟩;have e:=hB.out;rw[Cf x.l kk In.zero (by rw[hn.out];exact hlt)]at e
      simpa using e
     case measure=>simp[intOf];omega
    |cons b bs =>
     obtain⟨p,bb,hpt,hpf,hp0,hpb⟩:=FQ x (b::bs) n hn.out;have P:=fun(W:World) (hW:Ai (BI w W w.heap.size D (.slice (some ⟨g0,0,none⟩) n c) (.slice (some ⟨g1,0,none⟩) x.names.length c1) v2 x (done++x.l.drop kk))) =>
      EJ (w.heap.size+4) (w.heap.size+3) n c (some ⟨g0,0,none⟩) (.slice (some ⟨g1,0,none⟩) x.names.length c1) v2 x.labels (b::bs) (by omega) W hW.out.s.s hW.out.s.m
     simp only[hp0,hpb]at P;replace P:=Az P;clear hp0 hpb;have hS:Ai (BI w wr.drew w.heap.size D (.slice (some ⟨g0,0,none⟩) n c) (.slice (some ⟨g1,0,none⟩) x.names.length c1) v2 x (done++x.l.drop kk)) ∧
       wr.drew.cell? ⟨w.heap.size+5,0,none⟩=some (.pointer (some ⟨w.heap.size+4,0,none⟩))∧wr.drew.cell? ⟨w.heap.size+4,1,none⟩=some (.slice (some ⟨g1,0,none⟩) n c1)∧wr.drew.cell? ⟨g1,kk,none⟩=some (.string ⟨(b::bs).toArray⟩) :=
      Iy (Bd (Below.refl _ _)) ⟨hB,c5,s1,nk⟩
     go_wp2_with fail
     go_region_held3 (fun W=>Ai (BI w W w.heap.size D (.slice (some ⟨g0,0,none⟩) n c) (.slice (some ⟨g1,0,none⟩) x.names.length c1) v2 x (done++x.l.drop kk)) ∧
       W.cell? ⟨w.heap.size+5,0,none⟩=some (.pointer (some ⟨w.heap.size+4,0,none⟩))∧W.cell? ⟨w.heap.size+4,1,none⟩=some (.slice (some ⟨g1,0,none⟩) n c1)∧W.cell? ⟨g1,kk,none⟩=some (.string ⟨(b::bs).toArray⟩))
      (first |exact hS |exact Iy hb (by assumption))
      (first |(go_at_call 68;(with_reducible refine(P.out _ (by exact NS (by assumption))).mono ?_);rintro e w' ⟨rfl,hb⟩))
     obtain⟨hB2,hc5,hs1,hnk⟩:=Iy (W:=w') (Below.refl _ _) (by assumption);clear hS P hb;cases bb with
     |true =>
      have hpl:=hpt rfl;have hfx:fx=FA x (kk+1) (done++[{x.l.getD kk In.zero with q:=(p:Int)}]):=by
       rw[hstep.out,if_neg (by simp),hpl]
      have hput:=Az (hB2.out.put (k:=kk) (show kk<(done++x.l.drop kk).length by omega) (p:Int));obtain⟨g0',c0'',hv,_,_,_,_,cs2,hg2,hcs2⟩:=hB2.out.s.r0.cell (show 0<(done++x.l.drop kk).length by omega);obtain rfl:g0=g0':=by
       injection hv with h1 h2 h3
       injection h1 with h1
       injection h1
      have hcs3:kk*8+7<cs2.size:=by
       have:(done++x.l.drop kk).length*8≤cs2.size:=hcs2;rw[hlen]at this;omega
      have q7:w'.cell? ⟨g0,kk*8+7,none⟩=some cs2[kk*8+7]:=(Bc hg2 (kk*8+7)).trans (by simp[hcs3]);have q7f:=Bf hg2 (kk*8+7);have hs0:w'.cell? ⟨w.heap.size+4,0,none⟩=some (.slice (some ⟨g0,0,none⟩) n c):=(Bc hB2.out.s.s 0).trans rfl;have z7:g0<w'.heap.size:=Bl hg2;generalize cs2[kk*8+7]=v7 at q7;replace hfx:=Az hfx;clear hpt hpf hcs hg0 hg2 hcs2 hcs3 hv hpl hstep;go_wp2_with fail
      go_roundw
      case rel =>
       refine⟨kk+1,done++[{x.l.getD kk In.zero with q:=(p:Int)}],congrArg (Value.int .i64) hkc.out,hlt,⟨hdl1.out _⟩,⟨hfx.out.symm⟩,⟨?_⟩⟩;have hltx:kk<x.l.length:=by rw[hn.out];exact hlt
       have e:=hput.out;rw[get_at done x.l kk In.zero hdl.out hltx,LZ done x.l kk _ hdl.out hltx]at e;exact e
      case measure=>simp[intOf];omega
     |false =>
      have hpl:=hpf rfl;have hfx:fx=.inr (x.rows.getD kk 0):=by rw[hstep.out,if_neg (by simp),hpl]
      subst hfx;have hf2:fin=(Pg.zero,x.rows.getD kk 0,10):=hfin.out;obtain⟨g2,c2',rfl,hc2,hn2⟩:=hB2.out.s.r2.cell (show 0<x.rows.length by omega);have nk2:=hn2 kk (show kk<x.rows.length by omega);dsimp only at nk2;generalize x.rows.getD kk 0=row at *;subst hf2;have hs2:w'.cell? ⟨w.heap.size+4,2,none⟩=some (.slice (some ⟨g2,0,none⟩) n c2'):=(Bc hB2.out.s.s 2).trans (by rw[←r0];rfl);have hg2:=hB2.out.o2 g2 rfl;have ne0:¬w.heap.size=g2:=by omega
      have ne1:¬w.heap.size+1=g2:=by omega
      have ne2:¬w.heap.size+2=g2:=by omega
      have hS:w'.drew.cell? ⟨w.heap.size+5,0,none⟩=some (.pointer (some ⟨w.heap.size+4,0,none⟩))∧w'.drew.cell? ⟨w.heap.size+4,2,none⟩=some (.slice (some ⟨g2,0,none⟩) n c2')∧w'.drew.cell? ⟨g2,kk,none⟩=some (.int .i64 row):=⟨hc5,hs2,nk2⟩
      have c20:w'.cell? ⟨w.heap.size,0,none⟩=some (.slice none 0 0):=(Bc hB2.out.c2 0).trans rfl;have c21:w'.cell? ⟨w.heap.size,1,none⟩=some (.int .i64 0):=(Bc hB2.out.c2 1).trans rfl;have c22:w'.cell? ⟨w.heap.size,2,none⟩=some (.int .i64 0):=(Bc hB2.out.c2 2).trans rfl;have c3:w'.cell? ⟨w.heap.size+1,0,none⟩=some (.int .i64 0):=(Bc hB2.out.c3 0).trans rfl;have c4:w'.cell? ⟨w.heap.size+2,0,none⟩=some (.int .i64 0):=(Bc hB2.out.c4 0).trans rfl;have f20:=Bf hB2.out.c2 0;have f21:=Bf hB2.out.c2 1;have f22:=Bf hB2.out.c2 2;have f3:=Bf hB2.out.c3 0;have f4:=Bf hB2.out.c4 0;have z0:w.heap.size<w'.heap.size:=Bl hB2.out.c2;have z1:w.heap.size+1<w'.heap.size:=Bl hB2.out.c3;have z2:w.heap.size+2<w'.heap.size:=Bl hB2.out.c4;clear hn2 hc2 hpt hpf hpl hstep hg0 hcs;go_wp2_with fail
      go_region_held3 (fun W=>W.cell? ⟨w.heap.size+5,0,none⟩=some (.pointer (some ⟨w.heap.size+4,0,none⟩))∧W.cell? ⟨w.heap.size+4,2,none⟩=some (.slice (some ⟨g2,0,none⟩) n c2')∧W.cell? ⟨g2,kk,none⟩=some (.int .i64 row))
       (first |(with_reducible exact hS) |(with_reducible exact Iz (by omega) hg2 (by assumption)) |(with_reducible exact Iz (by omega) hg2 (Iz (by omega) hg2 (Iz (by omega) hg2 (by assumption))))) (first |fail)
      go_wp2;obtain⟨ab,a2,a3,a4,af⟩:=QO hB2.out.b hB2.out.c2 hB2.out.c3 hB2.out.c4 (.slice none 0 0) (.int .i64 0) (.int .i64 0) (.int .i64 row) (.int .i64 10) _ rfl;exact hQ.out _ _ D (.slice none 0 0) rfl ((af D (by omega)).trans hB2.out.d) (by omega) rfl rfl rfl a2 a3 a4 (.nil _ _) ab
   ·obtain rfl:kk=n:=by omega
    have hfx:fx=.inl done:=by rw[←hJ.out];exact MG x kk done (by rw[hn.out];exact Nl _)
    subst hfx;have e0:done++x.l.drop kk=done:=by rw[List.drop_eq_nil_of_le (by rw[hn.out];exact Nl _),List.append_nil]
    rw[e0]at hB;obtain⟨p1,b1,hpt1,hpf1,hq1,hr1⟩:=FQ x [108,111,99,107] kk hn.out;obtain⟨p2,b2,hpt2,hpf2,hq2,hr2⟩:=FQ x [117,110,108,111,99,107] kk hn.out;have P1:=fun(W:World) (hW:Ai (BI w W w.heap.size D (.slice A kk c) v1 v2 x done)) =>
     EJ (w.heap.size+4) (w.heap.size+3) kk c A v1 v2 x.labels [108,111,99,107] (by decide) W hW.out.s.s hW.out.s.m
    have P2:=fun(W:World) (hW:Ai (BI w W w.heap.size D (.slice A kk c) v1 v2 x done)) =>
     EJ (w.heap.size+4) (w.heap.size+3) kk c A v1 v2 x.labels [117,110,108,111,99,107] (by decide) W hW.out.s.s hW.out.s.m
    simp only[hq1,hr1]at P1;simp only[hq2,hr2]at P2;replace P1:=Az P1;replace P2:=Az P2;replace hpt1:=Az hpt1;replace hpf1:=Az hpf1;replace hpt2:=Az hpt2;replace hpf2:=Az hpf2;clear hq1 hr1 hq2 hr2 e0 hlt;go_wp2_with fail
    refine(P1.out _ hB).mono ?_;rintro e w1 ⟨rfl,hb1⟩;replace hB:=Az (hB.out.keep hb1);have c5:w1.cell? ⟨w.heap.size+5,0,none⟩=some (.pointer (some ⟨w.heap.size+4,0,none⟩)):=(Bc hB.out.c5 0).trans rfl;clear hb1 P1;go_wp2_with fail
    refine(P2.out _ hB).mono ?_;rintro e w2 ⟨rfl,hb2⟩;replace hB:=Az (hB.out.keep hb2);have c5:w2.cell? ⟨w.heap.size+5,0,none⟩=some (.pointer (some ⟨w.heap.size+4,0,none⟩)):=(Bc hB.out.c5 0).trans rfl;have s0:w2.cell? ⟨w.heap.size+4,0,none⟩=some (.slice A kk c):=(Bc hB.out.s.s 0).trans rfl;have c20:w2.cell? ⟨w.heap.size,0,none⟩=some (.slice none 0 0):=(Bc hB.out.c2 0).trans rfl;have c21:w2.cell? ⟨w.heap.size,1,none⟩=some (.int .i64 0):=(Bc hB.out.c2 1).trans rfl;have c22:w2.cell? ⟨w.heap.size,2,none⟩=some (.int .i64 0):=(Bc hB.out.c2 2).trans rfl;have c3:w2.cell? ⟨w.heap.size+1,0,none⟩=some (.int .i64 0):=(Bc hB.out.c3 0).trans rfl;have c4:w2.cell? ⟨w.heap.size+2,0,none⟩=some (.int .i64 0):=(Bc hB.out.c4 0).trans rfl;have f20:=Bf hB.out.c2 0;have f21:=Bf hB.out.c2 1;have f22:=Bf hB.out.c2 2;have f3:=Bf hB.out.c3 0;have f4:=Bf hB.out.c4 0;have z0:w.heap.size<w2.heap.size:=Bl hB.out.c2;have z1:w.heap.size+1<w2.heap.size:=Bl hB.out.c3;have z2:w.heap.size+2<w2.heap.size:=Bl hB.out.c4;clear hb2 P2;by_cases hbb:b1=true∧b2=true
    ·obtain⟨rfl,rfl⟩:=hbb;have hf2:=hfin.out;rw[hpt1.out rfl,hpt2.out rfl]at hf2;have hf3:fin=(⟨done,p1,p2⟩,0,0):=hf2;subst hf3;clear hf2 hfin;go_wp2;obtain⟨ab,a2,a3,a4,af⟩:=QP hB.out.b hB.out.c2 hB.out.c3 hB.out.c4 (.slice A kk c) (.int .i64 p1) (.int .i64 p2) (.int .i64 0) (.int .i64 0) _ rfl;exact hQ.out _ _ D (.slice A kk c) rfl ((af D (by omega)).trans hB.out.d) (by omega) rfl rfl rfl a2 a3 a4 (Om hB.out.s.r0 (fun j hj=>af j (by have:=hB.out.o0 j hj;omega))) ab
    ·have hf3:fin=(Pg.zero,0,10):=by
      rw[hfin.out];rcases Bool.eq_false_or_eq_true b1 with h1 |h1
      ·rcases Bool.eq_false_or_eq_true b2 with h2 |h2
       ·exact absurd ⟨h1,h2⟩ hbb
       ·rw[hpt1.out h1,hpf2.out h2]
      ·rw[hpf1.out h1]
     subst hf3;obtain⟨ab,a2,a3,a4,af⟩:=QP hB.out.b hB.out.c2 hB.out.c3 hB.out.c4 (.slice none 0 0) (.int .i64 0) (.int .i64 0) (.int .i64 0) (.int .i64 10) _ rfl;have fine:=Az (fun a hd h2 h3 h4=>hQ.out a _ D (.slice none 0 0) hd ((af D (by omega)).trans hB.out.d) (by omega) h2 h3 h4 a2 a3 a4 (.nil _ _) ab);clear hfin hpt1 hpt2 hpf1 hpf2 ab a2 a3 a4 af;cases b1 with
     |false =>
      go_wp2;exact fine.out _ rfl rfl rfl rfl
     |true =>
      cases b2 with
      |true=>exact absurd ⟨rfl,rfl⟩ hbb
      |false =>
       clear hbb;go_wp2;exact fine.out _ rfl rfl rfl rfl
 case hstop =>
  rintro D pre W hD ⟨rest,hsp⟩ ⟨OP,hi⟩ hd;have hfin:=hA.out.symm.trans (LB hsp OP);subst hfin;refine wpIn_ret ?_;exact hQ.out _ _ D (.slice none 0 0) rfl hd (by omega) rfl rfl rfl hi.c2 hi.c3 hi.c4 (.nil _ _) hi.b
theorem BN.at{W:World}{base:Nat}{v:Value}{xs:List In}(h:BN W base v xs)(hn:0<xs.length) :
  ∃ g c,v=.slice (some ⟨g,0,none⟩) xs.length c∧xs.length≤c∧base≤g∧g<W.heap.size∧∀ j u,(AP xs)[j]?=some u→W.cell? ⟨g,j,none⟩=some u:=by
 obtain⟨h1,h2⟩:=h;rcases h2 with ⟨rfl,h0⟩ |⟨g,cap,cur,rfl,hg,hh,hc,hm,hs,ht⟩
 ·omega
 ·refine⟨g,cap,rfl,hc,hg,Bl hh,fun j u hj=>(Bc hh j).trans ?_⟩;have hlt:j<xs.length*8:=by rw[←h1];exact(List.getElem?_eq_some_iff.1 hj).1
  rw[←ht,List.getElem?_take_of_lt hlt,Array.getElem?_toList]at hj;exact hj
def BA(W:World)(v:Value)(n:Nat)(cs:List Value):Prop :=
 (n=0∧∃ A c,v=.slice A 0 c)∨∃ g c,v=.slice (some ⟨g,0,none⟩) n c∧n≤c∧0<n∧∀ j u,cs[j]?=some u→W.cell? ⟨g,j,none⟩=some u
theorem BA.keep{W W1:World}{v:Value}{n:Nat}{cs:List Value}(h:BA W v n cs)(hb:Below W.heap.size W W1):BA W1 v n cs:=by
 rcases h with h |⟨g,c,h1,h2,h3,h4⟩
 ·exact .inl h
 ·exact .inr ⟨g,c,h1,h2,h3,fun j u hj=>Ck hb (h4 j u hj)⟩
theorem BA.nil(W:World):BA W (.slice none 0 0) 0 []:=.inl ⟨rfl,_,_,rfl⟩
theorem BA.slice{W:World}{v:Value}{n:Nat}{cs:List Value}(h:BA W v n cs):∃ A c,v=.slice A n c:=by
 rcases h with ⟨rfl,A,c,rfl⟩ |⟨g,c,h1,_⟩
 ·exact⟨A,c,rfl⟩
 ·exact⟨_,_,h1⟩
theorem BA.cells{W:World}{v:Value}{n:Nat}{cs:List Value}(h:BA W v n cs)(hn:0<n):∃ g c,v=.slice (some ⟨g,0,none⟩) n c∧∀ j u,cs[j]?=some u→W.cell? ⟨g,j,none⟩=some u:=by
 rcases h with ⟨rfl,_⟩ |⟨g,c,h1,_,_,h4⟩
 ·omega
 ·exact⟨g,c,h1,h4⟩
theorem BN.rd{W:World}{base:Nat}{v:Value}{xs:List In}(h:BN W base v xs):BA W v xs.length (AP xs):=by
 by_cases hn:0<xs.length
 ·obtain⟨g,c,h1,h2,_,_,h3⟩:=h.at hn;exact .inr ⟨g,c,h1,h2,hn,h3⟩
 ·have h0:xs.length=0:=by omega
  rw[h0];refine .inl ⟨rfl,?_⟩;rcases h.2 with ⟨rfl,_⟩ |⟨g,cap,cur,rfl,_⟩
  ·exact⟨none,0,rfl⟩
  ·exact⟨_,_,by rw[h0]⟩
theorem K9(xs:List In)(k:Nat)(hk:k<xs.length)(j:Nat)(hj:j<8):(AP xs)[k*8+j]?=(xs.getD k In.zero).cs.toList[j]?:=by
 induction xs generalizing k with
 |nil=>simp at hk
 |cons i l ih =>
  have e:AP (i::l)=i.cs.toList++AP l:=by simp[AP]
  have e8:i.cs.toList.length=8:=rfl;rw[e];cases k with
  |zero=>rw[List.getElem?_append_left (by omega)];simp
  |succ k =>
   rw[List.getElem?_append_right (by omega),e8,show(k+1)*8+j-8=k*8+j by omega,ih k (by simpa using hk)];simp[List.getD_eq_getElem?_getD]
theorem EO{W:World}{g k:Nat}{xs:List In}(h:∀ j u,(AP xs)[j]?=some u→W.cell? ⟨g,j,none⟩=some u)(hk:k<xs.length){op d s t u a q:Int}{kk:Int}(he:xs.getD k In.zero=⟨op,d,s,t,u,a,kk,q⟩) :
  W.cell? ⟨g,k*8,none⟩=some (.int .i64 op)∧W.cell? ⟨g,k*8+1,none⟩=some (.int .i64 d)∧W.cell? ⟨g,k*8+2,none⟩=some (.int .i64 s)∧W.cell? ⟨g,k*8+3,none⟩=some (.int .i64 t) ∧
  W.cell? ⟨g,k*8+4,none⟩=some (.int .i64 u)∧W.cell? ⟨g,k*8+5,none⟩=some (.int .i64 a)∧W.cell? ⟨g,k*8+6,none⟩=some (.int .u32 kk)∧W.cell? ⟨g,k*8+7,none⟩=some (.int .i64 q):=by
 have f:∀ j,j<8→(AP xs)[k*8+j]?=(In.cs ⟨op,d,s,t,u,a,kk,q⟩).toList[j]?:=fun j hj=>by rw[K9 xs k hk j hj,he]
 exact⟨h (k*8) _ (f 0 (by decide)),h _ _ (f 1 (by decide)),h _ _ (f 2 (by decide)),h _ _ (f 3 (by decide)),h _ _ (f 4 (by decide)),h _ _ (f 5 (by decide)),h _ _ (f 6 (by decide)),h _ _ (f 7 (by decide))⟩
end
end Go.Proofs.YtjjpiefgdggghaaGreatDoor

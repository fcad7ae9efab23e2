/- Parts: LogQ, LogF, HasK42. -/
import Derived.Test.YtjjpiefgdggghaaGreatDoorK05
import Derived.Test.YtjjpiefgdggghaaGreatDoorK12
import Derived.Test.YtjjpiefgdggghaaGreatDoorK37
import Derived.Test.YtjjpiefgdggghaaGreatDoorK38
set_option linter.unusedVariables false
set_option linter.unusedSimpArgs false
set_option maxRecDepth 100000
set_option maxHeartbeats 40000000
namespace Go.Proofs.YtjjpiefgdggghaaGreatDoor
section
open Go.RowKit Go.Proofs.YtjjpiefgdggghaaGreatDoorW.PrintWords
section
variable {ops:Array Oper} {rest:List Oper} {o:Oper} {a:Act} {Q:Exit→Act→World→Prop} {W:World}
theorem VF(hgd:o.guard=none)(s x:Operand)(ho:o.op=.call {callee:=.builtin .append,args:=#[s,x],argTypes:=#[26,26]})
  (base g:Nat)(y:Int)(v:Value)(xs:List Int)(hs:a.eval s=v)(hr:Bo W base v xs)(hx:a.eval x=.slice (some ⟨g,0,none⟩) 1 1)
  (hy:W.heap[g]?=some (.cells #[.int .i64 y] 3 (0,0)))(hl:xs.length≤100000000)(hb:base≤W.heap.size)
  (h:∀ v' W1,Bo W1 base v' (xs++[y])→W.grownBy W1 v.ownBlock→(v'.ownBlock=v.ownBlock∨v'.ownBlock=some W.heap.size)→wpList Tryz.prog ops Q rest (a.put o.dst v') W1) :
  wpList Tryz.prog ops Q (o::rest) a W:=by
 obtain⟨i9,hi,hz0,hz1,hz2⟩:=info_parts EA;refine wpList_append_own_at _ hgd s x 26 ho base 3 i9 (.int .i64 0) 1 8 Tryz.underlying26 hi hz0 hz1 hz2 rfl (by decide) v xs.length (xs.map (Value.int .i64)) hs hr ⟨g,0,none⟩ 1 1 [.int .i64 y] hx rfl ?_ ?_ ?_ ?_ hb ?_
 ·intro j u hj;rw[add_plain];exact(Bc hy j).trans (by simpa using hj)
 ·simp[Value.oneCell']
 ·simp[maxLen];omega
 ·omega
 ·intro v' w' h1 h2 _ h4;refine h v' w' ?_ h2 h4;unfold Bo;rw[List.map_append,List.length_append];exact h1
end
theorem LR{l l2:List DZ}{n:Nat}(h:n<l2.length):Cf l (l2.drop n)=if (l2.getD n (0,0)).1=2∧C8 l (l2.getD n (0,0)).2=2∧C8 (l2.drop (n+1)) (l2.getD n (0,0)).2=0 then (l2.getD n (0,0)).2::Cf l (l2.drop (n+1)) else Cf l (l2.drop (n+1)):=by
 rw[List.drop_eq_getElem_cons h,List.getD_eq_getElem?_getD,List.getElem?_eq_getElem h];rfl
theorem O4(W:World)(A:Option Addr)(c:Nat)(l:List DZ)(h:Fj W A l)(hl:l.length≤100000000)(hlc:l.length≤c) :
  Calls Tryz.prog 107 #[.slice A l.length c] W fun e W'=>∃ vq,e=.returned vq∧Bo W' W.heap.size vq ((GL l).map fun t:Nat=>(t:Int))∧Below W.heap.size W W':=by
 have hS:∀ W1:World,Fj W1 A l→∀ t:Nat,Calls Tryz.prog 106 #[.slice A l.length c,.int .i64 (t:Int)] W1 fun e W'=>e=.returned (.int .i64 (C8 l t:Int))∧Below W1.heap.size W1 W':=fun W1 h1 t=>F9 W1 A c l t h1 hl
 have hD:∀ W1:World,Fj W1 A l→∀ n:Nat,n≤l.length→∀ t:Nat,Calls Tryz.prog 106 #[.slice (if c=n then A else A.map (·.add (n*3))) (l.length-n) (c-n),.int .i64 (t:Int)] W1 fun e W'=>e=.returned (.int .i64 (C8 (l.drop n) t:Int))∧Below W1.heap.size W1 W':=fun W1 h1 n hn t=>by
  have:=F9 W1 (if c=n then A else A.map (·.add (n*3))) (c-n) (l.drop n) t (h1.drop n hn hlc) (by rw[List.length_drop];omega)
  rwa [List.length_drop]at this
 obtain⟨m,hm⟩:∃ m,l.length=m:=⟨_,rfl⟩
 obtain⟨fin,hfin⟩:∃ z,GL l=z:=⟨_,rfl⟩
 rw[hm]at hl hS hD hlc ⊢;rw[hfin];replace hm:=Az hm;replace h:=Az h;replace hfin:=Az hfin;replace hS:=Az hS;replace hD:=Az hD;go_enter Tryz.func107,Tryz.ntmps107;go_wp2_with fail
 go_loopw [3,8] (fun v3 v8 wr=>∃ (n:Nat) (qs:List Nat),v8=.int .i64 (n:Int)∧n≤m∧qs.length≤n∧Af (Bo wr W.heap.size v3 (qs.map fun t:Nat=>(t:Int)))∧Af (fin=qs++Cf l (l.drop n))∧Af (Below W.heap.size W wr)) (fun _ v8 _=>m-(intOf v8).toNat)
 case atStart=>exact⟨0,[],rfl,Nat.zero_le _,Nl _,⟨Bo.nil _ _⟩,⟨by rw[←hfin.out];rfl⟩,⟨Below.refl _ _⟩⟩
 case round =>
  obtain⟨n,qs,rfl,hn,hql,hR,hF,hB⟩:=hrel;by_cases hlt:n<m
  ·have hnl:n<l.length:=by rw[hm.out];exact hlt
   have hEc:=h.out.keep hB.out;obtain⟨ad,rfl,hcell⟩:=hEc (by omega);obtain⟨c1,c2,c3⟩:=hcell n hnl;have hst:=LR (l:=l) hnl;generalize l.getD n (0,0)=e at c1 c2 hst;obtain⟨ek,et⟩:=e;dsimp only at c1 c2 hst;have n0:(0:Int)≤(n:Int):=by omega
   have n1:(n:Int)<(m:Int):=by omega
   have nw:IntKind.i64.wrap ((n:Int)+1)=(n:Int)+1:=by rw[IntKind.wrap_i64];omega
   have hszW:=hB.out.size;have hbn:=Bw wr (.cells #[.int .i64 (ek:Int),.int .i64 (et:Int),.int .i64 0] 97);have hEn:=hEc.keep hbn;replace hR:=Az (hR.out.keep hbn);have hbx:=Bv wr (.cells #[.int .i64 (ek:Int),.int .i64 (et:Int),.int .i64 0] 97);replace hbn:=Az (hB.out.trans (hbn.mono hszW));replace hEn:=Az hEn;replace hst:=Az hst;clear hcell hEc hB;go_upto_region 5 with fail
   by_cases hk:ek=2;case neg =>
    have x1:((ek:Int)==2)=false:=Bq (by omega);have hF2:fin=qs++Cf l (l.drop (n+1)):=by rw[hF.out,hst.out,if_neg (fun x=>hk x.1)]
    have hx0:=(Bc hbx 0).trans rfl;have hx1:=(Bc hbx 1).trans rfl;replace hF2:=Az hF2;clear hst hF hk hbx c1 c2 c3 hEn;go_region
    go_wp2;go_roundw
    case rel=>exact⟨n+1,qs,by go_num,hlt,by omega,⟨hR.out.keep (Bd (Below.refl _ _))⟩,hF2,⟨hbn.out.trans (Bd (Below.refl _ _))⟩⟩
    case measure=>simp[intOf];omega
   subst hk;obtain⟨k1,hk1⟩:∃ k,C8 l et=k:=⟨_,rfl⟩
   obtain⟨k2,hk2⟩:∃ k,C8 (l.drop (n+1)) et=k:=⟨_,rfl⟩
   have hC1:=hS.out _ (hEn.out.keep (Bd (Below.refl _ _))) et;rw[hk1]at hC1;have hst2:=hst.out;rw[hk1,hk2]at hst2;have hS5:(fun W'=>W'.cell? ⟨wr.heap.size,0,none⟩=some (.int .i64 ((2:Nat):Int))∧W'.cell? ⟨wr.heap.size,1,none⟩=some (.int .i64 (et:Int))) (wr.alloc (.cells #[.int .i64 ((2:Nat):Int),.int .i64 (et:Int),.int .i64 0] 97)).drew:=⟨(Bc (Be hbx) 0).trans rfl,(Bc (Be hbx) 1).trans rfl⟩
   have hbnd:=hbn.out.trans (Bd (Below.refl _ (wr.alloc (.cells #[.int .i64 ((2:Nat):Int),.int .i64 (et:Int),.int .i64 0] 97))));replace hR:=Az (hR.out.keep (Bd (Below.refl _ _)));replace hEn:=Az (hEn.out.keep (Bd (Below.refl _ _)));replace hst2:=Az hst2;replace hbnd:=Az hbnd;replace hC1:=Az hC1;replace hk2:=Az hk2;clear hst hk1 c1 c2 c3 hbn hbx;refine Aw [] (S:=fun W'=>W'.cell? ⟨wr.heap.size,0,none⟩=some (.int .i64 ((2:Nat):Int))∧W'.cell? ⟨wr.heap.size,1,none⟩=some (.int .i64 (et:Int))) (by kernel_rfl) hS5 (fun hS0=>?_);clear hS5;try simp only[Act.put,Sa,Sb,Sc]
   refine tY 0 (fun _=>hS0) ?_;refine tL 1 (hS0) ?_;refine tY 2 (fun _=>hS0) ?_;refine tY 3 (fun _=>hS0) ?_;refine tY 4 (fun _=>hS0) ?_;refine tY 5 (fun _=>hS0) ?_;refine tL 6 (hS0) ?_;refine Ab (rs:=[7]) (by kernel_rfl) (by simp) ?_;refine Aa.cons (An rfl) (fun K hK=>?_) Aa.nil;rw[if_pos (by rfl)];go_wp2_with fail
   refine hC1.out.mono ?_;rintro e w1 ⟨rfl,hB1⟩;replace hR:=Az (hR.out.keep hB1);replace hEn:=Az (hEn.out.keep hB1);have hbn1:=Az (hbnd.out.trans (hB1.mono hbnd.out.size));replace hS0:(fun W'=>W'.cell? ⟨wr.heap.size,0,none⟩=some (.int .i64 ((2:Nat):Int))∧W'.cell? ⟨wr.heap.size,1,none⟩=some (.int .i64 (et:Int))) w1:=⟨Ck hB1 hS0.1,Ck hB1 hS0.2⟩
   refine hK.out _ _ (fun _=>hS0) (fun _=>?_);clear hK hC1 hB1 hbnd;try simp only[Act.put,Sa,Sb,Sc]
   by_cases hk:k1=2;case neg =>
    have y1:((k1:Int)==2)=false:=Bq (by omega);have hF2:fin=qs++Cf l (l.drop (n+1)):=by rw[hF.out,hst2.out,if_neg (fun x=>hk x.2.1)]
    replace hF2:=Az hF2;clear hst2 hF hk;refine tY 8 (fun _=>hS0) ?_;refine tY 9 (fun _=>hS0) ?_;refine tY 10 (fun _=>hS0) ?_;refine AM (i:=11) (v:=undef) (An rfl) (by kernel_rfl) (fun _ _ _ h=>h) (.inr ⟨by rfl,by rfl⟩) (fun _=>hS0) ?_;try simp only[Act.put,Sa,Sb,Sc]
    refine AM (i:=12) (v:=undef) (An rfl) (by kernel_rfl) (fun _ _ _ h=>h) (.inr ⟨by rfl,by rfl⟩) (fun _=>hS0) ?_;try simp only[Act.put,Sa,Sb,Sc]
    refine AM (i:=13) (v:=undef) (An rfl) (by kernel_rfl) (fun _ _ _ h=>h) (.inr ⟨by rfl,by rfl⟩) (fun _=>hS0) ?_;try simp only[Act.put,Sa,Sb,Sc]
    refine AM (i:=14) (v:=undef) (An rfl) (by kernel_rfl) (fun _ _ _ h=>h) (.inr ⟨by rfl,by rfl⟩) (fun _=>hS0) ?_;try simp only[Act.put,Sa,Sb,Sc]
    refine AM (i:=15) (v:=undef) (An rfl) (by kernel_rfl) (fun _ _ _ h=>h) (.inr ⟨by rfl,by rfl⟩) (fun _=>hS0) ?_;try simp only[Act.put,Sa,Sb,Sc]
    refine AM (i:=16) (v:=undef) (An rfl) (by kernel_rfl) (fun _ _ _ h=>h) (.inr ⟨by rfl,by rfl⟩) (fun _=>hS0) ?_;try simp only[Act.put,Sa,Sb,Sc]
    refine AM (i:=17) (v:=undef) (An rfl) (by kernel_rfl) (fun _ _ _ h=>h) (.inr ⟨by rfl,by rfl⟩) (fun _=>hS0) ?_;try simp only[Act.put,Sa,Sb,Sc]
    refine AM (i:=18) (v:=undef) (An rfl) (by kernel_rfl) (fun _ _ _ h=>h) (.inr ⟨by rfl,by rfl⟩) (fun _=>hS0) ?_;try simp only[Act.put,Sa,Sb,Sc]
    refine tY 19 (fun _=>hS0) ?_;refine A4 (by kernel_rfl) ?_ _;go_wp2;go_roundw
    case rel=>exact⟨n+1,qs,by go_num,hlt,by omega,hR,hF2,hbn1⟩
    case measure=>simp[intOf];omega
   subst hk;obtain⟨VS,hVS⟩:∃ v,v=Value.slice (if c=n+1 then some ad else Option.map (fun x=>x.add ((n+1)*3)) (some ad)) (m-(n+1)) (c-(n+1)):=⟨_,rfl⟩
   have hC2:=hD.out w1 hEn.out (n+1) hlt et;rw[hk2.out]at hC2;rw[←hVS]at hC2;replace hC2:=Az hC2;replace hVS:=Az hVS;refine tY 8 (fun _=>hS0) ?_;refine tY 9 (fun _=>hS0) ?_;refine tY 10 (fun _=>hS0) ?_;refine tY 11 (fun _=>hS0) ?_;refine tY 12 (fun _=>hS0) ?_;refine tY 13 (fun _=>hS0) ?_;refine AM (i:=14) (v:=VS) (An rfl) (by kernel_rfl) (fun _ _ _ h=>h) (.inl ⟨by rfl,?_⟩) (fun _=>hS0) ?_
   ·intro w;go_simp;rw[if_pos (by omega),hVS.out];rfl
   try simp only[Act.put,Sa,Sb,Sc]
   refine tY 15 (fun _=>hS0) ?_;refine tL 16 (hS0) ?_;refine Ab (rs:=[17]) (by kernel_rfl) (by simp) ?_;refine Aa.cons (An rfl) (fun K hK=>?_) Aa.nil;rw[if_pos (by rfl)];go_wp2_with fail
   refine hC2.out.mono ?_;rintro e w2 ⟨rfl,hB2⟩;replace hR:=Az (hR.out.keep hB2);have hbn2:=Az (hbn1.out.trans (hB2.mono hbn1.out.size));replace hS0:(fun W'=>W'.cell? ⟨wr.heap.size,0,none⟩=some (.int .i64 ((2:Nat):Int))∧W'.cell? ⟨wr.heap.size,1,none⟩=some (.int .i64 (et:Int))) w2:=⟨Ck hB2 hS0.1,Ck hB2 hS0.2⟩
   refine hK.out _ _ (fun _=>hS0) (fun _=>?_);clear hK hC2 hB2 hbn1 hEn hVS;try simp only[Act.put,Sa,Sb,Sc]
   by_cases hk:k2=0;case neg =>
    have y1:((k2:Int)==0)=false:=Bq (by omega);have hF2:fin=qs++Cf l (l.drop (n+1)):=by rw[hF.out,hst2.out,if_neg (fun x=>hk x.2.2)]
    replace hF2:=Az hF2;clear hst2 hF hk;refine tY 18 (fun _=>hS0) ?_;refine tY 19 (fun _=>hS0) ?_;refine A4 (by kernel_rfl) ?_ _;go_wp2;go_roundw
    case rel=>exact⟨n+1,qs,by go_num,hlt,by omega,hR,hF2,hbn2⟩
    case measure=>simp[intOf];omega
   subst hk;have hF2:fin=(qs++[et])++Cf l (l.drop (n+1)):=by rw[hF.out,hst2.out,if_pos (by simp),List.append_assoc];rfl
   replace hF2:=Az hF2;clear hst2 hF hk2;refine tY 18 (fun _=>hS0) ?_;refine tY 19 (fun _=>hS0) ?_;refine A4 (by kernel_rfl) ?_ _;obtain⟨s0,s1⟩:=hS0;clear s0;have hbz:=hbn2.out.size;have hbl:=Bw w2 (.cells #[.int .i64 (et:Int)] 3);have hR2:=hR.out.keep hbl;replace hbl:=Az (hbn2.out.trans (hbl.mono hbz));replace hR2:=Az hR2;go_wp2_with (at_builtin;refine VF rfl (.tmp 33) (.tmp 36) rfl W.heap.size w2.heap.size (et:Int) u3 _ rfl hR2.out rfl (Bv _ _) ?hl3 ?hb3 ?_)
   case hl3=>rw[List.length_map];omega
   case hb3=>simp;omega
   rintro v3 W3 hr3 hg3 _;have hb3:=hbl.out.grown hg3 (by simp;omega) (fun k hk=>Ob hR2.out k hk);replace hr3:Bo W3 W.heap.size v3 ((qs++[et]).map fun t:Nat=>(t:Int)):=by rw[List.map_append];exact hr3
   replace hr3:=Az hr3;replace hb3:=Az hb3;clear hR2 hg3 hbl hR;go_wp2;go_roundw
   case rel=>exact⟨n+1,qs++[et],by go_num,hlt,by simp;omega,hr3,hF2,hb3⟩
   case measure=>simp[intOf];omega
  ·obtain rfl:n=m:=by omega
   have n1:¬(n:Int)<(n:Int):=by omega
   have hf:=hF.out;rw[List.drop_eq_nil_of_le (by rw[hm.out];exact Nl _),show Cf l []=[] from rfl,List.append_nil]at hf;subst hf;go_wp2;go_ret;exact⟨_,rfl,hR.out,hB.out⟩
theorem X3{n k t:Nat}{l:List DZ}(ht:t<n):Fw n l (k,t)=Dc k (C8 l t) ((GL l).head?==some t) (Gw l == -1):=by simp[Fw,ht]
theorem PX(W:World)(A:Option Addr)(c:Nat)(l:List DZ)(n k t:Nat)(h:Fj W A l)(hl:l.length≤100000000)(hlc:l.length≤c) :
  Calls Tryz.prog 76 #[.int .i64 (n:Int),.slice A l.length c,.agg #[.int .i64 (k:Int),.int .i64 (t:Int),.int .i64 0]] W fun e W'=>e=.returned (.bool (Fw n l (k,t)))∧Below W.heap.size W W':=by
 have hS:∀ W1:World,Fj W1 A l→Calls Tryz.prog 106 #[.slice A l.length c,.int .i64 (t:Int)] W1 fun e W'=>e=.returned (.int .i64 (C8 l t:Int))∧Below W1.heap.size W1 W':=fun W1 h1=>F9 W1 A c l t h1 hl
 have hQ:∀ W1:World,Fj W1 A l→Calls Tryz.prog 107 #[.slice A l.length c] W1 fun e W'=>∃ vq,e=.returned vq∧Bo W' W1.heap.size vq ((GL l).map fun t:Nat=>(t:Int))∧Below W1.heap.size W1 W':=fun W1 h1=>O4 W1 A c l h1 hl hlc
 have hO:∀ W1:World,Fj W1 A l→Calls Tryz.prog 108 #[.slice A l.length c] W1 fun e W'=>e=.returned (.int .i64 (Gw l))∧Below W1.heap.size W1 W':=fun W1 h1=>N9 W1 A c l h1 hl
 obtain⟨m,hm⟩:∃ m,l.length=m:=⟨_,rfl⟩
 obtain⟨fin,hfin⟩:∃ z,Fw n l (k,t)=z:=⟨_,rfl⟩
 rw[hm]at hl hS hQ hO hlc ⊢;rw[hfin];have hb0:=Bw W (.cells #[.int .i64 (k:Int),.int .i64 (t:Int),.int .i64 0] 97);have hE0:=(h.keep hb0).keep (Bd (Below.refl _ _));replace hb0:=Az (hb0.trans (Bd (Below.refl _ (W.alloc (.cells #[.int .i64 (k:Int),.int .i64 (t:Int),.int .i64 0] 97)))));have hbx:=Be (Bv W (.cells #[.int .i64 (k:Int),.int .i64 (t:Int),.int .i64 0] 97));have hx0:=(Bc hbx 0).trans rfl;have hx1:=(Bc hbx 1).trans rfl;have hx2:=(Bc hbx 2).trans rfl;have t0:¬(t:Int)<0:=by omega
 have hlast:0<m→∃ ad:Addr,A=some ad∧(W.alloc (.cells #[.int .i64 (k:Int),.int .i64 (t:Int),.int .i64 0] 97)).drew.cell? ⟨(ad.add ((m-1)*3)).block,(ad.add ((m-1)*3)).off+2,none⟩=some (.int .i64 0):=fun hp=>by
  obtain⟨ad,rfl,hc⟩:=hE0 (by omega);exact⟨ad,rfl,(hc (m-1) (by omega)).2.2⟩
 replace hlast:=Az hlast;have hS1:=Az (hS _ hE0);replace hE0:=Az hE0;replace hm:=Az hm;replace hQ:=Az hQ;replace hO:=Az hO;replace hfin:=Az hfin;clear h hS;go_enter Tryz.func76,Tryz.ntmps76;go_upto_region 1 with fail
 by_cases htn:t<n;case neg =>
  have hf:fin=false:=by rw[←hfin.out];simp[Fw,htn]
  subst hf;have t1:¬(t:Int)<(n:Int):=by omega
  have t2:(n:Int)≤(t:Int):=by omega
  clear htn hbx;go_region
  go_wp2;go_ret;exact⟨rfl,hb0.out⟩
 have t1:(t:Int)<(n:Int):=by omega
 have t2:¬(n:Int)≤(t:Int):=by omega
 replace hfin:=Az (hfin.out.symm.trans (X3 htn));clear htn;cases m;case' zero=>go_region
 case' succ j =>
  obtain⟨ad,rfl,hc3⟩:=hlast.out (by omega);rw[show(j+1-1)*3=j*3 from rfl]at hc3;have mw:IntKind.i64.wrap (((j+1:Nat):Int)-1)=(j:Int):=by rw[IntKind.wrap_i64];omega
  have mw':IntKind.i64.wrap (((j:Int)+1)-1)=(j:Int):=by rw[IntKind.wrap_i64];omega
  have j0:(0:Int)≤(j:Int):=by omega
  have j1:(j:Int)<((j+1:Nat):Int):=by omega
  have j2:(0:Int)<((j+1:Nat):Int):=by omega
  go_region
  clear mw mw' j0 j1 j2 hc3
 all_goals clear hlast
 all_goals
  go_wp2_with fail
  refine hS1.out.mono ?_;rintro e w1 ⟨rfl,hB1⟩;replace hx0:=Ck hB1 hx0;replace hx1:=Ck hB1 hx1;have hE1:=Az (hE0.out.keep hB1);have hb1:=Az (hb0.out.trans (hB1.mono hb0.out.size));clear hB1 hb0 hE0 hS1 hbx hx2 t0 t1 t2;obtain⟨lv,hlv⟩:∃ v,C8 l t=v:=⟨_,rfl⟩
  obtain⟨qs,hqs⟩:∃ v,GL l=v:=⟨_,rfl⟩
  obtain⟨ow,how⟩:∃ v,Gw l=v:=⟨_,rfl⟩
  rw[hlv];have hQ1:=hQ.out w1 hE1.out;have hf0:=hfin.out;rw[hlv,hqs,how]at hf0;rw[hqs]at hQ1;rw[how]at hO;replace hQ1:=Az hQ1;replace hfin:=Az hf0;clear hf0 hlv hqs how hQ;by_cases hk1:k=1
  ·subst hk1;by_cases hv:lv=0
   ·subst hv;have hf:fin=true:=by rw[hfin.out];rfl
    subst hf;go_wp2;go_ret;exact⟨rfl,hb1.out⟩
   have y0:((lv:Int)==0)=false:=Bq (by omega);have v0:=Az hv;clear hv;by_cases hv:lv=6
   ·subst hv;have hf:fin=true:=by rw[hfin.out];rfl
    subst hf;go_wp2;go_ret;exact⟨rfl,hb1.out⟩
   have y6:((lv:Int)==6)=false:=Bq (by omega);have v6:=Az hv;clear hv;by_cases hv:lv=7
   ·subst hv;have hf:fin=true:=by rw[hfin.out];rfl
    subst hf;go_wp2;go_ret;exact⟨rfl,hb1.out⟩
   have y7:((lv:Int)==7)=false:=Bq (by omega);have v7:=Az hv;clear hv;by_cases hv:lv=10
   ·subst hv;have hf:fin=true:=by rw[hfin.out];rfl
    subst hf;go_wp2;go_ret;exact⟨rfl,hb1.out⟩
   have y10:((lv:Int)==10)=false:=Bq (by omega);have v10:=Az hv;clear hv;have hf:fin=false:=by rw[hfin.out];simp[Dc,v0.out,v6.out,v7.out,v10.out]
   subst hf;go_wp2;go_ret;exact⟨rfl,hb1.out⟩
  have z1:((k:Int)==1)=false:=Bq (by omega);by_cases hk2:k=2
  ·subst hk2;by_cases hv:lv=1
   ·subst hv;have hf:fin=true:=by rw[hfin.out];rfl
    subst hf;go_wp2;go_ret;exact⟨rfl,hb1.out⟩
   ·have y:((lv:Int)==1)=false:=Bq (by omega);have hf:fin=false:=by rw[hfin.out];simp[Dc,hv]
    subst hf;go_wp2;go_ret;exact⟨rfl,hb1.out⟩
  have z2:((k:Int)==2)=false:=Bq (by omega);by_cases hk7:k=7
  ·subst hk7;by_cases hv:lv=1
   ·subst hv;have hf:fin=true:=by rw[hfin.out];rfl
    subst hf;go_wp2;go_ret;exact⟨rfl,hb1.out⟩
   ·have y:((lv:Int)==1)=false:=Bq (by omega);have hf:fin=false:=by rw[hfin.out];simp[Dc,hv]
    subst hf;go_wp2;go_ret;exact⟨rfl,hb1.out⟩
  have z7:((k:Int)==7)=false:=Bq (by omega);by_cases hk3:k=3
  ·subst hk3;go_wp2_with fail
   refine hQ1.out.mono ?_;rintro e w2 ⟨vq,rfl,hR,hB2⟩;replace hx1:=Ck hB2 hx1;have hE2:=Az (hE1.out.keep hB2);have hb2:=Az (hb1.out.trans (hB2.mono hb1.out.size));clear hB2 hE1 hb1 hQ1 hx0;by_cases hv:lv=2;case neg =>
    have y:((lv:Int)==2)=false:=Bq (by omega);have hf:fin=false:=by rw[hfin.out];simp[Dc,hv]
    subst hf;obtain⟨A2,c2,rfl⟩:=hR.slice;clear hR;go_upto_region 12 with fail
    go_region
    go_wp2;go_ret;exact⟨rfl,hb2.out.trans (Bd (Below.refl _ _))⟩
   subst hv;cases qs with
   |nil =>
    have hf:fin=false:=by rw[hfin.out];rfl
    subst hf;obtain⟨A2,c2,rfl⟩:=hR.slice;clear hR;go_upto_region 12 with fail
    go_region
    go_wp2;go_ret;exact⟨rfl,hb2.out.trans (Bd (Below.refl _ _))⟩
   |cons a qs =>
    obtain⟨gq,cq,rfl,hcq,hq⟩:=hR.cell (by simp);have hq0:=hq 0 (by simp);replace hq0:w2.cell? ⟨gq,0,none⟩=some (.int .i64 (a:Int)):=hq0;obtain⟨z,hz⟩:∃ z,((a::qs).map fun t:Nat=>(t:Int)).length=z:=⟨_,rfl⟩
    have zp:0<z:=by rw[←hz];simp
    rw[hz];have zi:(0:Int)<(z:Int):=by omega
    clear hq hR hcq hz;by_cases ha:a=t;case neg =>
     have y:((a:Int)==(t:Int))=false:=Bq (by omega);have hf:fin=false:=by rw[hfin.out];simp[Dc,ha]
     subst hf;clear ha;go_upto_region 12 with fail
     have hq1:=Ck (Bd (Below.refl _ w2)) hq0;have hx3:=Ck (Bd (Below.refl _ w2)) hx1;go_region
     go_wp2;go_ret;exact⟨rfl,hb2.out.trans (Bd (Below.refl _ _))⟩
    subst ha;have hf:fin=(ow == -1):=by rw[hfin.out];simp[Dc]
    subst hf;have hC:=Az (hO.out _ (hE2.out.keep (Bd (Below.refl _ _))));have hS5:(fun W'=>W'.cell? ⟨gq,0,none⟩=some (.int .i64 (a:Int))∧W'.cell? ⟨W.heap.size,1,none⟩=some (.int .i64 (a:Int))) w2.drew:=⟨Ck (Bd (Below.refl _ _)) hq0,Ck (Bd (Below.refl _ _)) hx1⟩
    replace hb2:=Az (hb2.out.trans (Bd (Below.refl _ _)));clear hE2 hO hq0 hx1;go_upto_region 12 with fail
    refine Aw [] (S:=fun W'=>W'.cell? ⟨gq,0,none⟩=some (.int .i64 (a:Int))∧W'.cell? ⟨W.heap.size,1,none⟩=some (.int .i64 (a:Int))) (by kernel_rfl) hS5 (fun hS0=>?_);clear hS5;try simp only[Act.put,Sa,Sb,Sc]
    refine tY 0 (fun _=>hS0) ?_;refine tY 1 (fun _=>hS0) ?_;refine tY 2 (fun _=>hS0) ?_;refine tY 3 (fun _=>hS0) ?_;refine tY 4 (fun _=>hS0) ?_;refine tY 5 (fun _=>hS0) ?_;refine tY 6 (fun _=>hS0) ?_;refine tY 7 (fun _=>hS0) ?_;refine tY 8 (fun _=>hS0) ?_;refine tY 9 (fun _=>hS0) ?_;refine tL 10 (hS0) ?_;refine tY 11 (fun _=>hS0) ?_;refine tL 12 (hS0) ?_;refine tY 13 (fun _=>hS0) ?_;refine tY 14 (fun _=>hS0) ?_;refine tY 15 (fun _=>hS0) ?_;refine tY 16 (fun _=>hS0) ?_;refine Ab (rs:=[17]) (by kernel_rfl) (by simp) ?_;refine Aa.cons (An rfl) (fun K hK=>?_) Aa.nil;rw[if_pos (by rfl)];go_wp2_with fail
    refine hC.out.mono ?_;rintro e w3 ⟨rfl,hB3⟩;replace hb2:=Az (hb2.out.trans (hB3.mono hb2.out.size));replace hS0:(fun W'=>W'.cell? ⟨gq,0,none⟩=some (.int .i64 (a:Int))∧W'.cell? ⟨W.heap.size,1,none⟩=some (.int .i64 (a:Int))) w3:=⟨Ck hB3 hS0.1,Ck hB3 hS0.2⟩
    refine hK.out _ _ (fun _=>hS0) (fun _=>?_);clear hK hC hB3;try simp only[Act.put,Sa,Sb,Sc]
    refine tY 18 (fun _=>hS0) ?_;refine tY 19 (fun _=>hS0) ?_;refine tY 20 (fun _=>hS0) ?_;refine A4 (by kernel_rfl) ?_ _;go_wp2;go_ret;exact⟨rfl,hb2.out⟩
  have z3:((k:Int)==3)=false:=Bq (by omega);by_cases hk4:k=4
  ·subst hk4;by_cases hv:lv=2
   ·subst hv;have hf:fin=true:=by rw[hfin.out];rfl
    subst hf;go_wp2;go_ret;exact⟨rfl,hb1.out⟩
   ·have y:((lv:Int)==2)=false:=Bq (by omega);have hf:fin=false:=by rw[hfin.out];simp[Dc,hv]
    subst hf;go_wp2;go_ret;exact⟨rfl,hb1.out⟩
  have z4:((k:Int)==4)=false:=Bq (by omega);by_cases hk5:k=5
  ·subst hk5;by_cases hv:lv=3
   ·subst hv;have hf:fin=true:=by rw[hfin.out];rfl
    subst hf;go_wp2;go_ret;exact⟨rfl,hb1.out⟩
   ·have y:((lv:Int)==3)=false:=Bq (by omega);have hf:fin=false:=by rw[hfin.out];simp[Dc,hv]
    subst hf;go_wp2;go_ret;exact⟨rfl,hb1.out⟩
  have z5:((k:Int)==5)=false:=Bq (by omega);by_cases hk6:k=6
  ·subst hk6;by_cases hv:lv=4
   ·subst hv;have hf:fin=true:=by rw[hfin.out];rfl
    subst hf;go_wp2;go_ret;exact⟨rfl,hb1.out⟩
   ·have y:((lv:Int)==4)=false:=Bq (by omega);have hf:fin=false:=by rw[hfin.out];simp[Dc,hv]
    subst hf;go_wp2;go_ret;exact⟨rfl,hb1.out⟩
  have z6:((k:Int)==6)=false:=Bq (by omega);by_cases hk8:k=8
  ·subst hk8;by_cases hv:lv=5
   ·subst hv;have hf:fin=true:=by rw[hfin.out];rfl
    subst hf;go_wp2;go_ret;exact⟨rfl,hb1.out⟩
   ·have y:((lv:Int)==5)=false:=Bq (by omega);have hf:fin=false:=by rw[hfin.out];simp[Dc,hv]
    subst hf;go_wp2;go_ret;exact⟨rfl,hb1.out⟩
  have z8:((k:Int)==8)=false:=Bq (by omega);by_cases hk9:k=9
  ·subst hk9;by_cases hv:lv=8
   ·subst hv;have hf:fin=true:=by rw[hfin.out];rfl
    subst hf;go_wp2;go_ret;exact⟨rfl,hb1.out⟩
   ·have y:((lv:Int)==8)=false:=Bq (by omega);have hf:fin=false:=by rw[hfin.out];simp[Dc,hv]
    subst hf;go_wp2;go_ret;exact⟨rfl,hb1.out⟩
  have z9:((k:Int)==9)=false:=Bq (by omega);by_cases hk10:k=10
  ·subst hk10;by_cases hv:lv=9
   ·subst hv;have hf:fin=true:=by rw[hfin.out];rfl
    subst hf;go_wp2;go_ret;exact⟨rfl,hb1.out⟩
   ·have y:((lv:Int)==9)=false:=Bq (by omega);have hf:fin=false:=by rw[hfin.out];simp[Dc,hv]
    subst hf;go_wp2;go_ret;exact⟨rfl,hb1.out⟩
  have z10:((k:Int)==10)=false:=Bq (by omega);have hf:fin=false:=by rw[hfin.out];simp[Dc,hk1,hk2,hk7,hk3,hk4,hk5,hk6,hk8,hk9,hk10]
  subst hf;clear hk1 hk2 hk7 hk3 hk4 hk5 hk6 hk8 hk9 hk10;go_wp2;go_ret;exact⟨rfl,hb1.out⟩
theorem O6{n i:Nat}{l:List DZ}(h:i<l.length):Di n (l.take i) (l.drop i)=if Fw n (l.take i) (l.getD i (0,0))=true then Di n (l.take (i+1)) (l.drop (i+1)) else i:=by
 rw[List.drop_eq_getElem_cons h,Di,List.take_succ_eq_append_getElem h,List.getD_eq_getElem?_getD,List.getElem?_eq_getElem h,List.length_take,Nat.min_eq_left (by omega)];rfl
theorem GD(W:World)(A:Option Addr)(c:Nat)(l:List DZ)(n:Nat)(hn1:1≤n)(hn2:n≤64)(h:Fj W A l)(hl:l.length≤100000000)(hlc:l.length≤c) :
  Calls Tryz.prog 44 #[.int .i64 (n:Int),.slice A l.length c] W fun e W'=>e=.returned (.int .i64 (Cj n l:Int))∧Below W.heap.size W W':=by
 have hS:∀ W1:World,Fj W1 A l→∀ i,i≤l.length→∀ k t:Nat,Calls Tryz.prog 76 #[.int .i64 (n:Int),.slice A i c,.agg #[.int .i64 (k:Int),.int .i64 (t:Int),.int .i64 0]] W1 fun e W'=>e=.returned (.bool (Fw n (l.take i) (k,t)))∧Below W1.heap.size W1 W':=fun W1 h1 i hi k t=>by
  have:=PX W1 A c (l.take i) n k t (h1.take i) (by rw[List.length_take];omega) (by rw[List.length_take];omega)
  rwa [List.length_take,Nat.min_eq_left hi]at this
 obtain⟨m,hm⟩:∃ m,l.length=m:=⟨_,rfl⟩
 obtain⟨fin,hfin⟩:∃ z,Cj n l=z:=⟨_,rfl⟩
 have hf0:Di n (l.take 0) (l.drop 0)=fin:=by rw[←hfin,Cj,if_neg (by omega)];rfl
 rw[hm]at hl hS hlc ⊢;rw[hfin];replace hm:=Az hm;replace h:=Az h;replace hS:=Az hS;replace hf0:=Az hf0;have a1:¬(n:Int)<1:=by omega
 have a2:¬(64:Int)<(n:Int):=by omega
 clear hfin;go_enter Tryz.func44,Tryz.ntmps44;go_wp2_with fail
 go_loopw [14] (fun v14 wr=>∃ (i:Nat),v14=.int .i64 (i:Int)∧i≤m∧Af (Di n (l.take i) (l.drop i)=fin)∧Af (Below W.heap.size W wr)) (fun v14 _=>m-(intOf v14).toNat)
 case atStart=>exact⟨0,rfl,Nat.zero_le _,hf0,⟨Below.refl _ _⟩⟩
 case round =>
  obtain⟨i,rfl,hi,hF,hB⟩:=hrel;clear hf0 a1 a2;by_cases hlt:i<m
  ·have hnl:i<l.length:=by rw[hm.out];exact hlt
   have hEc:=(h.out.keep hB.out).keep (Bd (Below.refl _ _));replace hB:=Az (hB.out.trans (Bd (Below.refl _ _)));obtain⟨ad,rfl,hcell⟩:=hEc (by omega);obtain⟨c1,c2,c3⟩:=hcell i hnl;have hst:=O6 (n:=n) hnl;rw[hF.out]at hst;generalize l.getD i (0,0)=e at c1 c2 hst;obtain⟨ek,et⟩:=e;dsimp only at c1 c2 hst;have n0:(0:Int)≤(i:Int):=by omega
   have n1:(i:Int)<(m:Int):=by omega
   have n2:(i:Int)≤(c:Int):=by omega
   have nw:IntKind.i64.wrap ((i:Int)+1)=(i:Int)+1:=by rw[IntKind.wrap_i64];omega
   have hC:=hS.out _ hEc i hi ek et;obtain⟨b,hb⟩:∃ b,Fw n (l.take i) (ek,et)=b:=⟨_,rfl⟩
   rw[hb]at hC hst;have hS5:(fun W'=>W'.cell? (ad.add (i*3))=some (.int .i64 (ek:Int))∧W'.cell? ⟨(ad.add (i*3)).block,(ad.add (i*3)).off+1,none⟩=some (.int .i64 (et:Int))∧W'.cell? ⟨(ad.add (i*3)).block,(ad.add (i*3)).off+2,none⟩=some (.int .i64 0)) wr.drew:=⟨c1,c2,c3⟩
   replace hst:=Az hst;replace hC:=Az hC;clear hcell hEc hF hb c1 c2 c3;go_upto_region 6 with fail
   refine Aw [] (S:=fun W'=>W'.cell? (ad.add (i*3))=some (.int .i64 (ek:Int))∧W'.cell? ⟨(ad.add (i*3)).block,(ad.add (i*3)).off+1,none⟩=some (.int .i64 (et:Int))∧W'.cell? ⟨(ad.add (i*3)).block,(ad.add (i*3)).off+2,none⟩=some (.int .i64 0)) (by kernel_rfl) hS5 (fun hS0=>?_);clear hS5;try simp only[Act.put,Sa,Sb,Sc]
   refine tY 0 (fun _=>hS0) ?_;refine tY 1 (fun _=>hS0) ?_;refine tY 2 (fun _=>hS0) ?_;refine AM (i:=3) (v:=.slice (some ad) i c) (An rfl) (by kernel_rfl) (fun _ _ _ h=>h) (.inl ⟨by rfl,?_⟩) (fun _=>hS0) ?_
   ·intro w;go_simp;first |done |rw[if_pos (by omega)] |rfl
   try simp only[Act.put,Sa,Sb,Sc]
   refine tY 4 (fun _=>hS0) ?_;refine tY 5 (fun _=>hS0) ?_;refine tY 6 (fun _=>hS0) ?_;refine tL 7 (hS0) ?_;refine Ab (rs:=[8]) (by kernel_rfl) (by simp) ?_;refine Aa.cons (An rfl) (fun K hK=>?_) Aa.nil;rw[if_pos (by rfl)];go_wp2_with fail
   refine hC.out.mono ?_;rintro e w3 ⟨rfl,hB3⟩;replace hB:=Az (hB.out.trans (hB3.mono hB.out.size));replace hS0:(fun W'=>W'.cell? (ad.add (i*3))=some (.int .i64 (ek:Int))∧W'.cell? ⟨(ad.add (i*3)).block,(ad.add (i*3)).off+1,none⟩=some (.int .i64 (et:Int))∧W'.cell? ⟨(ad.add (i*3)).block,(ad.add (i*3)).off+2,none⟩=some (.int .i64 0)) w3:=⟨Ck hB3 hS0.1,Ck hB3 hS0.2.1,Ck hB3 hS0.2.2⟩
   refine hK.out _ _ (fun _=>hS0) (fun _=>?_);clear hK hC hB3;try simp only[Act.put,Sa,Sb,Sc]
   refine tY 9 (fun _=>hS0) ?_;refine A4 (by kernel_rfl) ?_ _;clear hS0;cases b with
   |true =>
    replace hst:=Az (hst.out.trans (if_pos rfl)).symm;go_wp2;go_roundw
    case rel=>exact⟨i+1,by go_num,hlt,hst,hB⟩
    case measure=>simp[intOf];omega
   |false =>
    have hf:=hst.out.trans (if_neg (by simp));subst hf;go_wp2;go_ret;exact⟨rfl,hB.out⟩
  ·obtain rfl:i=m:=by omega
   have n1:¬(i:Int)<(i:Int):=by omega
   have hf:=hF.out;rw[List.drop_eq_nil_of_le (by rw[hm.out];exact Nl _),Di,←hm.out,List.take_length,hm.out]at hf;subst hf;go_wp2;go_ret;exact⟨rfl,hB.out⟩
def Du:List UInt8:=[108,111,99,107,58,10,115,101,108,102,32,114,49,10,97,100,100,107,32,114,50,32,114,49,32,50,10,99,111,110,115,116,32,114,51,32,49,10,97,103,97,105,110,58,10,108,111,97,100,32,114,52,32,48,32,114,48,10,98,110,101,32,114,52,32,114,48,32,113,117,101,117,101,10,99,97,115,32,114,53,32,48,32,114,48,32,114,48,32,114,51,10,98,101,113,32,114,53,32,114,48,32,97,103,97,105,110,10,109,97,114,107,32,49,10,109,97,114,107,32,50,10,100,111,110,101,32,49,10,113,117,101,117,101,58,10,115,116,111,114,101,32,50,32,114,49,32,114,48,10,115,116,111,114,101,32,51,32,114,49,32,114,51,10,99,97,115,32,114,53,32,48,32,114,48,32,114,52,32,114,50,10,98,101,113,32,114,53,32,114,48,32,97,103,97,105,110,10,109,97,114,107,32,49,10,98,101,113,32,114,52,32,114,51,32,102,105,114,115,116,10,97,100,100,107,32,114,52,32,114,52,32,52,50,57,52,57,54,55,50,57,52,10,115,116,111,114,101,32,50,32,114,52,32,114,50,10,106,117,109,112,32,119,97,105,116,10,102,105,114,115,116,58,10,115,116,111,114,101,32,49,32,114,48,32,114,50,10,119,97,105,116,58,10,97,119,97,105,116,32,114,53,32,51,32,114,49,32,101,113,32,114,48,10,109,97,114,107,32,50,10,108,111,97,100,32,114,52,32,50,32,114,49,10,98,110,101,32,114,52,32,114,48,32,104,97,115,10,115,116,111,114,101,32,49,32,114,48,32,114,48,10,99,97,115,32,114,53,32,48,32,114,48,32,114,50,32,114,51,10,98,110,101,32,114,53,32,114,48,32,111,117,116,10,97,119,97,105,116,32,114,52,32,50,32,114,49,32,110,101,32,114,48,10,104,97,115,58,10,115,116,111,114,101,32,49,32,114,48,32,114,52,10,111,117,116,58,10,100,111,110,101,32,49,10,117,110,108,111,99,107,58,10,108,111,97,100,32,114,52,32,49,32,114,48,10,98,110,101,32,114,52,32,114,48,32,104,97,110,100,10,99,111,110,115,116,32,114,51,32,49,10,99,97,115,32,114,53,32,48,32,114,48,32,114,51,32,114,48,10,98,101,113,32,114,53,32,114,48,32,98,101,104,105,110,100,10,109,97,114,107,32,52,10,100,111,110,101,32,50,10,98,101,104,105,110,100,58,10,97,119,97,105,116,32,114,52,32,49,32,114,48,32,110,101,32,114,48,10,104,97,110,100,58,10,97,100,100,107,32,114,52,32,114,52,32,52,50,57,52,57,54,55,50,57,52,10,115,116,111,114,101,32,51,32,114,52,32,114,48,10,109,97,114,107,32,52,10,100,111,110,101,32,50,10]
theorem So:Du.length≤90000:=by decide +kernel
theorem VJ:4<(B2 Du).1.l.length:=by decide +kernel
theorem MF(W:World):Calls Tryz.prog 36 #[] W fun e W'=>e=.returned (.string ⟨Du.toArray⟩)∧W'=W:=by
 go_enter Tryz.func36,Tryz.ntmps36;go_wp2;go_ret;exact⟨rfl,rfl⟩
theorem Ki(k:Nat)(h1:1≤k)(h2:k≤64)(w:World)(he:Env w):Calls Tryz.prog 13 #[.int .i64 (k:Int)] w (SpecHas w Du [1,1,(k:Int),(k:Int)] (List.replicate (2*k+2) (0:Int)) (List.replicate k (0:Int)) 0):=by
 have hd1:decide ((k:Int)<1)=false:=decide_eq_false (by omega);have hd2:decide ((64:Int)<(k:Int))=false:=decide_eq_false (by omega);have hw0:IntKind.i64.wrap (2*(k:Int))=2*(k:Int):=by rw[IntKind.wrap_i64];omega
 have hw1:IntKind.i64.wrap (2+2*(k:Int))=2+2*(k:Int):=by rw[IntKind.wrap_i64];omega
 have CT:=Az (fun W=>MF W);have CA:=Az (fun(W:World) (heW:Env W)=>Ey Du W heW So);have hN:=Bv w (.cells #[.slice none 0 0,.int .i64 0,.int .i64 0,.slice none 0 0,.slice none 0 0,.int .i64 0,.slice none 0 0] 37);have hb0:=Bw w (.cells #[.slice none 0 0,.int .i64 0,.int .i64 0,.slice none 0 0,.slice none 0 0,.int .i64 0,.slice none 0 0] 37);obtain⟨w0,hw0⟩:∃ y,w.alloc (.cells #[.slice none 0 0,.int .i64 0,.int .i64 0,.slice none 0 0,.slice none 0 0,.int .i64 0,.slice none 0 0] 37)=y:=⟨_,rfl⟩
 rw[hw0]at hN hb0;go_enter Tryz.func13,Tryz.ntmps13;go_upto_region 3 with fail
 try rw[hw0]
 clear hw0;go_cut [4] (fun v wx=>∃ (p:Nat) (B C D:Option Addr) (n1 n2 k1 k2 k3:Nat),v=.pointer (some ⟨p,0,none⟩)∧Af (SpB w wx w.heap.size p B C D n1 n2 k k1 k2 k3 (0))∧Af (HRow wx (.slice B n1 k1) 3 (([1,1,(k:Int),(k:Int)]).map (Value.int .i64))∧HRow wx (.slice C n2 k2) 45 ((List.replicate (2*k+2) (0:Int)).map (Value.int .u32))∧HRow wx (.slice D k k3) 45 ((List.replicate k (0:Int)).map (Value.int .u32))))
 case first =>
  refine Aw [] (S:=fun _=>True) (by kernel_rfl) trivial (fun _=>?_);replace hN:=Bk (Bd (Below.refl _ w0)) hN;have hBl:=hb0.trans ((Bd (Below.refl _ w0)).mono hb0.size);clear hb0 CT CA;generalize w0.drew=w0 at *;refine tY 0 (fun _=>trivial) ?_;refine tY 1 (fun _=>trivial) ?_;refine tY 3 (fun _=>trivial) ?_;refine tY 4 (fun _=>trivial) ?_;refine tY 5 (fun _=>trivial) ?_;refine tY 7 (fun _=>trivial) ?_;iterate 4
   all_goals try
    refine AM (i:=9) (v:=?_) (An rfl) (by decide +kernel) (fun _ _ _ h=>h) (.inl ⟨by rfl,?_⟩) (fun _=>trivial) ?_;rotate_left
    ·intro w;go_simp;try with_reducible rfl
    try simp only[Act.put,Sa,Sb,Sc]
   all_goals first
    |refine Ab (rs:=[2,6,8,10]) (by decide +kernel) (by simp) (Aa.cons (An rfl) (fun K hK=>?_) (Aa.cons (An rfl) (fun K hK=>?_) (Aa.cons (An rfl) (fun K hK=>?_) (Aa.cons (An rfl) (fun K hK=>?_) Aa.nil))))
    |refine Ab (rs:=[2,6,8]) (by decide +kernel) (by simp) (Aa.cons (An rfl) (fun K hK=>?_) (Aa.cons (An rfl) (fun K hK=>?_) (Aa.cons (An rfl) (fun K hK=>?_) Aa.nil)))
    |refine Ab (rs:=[2,6,10]) (by decide +kernel) (by simp) (Aa.cons (An rfl) (fun K hK=>?_) (Aa.cons (An rfl) (fun K hK=>?_) (Aa.cons (An rfl) (fun K hK=>?_) Aa.nil)))
    |refine Ab (rs:=[2,8,10]) (by decide +kernel) (by simp) (Aa.cons (An rfl) (fun K hK=>?_) (Aa.cons (An rfl) (fun K hK=>?_) (Aa.cons (An rfl) (fun K hK=>?_) Aa.nil)))
    |refine Ab (rs:=[6,8,10]) (by decide +kernel) (by simp) (Aa.cons (An rfl) (fun K hK=>?_) (Aa.cons (An rfl) (fun K hK=>?_) (Aa.cons (An rfl) (fun K hK=>?_) Aa.nil)))
    |refine Ab (rs:=[2,6]) (by decide +kernel) (by simp) (Aa.cons (An rfl) (fun K hK=>?_) (Aa.cons (An rfl) (fun K hK=>?_) Aa.nil))
    |refine Ab (rs:=[2,8]) (by decide +kernel) (by simp) (Aa.cons (An rfl) (fun K hK=>?_) (Aa.cons (An rfl) (fun K hK=>?_) Aa.nil))
    |refine Ab (rs:=[2,10]) (by decide +kernel) (by simp) (Aa.cons (An rfl) (fun K hK=>?_) (Aa.cons (An rfl) (fun K hK=>?_) Aa.nil))
    |refine Ab (rs:=[6,8]) (by decide +kernel) (by simp) (Aa.cons (An rfl) (fun K hK=>?_) (Aa.cons (An rfl) (fun K hK=>?_) Aa.nil))
    |refine Ab (rs:=[6,10]) (by decide +kernel) (by simp) (Aa.cons (An rfl) (fun K hK=>?_) (Aa.cons (An rfl) (fun K hK=>?_) Aa.nil))
    |refine Ab (rs:=[8,10]) (by decide +kernel) (by simp) (Aa.cons (An rfl) (fun K hK=>?_) (Aa.cons (An rfl) (fun K hK=>?_) Aa.nil))
    |refine Ab (rs:=[2]) (by decide +kernel) (by simp) (Aa.cons (An rfl) (fun K hK=>?_) Aa.nil)
    |refine Ab (rs:=[6]) (by decide +kernel) (by simp) (Aa.cons (An rfl) (fun K hK=>?_) Aa.nil)
    |refine Ab (rs:=[8]) (by decide +kernel) (by simp) (Aa.cons (An rfl) (fun K hK=>?_) Aa.nil)
    |refine Ab (rs:=[10]) (by decide +kernel) (by simp) (Aa.cons (An rfl) (fun K hK=>?_) Aa.nil)
   all_goals first
    |(refine step_h4 rfl _ _ _ _ rfl _ _ _ _ rfl rfl rfl rfl (fun gB wL hb hBk=>?_);replace hN:=Bk hb hN;replace hBl:=hBl.trans (hb.mono hBl.size);(try replace hM:=Bk hb hM);(try replace hR:=Bk hb hR);(try replace hA:=Bk hb hA);clear hb)
    |(refine step_mkz rfl _ rfl _ rfl (2*k+2) (by omega) (by omega) (fun gM wL csM hb hgM hM hsM=>?_);(try have hMR:gM≠gR:=Nat.ne_of_gt (Nat.lt_of_lt_of_le (Bl hR) hgM));have hNM:=Nat.le_trans (Nat.le_of_lt (Bl hN)) hgM;replace hN:=Bk hb hN;replace hBl:=hBl.trans (hb.mono hBl.size);(try replace hBk:=Bk hb hBk);(try replace hR:=Bk hb hR);(try replace hA:=Bk hb hA);clear hb)
    |(refine step_mkz rfl _ rfl _ rfl k (by omega) (by omega) (fun gR wL csR hb hgR hR hsR=>?_);(try have hMR:gM≠gR:=Nat.ne_of_lt (Nat.lt_of_lt_of_le (Bl hM) hgR));replace hN:=Bk hb hN;replace hBl:=hBl.trans (hb.mono hBl.size);(try replace hBk:=Bk hb hBk);(try replace hM:=Bk hb hM);(try replace hA:=Bk hb hA);clear hb)
    |(refine L4 rfl rfl (fun p wL hb hgA hA=>?_);have hNp:=Nat.lt_of_lt_of_le (Bl hN) hgA;replace hN:=Bk hb hN;replace hBl:=hBl.trans (hb.mono hBl.size);(try replace hBk:=Bk hb hBk);(try replace hM:=Bk hb hM);(try replace hR:=Bk hb hR);clear hb)
   all_goals refine hK.out _ _ (fun _=>trivial) (fun _=>?_)
   all_goals clear hK K
   all_goals try simp only[Act.put,Sa,Sb,Sc]
  all_goals try
   refine AM (i:=9) (v:=?_) (An rfl) (by decide +kernel) (fun _ _ _ h=>h) (.inl ⟨by rfl,?_⟩) (fun _=>trivial) ?_;rotate_left
   ·intro w;go_simp;try with_reducible rfl
   try simp only[Act.put,Sa,Sb,Sc]
  all_goals (
   have hMp:gM≠p:=fun e=>by subst e;rw[hA]at hM;cases hM
   have hfin:=Az (EX hBl (Nat.le_of_lt hNp) hA (.slice none 0 0) (.int .i64 0) (.int .i64 0) (.slice (some ⟨gB,0,none⟩) 4 4) (.slice (some ⟨gM,0,none⟩) (2*k+2) (2*k+2)) (.int .i64 0) (.slice (some ⟨gR,0,none⟩) k k));have c0:wL.cell? ⟨p,0,none⟩=some (.slice none 0 0):=(Bc hA 0).trans rfl;have c1:wL.cell? ⟨p,1,none⟩=some (.int .i64 0):=(Bc hA 1).trans rfl;have c2:wL.cell? ⟨p,2,none⟩=some (.int .i64 0):=(Bc hA 2).trans rfl;have c3:wL.cell? ⟨p,3,none⟩=some (.slice none 0 0):=(Bc hA 3).trans rfl;have c4:wL.cell? ⟨p,4,none⟩=some (.slice none 0 0):=(Bc hA 4).trans rfl;have c5:wL.cell? ⟨p,5,none⟩=some (.int .i64 0):=(Bc hA 5).trans rfl;have c6:wL.cell? ⟨p,6,none⟩=some (.slice none 0 0):=(Bc hA 6).trans rfl;have f0:=Bf hA 0;have f1:=Bf hA 1;have f2:=Bf hA 2;have f3:=Bf hA 3;have f4:=Bf hA 4;have f5:=Bf hA 5;have f6:=Bf hA 6;have z0:p<wL.heap.size:=Bl hA;have r1:=HRow.new (([1,1,(k:Int),(k:Int)]).map (Value.int .i64)) hBk rfl (by simp) (fun j u hj=>by simpa using hj);have r2:=HRow.zeros hM (by omega) hsM.2;have r3:=HRow.zeros hR (by omega) hsR.2;have q1:=Az (seven_H hA r1 (by decide) (.slice none 0 0) (.int .i64 0) (.int .i64 0) (.slice (some ⟨gB,0,none⟩) 4 4) (.slice (some ⟨gM,0,none⟩) (2*k+2) (2*k+2)) (.int .i64 0) (.slice (some ⟨gR,0,none⟩) k k));have q2:=Az (seven_H hA r2 (by decide) (.slice none 0 0) (.int .i64 0) (.int .i64 0) (.slice (some ⟨gB,0,none⟩) 4 4) (.slice (some ⟨gM,0,none⟩) (2*k+2) (2*k+2)) (.int .i64 0) (.slice (some ⟨gR,0,none⟩) k k));have q3:=Az (seven_H hA r3 (by decide) (.slice none 0 0) (.int .i64 0) (.int .i64 0) (.slice (some ⟨gB,0,none⟩) 4 4) (.slice (some ⟨gM,0,none⟩) (2*k+2) (2*k+2)) (.int .i64 0) (.slice (some ⟨gR,0,none⟩) k k));have hsZ:=hsM.1;clear r1 r2 r3 hBk hR hsM hsR;replace hN:=Az hN;replace hM:=Az hM;replace hNp:=Az hNp;replace hMp:=Az hMp;clear hA hBl;refine Ab (rs:=[11]) (by kernel_rfl) (by simp) ?_;refine Aa.cons (An rfl) (fun K hK=>?_) Aa.nil;go_simp
   go_wp2_with fail
   refine hK.out _ _ (fun _=>trivial) (fun _=>?_);try simp only[Act.put,Sa,Sb,Sc]
   refine A4 (by kernel_rfl) ?_ _;go_wp2;go_meet
   obtain⟨g1,g2,g3⟩:=hfin.out _ rfl;exact⟨p,some ⟨gB,0,none⟩,some ⟨gM,0,none⟩,some ⟨gR,0,none⟩,4,2*k+2,4,2*k+2,k,rfl,⟨⟨g2,(g3 _ (Nat.ne_of_lt hNp.out)).trans hN.out,g1,hNp.out⟩⟩,⟨q1.out _ rfl,q2.out _ rfl,q3.out _ rfl⟩⟩)
 case rest =>
  obtain⟨p,B,C,D,n1,n2,k1,k2,k3,rfl,hB,hH⟩:=hcut;go_wp2_with fail
  refine(CT.out _).mono ?_;rintro e w1 ⟨rfl,rfl⟩;go_wp2_with fail
  refine(CA.out _ (he.below hB.out.b)).mono ?_;rintro e w2 ⟨va,rfl,hr,hb⟩;have hB2:=hB.out.keep hb;have hr2:=hr.mono hB.out.b.size;obtain⟨A,mm,c,rfl⟩:=AB hr;have x1:=Az (hB2.finH (va:=.slice A mm c) (B2 Du).1.lock (B2 Du).1.unlock (hH.out.1.keep hb) (by decide));have x2:=Az (hB2.finH (va:=.slice A mm c) (B2 Du).1.lock (B2 Du).1.unlock (hH.out.2.1.keep hb) (by decide));have x3:=Az (hB2.finH (va:=.slice A mm c) (B2 Du).1.lock (B2 Du).1.unlock (hH.out.2.2.keep hb) (by decide));have hfin:=Az (hB2.fin (B2 Du).1.lock (B2 Du).1.unlock hr2);have c0:w2.cell? ⟨p,0,none⟩=some (.slice none 0 0):=(Bc hB2.q 0).trans rfl;have c1:w2.cell? ⟨p,1,none⟩=some (.int .i64 0):=(Bc hB2.q 1).trans rfl;have c2:w2.cell? ⟨p,2,none⟩=some (.int .i64 0):=(Bc hB2.q 2).trans rfl;have c3:w2.cell? ⟨p,3,none⟩=some (.slice B n1 k1):=(Bc hB2.q 3).trans rfl;have c4:w2.cell? ⟨p,4,none⟩=some (.slice C n2 k2):=(Bc hB2.q 4).trans rfl;have c5:w2.cell? ⟨p,5,none⟩=some (.int .i64 0):=(Bc hB2.q 5).trans rfl;have c6:w2.cell? ⟨p,6,none⟩=some (.slice D k k3):=(Bc hB2.q 6).trans rfl;have f0:=Bf hB2.q 0;have f1:=Bf hB2.q 1;have f2:=Bf hB2.q 2;have d0:w2.cell? ⟨w.heap.size,0,none⟩=some (.slice none 0 0):=(Bc hB2.c 0).trans rfl;have d1:w2.cell? ⟨w.heap.size,1,none⟩=some (.int .i64 0):=(Bc hB2.c 1).trans rfl;have d2:w2.cell? ⟨w.heap.size,2,none⟩=some (.int .i64 0):=(Bc hB2.c 2).trans rfl;have d3:w2.cell? ⟨w.heap.size,3,none⟩=some (.slice none 0 0):=(Bc hB2.c 3).trans rfl;have d4:w2.cell? ⟨w.heap.size,4,none⟩=some (.slice none 0 0):=(Bc hB2.c 4).trans rfl;have d5:w2.cell? ⟨w.heap.size,5,none⟩=some (.int .i64 0):=(Bc hB2.c 5).trans rfl;have d6:w2.cell? ⟨w.heap.size,6,none⟩=some (.slice none 0 0):=(Bc hB2.c 6).trans rfl;have e0:=Bf hB2.c 0;have e1:=Bf hB2.c 1;have e2:=Bf hB2.c 2;have e3:=Bf hB2.c 3;have e4:=Bf hB2.c 4;have e5:=Bf hB2.c 5;have e6:=Bf hB2.c 6;have z0:w.heap.size<w2.heap.size:=Bl hB2.c;have zp:p<w2.heap.size:=Bl hB2.q;have ne0:¬w.heap.size=p:=Nat.ne_of_lt hB2.ne;have ne1:¬p=w.heap.size:=Nat.ne_of_gt hB2.ne;clear hH hB hB2 hr hr2 hb CT CA;go_wp2;obtain⟨g1,g2,g3⟩:=hfin.out _ rfl;refine bodyPost_ret (AD rfl _ _ w.heap.size 37 #[.slice A mm c,.int .i64 (B2 Du).1.lock,.int .i64 (B2 Du).1.unlock,.slice B n1 k1,.slice C n2 k2,.int .i64 0,.slice D k k3] (0,0) _ rfl g1 Tryz.underlying37 rfl (by kernel_rfl)) rfl ⟨_,_,_,_,rfl,g2,x1.out _ rfl,x2.out _ rfl,x3.out _ rfl,g3⟩
theorem Rk(n:Int)(h:n<1∨64<n)(w:World):Calls Tryz.prog 13 #[.int .i64 n] w (FX w):=by
 have hN:=Bv w (.cells #[.slice none 0 0,.int .i64 0,.int .i64 0,.slice none 0 0,.slice none 0 0,.int .i64 0,.slice none 0 0] 37);have hb0:=Bw w (.cells #[.slice none 0 0,.int .i64 0,.int .i64 0,.slice none 0 0,.slice none 0 0,.int .i64 0,.slice none 0 0] 37);have hfin:=GZ hb0 hN;obtain⟨w0,hw0⟩:∃ y,w.alloc (.cells #[.slice none 0 0,.int .i64 0,.int .i64 0,.slice none 0 0,.slice none 0 0,.int .i64 0,.slice none 0 0] 37)=y:=⟨_,rfl⟩
 rw[hw0]at hfin hN;have d0:w0.cell? ⟨w.heap.size,0,none⟩=some (.slice none 0 0):=(Bc hN 0).trans rfl;have d1:w0.cell? ⟨w.heap.size,1,none⟩=some (.int .i64 0):=(Bc hN 1).trans rfl;have d2:w0.cell? ⟨w.heap.size,2,none⟩=some (.int .i64 0):=(Bc hN 2).trans rfl;have d3:w0.cell? ⟨w.heap.size,3,none⟩=some (.slice none 0 0):=(Bc hN 3).trans rfl;have d4:w0.cell? ⟨w.heap.size,4,none⟩=some (.slice none 0 0):=(Bc hN 4).trans rfl;have d5:w0.cell? ⟨w.heap.size,5,none⟩=some (.int .i64 0):=(Bc hN 5).trans rfl;have d6:w0.cell? ⟨w.heap.size,6,none⟩=some (.slice none 0 0):=(Bc hN 6).trans rfl;have e0:=Bf hN 0;have e1:=Bf hN 1;have e2:=Bf hN 2;have e3:=Bf hN 3;have e4:=Bf hN 4;have e5:=Bf hN 5;have e6:=Bf hN 6;have z0:w.heap.size<w0.heap.size:=Bl hN;replace hfin:=Az hfin;clear hN hb0;go_enter Tryz.func13,Tryz.ntmps13;go_upto_region 1 with fail
 try rw[hw0]
 clear hw0;go_cut [10] (fun v wx=>v=.bool true∧wx=w0)
 case first =>
  rcases h with h |h
  ·have hd1:decide (n<1)=true:=decide_eq_true h;go_wp2;go_meet
   exact⟨rfl,rfl⟩
  ·have hd1:decide (n<1)=false:=decide_eq_false (by omega);have hd2:decide (64<n)=true:=decide_eq_true h;go_wp2;go_meet
   exact⟨rfl,rfl⟩
 case rest =>
  obtain⟨rfl,rfl⟩:=hcut;go_wp2;obtain⟨g1,g2⟩:=hfin.out _ rfl;refine bodyPost_ret (AD rfl _ _ w.heap.size 37 #[.slice none 0 0,.int .i64 0,.int .i64 0,.slice none 0 0,.slice none 0 0,.int .i64 0,.slice none 0 0] (0,0) _ rfl g1 Tryz.underlying37 rfl (by kernel_rfl)) rfl ⟨rfl,g2⟩
theorem Gd(w:World)(he:Env w):Calls Tryz.prog 12 #[] w fun e w'=>e=.returned (.bool true)∧Below w.heap.size w w':=by
 have C:=Ki 2 (by decide) (by decide) w he;unfold SpecHas at C;have hm:=VJ;generalize B2 Du=fin at C hm;obtain⟨⟨fl,fa,fb⟩,f1,f2⟩:=fin;dsimp only at C hm;replace C:=Az C;replace hm:=Az hm;go_enter Tryz.func12,Tryz.ntmps12;go_wp2_with fail
 refine C.out.mono ?_;rintro e w1 ⟨va,vs,vi,vr,rfl,hr,h1,h2,h3,hb⟩;obtain⟨B,k1,rfl⟩:=h1.rdn.slice;obtain⟨C',k2,rfl⟩:=h2.rdn.slice;obtain⟨D,k3,e3⟩:=h3.rdn.slice;have e4:vr=.slice D 2 k3:=e3;subst e4;obtain⟨A,c,rfl⟩:=(Cw.rd hr).slice;have hd:decide ((4:Int)<(fl.length:Int))=true:=decide_eq_true (by have:=hm.out;omega);have hb2:=Az (fun o=>hb.alloc hb.size o);clear hr hb C hm;go_wp2;go_ret;exact⟨rfl,hb2.out _⟩
end
end Go.Proofs.YtjjpiefgdggghaaGreatDoor

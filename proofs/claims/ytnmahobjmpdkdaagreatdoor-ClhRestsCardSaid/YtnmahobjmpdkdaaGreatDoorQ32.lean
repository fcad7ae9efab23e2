/- Parts: RefAsm, SpecR, LawKit. -/
import Derived.Test.YtnmahobjmpdkdaaGreatDoorQ02
import Derived.Test.YtnmahobjmpdkdaaGreatDoorQ05
import Derived.Test.YtnmahobjmpdkdaaGreatDoorQ26
import Derived.Test.YtnmahobjmpdkdaaGreatDoorQ31
import Derived.Deep.RegionHeld3
import Derived.Test.YtnmahobjmpdkdaaGreatDoorQ25
import Derived.Test.YtnmahobjmpdkdaaGreatDoorQ24
set_option linter.unusedVariables false
set_option linter.unusedSimpArgs false
set_option maxRecDepth 100000
set_option maxHeartbeats 40000000
namespace Go.Proofs.YtnmahobjmpdkdaaGreatDoor
section
open Go.RowKit Go.Proofs.YtnmahobjmpdkdaaGreatDoorW.PrintWords
def X2(w:World)(fin:Pg×Int×Int)(e:Ending)(w':World):Prop :=
 ∃ v,e=.returned (.tuple #[.agg #[v,.int .i64 fin.1.lock,.int .i64 fin.1.unlock],.int .i64 fin.2.1,.int .i64 fin.2.2])∧BM w' w.heap.size v fin.1.l∧Below w.heap.size w w'
theorem Ue(w:World)(fin:Pg×Int×Int)(a:Act)(W:World)(v:Value)(hd:a.defers=[])
  (h2:a.tmps.getD 2 undef=.pointer (some ⟨w.heap.size,0,none⟩))(h3:a.tmps.getD 3 undef=.int .i64 fin.2.1)(h4:a.tmps.getD 4 undef=.int .i64 fin.2.2)
  (c2:W.heap[w.heap.size]?=some (.cells #[v,.int .i64 fin.1.lock,.int .i64 fin.1.unlock] 26 (0,0)))(hr:BM W w.heap.size v fin.1.l)(hb:Below w.heap.size w W) :
  bodyPost Tryz.prog Tryz.f38 (X2 w fin) .ret a W :=
 bodyPost_ret (Dh rfl _ _ w.heap.size _ #[v,.int .i64 fin.1.lock,.int .i64 fin.1.unlock] (0,0) _ h2 c2 Tryz.underlying26 rfl (by kernel_rfl)) hd ⟨v,by rw[h3,h4],hr,hb⟩
section
variable {ops:Array Oper} {rest:List Oper} {o:Oper} {a:Act} {Q:Exit→Act→World→Prop} {W:World}
theorem X5(hgd:o.guard=none)(s x:Operand)(ho:o.op=.call {callee:=.builtin .append,args:=#[s,x],argTypes:=#[24,24]})
  (base g:Nat)(y:In)(v:Value)(xs:List In)(hs:a.eval s=v)(hr:BM W base v xs)(hx:a.eval x=.slice (some ⟨g,0,none⟩) 1 1)
  (hy:W.heap[g]?=some (.cells y.cs 90 (0,0)))(hl:xs.length≤1000000)(hb:base≤W.heap.size)
  (h:∀ v' W1,BM W1 base v' (xs++[y])→W.grownBy W1 v.ownBlock→wpList Tryz.prog ops Q rest (a.put o.dst v') W1) :
  wpList Tryz.prog ops Q (o::rest) a W:=by
 obtain⟨i9,hi,hz0,hz1,hz2⟩:=info_parts N5;refine wpList_append_own_at _ hgd s x 24 ho base 90 i9 (.agg In.zero.cs) 8 64 Tryz.underlying24 hi hz0 hz1 hz2 rfl (by decide) v xs.length (Bu xs) hs hr ⟨g,0,none⟩ 1 1 y.cs.toList hx rfl ?_ ?_ ?_ ?_ hb ?_
 ·intro j u hj;rw[add_plain];exact(Bc hy j).trans (by simpa using hj)
 ·intro u hu;have:u∈y.cs.toList:=hu;simp[In.cs]at this;rcases this with rfl |rfl |rfl |rfl |rfl |rfl |rfl |rfl<;>rfl
 ·simp[maxLen];omega
 ·omega
 ·intro v' W1 h1 h2 _ h4;refine h v' W1 ?_ h2;unfold BM;rw[Gh,List.length_append];exact h1
end
theorem QT(l:List UInt8)(i:Nat)(hi:i<l.length)(W:World):(Instr.index 9 (.string ⟨l.toArray⟩) (.int .i64 (i:Int))).run Tryz.prog W=.ok (.int .u8 ((l.getD i 0).toNat:Int)) W:=by
 rw[run_index_string W 9 _ .i64 i Tryz.underlying9,dif_pos ⟨by omega,by simp[ByteArray.size];omega⟩];have:(⟨l.toArray⟩:ByteArray)[(i:Int).toNat]'(by simp[ByteArray.size];omega)=l.getD i 0:=by
  simp[List.getD_eq_getElem?_getD,List.getElem?_eq_getElem hi];rfl
 rw[this]
theorem X6(l:List UInt8)(f i:Nat)(hf:f≤i)(hi:i≤l.length)(W:World):(Instr.slice 9 (.string ⟨l.toArray⟩) (some (.int .i64 (f:Int))) (some (.int .i64 (i:Int))) none).run Tryz.prog W=.ok (.string ⟨((l.drop f).take (i-f)).toArray⟩) W:=by
 have hz:(⟨l.toArray⟩:ByteArray).size=l.length:=by simp[ByteArray.size]
 rw[run_slice_string W 9 ⟨l.toArray⟩ .i64 .i64 (f:Int) (i:Int) Tryz.underlying9 (by omega) (by omega) (by rw[hz];omega),DR];rfl
theorem Qe(t:List UInt8)(w:World)(ht:t.length≤90000):Calls Tryz.prog 38 #[.string ⟨t.toArray⟩] w (X2 w (AS t)):=by
 obtain⟨fin,hA⟩:∃ fin,AS t=fin:=⟨_,rfl⟩
 rw[hA];have hstop:∀ {x:Src} {n e:Int},Fu (Bh t) 0 Src.zero=(x,n,e)→e≠0→fin=(Pg.zero,n,e):=fun h he=>hA.symm.trans (Sz h he)
 replace hstop:=Az (@hstop);replace hA:=Az hA;have hR0:=RX.start w;obtain⟨W0,hW0⟩:∃ x,((w.alloc (.cells #[.slice none 0 0,.int .i64 0,.int .i64 0] 26)).alloc (.cells #[.slice none 0 0,.int .i64 0,.int .i64 0] 26))=x:=⟨_,rfl⟩
 rw[hW0]at hR0;replace hR0:=Az hR0;go_enter Tryz.func38,Tryz.ntmps38;have hQ:=Az (fun a W v=>Ue w fin a W v);go_wp2_with fail
 try rw[hW0]
 try simp only[Nat.add_assoc,Nat.reduceAdd]
 go_loopw [6,7,8,9,10,11] (fun v6 v7 v8 v9 v10 v11 wr=>∃ (f n i:Nat) (x:Src) (v0:Value),v9=.int .i64 (f:Int)∧v10=.int .i64 (n:Int)∧v11=.int .i64 (i:Int)∧i≤t.length∧f≤i∧n≤i ∧
  Af (Fu (Bh t) 0 Src.zero=Fu (Bh (t.drop f)) n x)∧Af ((10:UInt8)∉(t.drop f).take (i-f))∧Af (Ik x n)∧Af (RX w wr w.heap.size v0 v6 v7 v8 x.l x.names x.rows x.labels)) (fun _ _ _ _ _ v11 _=>t.length-(intOf v11).toNat)
 case atStart=>exact⟨0,0,0,Src.zero,_,rfl,rfl,rfl,Nat.zero_le _,Nl _,Nl _,⟨rfl⟩,⟨by simp⟩,⟨⟨rfl,rfl,by simp[Src.zero],Nl _,fun s h=>by cases h⟩⟩,hR0⟩
 case round =>
  clear hR0 hW0;obtain⟨f,n,i,x,v0,rfl,rfl,rfl,hi,hfi,hni,hF,hno,hok,hR⟩:=hrel;by_cases hlt:i<t.length
  ·have hix:=fun W=>QT t i hlt W
   have NW:(0:Int)≤(i:Int):=by omega
   have hi1:(i:Int)<(t.length:Int):=by omega
   have Q8:IntKind.i64.wrap ((i:Int)+1)=(i:Int)+1:=by rw[IntKind.wrap_i64];omega
   by_cases h10:t.getD i 0=10
   ·have hb:(t.getD i 0).toNat=10:=by rw[h10];rfl
    rw[hb]at hix;have hline:=S0 (n:=(n:Int)) (x:=x) hlt hfi h10 hno.out;rw[←hF.out]at hline;have hsl:=fun W=>X6 t f i hfi hi W
    have hs1:((t.drop f).take (i-f)).length≤90000:=by rw[List.length_take,List.length_drop];omega
    have hf0:(0:Int)≤(f:Int):=by omega
    have hf1:(f:Int)≤(i:Int):=by omega
    have hi2:(i:Int)≤(t.length:Int):=by omega
    have hnw:IntKind.i64.wrap ((n:Int)+1)=(n:Int)+1:=by rw[IntKind.wrap_i64];omega
    generalize (t.drop f).take (i-f)=s at *;have hstep:=Az (Uf hok.out s ((n:Int)+1));have hdone:∀ {x':Src},Ed x s ((n:Int)+1)=(x',0)→Fu (Bh t) 0 Src.zero=Fu (Bh (t.drop (i+1))) ((n+1:Nat):Int) x':=fun h=>by rw[hline,h,if_pos rfl];rfl
    have hbad:∀ {x':Src} {e:Int},Ed x s ((n:Int)+1)=(x',e)→e≠0→fin=(Pg.zero,(n:Int)+1,e):=fun h he=>hstop.out (hline.trans (by rw[h,if_neg he])) he
    replace hdone:=Az (@hdone);replace hbad:=Az (@hbad);clear hF hno h10 hb hline;obtain⟨dd,hdd⟩:∃ D,decide (s.getLast?=some 58∧Cq s.dropLast=true)=D:=⟨_,rfl⟩
    replace hdd:=Az hdd;go_upto_region 13 with fail
    go_cut [55] (fun v wx=>v=.bool dd∧Af (RX w wx w.heap.size v0 u6 u7 u8 x.l x.names x.rows x.labels))
    case first =>
     clear hix hsl;by_cases hs0:0<s.length
     ·obtain⟨q,hq⟩:∃ q,s.length=q+1:=⟨s.length-1,by omega⟩
      have hs0':(0:Int)<(s.length:Int):=by omega
      have hlw:IntKind.i64.wrap ((s.length:Int)-1)=(q:Int):=by rw[IntKind.wrap_i64];omega
      have JW:=fun W=>QT s q (by omega) W
      have hq0:(0:Int)≤(q:Int):=by omega
      have hq1:(q:Int)<(s.length:Int):=by omega
      have hq2:(q:Int)≤(s.length:Int):=by omega
      have hgl:=VO s q hq;have hs2:=fun W=>QU s q hq W
      have he2:=OO s q hq;have CN:=Az (fun W=>JC s.dropLast W (by simp;omega));replace hdd:=hdd.out;rw[hgl]at hdd;generalize Cq s.dropLast=nb at *;generalize s.dropLast=sd at *;clear hgl;replace hq:=Az hq;by_cases hc:s.getD q 0=58
      ·have hb:(s.getD q 0).toNat=58:=by rw[hc];rfl
       rw[hb]at JW;rw[hc]at hdd;have hdn:dd=nb:=by rw[←hdd];cases nb<;>simp
       subst hdn;clear hb hc hdd;go_wp2_with fail
       refine(CN.out _).mono ?_;rintro e w2 ⟨rfl,hb2⟩;go_wp2;go_meet
       exact⟨rfl,⟨hR.out.keep hb2⟩⟩
      ·have hb:¬(s.getD q 0).toNat=58:=fun e=>hc (UInt8.toNat_inj.1 (by rw[e];rfl))
       rw[decide_eq_false (fun h=>hc (Option.some.inj h.1))]at hdd;subst hdd;clear hc;generalize (s.getD q 0).toNat=c at *;have hb1:¬(c:Int)=58:=by omega
       have hb2:((c:Int)==58)=false:=Bq hb1;go_wp2;go_meet
       exact⟨rfl,hR⟩
     ·have hs00:s=[]:=List.length_eq_zero_iff.1 (by omega);subst hs00;have hd0:dd=false:=by rw[←hdd.out];simp
      subst hd0;go_wp2;go_meet
      exact⟨rfl,hR⟩
    case rest =>
     obtain⟨rfl,hR⟩:=hcut;by_cases hlab:s.getLast?=some 58∧Cq s.dropLast=true
     ·have hd1:dd=true:=by rw[←hdd.out];exact decide_eq_true hlab
      subst hd1;clear hdd;have hst:Ed x s ((n:Int)+1)=if KC x.labels s.dropLast=true then (x,2) else ({x with labels:=x.labels++[(s.dropLast,x.l.length)]},0):=by
       unfold Ed;rw[if_pos hlab]
      obtain⟨q,hq⟩:∃ q,s.length=q+1:=⟨s.length-1,by
       have:s≠[]:=fun e=>by rw[e]at hlab;simp at hlab
       have:=List.length_pos_iff.2 this;omega⟩
      have hlw:IntKind.i64.wrap ((s.length:Int)-1)=(q:Int):=by rw[IntKind.wrap_i64];omega
      have hq0:(0:Int)≤(q:Int):=by omega
      have hq2:(q:Int)≤(s.length:Int):=by omega
      have hs2:=fun W=>QU s q hq W
      have he2:=OO s q hq;generalize s.dropLast=sd at *;replace hq:=Az hq;obtain⟨A,c,rfl⟩:=Dj hR.out.q3;obtain⟨A0,c0,rfl⟩:=Dj hR.out.q0;obtain⟨m,hm⟩:∃ m,x.labels.length=m:=⟨_,rfl⟩
      have hm9:m≤90000:=by have:=hok.out.b;omega
      rw[hm]at hR;replace hm:=Az hm;replace hst:=Az hst;clear hlab hix hsl;rw[hm.out];go_wp2_with fail
      go_loopw [58] (fun v58 wr2=>∃ k:Nat,v58=.int .i64 (k:Int)∧k≤m∧Af (∀ p∈x.labels.take k,p.1≠sd)∧Af (RX w wr2 w.heap.size (.slice A0 x.l.length c0) (.slice A m c) u7 u8 x.l x.names x.rows x.labels)) (fun v58 _=>m-(intOf v58).toNat)
      case atStart=>exact⟨0,rfl,Nat.zero_le _,⟨fun p h=>by cases h⟩,hR⟩
      case round =>
       obtain⟨k,rfl,hk,hnone,hR⟩:=hrel;by_cases hkm:k<m
       ·have hkx:k<x.labels.length:=by rw[hm.out];exact hkm
        have hq3:=hR.out.q3;unfold Gy at hq3;obtain⟨g,c',hv,hc,hg,_,hcell⟩:=CJ hq3 (by omega);have hAg:A=some ⟨g,0,none⟩:=by injection hv
        subst hAg;obtain⟨e1,e2⟩:=HV x.labels k hkx;have c1:=hcell _ _ e1;have c2:=hcell _ _ e2;have hnext:(x.labels[k]'hkx).1≠sd→∀ p∈x.labels.take (k+1),p.1≠sd:=fun h p hp=>by
         rw[List.take_succ_eq_append_getElem hkx]at hp;rcases List.mem_append.1 hp with hp |hp
         ·exact hnone.out p hp
         ·rw[List.mem_singleton.1 hp];exact h
        have hhit:(x.labels[k]'hkx).1=sd→KC x.labels sd=true:=fun h=>by
         unfold KC;rw[List.any_eq_true];exact⟨_,List.getElem_mem hkx,by simp[h]⟩
        generalize x.labels[k].1=nm at c1 hnext hhit;generalize x.labels[k].2=pl at c2;have hk0':(0:Int)≤(k:Int):=by omega
        have hk1:(k:Int)<(m:Int):=by omega
        have hkw:IntKind.i64.wrap ((k:Int)+1)=(k:Int)+1:=by rw[IntKind.wrap_i64];omega
        have hRa:=hR.out.keep (Bd (Bw wr (.cells #[.string ⟨nm.toArray⟩,.int .i64 (pl:Int)] 88)));have hbx:=(Bc (Be (Bv wr (.cells #[.string ⟨nm.toArray⟩,.int .i64 (pl:Int)] 88))) 0).trans rfl;replace hRa:=Az hRa;replace hnext:=Az hnext;replace hhit:=Az hhit;clear hcell hv e1 e2 hR hq3 hnone hc;go_wp2_with fail
        go_region_held3 (fun W=>W.cell? ⟨wr.heap.size,0,none⟩=some (.string ⟨nm.toArray⟩)) (first |exact hbx) (first |fail)
        obtain⟨W2,hW2⟩:∃ y,(wr.alloc (.cells #[.string ⟨nm.toArray⟩,.int .i64 (pl:Int)] 88)).drew=y:=⟨_,rfl⟩
        rw[hW2]at hRa;try rw[hW2]
        clear hbx c1 c2;by_cases hn:nm=sd
        ·have hfin:=hbad.out (hst.out.trans (if_pos (hhit.out hn))) (by decide);have hqq:(nm==sd)=true:=beq_iff_eq.2 hn;rw[hqq];subst hfin;obtain⟨y0,y1,y2,y3,y4,y5,y6⟩:=hRa.out.facts;clear hW2;go_wp2;obtain⟨g1,g2⟩:=hRa.out.Ug (.slice none 0 0) (.int .i64 0) (.int .i64 0) _ rfl;exact hQ.out _ _ _ rfl rfl rfl rfl g1 (.nil _ _) g2
        ·have hqq:(nm==sd)=false:=Bq hn;rw[hqq];replace hnext:=Az (hnext.out hn);clear hW2;go_wp2;go_roundw
         case rel=>exact⟨k+1,by go_num,hkm,hnext,hRa⟩
         case measure=>simp[intOf];omega
       ·obtain rfl:k=m:=by omega
        have hge:¬(k:Int)<(k:Int):=by omega
        have hno:KC x.labels sd=false:=by
         have h1:=hnone.out;rw[←hm.out,List.take_length]at h1;unfold KC;rw[List.any_eq_false];intro p hp
         simpa using h1 p hp
        have hst2:=hst.out.trans (if_neg (by rw[hno];simp));rw[hst2]at hstep;replace hdone:=Az (hdone.out hst2);have hl64:x.l.length≤64:=hok.out.l;have hS:=hR.out.Jj.1;clear hst2 hst hno hnone hbad;go_wp2_with fail
        refine Ay [10] (S:=fun W=>W.cell? ⟨w.heap.size+1,0,none⟩=some (.slice A0 x.l.length c0)) (by kernel_rfl) hS (fun hS0=>?_);have hR5:=hR.out.keep (Bd (Below.refl _ _));clear hS;obtain⟨w5,hw5⟩:∃ y,wr.drew=y:=⟨_,rfl⟩
        rw[hw5]at hR5 hS0 ⊢;clear hw5;refine tY 0 (fun _=>by assumption) ?_;refine tY 1 (fun _=>by assumption) ?_;refine tY 2 (fun _=>by assumption) ?_;refine tY 3 (fun _=>by assumption) ?_;refine tY 4 (fun _=>by assumption) ?_;refine tY 5 (fun _=>by assumption) ?_;refine tY 6 (fun _=>by assumption) ?_;refine Ez (i:=7) (v:=?_) (An rfl) (by kernel_rfl) (fun _ _ _ h=>h) (.inl ⟨by rfl,?_⟩) (by assumption) ?_;rotate_left
        ·intro w hSw;go_simp;try with_reducible rfl
        try simp only[Act.put,Sa,Sb,Sc]
        refine tY 8 (fun _=>by assumption) ?_;refine tY 9 (fun _=>by assumption) ?_;refine Ab (rs:=[10]) (by kernel_rfl) (by simp) ?_;refine Aa.cons (An rfl) (fun K hK=>?_) Aa.nil;refine Uh rfl (.tmp 82) rfl sd x.l.length rfl (fun g10 w6 hb hy=>?_);have hR6:=hR5.keep hb;refine hK.out _ _ (fun h=>by cases h) (fun _=>?_);try simp only[Act.put,Sa,Sb,Sc]
        refine Ab (rs:=[11]) (by kernel_rfl) (by simp) ?_;refine Aa.cons (An rfl) (fun K hK=>?_) Aa.nil;refine Ui rfl (.tmp 73) (.tmp 83) rfl w.heap.size g10 (sd,x.l.length) _ x.labels rfl hR6.q3 rfl hy (by rw[hm.out];omega) hR6.hz (fun u7' w7 hr hg ha=>?_);have hR7:=Az (hR6.a3 hr hg);refine hK.out _ _ (fun h=>by cases h) (fun _=>?_);try simp only[Act.put,Sa,Sb,Sc]
        clear hR5 hR6 hb hy hr hg ha hS0;refine tY 12 (fun h=>by cases h) ?_;refine AE (by kernel_rfl) ?_ _;go_wp2;go_roundw
        case rel=>exact⟨i+1,n+1,i+1,_,_,by go_num,by go_num,by go_num,by omega,Nl _,by omega,hdone,⟨by simp⟩,hstep,hR7⟩
        case measure=>simp[intOf];omega
     ·have hd1:dd=false:=by rw[←hdd.out];exact decide_eq_false hlab
      subst hd1;have hst:Ed x s ((n:Int)+1)=if (DJ s).2.2=false then (x,8) else if 64≤x.l.length then (x,9) else ({x with l:=x.l++[(DJ s).1],names:=x.names++[(DJ s).2.1],rows:=x.rows++[(n:Int)+1]},0):=by
       unfold Ed;rw[if_neg hlab]
      have CL:=fun W=>OP s W hs1
      generalize DJ s=r at hst CL;obtain⟨⟨op,d,s',t',u,a,k,q⟩,nm,ok⟩:=r;dsimp only at hst CL;dsimp only[In.v]at CL;replace CL:=Az CL;replace hst:=Az hst;obtain⟨A0,c0,rfl⟩:=Dj hR.out.q0;clear hdd hix hsl hlab;go_wp2_with fail
      refine(CL.out _).mono ?_;rintro e w2 ⟨rfl,hb⟩;have hR3:=(hR.out.keep hb).keep (Bw w2 (.cells (In.cs ⟨op,d,s',t',u,a,k,q⟩) 90));have hbx:=Bv w2 (.cells (In.cs ⟨op,d,s',t',u,a,k,q⟩) 90);obtain⟨w3,hw3⟩:∃ y,w2.alloc (.cells (In.cs ⟨op,d,s',t',u,a,k,q⟩) 90)=y:=⟨_,rfl⟩
      obtain⟨g3,hg3⟩:∃ y,w2.heap.size=y:=⟨_,rfl⟩
      rw[hw3]at hR3 hbx;rw[hg3]at hbx;simp only[In.cs]at hw3;go_upto_region 22 with fail
      try rw[hw3]
      try rw[hg3]
      clear hw3 hg3 hR hb CL;replace hR3:=Az hR3;replace hbx:=Az hbx;obtain⟨y0,y1,y2,y3,y4,y5,y6⟩:=hR3.out.facts;obtain⟨k0,k1,k2,k3,k4,k5,k6⟩:=hR3.out.Jj;cases ok with
      |false =>
       have hfin:=hbad.out (hst.out.trans (if_pos rfl)) (by decide);subst hfin;go_wp2;obtain⟨g1,g2⟩:=hR3.out.Ug (.slice none 0 0) (.int .i64 0) (.int .i64 0) _ rfl;exact hQ.out _ _ _ rfl rfl rfl rfl g1 (.nil _ _) g2
      |true =>
       by_cases h64:64≤x.l.length
       ·have hfin:=hbad.out (hst.out.trans ((if_neg (by decide)).trans (if_pos h64))) (by decide);subst hfin;have h64a:decide (64≤(x.l.length:Int))=true:=decide_eq_true (by omega);go_wp2;obtain⟨g1,g2⟩:=hR3.out.Ug (.slice none 0 0) (.int .i64 0) (.int .i64 0) _ rfl;exact hQ.out _ _ _ rfl rfl rfl rfl g1 (.nil _ _) g2
       ·have hst2:=hst.out.trans ((if_neg (by decide)).trans (if_neg h64));rw[hst2]at hstep;replace hdone:=Az (hdone.out hst2);have h64a:decide (64≤(x.l.length:Int))=false:=decide_eq_false (by omega);have hnl:x.names.length≤64:=by rw[hok.out.n];exact hok.out.l
        have JJ:x.rows.length≤64:=by rw[hok.out.r];exact hok.out.l
        obtain⟨x0,x1,x2,x3,x4,x5,x6,x7⟩:=GZ hbx.out;have hRa:=Az (hR3.out.keep (Bw w3 (.cells (In.cs ⟨op,d,s',t',u,a,k,q⟩) 90)));clear hst2 hst hbad y0 y1 y2 y3 y4 y5 y6;go_wp2_with (at_builtin;refine X5 rfl (.tmp 102) (.tmp 104) rfl w.heap.size w3.heap.size ⟨op,d,s',t',u,a,k,q⟩ (.slice A0 x.l.length c0) x.l rfl hRa.out.q0 rfl (Bv _ _) ?hl ?hb ?_)
        case hl=>omega
        case hb=>exact Nat.le_succ_of_le hR3.out.hz
        intro v1 w4 hr4 hg4;obtain⟨A1,c1,hv1⟩:=Dj hr4;simp only[List.length_append,List.length_singleton]at hv1;subst hv1;have hR4:=hRa.out.a0 hr4 hg4;have hc5:=Bg hRa.out.c5 hg4 (Oa hRa.out.q0 hRa.out.c5 (by decide));have l0:w4.cell? ⟨w.heap.size+1,0,none⟩=some (.slice A0 x.l.length c0):=(Bc hc5 0).trans rfl;have l1:=Bf hc5 0;have l2:=Bl hc5;replace hR4:=Az hR4;have hRb:=Az (hR4.out.keep (Bw _ (.cells #[.string ⟨nm.toArray⟩] 9)));clear hRa hR3 hbx k0 k1 k2 k3 k4 k5 k6 x0 x1 x2 x3 x4 x5 x6 x7 hr4 hg4 hc5;go_wp2_with (at_builtin;refine Xi rfl (.tmp 107) (.tmp 109) rfl w.heap.size w4.heap.size nm u7 x.names rfl hRb.out.q1 rfl (Dk (by simp) _) ?hl2 ?hb2 ?_)
        case hl2=>omega
        case hb2=>exact hRb.out.hz
        intro v2 w5 hr5 hg5 ha5;have hR5:=hRb.out.a1 hr5 hg5;have hRc:=Az (hR5.keep (Bw _ (.cells #[.int .i64 ((n:Int)+1)] 3)));replace hR5:=Az hR5;clear hRb hR4 hr5 hg5 ha5 l0 l1 l2;go_wp2_with (at_builtin;refine Nd rfl (.tmp 111) (.tmp 113) rfl w.heap.size w5.heap.size ((n:Int)+1) u8 x.rows rfl hRc.out.q2 rfl (Bv _ _) ?hl3 ?hb3 ?_)
        case hl3=>omega
        case hb3=>exact hRc.out.hz
        intro v3 w6 hr6 hg6 ha6;have hR6:=Az (hRc.out.a2 hr6 hg6);clear hRc hR5 hr6 hg6 ha6;go_wp2;go_roundw
        case rel=>exact⟨i+1,n+1,i+1,_,_,by go_num,by go_num,by go_num,by omega,Nl _,by omega,hdone,⟨by simp⟩,hstep,hR6⟩
        case measure=>simp[intOf];omega
   ·have hb:¬(t.getD i 0).toNat=10:=fun e=>h10 (UInt8.toNat_inj.1 (by rw[e];rfl))
    have hno2:=Az (S2 hlt hfi h10 hno.out);generalize (t.getD i 0).toNat=c at *;have hb1:¬(c:Int)=10:=by omega
    have hb2:((c:Int)==10)=false:=Bq hb1;go_wp2;go_roundw
    case rel=>exact⟨f,n,i+1,x,v0,rfl,rfl,by go_num,by omega,by omega,by omega,hF,hno2,hok,hR⟩
    case measure=>simp[intOf];omega
  ·obtain rfl:i=t.length:=by omega
   have hge:¬(t.length:Int)<(t.length:Int):=by omega
   have hend:=Uj (n:=(n:Int)) (x:=x) (f:=f) (t:=t) (by have:=hno.out;rwa [List.take_of_length_le (by simp)]at this);rw[←hF.out]at hend;clear hF hno;by_cases hfl:f<t.length
   ·rw[if_pos hfl]at hend;have hfin:=hstop.out hend (by decide);subst hfin;have hfl':(f:Int)<(t.length:Int):=by omega
    have hnw:IntKind.i64.wrap ((n:Int)+1)=(n:Int)+1:=by rw[IntKind.wrap_i64];omega
    obtain⟨y0,y1,y2,y3,y4,y5,y6⟩:=hR.out.facts;clear hend;go_wp2;obtain⟨g1,g2⟩:=hR.out.Ug (.slice none 0 0) (.int .i64 0) (.int .i64 0) _ rfl;exact hQ.out _ _ _ rfl rfl rfl rfl g1 (.nil _ _) g2
   ·rw[if_neg hfl]at hend;have hfl':¬(f:Int)<(t.length:Int):=by omega
    have hgo:=hA.out.symm.trans (VP hend);clear hend hfl hstop hA;obtain⟨A0,c0,rfl⟩:=Dj hR.out.q0;obtain⟨A3,c3,rfl⟩:=Dj hR.out.q3;obtain⟨A1,c1,rfl⟩:=Dj hR.out.q1;obtain⟨A2,c2,rfl⟩:=Dj hR.out.q2;have n0:=hok.out.n;have r0:=hok.out.r;have l0:=hok.out.l;have hm9:x.labels.length≤90000:=by have:=hok.out.b;omega
    obtain⟨m,hm⟩:∃ m,x.l.length=m:=⟨_,rfl⟩
    rw[hm]at hR n0 r0 l0;rw[n0,r0]at hR;obtain⟨fx,hfx⟩:∃ fx,Ha x 0 []=fx:=⟨_,rfl⟩
    rw[hfx]at hgo;rw[hm]at hgo;replace hm:=Az hm;replace hgo:=Az hgo;replace hfx:=Az hfx;have k0:=hR.out.Jj.1;rw[n0,r0];go_wp2_with fail
    clear k0;go_loopw [125] (fun v125 wr2=>∃ (k:Nat) (done:List In),v125=.int .i64 (k:Int)∧k≤m∧Af (done.length=k)∧Af (Ha x k done=fx)∧Af (RX w wr2 w.heap.size (.slice A0 m c0) (.slice A3 x.labels.length c3) (.slice A1 m c1) (.slice A2 m c2) (done++x.l.drop k) x.names x.rows x.labels)) (fun v125 _=>m-(intOf v125).toNat)
    case atStart=>exact⟨0,[],rfl,Nat.zero_le _,⟨rfl⟩,hfx,⟨by simpa using hR.out⟩⟩
    case round =>
     obtain⟨k,done,rfl,hk,hdl,hJ,hR⟩:=hrel;clear hfx;by_cases hlt:k<m
     ·have hlen:(done++x.l.drop k).length=m:=by rw[List.length_append,List.length_drop,hm.out,hdl.out];omega
      have hk0:(0:Int)≤(k:Int):=by omega
      have hk1:(k:Int)<(m:Int):=by omega
      have hkw:IntKind.i64.wrap ((k:Int)+1)=(k:Int)+1:=by rw[IntKind.wrap_i64];omega
      have hkc:(k:Int)+1=((k+1:Nat):Int):=by omega
      have hdl1:∀ i:In,(done++[i]).length=k+1:=fun i=>by rw[List.length_append,hdl.out];rfl
      have hstep:=Qn (x:=x) (k:=k) (done:=done) (by rw[hm.out];exact hlt) (by rw[hm.out];exact n0) (by rw[hm.out];exact r0);rw[hJ.out,hm.out]at hstep;have hq1:=hR.out.q1;unfold Ex at hq1;rw[n0]at hq1;obtain⟨g1,c1',hv1,hc1,_,_,hcell1⟩:=CJ hq1 (by omega);have hA1:A1=some ⟨g1,0,none⟩:=by injection hv1
      subst hA1;have nk:wr.cell? ⟨g1,k,none⟩=some (.string ⟨(x.names.getD k []).toArray⟩):=hcell1 k _ (by
       rw[List.getElem?_map,List.getElem?_eq_getElem (show k<x.names.length by omega),getD_eq (show k<x.names.length by omega)];rfl)
      generalize x.names.getD k []=nm at nk hstep;replace hstep:=Az hstep;replace hdl1:=Az hdl1;replace hkc:=Az hkc;clear hcell1 hv1 hc1 hq1;cases nm with
      |nil =>
       go_wp2_with fail
       go_roundw
       case rel =>
        refine⟨k+1,done++[x.l.getD k In.zero],congrArg (Value.int .i64) hkc.out,hlt,⟨hdl1.out _⟩,⟨(hstep.out.trans (if_pos rfl)).symm⟩,⟨?_⟩⟩;have e:=hR.out;rw[Dw x.l k In.zero (by rw[hm.out];exact hlt)]at e
        simpa using e
       case measure=>simp[intOf];omega
      |cons b bs =>
       have P:=Az (fun(W:World) (hW:RX w W w.heap.size (.slice A0 m c0) (.slice A3 x.labels.length c3) (.slice (some ⟨g1,0,none⟩) m c1) (.slice A2 m c2) (done++x.l.drop k) x.names x.rows x.labels)=>GX _ _ (b::bs) m _ W hW.q3 (by omega));have hS:=(hR.out.keep (Bd (Below.refl _ _))).S;have hS2:Af (RX w wr.drew w.heap.size (.slice A0 m c0) (.slice A3 x.labels.length c3) (.slice (some ⟨g1,0,none⟩) m c1) (.slice A2 m c2) (done++x.l.drop k) x.names x.rows x.labels)∧wr.drew.cell? ⟨w.heap.size+1,0,none⟩=some (.slice A0 m c0)∧wr.drew.cell? ⟨g1,k,none⟩=some (.string ⟨(b::bs).toArray⟩):=⟨hS.1,hS.2,nk⟩
       clear hS;obtain⟨fd,hfd⟩:∃ fd,Cz x.labels (b::bs) m=fd:=⟨_,rfl⟩
       rw[hfd]at hstep P;clear hfd;have hq0:=hR.out.q0;unfold BM at hq0;rw[hlen]at hq0;obtain⟨g0,c0',hv0,hc0,hg0,⟨cs0,hcs0,hcz⟩,_⟩:=CJ hq0 (by omega);have hA0:A0=some ⟨g0,0,none⟩:=by injection hv0
       subst hA0;clear hv0 hq0 hcs0 hcz hc0;go_wp2_with fail
       refine Ay [14] (S:=fun W=>Af (RX w W w.heap.size (.slice (some ⟨g0,0,none⟩) m c0) (.slice A3 x.labels.length c3) (.slice (some ⟨g1,0,none⟩) m c1) (.slice A2 m c2) (done++x.l.drop k) x.names x.rows x.labels)∧W.cell? ⟨w.heap.size+1,0,none⟩=some (.slice (some ⟨g0,0,none⟩) m c0)∧W.cell? ⟨g1,k,none⟩=some (.string ⟨(b::bs).toArray⟩)) (by kernel_rfl) hS2 (fun hS0=>?_);clear hS2 nk hR;obtain⟨w5,hw5⟩:∃ y,wr.drew=y:=⟨_,rfl⟩
       rw[hw5]at hS0 ⊢;clear hw5;refine tY 0 (fun _=>by assumption) ?_;refine tL 1 (by assumption) ?_;refine tY 2 (fun _=>by assumption) ?_;refine tY 3 (fun _=>by assumption) ?_;refine tY 4 (fun _=>by assumption) ?_;refine tY 5 (fun _=>by assumption) ?_;refine tY 6 (fun _=>by assumption) ?_;refine tL 7 (by assumption) ?_;refine tY 8 (fun _=>by assumption) ?_;refine tL 9 (by assumption) ?_;refine tY 10 (fun _=>by assumption) ?_;refine Ab (rs:=[11]) (by kernel_rfl) (by simp) ?_;refine Aa.cons (An rfl) (fun K hK=>?_) Aa.nil;go_simp
       go_at_call 60
       refine(P.out _ hS0.1.out).mono ?_;rintro e w7 ⟨rfl,hb7⟩;have hS7:=VQ hb7 hS0;clear hS0 hb7;go_wp2_with fail
       refine hK.out _ _ (fun _=>hS7) (fun _=>?_);try simp only[Act.put,Sa,Sb,Sc]
       refine tY 12 (fun _=>by assumption) ?_;refine tY 13 (fun _=>by assumption) ?_;have hR7:=hS7.1.out;have hR8:=hR7.Ro (k:=k) (by rw[hlen];exact hlt) fd;obtain⟨cs7,hcs7,hcz7⟩:∃ cs,w7.heap[g0]?=some (.cells cs 90 (0,0))∧m*8≤cs.size:=by
        have hq:=hR7.q0;unfold BM at hq;rw[hlen]at hq;obtain⟨g0',c0',hv0,_,_,h,_⟩:=CJ hq (by omega);have hgg:g0=g0':=by injection hv0 with a _ _;injection a with a;injection a
        subst hgg;exact h
       have hck:k*8+7<cs7.size:=by omega
       have z7:w7.cell? ⟨g0,k*8+7,none⟩=some cs7[k*8+7]:=(Bc hcs7 (k*8+7)).trans (by simp[hck]);have z7f:=Bf hcs7 (k*8+7);have z7l:=Bl hcs7;have z8:(w7.setCell ⟨g0,k*8+7,none⟩ (.int .i64 fd)).cell? ⟨g0,k*8+7,none⟩=some (.int .i64 fd):=(Bc (Bs hcs7 (k*8+7) _) (k*8+7)).trans (by simp[hck]);generalize cs7[k*8+7]=v7 at z7;replace hR8:=Az hR8;obtain⟨w8,hw8⟩:∃ y,w7.setCell ⟨g0,k*8+7,none⟩ (.int .i64 fd)=y:=⟨_,rfl⟩
       rw[hw8]at hR8 z8;replace z8:=Az z8;clear hS7 hR7 hcs7 hcz7 hck P;refine Ab (rs:=[14]) (by kernel_rfl) (by simp) ?_;refine Aa.cons (An rfl) (fun K hK=>?_) Aa.nil;go_simp
       go_wp2_with fail
       refine hK.out _ _ (fun h=>by cases h) (fun _=>?_);try simp only[Act.put,Sa,Sb,Sc]
       try rw[hw8]
       clear hw8 z7 z7f z7l;refine AE (by kernel_rfl) ?_ _;replace z8:=z8.out;have k8:=hR8.out.Jj.1;have hltx:k<x.l.length:=by rw[hm.out];exact hlt
       have e8:=hR8.out;rw[get_at done x.l k In.zero hdl.out hltx,SR done x.l k _ hdl.out hltx]at e8;replace hR8:=Az e8;clear e8;by_cases hfd:fd<0
       ·have hfx2:fx=.inr (x.rows.getD k 0):=by rw[hstep.out,if_neg (by simp),if_pos hfd]
        subst hfx2;have hfin:fin=(Pg.zero,x.rows.getD k 0,10):=hgo.out;have hq2:=hR8.out.q2;unfold Bj at hq2;rw[r0]at hq2;obtain⟨g2,c2',hv2,_,_,_,hcell2⟩:=CJ hq2 (by omega);have hA2:A2=some ⟨g2,0,none⟩:=by injection hv2
        subst hA2;have rk:w8.cell? ⟨g2,k,none⟩=some (.int .i64 (x.rows.getD k 0)):=hcell2 k _ (by
         rw[List.getElem?_map,List.getElem?_eq_getElem (show k<x.rows.length by omega),getD_eq (show k<x.rows.length by omega)];rfl)
        generalize x.rows.getD k 0=row at *;subst hfin;clear hcell2 hv2 hq2 hstep hgo hJ;go_wp2_with fail
        have hng:w.heap.size≠g2:=by
         obtain⟨cells,hc⟩:=Dv hR8.out.q2 g2 rfl;exact CU hR8.out.c2 hc (by decide)
        refine Ay [] (S:=fun W=>W.cell? ⟨g2,k,none⟩=some (.int .i64 row)) (by kernel_rfl) rk (fun hS0=>?_);have hR9:=hR8.out.keep (Bd (Below.refl _ _));obtain⟨w9,hw9⟩:∃ y,w8.drew=y:=⟨_,rfl⟩
        rw[hw9]at hS0 hR9 ⊢;clear hw9 rk hR8;replace hR9:=Az hR9;refine tY 0 (fun _=>by assumption) ?_;refine tY 1 (fun _=>by assumption) ?_;refine tY 2 (fun _=>by assumption) ?_;refine tY 3 (fun _=>by assumption) ?_;refine Ez (i:=4) (v:=?_) (An rfl) (by kernel_rfl) (fun _ _ _ h=>h) (.inl ⟨by rfl,?_⟩) (by assumption) ?_;rotate_left
        ·intro w hSw;go_simp;try with_reducible rfl
        try simp only[Act.put,Sa,Sb,Sc]
        obtain⟨y0,y1,y2,y3,y4,y5,y6⟩:=hR9.out.facts;refine Ab (rs:=[5]) (by kernel_rfl) (by simp) ?_;refine Aa.cons (An rfl) (fun K hK=>?_) Aa.nil;go_simp
        go_wp2_with fail
        have hS1:=Zu hng (.slice none 0 0) (.int .i64 0) (.int .i64 0) hS0;refine hK.out _ _ (fun _=>hS1) (fun _=>?_);try simp only[Act.put,Sa,Sb,Sc]
        refine tY 6 (fun _=>by assumption) ?_;refine tY 7 (fun _=>by assumption) ?_;refine AE (by kernel_rfl) ?_ _;go_wp2;obtain⟨g3,g4⟩:=hR9.out.Ug (.slice none 0 0) (.int .i64 0) (.int .i64 0) _ rfl;exact hQ.out _ _ _ rfl rfl rfl rfl g3 (.nil _ _) g4
       ·have hfx2:=hstep.out.trans ((if_neg (by simp)).trans (if_neg hfd));go_wp2;go_roundw
        case rel=>exact⟨k+1,done++[{x.l.getD k In.zero with q:=fd}],congrArg (Value.int .i64) hkc.out,hlt,⟨hdl1.out _⟩,⟨hfx2.symm⟩,hR8⟩
        case measure=>simp[intOf];omega
     ·obtain rfl:k=m:=by omega
      have hfx2:fx=.inl done:=by rw[←hJ.out];exact S3 x k done (by rw[hm.out];exact Nl _)
      subst hfx2;have e0:done++x.l.drop k=done:=by rw[List.drop_eq_nil_of_le (by rw[hm.out];exact Nl _),List.append_nil]
      rw[e0]at hR;have hge2:¬(k:Int)<(k:Int):=by omega
      have P1:=Az (fun(W:World) (hW:RX w W w.heap.size (.slice A0 k c0) (.slice A3 x.labels.length c3) (.slice A1 k c1) (.slice A2 k c2) done x.names x.rows x.labels)=>GX _ _ [108,111,99,107] k _ W hW.q3 (by omega));have P2:=Az (fun(W:World) (hW:RX w W w.heap.size (.slice A0 k c0) (.slice A3 x.labels.length c3) (.slice A1 k c1) (.slice A2 k c2) done x.names x.rows x.labels)=>GX _ _ [117,110,108,111,99,107] k _ W hW.q3 (by omega));have hfin:=hgo.out;dsimp only at hfin;generalize Cz x.labels [108,111,99,107] k=f1 at P1 hfin;generalize Cz x.labels [117,110,108,111,99,107] k=f2 at P2 hfin;have hS:=(hR.out.keep (Bd (Below.refl _ _))).S;replace hfin:=Az hfin;clear hJ hgo e0 hlt;go_wp2_with fail
      refine Ay [11] (S:=fun W=>Af (RX w W w.heap.size (.slice A0 k c0) (.slice A3 x.labels.length c3) (.slice A1 k c1) (.slice A2 k c2) done x.names x.rows x.labels)∧W.cell? ⟨w.heap.size+1,0,none⟩=some (.slice A0 k c0)) (by kernel_rfl) hS (fun hS0=>?_);obtain⟨w5,hw5⟩:∃ y,wr.drew=y:=⟨_,rfl⟩
      rw[hw5]at hS0 ⊢;clear hw5 hS hR;refine tY 0 (fun _=>by assumption) ?_;refine tY 1 (fun _=>by assumption) ?_;refine tL 2 (by assumption) ?_;refine tY 3 (fun _=>by assumption) ?_;refine tY 5 (fun _=>by assumption) ?_;refine tY 6 (fun _=>by assumption) ?_;refine tL 7 (by assumption) ?_;refine tY 8 (fun _=>by assumption) ?_;refine Ab (rs:=[4]) (by kernel_rfl) (by simp) ?_;refine Aa.cons (An rfl) (fun K hK=>?_) Aa.nil;go_simp
      go_at_call 60
      refine(P1.out _ hS0.1.out).mono ?_;rintro e w7 ⟨rfl,hb7⟩;have hS7:=OQ hb7 hS0;clear hS0 hb7 P1;go_wp2_with fail
      refine hK.out _ _ (fun _=>hS7) (fun _=>?_);try simp only[Act.put,Sa,Sb,Sc]
      refine tY 10 (fun _=>by assumption) ?_;refine Ab (rs:=[9]) (by kernel_rfl) (by simp) ?_;refine Aa.cons (An rfl) (fun K hK=>?_) Aa.nil;go_simp
      go_at_call 60
      refine(P2.out _ hS7.1.out).mono ?_;rintro e w8 ⟨rfl,hb8⟩;have hS8:=OQ hb8 hS7;clear hS7 hb8 P2;go_wp2_with fail
      refine hK.out _ _ (fun _=>hS8) (fun _=>?_);try simp only[Act.put,Sa,Sb,Sc]
      obtain⟨k0,k1,k2,k3,k4,k5,k6⟩:=hS8.1.out.Jj;have hlu:=hS8.1.out.lu (.int .i64 f1) (.int .i64 f2) _ rfl;clear hS8;refine Ab (rs:=[11]) (by kernel_rfl) (by simp) ?_;refine Aa.cons (An rfl) (fun K hK=>?_) Aa.nil;go_simp
      go_wp2_with fail
      refine hK.out _ _ (fun h=>by cases h) (fun _=>?_);try simp only[Act.put,Sa,Sb,Sc]
      refine tY 12 (fun h=>by cases h) ?_;refine Ab (rs:=[13]) (by kernel_rfl) (by simp) ?_;refine Aa.cons (An rfl) (fun K hK=>?_) Aa.nil;go_simp
      go_wp2_with fail
      refine hK.out _ _ (fun h=>by cases h) (fun _=>?_);try simp only[Act.put,Sa,Sb,Sc]
      obtain⟨w9,hw9⟩:∃ y,(w8.setCell ⟨w.heap.size+1,1,none⟩ (.int .i64 f1)).setCell ⟨w.heap.size+1,2,none⟩ (.int .i64 f2)=y:=⟨_,rfl⟩
      rw[hw9]at hlu ⊢;clear hw9 k0 k1 k2 k3 k4 k5 k6;refine AE (by kernel_rfl) ?_ _;obtain⟨u1,u2,u3,u4⟩:=hlu;have y0:w9.cell? ⟨w.heap.size,0,none⟩=some (.slice none 0 0):=(Bc u2 0).trans rfl;have y1:w9.cell? ⟨w.heap.size,1,none⟩=some (.int .i64 0):=(Bc u2 1).trans rfl;have y2:w9.cell? ⟨w.heap.size,2,none⟩=some (.int .i64 0):=(Bc u2 2).trans rfl;have y3:=Bf u2 0;have y4:=Bf u2 1;have y5:=Bf u2 2;have y6:=Bl u2;have k0:w9.cell? ⟨w.heap.size+1,0,none⟩=some (.slice A0 k c0):=(Bc u3 0).trans rfl;have k1:w9.cell? ⟨w.heap.size+1,1,none⟩=some (.int .i64 f1):=(Bc u3 1).trans rfl;have k2:w9.cell? ⟨w.heap.size+1,2,none⟩=some (.int .i64 f2):=(Bc u3 2).trans rfl;replace u1:=Az u1;replace u2:=Az u2;replace u4:=Az u4;clear u3;by_cases h1:f1<0
      ·have hf:=hfin.out.trans (if_pos (.inl h1));subst hf;go_wp2;obtain⟨g3,_,g4⟩:=Uk u1.out u2.out u4.out (.slice none 0 0) (.int .i64 0) (.int .i64 0) _ rfl;exact hQ.out _ _ _ rfl rfl rfl rfl g3 (.nil _ _) g4
      ·by_cases h2:f2<0
       ·have hf:=hfin.out.trans (if_pos (.inr h2));subst hf;go_wp2;obtain⟨g3,_,g4⟩:=Uk u1.out u2.out u4.out (.slice none 0 0) (.int .i64 0) (.int .i64 0) _ rfl;exact hQ.out _ _ _ rfl rfl rfl rfl g3 (.nil _ _) g4
       ·have hf:=hfin.out.trans (if_neg (fun h=>h.elim h1 h2));subst hf;go_wp2;obtain⟨g3,g5,g4⟩:=Uk u1.out u2.out u4.out (.slice A0 k c0) (.int .i64 f1) (.int .i64 f2) _ rfl;exact hQ.out _ _ _ rfl rfl rfl rfl g3 g5 g4
def IP(w:World)(T:List UInt8)(ss is rs:List Int)(each:Int)(e:Ending)(W:World):Prop :=
 ∃ va vs vi vr:Value,e=.returned (.tuple #[.agg #[va,.int .i64 (AS T).1.lock,.int .i64 (AS T).1.unlock,vs,vi,.int .i64 each,vr],.bool true]) ∧
  BM W w.heap.size va (AS T).1.l∧HRow W vs 3 (ss.map (Value.int .i64))∧HRow W vi 22 (is.map (Value.int .u32))∧HRow W vr 22 (rs.map (Value.int .u32))∧Below w.heap.size w W
def Jy(w:World)(e:Ending)(W:World):Prop :=
 e=.returned (.tuple #[.agg #[.slice none 0 0,.int .i64 0,.int .i64 0,.slice none 0 0,.slice none 0 0,.int .i64 0,.slice none 0 0],.bool false])∧Below w.heap.size w W
theorem JZ(t:List UInt8)(w:World)(ht:t.length≤90000):Calls Tryz.prog 38 #[.string ⟨t.toArray⟩] w (X2 w (AS t)):=Qe t w ht
structure LF (w W:World) (N p:Nat) (B C D:Option Addr) (n1 n2 n3 k1 k2 k3:Nat) (each:Int):Prop where
 b:Below N w W
 c:W.heap[N]?=some (.cells #[.slice none 0 0,.int .i64 0,.int .i64 0,.slice none 0 0,.slice none 0 0,.int .i64 0,.slice none 0 0] 30 (0,0))
 q:W.heap[p]?=some (.cells #[.slice none 0 0,.int .i64 0,.int .i64 0,.slice B n1 k1,.slice C n2 k2,.int .i64 each,.slice D n3 k3] 30 (0,0))
 ne:N<p
theorem Hm{w W:World}{N:Nat}(hb:Below N w W)(h:W.heap[N]?=some (.cells #[.slice none 0 0,.int .i64 0,.int .i64 0,.slice none 0 0,.slice none 0 0,.int .i64 0,.slice none 0 0] 30 (0,0))):∀ W',
  W'=((((((W.setCell ⟨N,0,none⟩ (.slice none 0 0)).setCell ⟨N,1,none⟩ (.int .i64 0)).setCell ⟨N,2,none⟩ (.int .i64 0)).setCell ⟨N,3,none⟩ (.slice none 0 0)).setCell ⟨N,4,none⟩ (.slice none 0 0)).setCell ⟨N,5,none⟩ (.int .i64 0)).setCell ⟨N,6,none⟩ (.slice none 0 0) →
  W'.heap[N]?=some (.cells #[.slice none 0 0,.int .i64 0,.int .i64 0,.slice none 0 0,.slice none 0 0,.int .i64 0,.slice none 0 0] 30 (0,0))∧Below N w W':=by
 rintro W' rfl;have sb:∀ (W:World) (i:Nat) (x:Value),Below N w W→Below N w (W.setCell ⟨N,i,none⟩ x):=fun W i x h=>h.setCell (Nl _) x
 exact⟨Bs (Bs (Bs (Bs (Bs (Bs (Bs h 0 _) 1 _) 2 _) 3 _) 4 _) 5 _) 6 _,sb _ _ _ (sb _ _ _ (sb _ _ _ (sb _ _ _ (sb _ _ _ (sb _ _ _ (sb _ _ _ hb))))))⟩
section
variable {w W W1:World} {N p:Nat} {B C D:Option Addr} {n1 n2 n3 k1 k2 k3:Nat} {each:Int}
theorem LF.keep(h:LF w W N p B C D n1 n2 n3 k1 k2 k3 each)(hb:Below W.heap.size W W1):LF w W1 N p B C D n1 n2 n3 k1 k2 k3 each :=
 ⟨h.b.trans (hb.mono (Nat.le_of_lt (Bl h.c))),Bk hb h.c,Bk hb h.q,h.ne⟩
theorem LF.fin(h:LF w W N p B C D n1 n2 n3 k1 k2 k3 each){va:Value}{xs:List In}(l u:Int)(hr:BM W N va xs):∀ W',
  W'=(((((((((W.setCell ⟨p,0,none⟩ va).setCell ⟨p,1,none⟩ (.int .i64 l)).setCell ⟨p,2,none⟩ (.int .i64 u)).setCell ⟨N,0,none⟩ va).setCell ⟨N,1,none⟩ (.int .i64 l)).setCell ⟨N,2,none⟩ (.int .i64 u)).setCell ⟨N,3,none⟩ (.slice B n1 k1)).setCell ⟨N,4,none⟩ (.slice C n2 k2)).setCell ⟨N,5,none⟩ (.int .i64 each)).setCell ⟨N,6,none⟩ (.slice D n3 k3) →
  W'.heap[N]?=some (.cells #[va,.int .i64 l,.int .i64 u,.slice B n1 k1,.slice C n2 k2,.int .i64 each,.slice D n3 k3] 30 (0,0))∧BM W' N va xs∧Below N w W':=by
 rintro W' rfl;have hne:=h.ne;have sb:∀ (W:World) (g i:Nat) (x:Value),N≤g→Below N w W→Below N w (W.setCell ⟨g,i,none⟩ x):=fun W g i x hg h=>h.setCell (show N≤g from hg) x
 have far:∀ {W:World} {i:Nat} {o:Obj} (v:Value),W.heap[N]?=some o→(W.setCell ⟨p,i,none⟩ v).heap[N]?=some o:=fun v hj=>(Below.heap_setCell _ ⟨_,_,none⟩ v _ (show N≠p by omega)).trans hj
 have p0:=h.q;have p1:=Bs p0 0 va;have p2:=Bs p1 1 (.int .i64 l);have n0:=far (i:=2) (.int .i64 u) (far (i:=1) (.int .i64 l) (far (i:=0) va h.c));have m1:=Bs n0 0 va;have m2:=Bs m1 1 (.int .i64 l);have m3:=Bs m2 2 (.int .i64 u);have m4:=Bs m3 3 (.slice B n1 k1);have m5:=Bs m4 4 (.slice C n2 k2);have m6:=Bs m5 5 (.int .i64 each);have r3:=Rs (Rs (Rs hr p0 (by decide) 0 va) p1 (by decide) 1 (.int .i64 l)) p2 (by decide) 2 (.int .i64 u);have r6:=Rs (Rs (Rs r3 n0 (by decide) 0 va) m1 (by decide) 1 (.int .i64 l)) m2 (by decide) 2 (.int .i64 u);have b3:=sb _ p 2 (.int .i64 u) (by omega) (sb _ p 1 (.int .i64 l) (by omega) (sb _ p 0 va (by omega) h.b));have b6:=sb _ N 2 (.int .i64 u) (by omega) (sb _ N 1 (.int .i64 l) (by omega) (sb _ N 0 va (by omega) b3));exact⟨Bs m6 6 (.slice D n3 k3),Rs (Rs (Rs (Rs r6 m3 (by decide) 3 _) m4 (by decide) 4 _) m5 (by decide) 5 _) m6 (by decide) 6 _,
  sb _ N 6 _ (by omega) (sb _ N 5 _ (by omega) (sb _ N 4 _ (by omega) (sb _ N 3 _ (by omega) b6)))⟩
end
section
variable {ops:Array Oper} {o:Oper} {a:Act} {K:Act→World→Prop} {Q:Exit→Act→World→Prop} {E:Prop} {W:World}
theorem Mo(hgd:o.guard=none)(ho:o.op=.alloc 30)
  (h:∀ g W1,Below W.heap.size W W1→W.heap.size≤g→W1.heap[g]?=some (.cells #[.slice none 0 0,.int .i64 0,.int .i64 0,.slice none 0 0,.slice none 0 0,.int .i64 0,.slice none 0 0] 30 (0,0))→K (a.put o.dst (.pointer (some ⟨g,0,none⟩))) W1) :
  if Region.wanted o (yielded ops a.tmps)=true then Oper.wp Tryz.prog o a W K Q else E:=by
 rw[if_pos (by simp[Region.wanted,hgd])];have:=h _ _ (Bw W (.cells #[.slice none 0 0,.int .i64 0,.int .i64 0,.slice none 0 0,.slice none 0 0,.int .i64 0,.slice none 0 0] 30)) (Nl _) (Bv W _);obtain⟨dst,op,type,pos,after,guard⟩:=o;dsimp only at ho;subst ho;go_simp
 exact this
end
theorem LF.far{w W:World}{N p g i:Nat}{B C D:Option Addr}{n1 n2 n3 k1 k2 k3:Nat}{each:Int}{cs:Array Value}{t:TypeId}(h:LF w W N p B C D n1 n2 n3 k1 k2 k3 each)(v:Value)(hg:N≤g)(hc:W.heap[g]?=some (.cells cs t (0,0)))(ht:t≠30) :
  LF w (W.setCell ⟨g,i,none⟩ v) N p B C D n1 n2 n3 k1 k2 k3 each:=by
 have ne:∀ {j:Nat} {cs':Array Value},W.heap[j]?=some (.cells cs' 30 (0,0))→j≠g:=fun hj e=>by
  subst e;rw[hc]at hj;cases hj;exact ht rfl
 exact⟨h.b.setCell (show N≤g from hg) v,(Below.heap_setCell W ⟨g,i,none⟩ v _ (ne h.c)).trans h.c,(Below.heap_setCell W ⟨g,i,none⟩ v _ (ne h.q)).trans h.q,h.ne⟩
theorem LF.finH{w W:World}{N p:Nat}{B C D:Option Addr}{n1 n2 n3 k1 k2 k3:Nat}{each:Int}(h:LF w W N p B C D n1 n2 n3 k1 k2 k3 each){t:TypeId}{v va:Value}{cs:List Value}(l u:Int)(hr:HRow W v t cs)(ht:t≠30):∀ W',
  W'=(((((((((W.setCell ⟨p,0,none⟩ va).setCell ⟨p,1,none⟩ (.int .i64 l)).setCell ⟨p,2,none⟩ (.int .i64 u)).setCell ⟨N,0,none⟩ va).setCell ⟨N,1,none⟩ (.int .i64 l)).setCell ⟨N,2,none⟩ (.int .i64 u)).setCell ⟨N,3,none⟩ (.slice B n1 k1)).setCell ⟨N,4,none⟩ (.slice C n2 k2)).setCell ⟨N,5,none⟩ (.int .i64 each)).setCell ⟨N,6,none⟩ (.slice D n3 k3) →
  HRow W' v t cs:=by
 rintro W' rfl;have hne:=h.ne;have far:∀ {W:World} {i:Nat} {o:Obj} (v:Value),W.heap[N]?=some o→(W.setCell ⟨p,i,none⟩ v).heap[N]?=some o:=fun v hj=>(Below.heap_setCell _ ⟨_,_,none⟩ v _ (show N≠p by omega)).trans hj
 have p0:=h.q;have p1:=Bs p0 0 va;have p2:=Bs p1 1 (.int .i64 l);have n0:=far (i:=2) (.int .i64 u) (far (i:=1) (.int .i64 l) (far (i:=0) va h.c));have m1:=Bs n0 0 va;have m2:=Bs m1 1 (.int .i64 l);have m3:=Bs m2 2 (.int .i64 u);have m4:=Bs m3 3 (.slice B n1 k1);have m5:=Bs m4 4 (.slice C n2 k2);have m6:=Bs m5 5 (.int .i64 each);have r1:=hr.far (i:=0) (x:=va) p0 ht;have r2:=r1.far (i:=1) (x:=.int .i64 l) p1 ht;have r3:=r2.far (i:=2) (x:=.int .i64 u) p2 ht;have r4:=r3.far (i:=0) (x:=va) n0 ht;have r5:=r4.far (i:=1) (x:=.int .i64 l) m1 ht;have r6:=r5.far (i:=2) (x:=.int .i64 u) m2 ht;have r7:=r6.far (i:=3) (x:=.slice B n1 k1) m3 ht;have r8:=r7.far (i:=4) (x:=.slice C n2 k2) m4 ht;have r9:=r8.far (i:=5) (x:=.int .i64 each) m5 ht;exact r9.far (i:=6) (x:=.slice D n3 k3) m6 ht
def XG(v:Int):Bool:=decide (0≤v)&&decide (v<8)
def YN(p:Nat)(i:In):Bool :=
 (decide (i.op=1)||decide (i.op=2)||decide (i.op=3)||decide (i.op=8)||decide (i.op=9)||decide (i.op=10)||decide (i.op=11)||decide (i.op=12)||decide (i.op=13)||decide (16≤i.op)) &&
 (XG i.d&&XG i.s&&XG i.t&&XG i.u)&&(decide (0≤i.k)&&decide (i.k<4294967296))&&(decide (i.op≠22)&&decide (i.op≠23)&&decide (i.op≤23))&&(decide (i.op≠12)||(decide (0≤i.k)&&decide (i.k<5)))&&AO i p
def Xg(pg:Pg):Bool :=
 decide (0<pg.l.length)&&decide (pg.l.length≤64)&&decide (0≤pg.lock)&&decide (pg.lock<pg.l.length)&&decide (0≤pg.unlock)&&decide (pg.unlock<pg.l.length)&&pg.l.all (YN pg.l.length)
theorem MM{v:Int}(h:XG v=true):0≤v∧v<8:=by simpa [XG]using h
theorem Ky{p:Nat}{i:In}(h:YN p i=true):H9 i∧(i.op≠22∧i.op≠23∧i.op≤23)∧(i.op=12→0≤i.k∧i.k<5)∧AO i p=true∧i.wk:=by
 unfold YN at h;simp only[Bool.and_eq_true,Bool.or_eq_true,decide_eq_true_eq]at h;obtain⟨⟨⟨⟨⟨h1,⟨⟨h2,h3⟩,h4⟩,h5⟩,h6,h7⟩,⟨h8,h9⟩,h10⟩,h11⟩,h12⟩:=h;refine⟨⟨by omega,MM h2,MM h3,MM h4,MM h5,h6,h7⟩,⟨h8,h9,h10⟩,fun e=>?_,h12,h6,by omega⟩;rcases h11 with h11 |h11
 ·exact absurd e h11
 ·exact h11
theorem XS{pg:Pg}(h:Xg pg=true):Vo pg∧(∀ i∈pg.l,H9 i)∧(∀ i∈pg.l,i.op≠22∧i.op≠23∧i.op≤23)∧L4 pg.l:=by
 unfold Xg at h;simp only[Bool.and_eq_true,decide_eq_true_eq]at h;obtain⟨⟨⟨⟨⟨⟨h1,h2⟩,h3⟩,h4⟩,h5⟩,h6⟩,h7⟩:=h;have hi:∀ i∈pg.l,YN pg.l.length i=true:=fun i hi=>List.all_eq_true.1 h7 i hi
 exact⟨⟨h1,h2,h3,h4,h5,h6,fun i hm=>(Ky (hi i hm)).2.2.2.2,fun i hm=>(Ky (hi i hm)).2.2.2.1⟩,fun i hm=>(Ky (hi i hm)).1,fun i hm=>(Ky (hi i hm)).2.1,fun i hm=>(Ky (hi i hm)).2.2.1⟩
theorem Q7{pg:Pg}{ss is rs:List Nat}{n:Nat}(h:Xg pg=true)(h8:ss.length≤8)(hle:∀ s∈ss,s≤4096)(DP:ss.sum≤8192)(h1:1≤n)(h2:n≤64)(JW:ss.sum=is.length)(NW:0<is.length)(JJ:rs.length=n)(Q8:∀ v∈is,v<4294967296)(Tb:∀ v∈rs,v<4294967296):Kz pg ss is rs n:=by
 obtain⟨a,b,c,d⟩:=XS h;exact⟨h8,hle,DP,h1,h2,JW,NW,JJ,Q8,Tb,a,b,c,d⟩
theorem Vp(f:Int→Value)(l:List Nat):(l.map fun v:Nat=>(v:Int)).map f=l.map fun v:Nat=>f v:=by rw[List.map_map];rfl
theorem HRow.nat{W:World}{v:Value}{t:TypeId}{f:Int→Value}{l:List Nat}(h:HRow W v t ((l.map fun v:Nat=>(v:Int)).map f)):Cj W v l.length (l.map fun v:Nat=>f v):=by
 have:=h.rdn;rw[List.length_map,Vp]at this;exact this
def EW(l:List Nat):List Int:=l.map fun v:Nat=>(v:Int)
def Tc(w:World)(pg:Pg)(ss is rs:List Nat)(e:Ending)(W:World):Prop :=
 ∃ (A B C D:Option Addr) (c k1 k2 k3:Nat),e=.returned (.tuple #[.agg #[.slice A pg.l.length c,.int .i64 pg.lock,.int .i64 pg.unlock,.slice B ss.length k1,.slice C is.length k2,.int .i64 0,.slice D rs.length k3],.int .i64 0]) ∧
  Dz W (.slice A pg.l.length c) (.slice B ss.length k1) (.slice C is.length k2) (.slice D rs.length k3) pg ss is rs∧Below w.heap.size w W
theorem SpecHas.nat{w W:World}{T:List UInt8}{pg:Pg}{ss is rs:List Int}{ssN isN rsN:List Nat}{e:Ending}(hpg:(BE T).1=pg)(e1:ss=EW ssN)(e2:is=EW isN)(e3:rs=EW rsN)(h:SpecHas w T ss is rs 0 e W):Tc w pg ssN isN rsN e W:=by
 subst e1 e2 e3 hpg;obtain⟨va,vs,vi,vr,rfl,h0,h1,h2,h3,hb⟩:=h;have g0:=C8.rd h0;have g1:=HRow.nat h1;have g2:=HRow.nat h2;have g3:=HRow.nat h3;obtain⟨A,c,rfl⟩:=g0.slice;obtain⟨B,k1,rfl⟩:=g1.slice;obtain⟨C,k2,rfl⟩:=g2.slice;obtain⟨D,k3,rfl⟩:=g3.slice;exact⟨A,B,C,D,c,k1,k2,k3,rfl,⟨g0,g1,g2,g3⟩,hb⟩
def Io(w:World)(e:Ending)(W:World):Prop :=
 ∃ (A B C D:Option Addr) (m c n1 n2 n3 k1 k2 k3:Nat) (l u:Int),e=.returned (.tuple #[.agg #[.slice A m c,.int .i64 l,.int .i64 u,.slice B n1 k1,.slice C n2 k2,.int .i64 0,.slice D n3 k3],.bool true])∧Below w.heap.size w W
theorem IP.some{w W:World}{T:List UInt8}{ss is rs:List Int}{e:Ending}(h:IP w T ss is rs 0 e W):Io w e W:=by
 obtain⟨va,vs,vi,vr,rfl,h0,h1,h2,h3,hb⟩:=h;obtain⟨A,c,rfl⟩:=(BM.rd h0).slice;obtain⟨B,k1,rfl⟩:=h1.rdn.slice;obtain⟨C,k2,rfl⟩:=h2.rdn.slice;obtain⟨D,k3,rfl⟩:=h3.rdn.slice;exact⟨A,B,C,D,_,c,_,_,_,k1,k2,k3,_,_,rfl,hb⟩
theorem Dz.ref{W W1:World}{v vl vs vi vr:Value}{pg:Pg}{ss is rs:List Nat}(h:Dz W vl vs vi vr pg ss is rs)(hb:Below W.heap.size W W1)(hr:BM W1 W.heap.size v pg.l):Dz W1 v vs vi vr pg ss is rs:=⟨BM.rd hr,h.s.keep hb,h.i.keep hb,h.r.keep hb⟩
theorem wf_u8{n:Int}(h:(Lit.int .u8 n).wf=true):0≤n∧n<256:=by
 simp only[Lit.wf,Bool.and_eq_true,decide_eq_true_eq]at h;have h1:IntKind.u8.min=0:=by decide
 have h2:IntKind.u8.max=255:=by decide
 omega
theorem wf_u32{n:Int}(h:(Lit.int .u32 n).wf=true):0≤n∧n<4294967296:=by
 simp only[Lit.wf,Bool.and_eq_true,decide_eq_true_eq]at h;have h1:IntKind.u32.min=0:=by decide
 have h2:IntKind.u32.max=4294967295:=by decide
 omega
end
end Go.Proofs.YtnmahobjmpdkdaaGreatDoor

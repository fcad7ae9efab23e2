/- QlockWords: the law: true, whatever the kind and the word; the memory that was there is as it was. -/
import Derived.Test.YtjjpiefgdggghaaGreatDoorZ02
import Derived.Test.YtjjpiefgdggghaaGreatDoorZ08
import Derived.Test.YtjjpiefgdggghaaGreatDoorZ32
set_option linter.unusedVariables false
set_option linter.unusedSimpArgs false
set_option maxRecDepth 100000
set_option maxHeartbeats 40000000
namespace Go.Proofs.YtjjpiefgdggghaaGreatDoor
section
open Go.RowKit Go.Proofs.YtjjpiefgdggghaaGreatDoorW.PrintWords
def wantU(s:ByteArray):Nat→Int
 |0=>0
 |k+1=>if (⟨(nameF ((k:Int)+1)).toArray⟩:ByteArray)=s then (k:Int)+1 else wantU s k
theorem want_rng(s:ByteArray):∀ k,0≤wantU s k∧wantU s k≤k
 |0=>⟨Int.le_refl 0,Int.le_refl 0⟩
 |k+1=>by
  have:=want_rng s k;unfold wantU;split<;>omega
theorem want_eq(s:ByteArray):wantU s 8=kindF s:=by
 by_cases h1:(⟨#[116,105,99,107,101,116]⟩:ByteArray)=s
 ·subst h1;decide +kernel
 by_cases h2:(⟨#[97,110,100,101,114,115,111,110]⟩:ByteArray)=s
 ·subst h2;decide +kernel
 by_cases h3:(⟨#[103,114,97,117,110,107,101]⟩:ByteArray)=s
 ·subst h3;decide +kernel
 by_cases h4:(⟨#[99,108,104]⟩:ByteArray)=s
 ·subst h4;decide +kernel
 by_cases h5:(⟨#[109,99,115]⟩:ByteArray)=s
 ·subst h5;decide +kernel
 by_cases h6:(⟨#[107,52,50]⟩:ByteArray)=s
 ·subst h6;decide +kernel
 by_cases h7:(⟨#[99,108,104,45,116,114,121]⟩:ByteArray)=s
 ·subst h7;decide +kernel
 by_cases h8:(⟨#[109,99,115,45,116,114,121]⟩:ByteArray)=s
 ·subst h8;decide +kernel
 have e1:kindF s=0:=by
  unfold kindF Lib.idxOfS wordsB;simp only[Lib.idxFromS,if_neg h1,if_neg h2,if_neg h3,if_neg h4,if_neg h5,if_neg h6,if_neg h7,if_neg h8];rfl
 rw[e1];have st:∀ (k:Nat) (x:List UInt8),nameF ((k:Int)+1)=x→(⟨x.toArray⟩:ByteArray)≠s→wantU s (k+1)=wantU s k:=fun k x hx hn=>by
  show(if (⟨(nameF ((k:Int)+1)).toArray⟩:ByteArray)=s then (k:Int)+1 else wantU s k)=wantU s k
  rw[hx,if_neg hn]
 rw[st 7 _ rfl h8,st 6 _ rfl h7,st 5 _ rfl h6,st 4 _ rfl h5,st 3 _ rfl h4,st 2 _ rfl h3,st 1 _ rfl h2,st 0 _ rfl h1];rfl
theorem law_qlockWords(kd:Int)(s:ByteArray)(w:World)(he:Env22 w):Calls Tryz.prog 10 #[.int .i64 kd,.string s] w fun e w'=>e=.returned (.bool true)∧Below w.heap.size w w':=by
 have CN:=Az (qname_calls kd w he);have CR:=Az (fun(k:Int) (W:World)=>rname22_calls k W);have CT:=Az (qtry_calls kd w);have CK:=Az (kind_calls s w he);have AW:=Az (awake22_calls w he);rw[←want_eq s]at CK;have hrg:=want_rng s 8;have hx:((⟨(nameF kd).toArray⟩:ByteArray).toList != (⟨(nameF kd).toArray⟩:ByteArray).toList)=false:=bne_self_eq_false _;have hy:(⟨(nameF kd).toArray⟩:ByteArray)=(⟨(nameF kd).toArray⟩:ByteArray):=rfl;clear he;go_enter Tryz.func10,Tryz.ntmps10;go_upto_region 1 with fail
 go_cut [24] (fun v wx=>v=.bool false∧wx=w)
 case first =>
  by_cases c1:kd=7
  ·subst c1;go_wp2_with fail
   refine CN.out.mono ?_;rintro e w1 ⟨rfl,rfl⟩;go_wp2_with fail
   refine(CR.out _ _).mono ?_;rintro e w2 ⟨rfl,rfl⟩;go_wp2_with fail
   refine CT.out.mono ?_;rintro e w3 ⟨rfl,rfl⟩;go_wp2;go_meet
   exact⟨rfl,rfl⟩
  have p1:(kd==7)=false:=Bq c1;by_cases c2:kd=8
  ·subst c2;go_wp2_with fail
   refine CN.out.mono ?_;rintro e w1 ⟨rfl,rfl⟩;go_wp2_with fail
   refine(CR.out _ _).mono ?_;rintro e w2 ⟨rfl,rfl⟩;go_wp2_with fail
   refine CT.out.mono ?_;rintro e w3 ⟨rfl,rfl⟩;go_wp2;go_meet
   exact⟨rfl,rfl⟩
  have p2:(kd==8)=false:=Bq c2;rw[p1,p2]at CT;go_wp2_with fail
  refine CN.out.mono ?_;rintro e w1 ⟨rfl,rfl⟩;go_wp2_with fail
  refine(CR.out _ _).mono ?_;rintro e w2 ⟨rfl,rfl⟩;go_wp2_with fail
  refine CT.out.mono ?_;rintro e w3 ⟨rfl,rfl⟩;go_wp2;go_meet
  exact⟨rfl,rfl⟩
 obtain⟨rfl,hwc⟩:=hcut;subst hwc;clear CN CT hx hy;go_wp2_with fail
 go_loopw [5,6] (fun v5 v6 wr=>∃ k:Nat,v5=.int .i64 (wantU s k)∧v6=.int .i64 ((k:Int)+1)∧k≤8∧wr=wc) (fun _ v6 _=>9-(intOf v6).toNat)
 case atStart=>exact⟨0,rfl,rfl,by decide,rfl⟩
 case round =>
  obtain⟨k,rfl,rfl,hk,rfl⟩:=hrel;by_cases hlt:k<8
  ·have h8:(k:Int)+1≤8:=by omega
   have hw:IntKind.i64.wrap ((k:Int)+1+1)=(k:Int)+1+1:=by rw[IntKind.wrap_i64];omega
   by_cases hs:(⟨(nameF ((k:Int)+1)).toArray⟩:ByteArray)=s
   ·have hb:=(Lib.bytes_beq_iff _ _).2 hs;rw[toList_mk]at hb;have hu:wantU s (k+1)=(k:Int)+1:=if_pos hs;go_wp2_with fail
    refine(CR.out _ _).mono ?_;rintro e w2 ⟨rfl,rfl⟩;go_wp2;go_roundw
    case rel=>exact⟨k+1,by rw[hu],by go_num,by omega,trivial⟩
    case measure=>simp[intOf];omega
   ·have hb:=(Lib.bytes_beq_false_iff _ _).2 hs;rw[toList_mk]at hb;have hu:wantU s (k+1)=wantU s k:=if_neg hs;go_wp2_with fail
    refine(CR.out _ _).mono ?_;rintro e w2 ⟨rfl,rfl⟩;go_wp2;go_roundw
    case rel=>exact⟨k+1,by rw[hu],by go_num,by omega,trivial⟩
    case measure=>simp[intOf];omega
  ·obtain rfl:k=8:=by omega
   generalize wantU s 8=z at *;go_wp2_with fail
   refine CK.out.mono ?_;rintro e w2 ⟨rfl,rfl⟩;go_wp2_with fail
   refine AW.out.mono ?_;rintro e w3 ⟨rfl,hb3⟩;replace hb3:=Az hb3;go_wp2;go_ret;exact⟨rfl,hb3.out⟩
theorem law_qlockWordsW(x0:Int)(s1:ByteArray)(hs1:s1.size≤maxLen)(w:World)(he:Env22 w):Calls Tryz.prog 10 #[.int .i64 x0,.string s1] w fun e w'=>e=.returned (.bool true)∧Below w.heap.size w w':=law_qlockWords x0 s1 w he
end
end Go.Proofs.YtjjpiefgdggghaaGreatDoor

/- Parts: Field, AsmPlain, Labels, AsmName, Lines, AsmEval, MachPlain, LockKit. -/
import Derived.Test.YtjjpiefgdggghaaGreatDoorZ02
import Derived.Test.YtjjpiefgdggghaaGreatDoorZ04
import Derived.Maps.OwnSet
import Derived.Maps.Views
import Derived.Laws.RangeString
import Derived.RangeFuncNested
import Derived.RangeFuncBound
import Derived.RangeFuncCalls
import Derived.RangeFuncLeaves
import Derived.Shelf.Abstract
import Derived.Shelf.RegionOpen
import Derived.WalkKit
import Derived.OwnWalkIn
import Derived.TacticsInMore
import Derived.LoopNIn
import Derived.LoopIn
import Derived.Test.YtjjpiefgdggghaaGreatDoorZ03
set_option linter.unusedVariables false
set_option linter.unusedSimpArgs false
set_option maxRecDepth 100000
set_option maxHeartbeats 40000000
namespace Go.Proofs.YtjjpiefgdggghaaGreatDoor
section
open Go.RowKit
theorem BC(b:Nat)(s:Int)(k:Nat)(w:World)(h:Ap s=some k) :
  Calls Tryz.prog 149 #[.pointer (some ⟨b,0,none⟩),.int .u8 s] w fun e w'=>e=.returned (.tuple #[.pointer (some ⟨b,k,none⟩),.int .i64 7])∧w=w':=by
 have hs:(s=68∧k=1)∨(s=83∧k=2)∨(s=84∧k=3)∨(s=85∧k=4)∨(s=65∧k=5):=by
  unfold Ap at h;repeat' (split at h<;>try (simp_all;done))
 clear h;rcases hs with ⟨rfl,rfl⟩ |⟨rfl,rfl⟩ |⟨rfl,rfl⟩ |⟨rfl,rfl⟩ |⟨rfl,rfl⟩
 all_goals
  go_enter Tryz.func149,Tryz.ntmps149;go_wp2;go_ret2
  exact⟨rfl,rfl⟩
theorem AQ(b:Nat)(s:Int)(w:World)(h:Ap s=none) :
  Calls Tryz.prog 149 #[.pointer (some ⟨b,0,none⟩),.int .u8 s] w fun e w'=>e=.returned (.tuple #[.pointer none,.int .i64 0])∧w=w':=by
 have hs:(s==68)=false∧(s==83)=false∧(s==84)=false∧(s==85)=false∧(s==65)=false:=by
  unfold Ap at h;repeat' (split at h<;>try (simp_all;done))
 clear h;obtain⟨h1,h2,h3,h4,h5⟩:=hs;go_enter Tryz.func149,Tryz.ntmps149;go_wp2;go_ret2
 exact⟨rfl,rfl⟩
theorem AY(s:Int)(lo hi:Int)(b:Bool)(w:World)(h:within s=(lo,hi,b)) :
  Calls Tryz.prog 180 #[.int .u8 s] w fun e w'=>e=.returned (.tuple #[.int .u32 lo,.int .u32 hi,.bool b])∧w=w':=by
 have hs:(s=75∧lo=0∧hi=4294967295∧b=true)∨(s=66∧lo=0∧hi=31∧b=true)∨(s=77∧lo=1∧hi=4∧b=true)∨(s=79∧lo=0∧hi=3∧b=true)∨(s=87∧lo=0∧hi=1∧b=true) ∨
   ((s==75)=false∧(s==66)=false∧(s==77)=false∧(s==79)=false∧(s==87)=false∧lo=0∧hi=0∧b=false):=by
  unfold within at h;by_cases h1:s=75
  ·rw[if_pos h1]at h;cases h;simp[h1]
  by_cases h2:s=66
  ·rw[if_neg h1,if_pos h2]at h;cases h;simp[h2]
  by_cases h3:s=77
  ·rw[if_neg h1,if_neg h2,if_pos h3]at h;cases h;simp[h3]
  by_cases h4:s=79
  ·rw[if_neg h1,if_neg h2,if_neg h3,if_pos h4]at h;cases h;simp[h4]
  by_cases h5:s=87
  ·rw[if_neg h1,if_neg h2,if_neg h3,if_neg h4,if_pos h5]at h;cases h;simp[h5]
  rw[if_neg h1,if_neg h2,if_neg h3,if_neg h4,if_neg h5]at h;cases h;simp[h1,h2,h3,h4,h5]
 clear h;rcases hs with ⟨rfl,rfl,rfl,rfl⟩ |⟨rfl,rfl,rfl,rfl⟩ |⟨rfl,rfl,rfl,rfl⟩ |⟨rfl,rfl,rfl,rfl⟩ |⟨rfl,rfl,rfl,rfl⟩ |⟨h1,h2,h3,h4,h5,rfl,rfl,rfl⟩
 all_goals
  go_enter Tryz.func180,Tryz.ntmps180;go_wp2;go_ret3
  exact⟨rfl,rfl⟩
end
section
open Go Go.Lib
def AH:List UInt8→List (List UInt8)
 |[]=>[]
 |c::l=>if c=10 then [10]::AH l else
  match AH l with
  |[]=>[[c]]
  |w::ws=>(c::w)::ws
def Dt(c:UInt8):Bool:=decide (97≤c.toNat∧c.toNat≤122)
def Hz(c:UInt8):Bool:=decide (48≤c.toNat∧c.toNat≤57)
def B8(l:List UInt8):Bool:=decide (1≤l.length∧l.length≤16)&&Dt (l.headD 0)&&l.all (fun c=>Dt c||Hz c)
def CE(i:In):Bool:=decide ((8≤i.op∧i.op≤10)∨(i.op=21∧0≤i.q))
def BL(s:List UInt8):List UInt8:=(Ay s).getLastD []
def Br(s:List UInt8):List UInt8:=s.take (s.length-(BL s).length)
def Ek(s:List UInt8):In×List UInt8×Bool :=
 let r:=CJ (Br s++[48])
 if r.2=0∧CE r.1=true then (r.1,BL s,B8 (BL s)) else
 let r:=CJ s
 (r.1,[],decide (r.2=0)&&!CE r.1)
structure Src where
 l:List In
 names:List (List UInt8)
 rows:List Int
 labels:List (List UInt8×Nat)
def Src.zero:Src:=⟨[],[],[],[]⟩
def Src.at(x:Src)(s:List UInt8):Option Nat:=(x.labels.find? (fun p=>p.1==s)).map (·.2)
def BB(x:Src)(s:List UInt8)(n:Int):Src×Int :=
 if s.getLast?≠some 10 then (x,8) else
 let s:=s.dropLast
 if s.getLast?=some 58∧B8 s.dropLast=true then
  (if (x.at s.dropLast).isSome then (x,2) else ({x with labels:=(s.dropLast,x.l.length)::x.labels},0))
 else
  let r:=Ek s
  if r.2.2=false then (x,8)
  else if 64≤x.l.length then (x,9)
  else ({x with l:=x.l++[r.1],names:=x.names++[r.2.1],rows:=x.rows++[n]},0)
def BR:List (List UInt8)→Int→Src→Src×Int×Int
 |[],n,x=>(x,n,0)
 |s::ls,n,x=>if (BB x s (n+1)).2=0 then BR ls (n+1) (BB x s (n+1)).1 else (x,n+1,(BB x s (n+1)).2)
def Src.place(x:Src)(s:List UInt8):Option Nat:=(x.at s).filter (·<x.l.length)
structure Pg where
 l:List In
 lock:Int
 unlock:Int
deriving DecidableEq
def Pg.zero:Pg:=⟨[],0,0⟩
def fixF(x:Src):List In→List (List UInt8)→List Int→List In ⊕ Int
 |i::l,s::names,r::rows =>
  if s=[] then (match fixF x l names rows with |.inl k=>.inl (i::k) |.inr e=>.inr e)
  else match x.place s with
   |none=>.inr r
   |some p=>match fixF x l names rows with |.inl k=>.inl ({i with q:=p}::k) |.inr e=>.inr e
 |_,_,_=>.inl []
def At(t:List UInt8):Pg×Int×Int :=
 let r:=BR (AH t) 0 Src.zero
 if r.2.2≠0 then (Pg.zero,r.2.1,r.2.2) else
 match fixF r.1 r.1.l r.1.names r.1.rows with
 |.inr e=>(Pg.zero,e,10)
 |.inl k=>match r.1.place [108,111,99,107],r.1.place [117,110,108,111,99,107]with
  |some a,some b=>(⟨k,a,b⟩,0,0)
  |_,_=>(Pg.zero,0,10)
end
section
open Go.RowKit Go.Maps Go.Proofs.YtjjpiefgdggghaaGreatDoorW.PrintWords
def CZ(L:List (List UInt8×Nat))(s:List UInt8):Option Nat:=(L.find? (fun p=>p.1==s)).map (·.2)
theorem Kp(k:List UInt8)(p:Nat)(L:List (List UInt8×Nat))(s:List UInt8):CZ ((k,p)::L) s=if k=s then some p else CZ L s:=by
 unfold CZ;by_cases h:k=s
 ·rw[if_pos h,List.find?_cons_of_pos (by simpa using h)];rfl
 ·rw[if_neg h,List.find?_cons_of_neg (by simpa using h)]
def DU(W:World)(bm:Nat)(L:List (List UInt8×Nat)):Prop :=
 ∃ (n:Nat) (D:DataW Unit),W.ownsMap Tryz.prog 9 (plainElem Tryz.prog 3) bm n D∧IsMap D∧n≤L.length ∧
  ∀ s:List UInt8,has D (.string s)=(CZ L s).isSome∧D.atKey (.string s) (.lit (.int .i64 0))=.lit (.int .i64 ((CZ L s).getD 0:Nat))
theorem DU.made(w:World):DU (w.alloc (.map #[] 0)) w.heap.size [] :=
 ⟨0,.map [],World.ownsMap_made w _ _ _,isMap_empty,Nl _,fun s=>⟨rfl,rfl⟩⟩
theorem M7(s:List UInt8)(hs:s.length≤1000000):keyOf Tryz.prog 9 (.string ⟨s.toArray⟩)=some (.string s):=by
 have h:(⟨s.toArray⟩:ByteArray).size≤maxLen:=by simp[ByteArray.size,maxLen];omega
 simp[keyOf,mapKey,Tryz.underlying9,h]
section
variable {ops:Array Oper} {rest:List Oper} {o:Oper} {a:Act} {Q:Exit→Act→World→Prop} {W:World}
theorem GR(hg:o.guard=none)(m x:Operand)(hop:o.op=.lookup 119 m x true)(bm:Nat)(L:List (List UInt8×Nat))(hm:a.eval m=.map (some bm))(h:DU W bm L)
  (s:List UInt8)(hs:s.length≤1000000)(hx:a.eval x=.string ⟨s.toArray⟩)
  (hK:wpList Tryz.prog ops Q rest (a.put o.dst (.tuple #[.int .i64 ((CZ L s).getD 0:Nat),.bool (CZ L s).isSome])) W):wpList Tryz.prog ops Q (o::rest) a W:=by
 obtain⟨n,D,ho,hi,hn,hL⟩:=h;refine wpList_lookup_own_ok_int W hg m x 119 hop 9 3 .i64 (string_keyed Tryz.underlying9) Tryz.underlying119 Tryz.underlying3 (Tryz.zeroValue3 _) bm n D hm ho _ (.string s) hx (M7 s hs) ?_;intro c hat hw;rw[(hL s).2]at hat;have e:c=(((CZ L s).getD 0:Nat):Int):=by
  injection hat with h1
  injection h1 with _ h2
  exact h2.symm
 rw[e,(hL s).1];exact hK
end
end
section
open Go.RowKit Go.Proofs.YtjjpiefgdggghaaGreatDoorW.PrintWords
theorem LQ(s:ByteArray)(i:Nat)(h:128≤(s.get! i).toNat):128≤(Utf8.decode s i).1:=by
 have e:(s.get! (i+0)).toNat=(s.get! i).toNat:=rfl;unfold Utf8.decode;simp only[e];rw[if_neg (by omega)];split
 ·split
  ·simpa using ‹_›
  ·simp[Utf8.runeError]
 ·split
  ·split
   ·rename_i h2
    simp only[Bool.and_eq_true,decide_eq_true_eq]at h2;have:=h2.1;dsimp only;omega
   ·simp[Utf8.runeError]
  ·split
   ·split
    ·rename_i h2
     simp only[Bool.and_eq_true,decide_eq_true_eq]at h2;have:=h2.1;dsimp only;omega
    ·simp[Utf8.runeError]
   ·simp[Utf8.runeError]
theorem Pz(l:List UInt8)(k:Nat)(h:k<l.length):(⟨l.toArray⟩:ByteArray).get! k=l.getD k 0:=by
 simp[ByteArray.get!,List.getD_eq_getElem?_getD,List.getElem?_eq_getElem h,h]
theorem H9{P:Program}(w:World)(s:ByteArray)(pos:Nat)(ty:TypeId)(h:pos<s.size) :
  (Instr.next (.pointer (some ⟨w.heap.size,0,none⟩)) true ty).run P (w.iter s pos) =
   .ok (.tuple #[.bool true,.int .i64 pos,.int .i32 (Utf8.decode s pos).1]) (w.iter s (pos+(Utf8.decode s pos).2)):=by
 simp only[Instr.next,getObj,setObj,Sem.run_bind,Sem.run,World.iter_heap,Result.andThen,h,if_true,World.iter_set];simp[goInt,Sem.run,World.iter_heap,World.iter_set]
def posOf(g:Nat)(W:World):Nat:=match W.heap[g]? with
 |some (.stringIter _ p)=>p
 |_=>0
theorem Ew(w:World)(s:ByteArray)(p:Nat):posOf w.heap.size (w.iter s p)=p:=by
 unfold posOf;rw[World.iter_heap]
def LM(l:List UInt8)(k:Nat):Prop:=(∀ j,j<k→(Dt (l.getD j 0)||Hz (l.getD j 0))=true)∧(0<k→Dt (l.getD 0 0)=true)
theorem JE{l:List UInt8}(h:LM l l.length)(hn:0<l.length):Dt (l.headD 0)=true∧l.all (fun c=>Dt c||Hz c)=true:=by
 refine⟨?_,?_⟩
 ·have:=h.2 hn;cases l with
  |nil=>simp at hn
  |cons c r=>exact this
 ·rw[List.all_eq_true];intro c hc;obtain⟨j,hj,rfl⟩:=List.mem_iff_getElem.1 hc;have:=h.1 j hj
  rwa [show l.getD j 0=l[j] by simp[List.getD_eq_getElem?_getD,List.getElem?_eq_getElem hj]]at this
theorem HX{l:List UInt8}{k:Nat}(h:LM l k)(hk:(Dt (l.getD k 0)||Hz (l.getD k 0))=true)(h0:k=0→Dt (l.getD 0 0)=true):LM l (k+1):=by
 refine⟨fun j hj=>?_,fun _=>?_⟩
 ·by_cases e:j=k
  ·rw[e];exact hk
  ·exact h.1 j (by omega)
 ·by_cases e:k=0
  ·exact h0 e
  ·exact h.2 (by omega)
theorem FV{l:List UInt8}{k:Nat}(hk:k<l.length)(h:(Dt (l.getD k 0)||Hz (l.getD k 0))=false):B8 l=false:=by
 have:l.all (fun c=>Dt c||Hz c)=false:=by
  rw[List.all_eq_false];exact⟨l.getD k 0,by rw[show l.getD k 0=l[k] by simp[List.getD_eq_getElem?_getD,List.getElem?_eq_getElem hk]];exact List.getElem_mem hk,by simpa using h⟩
 unfold B8;rw[this];simp
theorem Hk{l:List UInt8}(hk:0<l.length)(h:Dt (l.getD 0 0)=false):B8 l=false:=by
 have:Dt (l.headD 0)=false:=by
  cases l with
  |nil=>simp at hk
  |cons c r=>exact h
 unfold B8;rw[this];simp
theorem DK(l:List UInt8)(w:World)(hl:l.length≤1000000) :
  Calls Tryz.prog 97 #[.string ⟨l.toArray⟩] w fun e w'=>e=.returned (.bool (B8 l))∧Below w.heap.size w w':=by
 have hsz:(⟨l.toArray⟩:ByteArray).size=l.length:=by simp[ByteArray.size]
 obtain⟨r,hr⟩:∃ r,B8 l=r:=⟨_,rfl⟩
 rw[hr];replace hr:=Az hr;go_enter Tryz.func97,Tryz.ntmps97;go_wp2;go_loopw [3,4] (fun v3 v4 wr=>∃ pos,pos≤l.length∧wr=w.iter ⟨l.toArray⟩ pos∧Ai (LM l pos)) (fun _ _ wr=>l.length-posOf w.heap.size wr)
 case atStart=>exact⟨0,Nat.zero_le _,rfl,⟨fun j hj=>by omega,fun h=>by omega⟩⟩
 case round =>
  obtain⟨pos,hp,rfl,hok⟩:=hrel;have hB:Below w.heap.size w (w.iter ⟨l.toArray⟩ pos):=(Below.refl _ w).alloc (Nl _) _;by_cases hlt:pos<l.length
  ·have hnx:=fun ty=>H9 (P:=Tryz.prog) w ⟨l.toArray⟩ pos ty (by rw[hsz];exact hlt)
   have hg:=Pz l pos hlt;have hb:=(l.getD pos 0).toNat_lt;by_cases ha:(l.getD pos 0).toNat<128
   ·have hd:Utf8.decode ⟨l.toArray⟩ pos=((l.getD pos 0).toNat,1):=by
     rw[decode_ascii ⟨l.toArray⟩ pos (by rw[hsz];exact hlt) (by
      have:(⟨l.toArray⟩:ByteArray)[pos]'(by rw[hsz];exact hlt)=l.getD pos 0:=by
       simp[List.getD_eq_getElem?_getD,List.getElem?_eq_getElem hlt];rfl
      rw[this];exact ha)]
     congr 2
     simp[List.getD_eq_getElem?_getD,List.getElem?_eq_getElem hlt];rfl
    simp only[hd]at hnx;have hlow:Dt (l.getD pos 0)=decide (97≤(l.getD pos 0).toNat∧(l.getD pos 0).toNat≤122):=rfl;have hdig:Hz (l.getD pos 0)=decide (48≤(l.getD pos 0).toNat∧(l.getD pos 0).toNat≤57):=rfl;have hB2:Below w.heap.size w (w.iter ⟨l.toArray⟩ (pos+1)):=(Below.refl _ w).alloc (Nl _) _;have hstep:=fun h h0=>HX (l:=l) hok.out h h0
    have hbad:=fun h=>FV (l:=l) hlt h
    have hbad0:pos=0→Dt (l.getD pos 0)=false→B8 l=false:=fun e h=>Hk (by omega) (by rw[e]at h;exact h)
    have hz:pos=0→Dt (l.getD pos 0)=true→Dt (l.getD 0 0)=true:=fun e h=>by rw[e]at h;exact h
    rw[hlow,hdig]at hstep hbad;rw[hlow]at hbad0 hz;clear hg hd hlow hdig;generalize (l.getD pos 0).toNat=b at *;by_cases c1:b<97
    ·have r1:decide ((b:Int)<97)=true:=decide_eq_true (by omega);by_cases h0:pos=0
     ·obtain rfl:r=false:=by rw[←hr.out,hbad0 h0 (decide_eq_false (by omega))]
      subst h0;clear hstep hbad hbad0 hz hok;go_wp2;go_ret;exact⟨rfl,hB2⟩
     ·have q0:((pos:Int)==0)=false:=Bq (by omega);by_cases c3:b<48
      ·have r3:decide ((b:Int)<48)=true:=decide_eq_true (by omega);obtain rfl:r=false:=by rw[←hr.out,hbad (by rw[decide_eq_false (by omega),decide_eq_false (by omega)];rfl)]
       go_wp2;go_ret;exact⟨rfl,hB2⟩
      ·have r3:decide ((b:Int)<48)=false:=decide_eq_false (by omega);by_cases c4:57<b
       ·have r4:decide (57<(b:Int))=true:=decide_eq_true (by omega);obtain rfl:r=false:=by rw[←hr.out,hbad (by rw[decide_eq_false (by omega),decide_eq_false (by omega)];rfl)]
        go_wp2;go_ret;exact⟨rfl,hB2⟩
       ·have r4:decide (57<(b:Int))=false:=decide_eq_false (by omega);have hok':=Az (hstep (by rw[decide_eq_false (by omega),decide_eq_true (by omega)];rfl) (fun e=>absurd e h0));clear hstep hbad hbad0 hz hok;go_wp2;go_roundw
        case rel=>exact⟨pos+1,by omega,rfl,hok'⟩
        case measure=>rw[Ew,Ew];omega
    ·have r1:decide ((b:Int)<97)=false:=decide_eq_false (by omega);by_cases c2:122<b
     ·have r2:decide (122<(b:Int))=true:=decide_eq_true (by omega);have r3:decide ((b:Int)<48)=false:=decide_eq_false (by omega);have r4:decide (57<(b:Int))=true:=decide_eq_true (by omega);obtain rfl:r=false:=by rw[←hr.out,hbad (by rw[decide_eq_false (by omega),decide_eq_false (by omega)];rfl)]
      by_cases h0:pos=0
      ·subst h0;clear hstep hbad hbad0 hz hok;go_wp2;go_ret;exact⟨rfl,hB2⟩
      ·have q0:((pos:Int)==0)=false:=Bq (by omega);go_wp2;go_ret;exact⟨rfl,hB2⟩
     ·have r2:decide (122<(b:Int))=false:=decide_eq_false (by omega);have hl':decide (97≤b∧b≤122)=true:=decide_eq_true (by omega);have hok':=Az (hstep (by rw[hl'];rfl) (fun e=>hz e hl'));clear hstep hbad hbad0 hz hok;go_wp2;go_roundw
      case rel=>exact⟨pos+1,by omega,rfl,hok'⟩
      case measure=>rw[Ew,Ew];omega
   ·have hd:=LQ ⟨l.toArray⟩ pos (by rw[hg];omega);have hbad:=FV hlt (show(Dt (l.getD pos 0)||Hz (l.getD pos 0))=false by unfold Dt Hz;rw[decide_eq_false (by omega),decide_eq_false (by omega)];rfl);generalize (Utf8.decode ⟨l.toArray⟩ pos).1=R at hnx hd;generalize (Utf8.decode ⟨l.toArray⟩ pos).2=sz at hnx;have hB2:Below w.heap.size w (w.iter ⟨l.toArray⟩ (pos+sz)):=(Below.refl _ w).alloc (Nl _) _;have r1:decide ((R:Int)<97)=false:=decide_eq_false (by omega);have r2:decide (122<(R:Int))=true:=decide_eq_true (by omega);have r3:decide ((R:Int)<48)=false:=decide_eq_false (by omega);have r4:decide (57<(R:Int))=true:=decide_eq_true (by omega);obtain rfl:r=false:=by rw[←hr.out,hbad]
    clear hg hb ha hbad hd;by_cases h0:pos=0
    ·subst h0;go_wp2;go_ret;exact⟨rfl,by simpa using hB2⟩
    ·have q0:((pos:Int)==0)=false:=Bq (by omega);go_wp2;go_ret;exact⟨rfl,hB2⟩
  ·obtain rfl:pos=l.length:=by omega
   have hnx:=fun ty=>run_next_end (P:=Tryz.prog) w ⟨l.toArray⟩ l.length ty (by rw[hsz];omega)
   have hr':=hr.out;by_cases h1:1≤l.length
   ·obtain⟨ha,hb⟩:=JE hok.out (by omega);have g1:decide (1≤(l.length:Int))=true:=decide_eq_true (by omega);by_cases h2:l.length≤16
    ·have g2:decide ((l.length:Int)≤16)=true:=decide_eq_true (by omega);obtain rfl:r=true:=by rw[←hr'];unfold B8;rw[ha,hb,decide_eq_true ⟨h1,h2⟩];rfl
     clear hr hr' ha hb hok;go_wp2;exact bodyPost_ret (fn:=Tryz.f97) (results_tmp rfl _ _ _) rfl ⟨rfl,hB⟩
    ·have g2:decide ((l.length:Int)≤16)=false:=decide_eq_false (by omega);obtain rfl:r=false:=by rw[←hr'];unfold B8;rw[decide_eq_false (fun h=>h2 h.2)];rfl
     clear hr hr' ha hb hok;go_wp2;go_ret;exact⟨by first |rfl |(simp;omega),hB⟩
   ·have g1:decide (1≤(l.length:Int))=false:=decide_eq_false (by omega);obtain rfl:r=false:=by rw[←hr'];unfold B8;rw[decide_eq_false (fun h=>h1 h.1)];rfl
    clear hr hr' hok;go_wp2;go_ret;exact⟨by first |rfl |(simp;omega),hB⟩
end
section
open Go.RowKit Go.Shelf Go.Proofs.YtjjpiefgdggghaaGreatDoorW.PrintWords
attribute [local go_sem] Oper.semAt_some
theorem Hq:AH []=[]:=rfl
theorem Gp:∀ (l:List UInt8),l≠[]→Lib.indexByte l 10 = -1→AH l=[l]
 |[],h,_=>absurd rfl h
 |b::l,_,h=>by
  unfold Lib.indexByte at h;by_cases hb:b=10
  ·subst hb;simp at h
  ·have hb':(b==10)=false:=Bq hb;rw[hb']at h;simp only[Bool.false_eq_true,if_false]at h;have hge:=Lib.indexByte_ge l 10;by_cases hm:Lib.indexByte l 10 = -1
   ·cases l with
    |nil=>rw[AH,if_neg hb];rfl
    |cons c r=>rw[AH,if_neg hb,Gp (c::r) (by simp) hm]
   ·rw[if_neg (by rw[beq_iff_eq];exact hm)]at h;omega
theorem Hr:∀ (l:List UInt8) (i:Nat),Lib.indexByte l 10=i→AH l=l.take (i+1)::AH (l.drop (i+1))
 |[],i,h=>by simp[Lib.indexByte]at h
 |b::l,i,h=>by
  unfold Lib.indexByte at h;by_cases hb:b=10
  ·subst hb;simp at h;obtain rfl:i=0:=by omega
   rw[AH,if_pos rfl];rfl
  ·have hb':(b==10)=false:=Bq hb;rw[hb']at h;simp only[Bool.false_eq_true,if_false]at h;have hge:=Lib.indexByte_ge l 10;by_cases hm:Lib.indexByte l 10 = -1
   ·rw[hm]at h;simp at h
   ·rw[if_neg (by rw[beq_iff_eq];exact hm)]at h;obtain⟨j,rfl⟩:∃ j,i=j+1:=⟨i-1,by omega⟩
    rw[AH,if_neg hb,Hr l j (by omega)];simp
theorem FG:∀ (l:List UInt8) (i:Nat),Lib.indexByte l 10=i→i<l.length
 |[],i,h=>by simp[Lib.indexByte]at h
 |b::l,i,h=>by
  unfold Lib.indexByte at h;by_cases hb:(b==10)=true
  ·rw[if_pos hb]at h;simp;omega
  ·rw[if_neg hb]at h;have hge:=Lib.indexByte_ge l 10;by_cases hm:Lib.indexByte l 10 = -1
   ·rw[hm]at h;simp at h
   ·rw[if_neg (by rw[beq_iff_eq];exact hm)]at h;have:=FG l (i-1) (by omega);simp;omega
def IF(c:Nat)(W:World):Nat:=match W.cell? ⟨c,0,none⟩ with
 |some (.string s)=>s.size
 |_=>0
theorem Et{c:Nat}{W:World}{l:List UInt8}(h:W.cell? ⟨c,0,none⟩=some (.string ⟨l.toArray⟩)):IF c W=l.length:=by
 unfold IF;rw[h];simp[ByteArray.size]
theorem Ku(n:Nat)(t:List UInt8)(c:Nat)(w:World)(ht:t.length≤1000000)(hc:w.heap[c]?=some (.cells #[.string ⟨t.toArray⟩] 9 (0,0))) :
  JH Fence.wide n Tryz.prog 94 #[.pointer (some ⟨c,0,none⟩)] (fun x:List UInt8=>Value.string ⟨x.toArray⟩) c (fun xs=>xs=AH t) (fun pre=>∃ rest,AH t=pre++rest) w:=by
 intro l J Jx W hW hJ hJx hY h0;have hcW:W.heap[c]?=some (.cells #[.string ⟨t.toArray⟩] 9 (0,0)):=Bk hW hc;refine callsIn_of_wp Tryz.func94 rfl trivial ?_ rfl;simp only[Tryz.ntmps94,List.size_toArray,List.length_cons,List.length_nil,Nat.reduceAdd,Nat.reduceSub,Array.replicate_succ,Array.replicate_zero,List.push_toArray,List.append_toArray,List.nil_append,List.cons_append]
 gi_wp2
 gi_loopw [3,4] (fun v3 v4 wr=>∃ (pre:List (List UInt8)) (rest:List UInt8),AH t=pre++AH rest∧rest.length≤1000000∧wr.heap[c]?=some (.cells #[.string ⟨rest.toArray⟩] 9 (0,0))∧J pre wr)
  (fun _ _ wr=>IF c wr)
 case atStart=>exact⟨[],t,rfl,ht,hcW,h0⟩
 case round =>
  obtain⟨pre,rest,hp,hr,hcr,hJr⟩:=hrel;have c0:wr.cell? ⟨c,0,none⟩=some (.string ⟨rest.toArray⟩):=(Bc hcr 0).trans rfl;have f0:=Bf hcr 0;have z0:c<wr.heap.size:=Bl hcr;have C:=Az (Tryz.strings_IndexByte ⟨rest.toArray⟩ 10 wr);by_cases hn:rest=[]
  ·subst hn
   gi_wp2
   go_end0
   exact⟨⟨_,rfl⟩,.inl (by simpa [hp,Hq]using hJr)⟩
  ·have hpos:0<rest.length:=List.length_pos_iff.2 hn;have hsz:(⟨rest.toArray⟩:ByteArray).size=rest.length:=by simp[ByteArray.size]
   have hge:=Lib.indexByte_ge rest 10;by_cases hm:Lib.indexByte rest 10 = -1
   ·have hl:=Gp rest hn hm;have C':=C.out;rw[show Lib.indexByte (⟨rest.toArray⟩:ByteArray).data.toList (10:Int).toNat.toUInt8 = -1 from hm]at C';replace C':=Az C';clear C;have hs':(wr.setCell ⟨c,0,none⟩ (.string ⟨#[]⟩)).heap[c]?=some (.cells #[.string ⟨#[]⟩] 9 (0,0)):=Bs hcr 0 (.string ⟨#[]⟩);obtain⟨fn,tmps,assign,body,hy,hR⟩:=hY pre rest (wr.setCell ⟨c,0,none⟩ (.string ⟨#[]⟩)) ⟨[],by rw[hp,hl,List.append_nil]⟩ (hJ.cell _ _ _ hJr)
    gi_wp2
    refine⟨trivial,fun h=>by simp[Fence.wide]at h,?_⟩;refine CallsIn.mono (callsIn_wide.2 C'.out) ?_;rintro e w' ⟨rfl,rfl⟩
    gi_wp2
    refine⟨fun h=>by simp[Fence.wide]at h,hR.mono ?_⟩;rintro e W3 (⟨rfl,hJ3,hk3⟩ |⟨rfl,hJx3⟩)
    ·gi_wp2
     go_roundw
     case rel=>exact⟨pre++[rest],[],by rw[hp,hl,Hq,List.append_nil],by simp,hk3.trans hs',hJ3⟩
     case measure=>rw[Et (l:=[]) ((Bc (hk3.trans hs') 0).trans rfl),Et c0];exact hpos
    ·gi_wp2
     refine bodyPost_ret (results_none rfl _ _ _) rfl ?_;exact⟨⟨_,rfl⟩,.inr ⟨pre++[rest],⟨[],by rw[hp,hl,List.append_nil]⟩,hJx3⟩⟩
   ·obtain⟨i,hi⟩:∃ i:Nat,Lib.indexByte rest 10=i:=⟨(Lib.indexByte rest 10).toNat,by omega⟩
    have hl:=Hr rest i hi;have hlt:=FG rest i hi;have C':=C.out;rw[show Lib.indexByte (⟨rest.toArray⟩:ByteArray).data.toList (10:Int).toNat.toUInt8=i from hi]at C';replace C':=Az C';clear C;have hw1:IntKind.i64.wrap ((i:Int)+1)=(i:Int)+1:=by rw[IntKind.wrap_i64];omega
    have et:(⟨rest.toArray⟩:ByteArray).extract 0 (i+1)=⟨(rest.take (i+1)).toArray⟩:=by rw[C5];simp
    have ed:(⟨rest.toArray⟩:ByteArray).extract (i+1) rest.length=⟨(rest.drop (i+1)).toArray⟩:=by rw[C5,List.take_of_length_le (by rw[List.length_drop];omega)]
    gi_wp2
    refine⟨trivial,fun h=>by simp[Fence.wide]at h,?_⟩;refine CallsIn.mono (callsIn_wide.2 C'.out) ?_;rintro e w' ⟨rfl,rfl⟩
    gi_wp2
    gi_region
    have hs':((w'.setCell ⟨c,0,none⟩ (.string ⟨(rest.drop (i+1)).toArray⟩)).drew).heap[c]?=some (.cells #[.string ⟨(rest.drop (i+1)).toArray⟩] 9 (0,0)):=Be (Bs hcr 0 (.string ⟨(rest.drop (i+1)).toArray⟩));obtain⟨fn,tmps,assign,body,hy,hR⟩:=hY pre (rest.take (i+1)) ((w'.setCell ⟨c,0,none⟩ (.string ⟨(rest.drop (i+1)).toArray⟩)).drew) ⟨AH (rest.drop (i+1)),by rw[hp,hl];simp⟩ (hJ.below _ _ _ (hJ.cell _ _ _ hJr) (Bd (Below.refl _ _)))
    gi_wp2
    refine⟨fun h=>by simp[Fence.wide]at h,hR.mono ?_⟩;rintro e W3 (⟨rfl,hJ3,hk3⟩ |⟨rfl,hJx3⟩)
    ·gi_wp2
     go_roundw
     case rel=>exact⟨pre++[rest.take (i+1)],rest.drop (i+1),by rw[hp,hl];simp,by rw[List.length_drop];omega,hk3.trans hs',hJ3⟩
     case measure=>rw[Et (l:=rest.drop (i+1)) ((Bc (hk3.trans hs') 0).trans rfl),Et c0,List.length_drop];omega
    ·gi_wp2
     refine bodyPost_ret (results_none rfl _ _ _) rfl ?_;exact⟨⟨_,rfl⟩,.inr ⟨pre++[rest.take (i+1)],⟨AH (rest.drop (i+1)),by rw[hp,hl];simp⟩,hJx3⟩⟩
end
section
open Go Go.Lib

structure CoreM where
 r:List Nat
 pc:Int
deriving DecidableEq
def CoreM.get(c:CoreM)(i:Int):Nat:=c.r.getD i.toNat 0
def CoreM.set(c:CoreM)(i:Int)(v:Nat):CoreM:={c with r:=c.r.set i.toNat v}
def CoreM.at(c:CoreM)(pc:Int):CoreM:={c with pc:=pc}
def F4:Nat:=4294967296
def QB(c:CoreM)(i:In)(self:Nat):CoreM :=
 if i.op≥16∨i.op=13 then c
 else if i.op=1 then (c.set i.d i.k.toNat).at (c.pc+1)
 else if i.op=2 then (c.set i.d (c.get i.s)).at (c.pc+1)
 else if i.op=3 then (c.set i.d ((c.get i.s+i.k.toNat)%F4)).at (c.pc+1)
 else if i.op=4 then (c.set i.d (Nat.land (c.get i.s) i.k.toNat)).at (c.pc+1)
 else if i.op=5 then (c.set i.d (c.get i.s*2 ^ i.k.toNat%F4)).at (c.pc+1)
 else if i.op=6 then (c.set i.d (c.get i.s/2 ^ i.k.toNat)).at (c.pc+1)
 else if i.op=7 then (c.set i.d (Nat.lor (c.get i.s) (c.get i.t))).at (c.pc+1)
 else if i.op=8 then c.at (if c.get i.s=c.get i.t then i.q else c.pc+1)
 else if i.op=9 then c.at (if c.get i.s=c.get i.t then c.pc+1 else i.q)
 else if i.op=10 then c.at i.q
 else if i.op=11 then (c.set i.d self).at (c.pc+1)
 else c.at (c.pc+1)
def runM(code:List In)(self:Nat):Nat→CoreM→List Int→CoreM×List Int×Int×Int
 |0,c,ms=>(c,ms,-1,11)
 |n+1,c,ms =>
  if c.pc<0∨c.pc≥code.length then (c,ms,-1,11) else
  if (code.getD c.pc.toNat In.zero).op≥16 then (c,ms,-1,0)
  else if n=0 then (c,ms,-1,11)
  else if (code.getD c.pc.toNat In.zero).op=13 then (c,ms,(code.getD c.pc.toNat In.zero).k,0)
  else runM code self n (QB c (code.getD c.pc.toNat In.zero) self) (if (code.getD c.pc.toNat In.zero).op=12 then ms++[(code.getD c.pc.toNat In.zero).k] else ms)
structure DL where
 each:Nat
 free:List (List Nat)
 gen:List Nat
 out:List Nat
deriving DecidableEq
def DL.new(n each:Nat):DL:=⟨each,(List.range n).map fun t=>(List.range each).map fun i=>t*each+i+1,List.replicate (n*each) 0,List.replicate (n*each) 0⟩
def DL.handle(p:DL)(n:Nat):Nat:=p.gen.getD (n-1) 0*4096+n
def DL.take(p:DL)(t:Nat):DL×Nat :=
 match p.free.getD t []with
 |[]=>(p,0)
 |n::l=>({p with free:=p.free.set t l,out:=p.out.set (n-1) 1},p.handle n)
def DL.back(p:DL)(h:Nat):Option DL :=
 if h=0 then some p
 else if 1≤h%4096∧h%4096≤p.out.length∧p.out.getD (h%4096-1) 0=1∧p.handle (h%4096)=h then
  some {p with
   out:=p.out.set (h%4096-1) 0
   gen:=p.gen.set (h%4096-1) ((h/4096%262144+1)%262144)
   free:=p.free.set ((h%4096-1)/p.each) (p.free.getD ((h%4096-1)/p.each) []++[h%4096])}
 else none
def DL.many(p:DL)(t:Nat):Int:=if t<p.free.length then (p.each:Int)-(p.free.getD t []).length else 0
structure BW where
 pg:Pg
 cells:List (Nat×Nat)
 words:List Nat
 NG:DL
 D8:List CoreM
structure Ec where
 marks:List Int
 done:Int
 addr:Int
 wrote:Nat
 stay:Nat
 e:Int
deriving DecidableEq
def Ed:Nat→List Nat→List (Nat×Nat)
 |_,[]=>[]
 |a,s::r=>(List.range s).map (fun i=>(a,i))++Ed (a+1) r
def Fl(sizes:List Nat):List (Nat×Nat):=Ed 0 sizes
def D9(a:Int)(p:Nat):Nat→List (Nat×Nat)→Option Nat
 |_,[]=>none
 |k,c::r=>if (c.1:Int)=a∧c.2=p then some k else D9 a p (k+1) r
def BW.new(pg:Pg)(sizes init:List Nat)(n each:Nat)(r7:List Nat):BW :=
 ⟨pg,Fl sizes,init,DL.new n each,r7.map fun v=>⟨[0,0,0,0,0,0,0,v],0⟩⟩
def BW.core(x:BW)(t:Nat):CoreM:=x.D8.getD t ⟨[],0⟩
def BW.go(x:BW)(t:Nat)(c:CoreM)(addr:Int)(wrote:Nat):BW×Ec :=
 let r:=runM x.pg.l t 257 c []
 ({x with D8:=x.D8.set t r.1},⟨r.2.1,r.2.2.1,addr,wrote,0,r.2.2.2⟩)
def BW.begin(x:BW)(t:Nat)(unlock:Bool):BW×Ec :=
 x.go t ((x.core t).at (if unlock=true then x.pg.unlock else x.pg.lock)) (-1) 0
def M6(i:In)(c:CoreM)(was:Nat)(late:Bool):Option Nat×CoreM×Bool :=
 if i.op=16 then (none,(c.set i.d was).at (c.pc+1),false)
 else if i.op=17 then (some (c.get i.t),c.at (c.pc+1),false)
 else if i.op=18 then (some (c.get i.t),(c.set i.d was).at (c.pc+1),false)
 else if i.op=19 then
  if was=c.get i.t then (some (c.get i.u),(c.set i.d 1).at (c.pc+1),false) else (none,(c.set i.d 0).at (c.pc+1),false)
 else if i.op=20 then (some ((was+i.k.toNat)%F4),(c.set i.d was).at (c.pc+1),false)
 else if i.op=21 then
  if (if i.k=1 then decide (was≠c.get i.t) else decide (was=c.get i.t))=true then (none,(c.set i.d was).at (c.pc+1),false)
  else if late=false∨i.q<0 then (none,c.set i.d was,true)
  else (none,(c.set i.d was).at i.q,false)
 else (none,c.at (c.pc+1),false)
def Fc:Ec:=⟨[],-1,-1,0,0,11⟩
def BW.step(x:BW)(t:Nat)(late:Bool):BW×Ec :=
 let c:=x.core t
 if c.pc<0∨c.pc≥x.pg.l.length then (x,Fc) else
 let i:=x.pg.l.getD c.pc.toNat In.zero
 if i.op<16 then (x,Fc)
 else if i.op=22 then
  let p:=x.NG.take t
  ({x with NG:=p.1}).go t ((c.set i.d p.2).at (c.pc+1)) (-1) 0
 else if i.op=23 then
  match x.NG.back (c.get i.s) with
  |none=>(x,Fc)
  |some p=>({x with NG:=p}).go t (c.at (c.pc+1)) (-1) 0
 else
  match D9 i.a (c.get i.s%4096) 0 x.cells with
  |none=>(x,Fc)
  |some a =>
   let r:=M6 i c (x.words.getD a 0) late
   let x1:=match r.1 with
    |none=>x
    |some v=>{x with words:=x.words.set a v}
   let wrote:=match r.1 with
    |none=>0
    |some _=>1
   if r.2.2=true then ({x1 with D8:=x1.D8.set t r.2.1},⟨[],-1,a,wrote,1,0⟩)
   else x1.go t r.2.1 a wrote
structure Bz where
 x:BW
 act:List Nat
 l:List Eg
 bad:Bool
def GP(k:Int):Nat:=[0,2,3,4,9].getD k.toNat 0
def Ik(done:Int):Option (Nat×Nat):=if done=0 then some (6,0) else if done=1 then some (5,2) else if done=2 then some (10,0) else if done=3 then some (7,0) else none
def Jm(act:Nat)(o:Ec):Bool:=decide (o.e≠0)||(decide (o.done≥0)&&(decide (o.done=2) != decide (act=3)))
def Bz.Em(r:Bz)(t:Nat)(o:Ec):Bz :=
 let l:=r.l++o.marks.map (fun k=>(GP k,t))
 if Jm (r.act.getD t 0) o=true then {r with l:=l,bad:=true}
 else match Ik o.done with
  |none=>{r with l:=l}
  |some p=>{r with l:=l++[(p.1,t)],act:=r.act.set t p.2}
def Bz.op(r:Bz)(kind t late:Int):Bz :=
 if t<0∨t≥r.act.length∨r.bad=true then r
 else if kind=1∧r.act.getD t.toNat 0=0 then
  let s:=r.x.begin t.toNat false
  ({r with x:=s.1,act:=r.act.set t.toNat 1,l:=r.l++[(1,t.toNat)]}:Bz).Em t.toNat s.2
 else if kind=2∧r.act.getD t.toNat 0=2 then
  let s:=r.x.begin t.toNat true
  ({r with x:=s.1,act:=r.act.set t.toNat 3,l:=r.l++[(8,t.toNat)]}:Bz).Em t.toNat s.2
 else if kind≠1∧kind≠2∧(r.act.getD t.toNat 0=1∨r.act.getD t.toNat 0=3) then
  let s:=r.x.step t.toNat (decide (late≠0))
  ({r with x:=s.1}:Bz).Em t.toNat s.2
 else r
def Bz.new(x:BW)(n:Nat):Bz:=⟨x,List.replicate n 0,[],false⟩
def Bz.ops(r:Bz)(l:List (Int×Int×Int)):Bz:=l.foldl (fun r o=>r.op o.1 o.2.1 o.2.2) r
def Bz.Jn(r:Bz)(n:Nat):Bool:=!r.bad&&decide (Il n r.l=r.l.length)
structure H0 where
 r:Bz
 left:List Nat
 JJ:Nat
 busy:Bool
def H0.F5(v:H0)(t:Nat):H0 :=
 let d:=v.r.act.getD t 0
 let v1:H0:=if d=0∧v.left.getD t 0 > 0 then {v with left:=v.left.set t (v.left.getD t 0-1),r:=v.r.op 1 t 0}
  else if d=2 then {v with JJ:=v.JJ+1,r:=v.r.op 2 t 0}
  else {v with r:=v.r.op 3 t 0}
 {v1 with busy:=v1.busy||decide (v1.r.act.getD t 0≠0)||decide (v1.left.getD t 0 > 0)}
def H0.round(n:Nat)(v:H0):H0:=(List.range n).foldl H0.F5 {v with busy:=false}
def H0.rounds(n:Nat):Nat→H0→H0
 |0,v=>v
 |k+1,v=>let v1:=v.round n;if v1.busy=false∨v1.r.bad=true then v1 else v1.rounds n k
def Im(x:BW)(n calls:Nat):Bool :=
 let v:=H0.rounds n (100*(n+1)*(calls+1)) ⟨Bz.new x n,List.replicate n calls,0,true⟩
 !v.r.bad&&decide (v.JJ=n*calls)&&decide (Il n v.r.l=v.r.l.length)
def DM(v:Bz×Bool)(t:Nat):Bz×Bool :=
 let r:=if v.1.act.getD t 0=2 then v.1.op 2 t 0 else v.1.op 3 t 0
 (r,v.2||decide (r.act.getD t 0≠0))
def Jo(r:Bz):Bz×Bool:=(List.range r.act.length).foldl DM (r,false)
def OZ:Nat→Bz→Bz×Bool
 |0,r=>(r,false)
 |k+1,r=>let v:=Jo r;if v.2=false then (v.1,true) else OZ k v.1
end
section
def Pk(pg:Pg)(words:List Nat)(t:Nat)(c:CoreM)(addr:Int)(wrote:Nat):List Nat×CoreM×Ec :=
 let r:=runM pg.l t 257 c []
 (words,r.1,⟨r.2.1,r.2.2.1,addr,wrote,0,r.2.2.2⟩)
def Hc(pg:Pg)(cells:List (Nat×Nat))(words:List Nat)(t:Nat)(c:CoreM)(late:Bool):Option (List Nat×CoreM×Ec) :=
 if c.pc<0∨c.pc≥pg.l.length then some (words,c,Fc) else
 let i:=pg.l.getD c.pc.toNat In.zero
 if i.op<16 then some (words,c,Fc)
 else if i.op=22 then none
 else if i.op=23 then none
 else
  match D9 i.a (c.get i.s%4096) 0 cells with
  |none=>some (words,c,Fc)
  |some a =>
   let r:=M6 i c (words.getD a 0) late
   let w1:=match r.1 with
    |none=>words
    |some v=>words.set a v
   let wrote:=match r.1 with
    |none=>0
    |some _=>1
   if r.2.2=true then some (w1,r.2.1,⟨[],-1,a,wrote,1,0⟩)
   else some (Pk pg w1 t r.2.1 a wrote)
theorem MS{α:Type}(l:List α)(t:Nat)(d:α):l.set t (l.getD t d)=l:=by
 apply List.ext_getElem?
 intro i;rw[List.getElem?_set];by_cases h:t=i
 ·subst h;rw[if_pos rfl];by_cases h2:t<l.length
  ·rw[if_pos h2,List.getD_eq_getElem?_getD,List.getElem?_eq_getElem h2];rfl
  ·rw[if_neg h2,List.getElem?_eq_none (by omega)]
 ·rw[if_neg h]
theorem NX{x:BW}{t:Nat}{late:Bool}{w:List Nat}{c:CoreM}{o:Ec}(h:Hc x.pg x.cells x.words t (x.core t) late=some (w,c,o)) :
  x.step t late=({x with words:=w,D8:=x.D8.set t c},o):=by
 have e:x.D8.set t (x.core t)=x.D8:=MS x.D8 t _;unfold Hc at h;unfold BW.step;by_cases h1:(x.core t).pc<0∨(x.core t).pc≥x.pg.l.length
 ·rw[if_pos h1]at h ⊢;cases h;rw[e]
 ·rw[if_neg h1]at h ⊢;dsimp only at h ⊢;by_cases h2:(x.pg.l.getD (x.core t).pc.toNat In.zero).op<16
  ·rw[if_pos h2]at h ⊢;cases h;rw[e]
  ·rw[if_neg h2]at h ⊢;by_cases h3:(x.pg.l.getD (x.core t).pc.toNat In.zero).op=22
   ·rw[if_pos h3]at h;cases h
   ·rw[if_neg h3]at h ⊢;by_cases h4:(x.pg.l.getD (x.core t).pc.toNat In.zero).op=23
    ·rw[if_pos h4]at h;cases h
    ·rw[if_neg h4]at h ⊢;cases h5:D9 (x.pg.l.getD (x.core t).pc.toNat In.zero).a ((x.core t).get (x.pg.l.getD (x.core t).pc.toNat In.zero).s%4096) 0 x.cells with
     |none=>rw[h5]at h;dsimp only at h ⊢;cases h;rw[e]
     |some a =>
      rw[h5]at h;dsimp only at h ⊢;generalize M6 (x.pg.l.getD (x.core t).pc.toNat In.zero) (x.core t) (x.words.getD a 0) late=r at h ⊢;by_cases h6:r.2.2=true
      ·rw[if_pos h6]at h ⊢;cases h;cases r.1<;>rfl
      ·rw[if_neg h6]at h ⊢;cases hr:r.1<;>rw[hr]at h<;>cases h<;>rfl
theorem J1{x:BW}{t:Nat}{u:Bool}{w:List Nat}{c:CoreM}{o:Ec}(h:Pk x.pg x.words t ((x.core t).at (if u=true then x.pg.unlock else x.pg.lock)) (-1) 0=(w,c,o)) :
  x.begin t u=({x with words:=w,D8:=x.D8.set t c},o):=by
 unfold Pk at h;unfold BW.begin BW.go;cases h;rfl
def MT(i:In)(c:CoreM)(was:Nat)(late b:Bool):Option Nat×CoreM×Bool :=
 if i.op=16 then (none,(c.set i.d was).at (c.pc+1),false)
 else if i.op=17 then (some (c.get i.t),c.at (c.pc+1),false)
 else if i.op=18 then (some (c.get i.t),(c.set i.d was).at (c.pc+1),false)
 else if i.op=19 then (bif b then (some (c.get i.u),(c.set i.d 1).at (c.pc+1),false) else (none,(c.set i.d 0).at (c.pc+1),false))
 else if i.op=20 then (some ((was+i.k.toNat)%F4),(c.set i.d was).at (c.pc+1),false)
 else if i.op=21 then
  if (bif decide (i.k=1) then !b else b)=true then (none,(c.set i.d was).at (c.pc+1),false)
  else if late=false∨i.q<0 then (none,c.set i.d was,true)
  else (none,(c.set i.d was).at i.q,false)
 else (none,c.at (c.pc+1),false)
theorem Pl(i:In)(c:CoreM)(was:Nat)(late:Bool):M6 i c was late=MT i c was late (decide (was=c.get i.t)):=by
 unfold M6 MT;by_cases h:was=c.get i.t<;>by_cases hk:i.k=1<;>simp[h,hk]
def MU(pg:Pg)(words:List Nat)(t:Nat)(c:CoreM)(late:Bool)(f:Option Nat)(b:Bool):Option (List Nat×CoreM×Ec) :=
 if c.pc<0∨c.pc≥pg.l.length then some (words,c,Fc) else
 let i:=pg.l.getD c.pc.toNat In.zero
 if i.op<16 then some (words,c,Fc)
 else if i.op=22 then none
 else if i.op=23 then none
 else
  match f with
  |none=>some (words,c,Fc)
  |some a =>
   let r:=MT i c (words.getD a 0) late b
   let w1:=match r.1 with
    |none=>words
    |some v=>words.set a v
   let wrote:=match r.1 with
    |none=>0
    |some _=>1
   if r.2.2=true then some (w1,r.2.1,⟨[],-1,a,wrote,1,0⟩)
   else some (Pk pg w1 t r.2.1 a wrote)
theorem NY{pg:Pg}{cells:List (Nat×Nat)}{words:List Nat}{t:Nat}{c:CoreM}{late:Bool}(a:Nat)(b:Bool)
  (hf:D9 (pg.l.getD c.pc.toNat In.zero).a (c.get (pg.l.getD c.pc.toNat In.zero).s%4096) 0 cells=some a)(hb:decide (words.getD a 0=c.get (pg.l.getD c.pc.toNat In.zero).t)=b) :
  Hc pg cells words t c late=MU pg words t c late (some a) b:=by
 unfold Hc MU;dsimp only;rw[hf];simp only[Pl,hb]
theorem Fo{a:Int}{p:Nat}:∀ (l r:List (Nat×Nat)) (k:Nat),(∀ c∈l,¬((c.1:Int)=a∧c.2=p))→D9 a p k (l++r)=D9 a p (k+l.length) r
 |[],r,k,_=>rfl
 |c::l,r,k,h=>by
  rw[List.cons_append,D9,if_neg (h c (List.mem_cons_self ..)),Fo l r (k+1) (fun c hc=>h c (List.mem_cons_of_mem _ hc)),List.length_cons]
  congr 1;omega
theorem Hd{A p:Nat}{k:Nat}:∀ (m:Nat) (r:List (Nat×Nat)),p<m→D9 (A:Int) p k ((List.range m).map (fun i=>(A,i))++r)=some (k+p)
 |m+1,r,h=>by
  rw[List.range_succ,List.map_append,List.append_assoc];by_cases e:p=m
  ·subst e;rw[Fo _ _ _ (fun c hc=>by
    obtain⟨i,hi,rfl⟩:=List.mem_map.1 hc;have:=List.mem_range.1 hi;dsimp only;omega)]
   simp[D9]
  ·exact Hd m _ (by omega)
theorem J2{a:Int}{A p:Nat}{r:List (Nat×Nat)}{k m:Nat}(h:(A:Int)≠a):D9 a p k ((List.range m).map (fun i=>(A,i))++r)=D9 a p (k+m) r:=by
 rw[Fo _ _ _ (fun c hc=>by
  obtain⟨i,hi,rfl⟩:=List.mem_map.1 hc;dsimp only;omega)]
 simp
theorem MV{l:List Nat}{i j v:Nat}(h:i<l.length):(l.set i v).getD j 0=if i=j then v else l.getD j 0:=by
 rw[List.getD_eq_getElem?_getD,List.getD_eq_getElem?_getD,List.getElem?_set];by_cases e:i=j
 ·rw[if_pos e,if_pos e,if_pos h];rfl
 ·rw[if_neg e,if_neg e]
structure LS where
 words:List Nat
 core:Nat→CoreM
 act:Nat→Nat
 tr:Cp
def LS.Em(s:LS)(t:Nat)(o:Ec):LS :=
 match Ik o.done with
 |none=>{s with tr:=o.marks.foldl (fun x k=>x.enter (GP k) t) s.tr}
 |some p=>{s with tr:=(o.marks.foldl (fun x k=>x.enter (GP k) t) s.tr).enter p.1 t,act:=E1 s.act t p.2}
structure C6 (n:Nat) (pg:Pg) (cells:List (Nat×Nat)) (r:Bz) (s:LS):Prop where
 pg:r.x.pg=pg
 cells:r.x.cells=cells
 words:r.x.words=s.words
 lc:r.x.D8.length=n
 core:∀ t,t<n→r.x.core t=s.core t
 la:r.act.length=n
 act:∀ t,t<n→r.act.getD t 0=s.act t
 bad:r.bad=false
 tr:Cp.of n r.l=s.tr
theorem He(n t:Nat):∀ (ks:List Int) (l:List Eg),Cp.of n (l++ks.map (fun k=>(GP k,t)))=ks.foldl (fun x k=>x.enter (GP k) t) (Cp.of n l)
 |[],l=>by simp
 |k::ks,l=>by
  rw[List.map_cons,List.append_cons,He n t ks,Cp.DO];rfl
theorem Hf{l:List Nat}{f:Nat→Nat}{n t v:Nat}(hl:l.length=n)(h:∀ s,s<n→l.getD s 0=f s):∀ s,s<n→(l.set t v).getD s 0=E1 f t v s:=by
 intro s hs;have:=h s hs;rw[List.getD_eq_getElem?_getD]at this ⊢;rw[List.getElem?_set];by_cases e:t=s
 ·subst e;rw[if_pos rfl,if_pos (by omega),CX];rfl
 ·rw[if_neg e,DV _ _ (fun h=>e h.symm)];exact this
theorem FT{l:List CoreM}{f:Nat→CoreM}{n t:Nat}{v d:CoreM}(hl:l.length=n)(h:∀ s,s<n→l.getD s d=f s):∀ s,s<n→(l.set t v).getD s d=E1 f t v s:=by
 intro s hs;have:=h s hs;rw[List.getD_eq_getElem?_getD]at this ⊢;rw[List.getElem?_set];by_cases e:t=s
 ·subst e;rw[if_pos rfl,if_pos (by omega),CX];rfl
 ·rw[if_neg e,DV _ _ (fun h=>e h.symm)];exact this
section
variable {n:Nat} {pg:Pg} {cells:List (Nat×Nat)} {r:Bz} {s:LS} {t:Nat} {late:Int}
theorem C6.Em(h:C6 n pg cells r s)(ht:t<n){o:Ec}(hb:Jm (s.act t) o=false):C6 n pg cells (r.Em t o) (s.Em t o):=by
 unfold Bz.Em LS.Em;rw[h.act t ht,hb];cases he:Ik o.done with
 |none=>exact⟨h.pg,h.cells,h.words,h.lc,h.core,h.la,h.act,h.bad,by
  simp only[Bool.false_eq_true,if_false];rw[He,h.tr]⟩
 |some p=>exact⟨h.pg,h.cells,h.words,h.lc,h.core,by simp[h.la],Hf h.la h.act,h.bad,by
  simp only[Bool.false_eq_true,if_false];rw[Cp.DO,He,h.tr]⟩
theorem C6.Ql(h:C6 n pg cells r s){w:List Nat}{c:CoreM}:C6 n pg cells {r with x:={r.x with words:=w,D8:=r.x.D8.set t c}} {s with words:=w,core:=E1 s.core t c} :=
 ⟨h.pg,h.cells,rfl,by simp[h.lc],FT h.lc h.core,h.la,h.act,h.bad,h.tr⟩
theorem C6.step(h:C6 n pg cells r s)(ht:t<n)(ha:s.act t=1∨s.act t=3){kind:Int}(h1:kind≠1)(h2:kind≠2){w:List Nat}{c:CoreM}{o:Ec}
  (e:Hc pg cells s.words t (s.core t) (decide (late≠0))=some (w,c,o))(hb:Jm (s.act t) o=false) :
  C6 n pg cells (r.op kind t late) (({s with words:=w,core:=E1 s.core t c}:LS).Em t o):=by
 have e':=NX (x:=r.x) (t:=t) (late:=decide (late≠0)) (by rw[h.pg,h.cells,h.words,h.core t ht];exact e);unfold Bz.op;rw[if_neg (by rw[h.la,h.bad];simp;omega),if_neg (fun x=>h1 x.1),if_neg (fun x=>h2 x.1),if_pos ⟨h1,h2,by rw[Int.toNat_natCast,h.act t ht];exact ha⟩];dsimp only;rw[Int.toNat_natCast,e'];exact C6.Em (s:={s with words:=w,core:=E1 s.core t c}) h.Ql ht hb
theorem C6.call(h:C6 n pg cells r s)(ht:t<n)(ha:s.act t=0){w:List Nat}{c:CoreM}{o:Ec}
  (e:Pk pg s.words t ((s.core t).at pg.lock) (-1) 0=(w,c,o))(hb:Jm 1 o=false) :
  C6 n pg cells (r.op 1 t late) (({words:=w,core:=E1 s.core t c,act:=E1 s.act t 1,tr:=s.tr.enter 1 t}:LS).Em t o):=by
 have e':=J1 (x:=r.x) (t:=t) (u:=false) (w:=w) (c:=c) (o:=o) (by rw[h.words,h.core t ht,if_neg (by decide),h.pg];exact e);unfold Bz.op;rw[if_neg (by rw[h.la,h.bad];simp;omega),if_pos ⟨rfl,by rw[Int.toNat_natCast,h.act t ht];exact ha⟩];dsimp only;rw[Int.toNat_natCast,e'];refine C6.Em (s:={words:=w,core:=E1 s.core t c,act:=E1 s.act t 1,tr:=s.tr.enter 1 t}) ?_ ht (by show Jm (E1 s.act t 1 t) o=false;rw[CX];exact hb);exact⟨h.pg,h.cells,rfl,by simp[h.lc],FT h.lc h.core,by simp[h.la],Hf h.la h.act,h.bad,by rw[Cp.DO,h.tr]⟩
theorem C6.unlock(h:C6 n pg cells r s)(ht:t<n)(ha:s.act t=2){w:List Nat}{c:CoreM}{o:Ec}
  (e:Pk pg s.words t ((s.core t).at pg.unlock) (-1) 0=(w,c,o))(hb:Jm 3 o=false) :
  C6 n pg cells (r.op 2 t late) (({words:=w,core:=E1 s.core t c,act:=E1 s.act t 3,tr:=s.tr.enter 8 t}:LS).Em t o):=by
 have e':=J1 (x:=r.x) (t:=t) (u:=true) (w:=w) (c:=c) (o:=o) (by rw[h.words,h.core t ht,if_pos rfl,h.pg];exact e);unfold Bz.op;rw[if_neg (by rw[h.la,h.bad];simp;omega),if_neg (fun x=>by cases x.1),if_pos ⟨rfl,by rw[Int.toNat_natCast,h.act t ht];exact ha⟩];dsimp only;rw[Int.toNat_natCast,e'];refine C6.Em (s:={words:=w,core:=E1 s.core t c,act:=E1 s.act t 3,tr:=s.tr.enter 8 t}) ?_ ht (by show Jm (E1 s.act t 3 t) o=false;rw[CX];exact hb);exact⟨h.pg,h.cells,rfl,by simp[h.lc],FT h.lc h.core,by simp[h.la],Hf h.la h.act,h.bad,by rw[Cp.DO,h.tr]⟩
theorem C6.new(n:Nat)(pg:Pg)(sizes init:List Nat)(each:Nat)(r7:List Nat)(h:r7.length=n) :
  C6 n pg (Fl sizes) (Bz.new (BW.new pg sizes init n each r7) n) ⟨init,fun t=>⟨[0,0,0,0,0,0,0,r7.getD t 0],0⟩,fun _=>0,Cp.new n⟩:=by
 refine⟨rfl,rfl,rfl,by simp[Bz.new,BW.new,h],fun t ht=>?_,by simp[Bz.new],fun t ht=>by simp[Bz.new,ht],rfl,rfl⟩;simp[Bz.new,BW.new,BW.core,List.getD_eq_getElem?_getD,List.getElem?_eq_getElem (show t<r7.length by omega)]
end
theorem MW{n:Nat}{pg:Pg}{cells:List (Nat×Nat)}{I:LS→Prop}
  (hcall:∀ (r:Bz) (s:LS) (t:Nat) (late:Int),C6 n pg cells r s→I s→t<n→s.act t=0→∃ s',C6 n pg cells (r.op 1 t late) s'∧I s')
  (hunlock:∀ (r:Bz) (s:LS) (t:Nat) (late:Int),C6 n pg cells r s→I s→t<n→s.act t=2→∃ s',C6 n pg cells (r.op 2 t late) s'∧I s')
  (hstep:∀ (r:Bz) (s:LS) (t:Nat) (kind late:Int),C6 n pg cells r s→I s→t<n→s.act t=1∨s.act t=3→kind≠1→kind≠2→∃ s',C6 n pg cells (r.op kind t late) s'∧I s')
  (r:Bz)(s:LS)(h:C6 n pg cells r s)(hi:I s)(kind t late:Int):∃ s',C6 n pg cells (r.op kind t late) s'∧I s':=by
 by_cases ht:t<0∨t≥r.act.length∨r.bad=true
 ·exact⟨s,by unfold Bz.op;rw[if_pos ht];exact h,hi⟩
 ·obtain⟨k,rfl⟩:∃ k:Nat,t=k:=⟨t.toNat,by omega⟩
  have hk:k<n:=by rw[←h.la];omega
  have ea:=h.act k hk;by_cases h1:kind=1∧s.act k=0
  ·rw[h1.1];exact hcall r s k late h hi hk h1.2
  ·by_cases h2:kind=2∧s.act k=2
   ·rw[h2.1];exact hunlock r s k late h hi hk h2.2
   ·by_cases h3:kind≠1∧kind≠2∧(s.act k=1∨s.act k=3)
    ·exact hstep r s k kind late h hi hk h3.2.2 h3.1 h3.2.1
    ·refine⟨s,?_,hi⟩;unfold Bz.op;rw[if_neg ht,Int.toNat_natCast,ea,if_neg h1,if_neg h2,if_neg h3];exact h
theorem KR{n:Nat}{pg:Pg}{cells:List (Nat×Nat)}{I:LS→Prop}
  (hop:∀ (r:Bz) (s:LS),C6 n pg cells r s→I s→∀ kind t late:Int,∃ s',C6 n pg cells (r.op kind t late) s'∧I s') :
  ∀ (l:List (Int×Int×Int)) (r:Bz) (s:LS),C6 n pg cells r s→I s→∃ s',C6 n pg cells (r.ops l) s'∧I s'
 |[],r,s,h,hi=>⟨s,h,hi⟩
 |o::l,r,s,h,hi=>by
  obtain⟨s',h',hi'⟩:=hop r s h hi o.1 o.2.1 o.2.2;exact KR hop l _ s' h' hi'
theorem C6.Jn{n:Nat}{pg:Pg}{cells:List (Nat×Nat)}{r:Bz}{s:LS}(h:C6 n pg cells r s)(h1:1≤n)(h2:n≤64)(ho:s.tr.ok=true):r.Jn n=true:=by
 unfold Bz.Jn;rw[h.bad,decide_eq_true ((Hb n h1 h2 r.l).2 (by rw[h.tr];exact ho))];rfl
end
end Go.Proofs.YtjjpiefgdggghaaGreatDoor

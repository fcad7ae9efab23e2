/- Parts: Of, AsmPlain, Labels, Number, RefName. -/
import Derived.Test.YtnmahobjmpdkdaaGreatDoorG02
import Derived.Test.YtnmahobjmpdkdaaGreatDoorG04
import Derived.Test.YtnmahobjmpdkdaaGreatDoorG03
import Derived.Maps.OwnSet
import Derived.Maps.Views
import Derived.Great.BuildSlice
import Derived.Great.Walk
set_option linter.unusedVariables false
set_option linter.unusedSimpArgs false
set_option maxRecDepth 100000
set_option maxHeartbeats 40000000
namespace Go.Proofs.YtnmahobjmpdkdaaGreatDoor
section
open Go.RowKit Go.Proofs.YtnmahobjmpdkdaaGreatDoorW.PrintWords
theorem OA(op:Int)(w:World)(hn:¬(1≤op∧op≤13)) :
  Calls Tryz.prog 120 #[.int .i64 op] w fun e w'=>e=.returned (.agg #[.string ⟨(Ak op).toArray⟩,.string ⟨(Br op).toArray⟩])∧Below w.heap.size w w':=by
 by_cases h16:op=16
 ·subst h16;go_enter Tryz.func120,Tryz.ntmps120;go_wp2;exact bodyPost_ret (v:=.agg #[.string ⟨#[108,111,97,100]⟩,.string ⟨#[68,65,83]⟩]) (by simp[results,Tryz.results120,go_sem]) rfl ⟨rfl,by apply_rules [Below.setCell,Below.alloc,Below.refl]<;>simp⟩
 by_cases h17:op=17
 ·subst h17;go_enter Tryz.func120,Tryz.ntmps120;go_wp2;exact bodyPost_ret (v:=.agg #[.string ⟨#[115,116,111,114,101]⟩,.string ⟨#[65,83,84]⟩]) (by simp[results,Tryz.results120,go_sem]) rfl ⟨rfl,by apply_rules [Below.setCell,Below.alloc,Below.refl]<;>simp⟩
 by_cases h18:op=18
 ·subst h18;go_enter Tryz.func120,Tryz.ntmps120;go_wp2;exact bodyPost_ret (v:=.agg #[.string ⟨#[115,119,97,112]⟩,.string ⟨#[68,65,83,84]⟩]) (by simp[results,Tryz.results120,go_sem]) rfl ⟨rfl,by apply_rules [Below.setCell,Below.alloc,Below.refl]<;>simp⟩
 by_cases h19:op=19
 ·subst h19;go_enter Tryz.func120,Tryz.ntmps120;go_wp2;exact bodyPost_ret (v:=.agg #[.string ⟨#[99,97,115]⟩,.string ⟨#[68,65,83,84,85]⟩]) (by simp[results,Tryz.results120,go_sem]) rfl ⟨rfl,by apply_rules [Below.setCell,Below.alloc,Below.refl]<;>simp⟩
 by_cases h20:op=20
 ·subst h20;go_enter Tryz.func120,Tryz.ntmps120;go_wp2;exact bodyPost_ret (v:=.agg #[.string ⟨#[102,97,100,100]⟩,.string ⟨#[68,65,83,75]⟩]) (by simp[results,Tryz.results120,go_sem]) rfl ⟨rfl,by apply_rules [Below.setCell,Below.alloc,Below.refl]<;>simp⟩
 by_cases h21:op=21
 ·subst h21;go_enter Tryz.func120,Tryz.ntmps120;go_wp2;exact bodyPost_ret (v:=.agg #[.string ⟨#[97,119,97,105,116]⟩,.string ⟨#[68,65,83,87]⟩]) (by simp[results,Tryz.results120,go_sem]) rfl ⟨rfl,by apply_rules [Below.setCell,Below.alloc,Below.refl]<;>simp⟩
 by_cases h22:op=22
 ·subst h22;go_enter Tryz.func120,Tryz.ntmps120;go_wp2;exact bodyPost_ret (v:=.agg #[.string ⟨#[116,97,107,101]⟩,.string ⟨#[68]⟩]) (by simp[results,Tryz.results120,go_sem]) rfl ⟨rfl,by apply_rules [Below.setCell,Below.alloc,Below.refl]<;>simp⟩
 by_cases h23:op=23
 ·subst h23;go_enter Tryz.func120,Tryz.ntmps120;go_wp2;exact bodyPost_ret (v:=.agg #[.string ⟨#[102,114,101,101]⟩,.string ⟨#[83]⟩]) (by simp[results,Tryz.results120,go_sem]) rfl ⟨rfl,by apply_rules [Below.setCell,Below.alloc,Below.refl]<;>simp⟩
 have g16:(op==16)=false:=Bq h16;have g17:(op==17)=false:=Bq h17;have g18:(op==18)=false:=Bq h18;have g19:(op==19)=false:=Bq h19;have g20:(op==20)=false:=Bq h20;have g21:(op==21)=false:=Bq h21;have g22:(op==22)=false:=Bq h22;have g23:(op==23)=false:=Bq h23;have e1:Ak op=[]:=by unfold Ak;repeat (first |rw[if_neg (by omega)] |rfl)
 have e2:Br op=[]:=by unfold Br;repeat (first |rw[if_neg (by omega)] |rfl)
 rw[e1,e2];clear e1 e2;go_enter Tryz.func120,Tryz.ntmps120;go_wp2;exact bodyPost_ret (v:=.agg #[.string ⟨#[]⟩,.string ⟨#[]⟩]) (by simp[results,Tryz.results120,go_sem]) rfl ⟨rfl,by apply_rules [Below.setCell,Below.alloc,Below.refl]<;>simp⟩
theorem Hi(op:Int)(w:World) :
  Calls Tryz.prog 112 #[.int .i64 op] w fun e w'=>e=.returned (.agg #[.string ⟨(Ak op).toArray⟩,.string ⟨(Br op).toArray⟩])∧Below w.heap.size w w':=by
 by_cases h1:op=1
 ·subst h1;go_enter Tryz.func112,Tryz.ntmps112;go_wp2;exact bodyPost_ret (v:=.agg #[.string ⟨#[99,111,110,115,116]⟩,.string ⟨#[68,75]⟩]) (by simp[results,Tryz.results112,go_sem]) rfl ⟨rfl,by apply_rules [Below.setCell,Below.alloc,Below.refl]<;>simp⟩
 by_cases h2:op=2
 ·subst h2;go_enter Tryz.func112,Tryz.ntmps112;go_wp2;exact bodyPost_ret (v:=.agg #[.string ⟨#[109,111,118,101]⟩,.string ⟨#[68,83]⟩]) (by simp[results,Tryz.results112,go_sem]) rfl ⟨rfl,by apply_rules [Below.setCell,Below.alloc,Below.refl]<;>simp⟩
 by_cases h3:op=3
 ·subst h3;go_enter Tryz.func112,Tryz.ntmps112;go_wp2;exact bodyPost_ret (v:=.agg #[.string ⟨#[97,100,100,107]⟩,.string ⟨#[68,83,75]⟩]) (by simp[results,Tryz.results112,go_sem]) rfl ⟨rfl,by apply_rules [Below.setCell,Below.alloc,Below.refl]<;>simp⟩
 by_cases h4:op=4
 ·subst h4;go_enter Tryz.func112,Tryz.ntmps112;go_wp2;exact bodyPost_ret (v:=.agg #[.string ⟨#[97,110,100,107]⟩,.string ⟨#[68,83,75]⟩]) (by simp[results,Tryz.results112,go_sem]) rfl ⟨rfl,by apply_rules [Below.setCell,Below.alloc,Below.refl]<;>simp⟩
 by_cases h5:op=5
 ·subst h5;go_enter Tryz.func112,Tryz.ntmps112;go_wp2;exact bodyPost_ret (v:=.agg #[.string ⟨#[115,104,108]⟩,.string ⟨#[68,83,66]⟩]) (by simp[results,Tryz.results112,go_sem]) rfl ⟨rfl,by apply_rules [Below.setCell,Below.alloc,Below.refl]<;>simp⟩
 by_cases h6:op=6
 ·subst h6;go_enter Tryz.func112,Tryz.ntmps112;go_wp2;exact bodyPost_ret (v:=.agg #[.string ⟨#[115,104,114]⟩,.string ⟨#[68,83,66]⟩]) (by simp[results,Tryz.results112,go_sem]) rfl ⟨rfl,by apply_rules [Below.setCell,Below.alloc,Below.refl]<;>simp⟩
 by_cases h7:op=7
 ·subst h7;go_enter Tryz.func112,Tryz.ntmps112;go_wp2;exact bodyPost_ret (v:=.agg #[.string ⟨#[111,114]⟩,.string ⟨#[68,83,84]⟩]) (by simp[results,Tryz.results112,go_sem]) rfl ⟨rfl,by apply_rules [Below.setCell,Below.alloc,Below.refl]<;>simp⟩
 by_cases h8:op=8
 ·subst h8;go_enter Tryz.func112,Tryz.ntmps112;go_wp2;exact bodyPost_ret (v:=.agg #[.string ⟨#[98,101,113]⟩,.string ⟨#[83,84,80]⟩]) (by simp[results,Tryz.results112,go_sem]) rfl ⟨rfl,by apply_rules [Below.setCell,Below.alloc,Below.refl]<;>simp⟩
 by_cases h9:op=9
 ·subst h9;go_enter Tryz.func112,Tryz.ntmps112;go_wp2;exact bodyPost_ret (v:=.agg #[.string ⟨#[98,110,101]⟩,.string ⟨#[83,84,80]⟩]) (by simp[results,Tryz.results112,go_sem]) rfl ⟨rfl,by apply_rules [Below.setCell,Below.alloc,Below.refl]<;>simp⟩
 by_cases h10:op=10
 ·subst h10;go_enter Tryz.func112,Tryz.ntmps112;go_wp2;exact bodyPost_ret (v:=.agg #[.string ⟨#[106,117,109,112]⟩,.string ⟨#[80]⟩]) (by simp[results,Tryz.results112,go_sem]) rfl ⟨rfl,by apply_rules [Below.setCell,Below.alloc,Below.refl]<;>simp⟩
 by_cases h11:op=11
 ·subst h11;go_enter Tryz.func112,Tryz.ntmps112;go_wp2;exact bodyPost_ret (v:=.agg #[.string ⟨#[115,101,108,102]⟩,.string ⟨#[68]⟩]) (by simp[results,Tryz.results112,go_sem]) rfl ⟨rfl,by apply_rules [Below.setCell,Below.alloc,Below.refl]<;>simp⟩
 by_cases h12:op=12
 ·subst h12;go_enter Tryz.func112,Tryz.ntmps112;go_wp2;exact bodyPost_ret (v:=.agg #[.string ⟨#[109,97,114,107]⟩,.string ⟨#[77]⟩]) (by simp[results,Tryz.results112,go_sem]) rfl ⟨rfl,by apply_rules [Below.setCell,Below.alloc,Below.refl]<;>simp⟩
 by_cases h13:op=13
 ·subst h13;go_enter Tryz.func112,Tryz.ntmps112;go_wp2;exact bodyPost_ret (v:=.agg #[.string ⟨#[100,111,110,101]⟩,.string ⟨#[79]⟩]) (by simp[results,Tryz.results112,go_sem]) rfl ⟨rfl,by apply_rules [Below.setCell,Below.alloc,Below.refl]<;>simp⟩
 have g1:(op==1)=false:=Bq h1;have g2:(op==2)=false:=Bq h2;have g3:(op==3)=false:=Bq h3;have g4:(op==4)=false:=Bq h4;have g5:(op==5)=false:=Bq h5;have g6:(op==6)=false:=Bq h6;have g7:(op==7)=false:=Bq h7;have g8:(op==8)=false:=Bq h8;have g9:(op==9)=false:=Bq h9;have g10:(op==10)=false:=Bq h10;have g11:(op==11)=false:=Bq h11;have g12:(op==12)=false:=Bq h12;have g13:(op==13)=false:=Bq h13;have hn:¬(1≤op∧op≤13):=by omega
 clear h1 h2 h3 h4 h5 h6 h7 h8 h9 h10 h11 h12 h13;go_enter Tryz.func112,Tryz.ntmps112;go_wp2_with fail
 refine(OA op _ hn).mono ?_;rintro e w' ⟨rfl,hb⟩;have BK:=Az (show w'.heap[w.heap.size]?=some (.cells #[.string ⟨#[]⟩,.string ⟨#[]⟩] 158 (0,0)) from Bk hb (Bv w _));have z:w.heap.size<w'.heap.size:=Bl BK.out;have c0:w'.cell? ⟨w.heap.size,0,none⟩=some (.string ⟨#[]⟩):=(Bc BK.out 0).trans rfl;have c1:w'.cell? ⟨w.heap.size,1,none⟩=some (.string ⟨#[]⟩):=(Bc BK.out 1).trans rfl;have f0:=Bf BK.out 0;have f1:=Bf BK.out 1;go_wp2;refine bodyPost_ret (results_cell_row rfl _ _ w.heap.size 158 #[.string ⟨(Ak op).toArray⟩,.string ⟨(Br op).toArray⟩] (0,0) _ rfl (Bs (Bs BK.out 0 _) 1 _) Tryz.underlying158 rfl (by kernel_rfl)) rfl ⟨rfl,?_⟩;exact((((Below.refl _ _).alloc (Nl _) _).trans (hb.mono (by simp))).setCell (by simp) _).setCell (by simp) _
end
section
open Go Go.Lib
def Bm:List UInt8→List (List UInt8)
 |[]=>[]
 |c::l=>if c=10 then [10]::Bm l else
  match Bm l with
  |[]=>[[c]]
  |w::ws=>(c::w)::ws
def EN(c:UInt8):Bool:=decide (97≤c.toNat∧c.toNat≤122)
def M1(c:UInt8):Bool:=decide (48≤c.toNat∧c.toNat≤57)
def Cp(l:List UInt8):Bool:=decide (1≤l.length∧l.length≤16)&&EN (l.headD 0)&&l.all (fun c=>EN c||M1 c)
def Ee(i:In):Bool:=decide ((8≤i.op∧i.op≤10)∨(i.op=21∧0≤i.q))
def CF(s:List UInt8):List UInt8:=(AR s).getLastD []
def BR(s:List UInt8):List UInt8:=s.take (s.length-(CF s).length)
def Gt(s:List UInt8):In×List UInt8×Bool :=
 let r:=Ei (BR s++[48])
 if r.2=0∧Ee r.1=true then (r.1,CF s,Cp (CF s)) else
 let r:=Ei s
 (r.1,[],decide (r.2=0)&&!Ee r.1)
structure Src where
 l:List In
 names:List (List UInt8)
 rows:List Int
 labels:List (List UInt8×Nat)
def Src.zero:Src:=⟨[],[],[],[]⟩
def Src.at(x:Src)(s:List UInt8):Option Nat:=(x.labels.find? (fun p=>p.1==s)).map (·.2)
def Cv(x:Src)(s:List UInt8)(n:Int):Src×Int :=
 if s.getLast?≠some 10 then (x,8) else
 let s:=s.dropLast
 if s.getLast?=some 58∧Cp s.dropLast=true then
  (if (x.at s.dropLast).isSome then (x,2) else ({x with labels:=(s.dropLast,x.l.length)::x.labels},0))
 else
  let r:=Gt s
  if r.2.2=false then (x,8)
  else if 64≤x.l.length then (x,9)
  else ({x with l:=x.l++[r.1],names:=x.names++[r.2.1],rows:=x.rows++[n]},0)
def Dd:List (List UInt8)→Int→Src→Src×Int×Int
 |[],n,x=>(x,n,0)
 |s::ls,n,x=>if (Cv x s (n+1)).2=0 then Dd ls (n+1) (Cv x s (n+1)).1 else (x,n+1,(Cv x s (n+1)).2)
def Src.place(x:Src)(s:List UInt8):Option Nat:=(x.at s).filter (·<x.l.length)
structure Pg where
 l:List In
 lock:Int
 unlock:Int
deriving DecidableEq
def Pg.zero:Pg:=⟨[],0,0⟩
def fixF(x:Src):List In→List (List UInt8)→List Int→List In ⊕ Int
 |i::l,s::names,r::rows =>
  if s=[] then (match fixF x l names rows with |.inl k=>.inl (i::k) |.inr e=>.inr e)
  else match x.place s with
   |none=>.inr r
   |some p=>match fixF x l names rows with |.inl k=>.inl ({i with q:=p}::k) |.inr e=>.inr e
 |_,_,_=>.inl []
def B2(t:List UInt8):Pg×Int×Int :=
 let r:=Dd (Bm t) 0 Src.zero
 if r.2.2≠0 then (Pg.zero,r.2.1,r.2.2) else
 match fixF r.1 r.1.l r.1.names r.1.rows with
 |.inr e=>(Pg.zero,e,10)
 |.inl k=>match r.1.place [108,111,99,107],r.1.place [117,110,108,111,99,107]with
  |some a,some b=>(⟨k,a,b⟩,0,0)
  |_,_=>(Pg.zero,0,10)
end
section
open Go.RowKit Go.Maps Go.Proofs.YtnmahobjmpdkdaaGreatDoorW.PrintWords
def Er(L:List (List UInt8×Nat))(s:List UInt8):Option Nat:=(L.find? (fun p=>p.1==s)).map (·.2)
theorem QG(k:List UInt8)(p:Nat)(L:List (List UInt8×Nat))(s:List UInt8):Er ((k,p)::L) s=if k=s then some p else Er L s:=by
 unfold Er;by_cases h:k=s
 ·rw[if_pos h,List.find?_cons_of_pos (by simpa using h)];rfl
 ·rw[if_neg h,List.find?_cons_of_neg (by simpa using h)]
def FT(W:World)(bm:Nat)(L:List (List UInt8×Nat)):Prop :=
 ∃ (n:Nat) (D:DataW Unit),W.ownsMap Tryz.prog 9 (plainElem Tryz.prog 3) bm n D∧IsMap D∧n≤L.length ∧
  ∀ s:List UInt8,has D (.string s)=(Er L s).isSome∧D.atKey (.string s) (.lit (.int .i64 0))=.lit (.int .i64 ((Er L s).getD 0:Nat))
theorem FT.made(w:World):FT (w.alloc (.map #[] 0)) w.heap.size [] :=
 ⟨0,.map [],World.ownsMap_made w _ _ _,isMap_empty,Nl _,fun s=>⟨rfl,rfl⟩⟩
theorem UI(s:List UInt8)(hs:s.length≤1000000):keyOf Tryz.prog 9 (.string ⟨s.toArray⟩)=some (.string s):=by
 have h:(⟨s.toArray⟩:ByteArray).size≤maxLen:=by simp[ByteArray.size,maxLen];omega
 simp[keyOf,mapKey,Tryz.underlying9,h]
section
variable {ops:Array Oper} {rest:List Oper} {o:Oper} {a:Act} {Q:Exit→Act→World→Prop} {W:World}
theorem Lu(hg:o.guard=none)(m x:Operand)(hop:o.op=.lookup 95 m x true)(bm:Nat)(L:List (List UInt8×Nat))(hm:a.eval m=.map (some bm))(h:FT W bm L)
  (s:List UInt8)(hs:s.length≤1000000)(hx:a.eval x=.string ⟨s.toArray⟩)
  (hK:wpList Tryz.prog ops Q rest (a.put o.dst (.tuple #[.int .i64 ((Er L s).getD 0:Nat),.bool (Er L s).isSome])) W):wpList Tryz.prog ops Q (o::rest) a W:=by
 obtain⟨n,D,ho,hi,hn,hL⟩:=h;refine wpList_lookup_own_ok_int W hg m x 95 hop 9 3 .i64 (string_keyed Tryz.underlying9) Tryz.underlying95 Tryz.underlying3 (Tryz.zeroValue3 _) bm n D hm ho _ (.string s) hx (UI s hs) ?_;intro c hat hw;rw[(hL s).2]at hat;have e:c=(((Er L s).getD 0:Nat):Int):=by
  injection hat with h1
  injection h1 with _ h2
  exact h2.symm
 rw[e,(hL s).1];exact hK
end
end
section
open Go.RowKit Go.Proofs.YtnmahobjmpdkdaaGreatDoorW.PrintWords
theorem Iw(l:List UInt8)(w:World)(hl:l.length≤4294967280) :
  Calls Tryz.prog 122 #[.string ⟨l.toArray⟩,.string ⟨#[114]⟩] w fun e w'=>e=.returned (.string ⟨(Gn l).toArray⟩)∧w=w':=by
 cases l with
 |nil =>
  go_enter Tryz.func122,Tryz.ntmps122;go_wp2;go_ret;exact⟨rfl,rfl⟩
 |cons c r =>
  have h1:0≤(r.length:Int):=by omega
  simp at hl;by_cases h:c=114
  ·have ht:(((⟨(c::r).toArray⟩:ByteArray).extract 0 1).toList==[114])=true:=by rw[Ea,toList_mk];simp[h]
   have he:(⟨(c::r).toArray⟩:ByteArray).extract 1 (r.length+1)=⟨(Gn (c::r)).toArray⟩:=by rw[Ea,h];simp[Gn]
   replace he:=Az he;clear h;go_enter Tryz.func122,Tryz.ntmps122;go_wp2;go_ret;exact⟨congrArg (fun s=>Ending.returned (.string s)) he.out,rfl⟩
  ·have ht:(((⟨(c::r).toArray⟩:ByteArray).extract 0 1).toList==[114])=false:=by rw[Ea,toList_mk];simp[h]
   have he:Gn (c::r)=c::r:=by unfold Gn;split<;>simp_all
   rw[he];clear h he;go_enter Tryz.func122,Tryz.ntmps122;go_wp2;go_ret;exact⟨rfl,rfl⟩
theorem BC(l:List UInt8)(w:World)(hl:l.length≤4294967280)(he:Env w) :
  Calls Tryz.prog 113 #[.string ⟨l.toArray⟩] w fun e w'=>e=.returned (.int .i64 (Co l))∧Below w.heap.size w w':=by
 have hlt:=SQ l;have hz:(⟨(Gn l).toArray⟩:ByteArray).size=(Gn l).length:=by simp[ByteArray.size]
 obtain⟨ts,ps,hsy⟩:=he.syn;obtain⟨tr,pr,hrg⟩:=he.rng;replace hsy:=Az hsy;replace hrg:=Az hrg;replace hz:=Az hz;cases hn:Lib.atoiAll (Gn l) with
 |ok v =>
  have e:Co l=v:=by unfold Co;rw[hn]
  rw[e];replace hn:=Az hn;clear e;go_enter Tryz.func113,Tryz.ntmps113;go_wp2_with fail
  refine(Iw _ _ hl).mono ?_;rintro e w' ⟨rfl,rfl⟩;go_wp2_with fail
  refine(Tryz.strconv_Atoi_ok _ (by rw[hz.out];omega) v hn.out _).mono ?_;rintro e w1 ⟨rfl,hw⟩;have hb:Below w.heap.size w w1:=by
   rcases hw with rfl |⟨t,rfl⟩
   ·exact Below.refl _ _
   ·exact FH (Below.refl _ _) (Nl _) _ _
  clear hw;go_wp2;go_ret;exact⟨rfl,hb⟩
 |range =>
  have e:Co l=Lib.atoiSat (Gn l):=by unfold Co;rw[hn]
  rw[e];replace hn:=Az hn;clear e;go_enter Tryz.func113,Tryz.ntmps113;go_wp2_with fail
  refine(Iw _ _ hl).mono ?_;rintro e w' ⟨rfl,rfl⟩;go_wp2_with fail
  refine(Tryz.strconv_Atoi_range_var _ (by rw[hz.out];omega) hn.out tr pr _ hrg.out).mono ?_;rintro e w1 ⟨N,rfl,hN,hB,hb⟩;clear hB;go_wp2;go_ret;exact⟨rfl,hb⟩
 |_ =>
  have e:Co l=0:=by unfold Co;rw[hn]
  rw[e];replace hn:=Az hn;clear e;go_enter Tryz.func113,Tryz.ntmps113;go_wp2_with fail
  refine(Iw _ _ hl).mono ?_;rintro e w' ⟨rfl,rfl⟩;go_wp2_with fail
  refine(Tryz.strconv_Atoi_syntax_var _ (by rw[hz.out];omega) (fun v h=>by rw[hn.out]at h;cases h) (fun h=>by rw[hn.out]at h;cases h) ts ps _ hsy.out).mono ?_;rintro e w1 ⟨N,rfl,hN,hB,hb⟩;clear hB;go_wp2;go_ret;exact⟨rfl,hb⟩
theorem At(n:Int)(h:0≤n∧n≤7)(w:World) :
  Calls Tryz.prog 81 #[.int .i64 n] w fun e w'=>e=.returned (.bool true)∧w=w':=by
 obtain⟨h1,h2⟩:=h;go_enter Tryz.func81,Tryz.ntmps81;go_wp2;go_ret;exact⟨by simp;try omega,rfl⟩
theorem LG(n:Int)(h:¬(0≤n∧n≤7))(w:World) :
  Calls Tryz.prog 81 #[.int .i64 n] w fun e w'=>e=.returned (.bool false)∧w=w':=by
 by_cases h1:0≤n
 ·have h2:¬n≤7:=fun x=>h ⟨h1,x⟩
  go_enter Tryz.func81,Tryz.ntmps81;go_wp2;go_ret;exact⟨by simp;try omega,rfl⟩
 ·go_enter Tryz.func81,Tryz.ntmps81;go_wp2;go_ret;exact⟨by simp;try omega,rfl⟩
def FM:Array Value:=#[.string ⟨#[]⟩,.string ⟨#[99,111,110,115,116]⟩,.string ⟨#[109,111,118,101]⟩,.string ⟨#[97,100,100,107]⟩,.string ⟨#[97,110,100,107]⟩,.string ⟨#[115,104,108]⟩,.string ⟨#[115,104,114]⟩,.string ⟨#[111,114]⟩,.string ⟨#[98,101,113]⟩,.string ⟨#[98,110,101]⟩,.string ⟨#[106,117,109,112]⟩,.string ⟨#[115,101,108,102]⟩,.string ⟨#[109,97,114,107]⟩,.string ⟨#[100,111,110,101]⟩,.string ⟨#[]⟩,.string ⟨#[]⟩,.string ⟨#[108,111,97,100]⟩,.string ⟨#[115,116,111,114,101]⟩,.string ⟨#[115,119,97,112]⟩,.string ⟨#[99,97,115]⟩,.string ⟨#[102,97,100,100]⟩,.string ⟨#[97,119,97,105,116]⟩,.string ⟨#[116,97,107,101]⟩,.string ⟨#[102,114,101,101]⟩]
theorem Ro(n:Nat)(h1:1≤n)(h2:n≤23):FM[n]?=some (.string ⟨(Ak (n:Int)).toArray⟩):=by
 have:n=1∨n=2∨n=3∨n=4∨n=5∨n=6∨n=7∨n=8∨n=9∨n=10∨n=11∨n=12∨n=13∨n=14∨n=15∨n=16∨n=17∨n=18∨n=19∨n=20∨n=21∨n=22∨n=23:=by omega
 rcases this with rfl |rfl |rfl |rfl |rfl |rfl |rfl |rfl |rfl |rfl |rfl |rfl |rfl |rfl |rfl |rfl |rfl |rfl |rfl |rfl |rfl |rfl |rfl<;>rfl
theorem AA(op:Int)(w:World) :
  Calls Tryz.prog 80 #[.int .i64 op] w fun e w'=>e=.returned (.string ⟨(Ak op).toArray⟩)∧Below w.heap.size w w':=by
 by_cases h:op<1∨23<op
 ·have e:Ak op=[]:=by unfold Ak;repeat (first |rw[if_neg (by omega)] |rfl)
  rw[e];clear e;rcases h with h |h
  ·go_enter Tryz.func80,Tryz.ntmps80;go_wp2_with (first
    |(refine wpList_buildTo rfl 148 _ rfl (some 4) rfl FM ?b1 ?_;(case b1=>as_aux_lemma=>kernel_rfl))
    |(refine wpList_store_rowTo rfl 148 (.tmp 3) (.tmp 4) rfl rfl w.heap.size FM ?hx ?hy 148 #[.string ⟨#[]⟩,.string ⟨#[]⟩,.string ⟨#[]⟩,.string ⟨#[]⟩,.string ⟨#[]⟩,.string ⟨#[]⟩,.string ⟨#[]⟩,.string ⟨#[]⟩,.string ⟨#[]⟩,.string ⟨#[]⟩,.string ⟨#[]⟩,.string ⟨#[]⟩,.string ⟨#[]⟩,.string ⟨#[]⟩,.string ⟨#[]⟩,.string ⟨#[]⟩,.string ⟨#[]⟩,.string ⟨#[]⟩,.string ⟨#[]⟩,.string ⟨#[]⟩,.string ⟨#[]⟩,.string ⟨#[]⟩,.string ⟨#[]⟩,.string ⟨#[]⟩] ?hg ?b3 ?b4 ?b5 ?_;(case hx=>rfl);(case hy=>rfl);(case hg=>exact Bv _ _);(case b3=>as_aux_lemma=>kernel_rfl);(case b4=>rfl);(case b5=>as_aux_lemma=>kernel_rfl)))
   go_ret;exact⟨rfl,⟨rfl,rfl,rfl,by simp[World.setRow],fun k hk=>(setRow_other _ _ _ _ (by omega)).trans (Below.heap_alloc _ _ _ hk)⟩⟩
  ·go_enter Tryz.func80,Tryz.ntmps80;go_wp2_with (first
    |(refine wpList_buildTo rfl 148 _ rfl (some 4) rfl FM ?b1 ?_;(case b1=>as_aux_lemma=>kernel_rfl))
    |(refine wpList_store_rowTo rfl 148 (.tmp 3) (.tmp 4) rfl rfl w.heap.size FM ?hx ?hy 148 #[.string ⟨#[]⟩,.string ⟨#[]⟩,.string ⟨#[]⟩,.string ⟨#[]⟩,.string ⟨#[]⟩,.string ⟨#[]⟩,.string ⟨#[]⟩,.string ⟨#[]⟩,.string ⟨#[]⟩,.string ⟨#[]⟩,.string ⟨#[]⟩,.string ⟨#[]⟩,.string ⟨#[]⟩,.string ⟨#[]⟩,.string ⟨#[]⟩,.string ⟨#[]⟩,.string ⟨#[]⟩,.string ⟨#[]⟩,.string ⟨#[]⟩,.string ⟨#[]⟩,.string ⟨#[]⟩,.string ⟨#[]⟩,.string ⟨#[]⟩,.string ⟨#[]⟩] ?hg ?b3 ?b4 ?b5 ?_;(case hx=>rfl);(case hy=>rfl);(case hg=>exact Bv _ _);(case b3=>as_aux_lemma=>kernel_rfl);(case b4=>rfl);(case b5=>as_aux_lemma=>kernel_rfl)))
   go_ret;exact⟨rfl,⟨rfl,rfl,rfl,by simp[World.setRow],fun k hk=>(setRow_other _ _ _ _ (by omega)).trans (Below.heap_alloc _ _ _ hk)⟩⟩
 ·obtain⟨n,rfl⟩:=Int.eq_ofNat_of_zero_le (show 0≤op by omega);have h1:1≤n:=by omega
  have h2:n≤23:=by omega
  have hc:((w.alloc (.cells #[.string ⟨#[]⟩,.string ⟨#[]⟩,.string ⟨#[]⟩,.string ⟨#[]⟩,.string ⟨#[]⟩,.string ⟨#[]⟩,.string ⟨#[]⟩,.string ⟨#[]⟩,.string ⟨#[]⟩,.string ⟨#[]⟩,.string ⟨#[]⟩,.string ⟨#[]⟩,.string ⟨#[]⟩,.string ⟨#[]⟩,.string ⟨#[]⟩,.string ⟨#[]⟩,.string ⟨#[]⟩,.string ⟨#[]⟩,.string ⟨#[]⟩,.string ⟨#[]⟩,.string ⟨#[]⟩,.string ⟨#[]⟩,.string ⟨#[]⟩,.string ⟨#[]⟩] 148)).setRow w.heap.size FM).cell? ⟨w.heap.size,n,none⟩=some (.string ⟨(Ak (n:Int)).toArray⟩):=(cell_setRow_same _ _ _ _ _ _ _ (Bv _ _)).trans (Ro n h1 h2);clear h;go_enter Tryz.func80,Tryz.ntmps80;go_wp2_with (first
   |(refine wpList_buildTo rfl 148 _ rfl (some 4) rfl FM ?b1 ?_;(case b1=>as_aux_lemma=>kernel_rfl))
   |(refine wpList_store_rowTo rfl 148 (.tmp 3) (.tmp 4) rfl rfl w.heap.size FM ?hx ?hy 148 #[.string ⟨#[]⟩,.string ⟨#[]⟩,.string ⟨#[]⟩,.string ⟨#[]⟩,.string ⟨#[]⟩,.string ⟨#[]⟩,.string ⟨#[]⟩,.string ⟨#[]⟩,.string ⟨#[]⟩,.string ⟨#[]⟩,.string ⟨#[]⟩,.string ⟨#[]⟩,.string ⟨#[]⟩,.string ⟨#[]⟩,.string ⟨#[]⟩,.string ⟨#[]⟩,.string ⟨#[]⟩,.string ⟨#[]⟩,.string ⟨#[]⟩,.string ⟨#[]⟩,.string ⟨#[]⟩,.string ⟨#[]⟩,.string ⟨#[]⟩,.string ⟨#[]⟩] ?hg ?b3 ?b4 ?b5 ?_;(case hx=>rfl);(case hy=>rfl);(case hg=>exact Bv _ _);(case b3=>as_aux_lemma=>kernel_rfl);(case b4=>rfl);(case b5=>as_aux_lemma=>kernel_rfl)))
  go_ret;exact⟨rfl,⟨rfl,rfl,rfl,by simp[World.setRow],fun k hk=>(setRow_other _ _ _ _ (by omega)).trans (Below.heap_alloc _ _ _ hk)⟩⟩
end
end Go.Proofs.YtnmahobjmpdkdaaGreatDoor

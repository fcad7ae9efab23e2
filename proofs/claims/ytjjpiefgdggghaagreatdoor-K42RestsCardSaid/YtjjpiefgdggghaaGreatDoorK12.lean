/- Parts: AsmPlace, LateKit, WEqStruct, RefName, Fair, FairS. -/
import Derived.Test.YtjjpiefgdggghaaGreatDoorK05
import Derived.Test.YtjjpiefgdggghaaGreatDoorK10
import Derived.Deep.RegionHeld3
import Derived.Test.YtjjpiefgdggghaaGreatDoorK06
import Derived.Test.YtjjpiefgdggghaaGreatDoorK01
import Derived.Laws.StructEq
import Derived.Test.YtjjpiefgdggghaaGreatDoorK02
import Derived.Great.BuildSlice
import Derived.Great.Walk
set_option linter.unusedVariables false
set_option linter.unusedSimpArgs false
set_option maxRecDepth 100000
set_option maxHeartbeats 40000000
namespace Go.Proofs.YtjjpiefgdggghaaGreatDoor
section
open Go.RowKit Go.Maps Go.Proofs.YtjjpiefgdggghaaGreatDoorW.PrintWords
theorem An{α:Type}{l:List α}{i:Nat}{o:α}(h:l[i]?=some o):l.toArray[i]?=some o:=by simpa using h
theorem GV(gx bm n c:Nat)(A:Option Addr)(v1 v2:Value)(L:List (List UInt8×Nat))(s:List UInt8)(hs:s.length≤1000000)(w:World)
  (hx:w.heap[gx]?=some (.cells #[.slice A n c,v1,v2,.map (some bm)] 121 (0,0)))(hL:FT w bm L) :
  Calls Tryz.prog 68 #[.pointer (some ⟨gx,0,none⟩),.string ⟨s.toArray⟩] w fun e w' =>
   e=.returned (.tuple #[.int .i64 ((Er L s).getD 0:Nat),.bool ((Er L s).isSome&&decide (((Er L s).getD 0:Nat)<n))])∧Below w.heap.size w w':=by
 have c0:w.cell? ⟨gx,0,none⟩=some (.slice A n c):=(Bc hx 0).trans rfl;have c3:w.cell? ⟨gx,3,none⟩=some (.map (some bm)):=(Bc hx 3).trans rfl;have hS:w.drew.cell? ⟨gx,0,none⟩=some (.slice A n c):=c0;replace hL:=Az hL;obtain⟨p,hp⟩:∃ p,(Er L s).getD 0=p:=⟨_,rfl⟩
 obtain⟨b,hb⟩:∃ b,(Er L s).isSome=b:=⟨_,rfl⟩
 rw[hp,hb];go_enter Tryz.func68,Tryz.ntmps68;go_wp2_with (refine Lu rfl (.tmp 12) (.tmp 13) rfl bm L rfl hL.out s hs rfl ?_)
 clear hp hb hL hx;cases b with
 |true =>
  by_cases hlt:p<n
  ·have h1:decide ((p:Int)<(n:Int))=true:=decide_eq_true (by omega);go_wp2_with fail
   refine wp_region_held_drew (S:=(fun W=>W.cell? ⟨gx,0,none⟩=some (.slice A n c))) (by kernel_rfl) hS (fun hHeld0=>?_);refine wpAnyH_take (i:=0) (oi:=?oia0) (v:=?va0) ?hia0 ?hsa0 ?hfa0 ?hra0 ?hQa0 ?hya0 ?hSa0 ?_;case hia0=>refine An ?_;rfl
   case hsa0=>kernel_rfl
   case hfa0=>kernel_rfl
   case hra0=>kernel_rfl
   case hQa0=>exact fun _ _ _ h=>h
   case hya0=>(refine Or.inl ⟨by rfl,?_⟩;intro w hSw;go_simp;try with_reducible rfl)
   case hSa0=>assumption
   try simp only[Act.put,Sa,Sb,Sc]
   refine wpAnyH_take (i:=1) (oi:=?oia1) (v:=?va1) ?hia1 ?hsa1 ?hfa1 ?hra1 ?hQa1 ?hya1 ?hSa1 ?_;case hia1=>refine An ?_;rfl
   case hsa1=>kernel_rfl
   case hfa1=>kernel_rfl
   case hra1=>kernel_rfl
   case hQa1=>exact fun _ _ _ h=>h
   case hya1=>(refine Or.inl ⟨by rfl,?_⟩;intro w hSw;go_simp;try with_reducible rfl)
   case hSa1=>assumption
   try simp only[Act.put,Sa,Sb,Sc]
   refine wpAnyH_take (i:=2) (oi:=?oia2) (v:=?va2) ?hia2 ?hsa2 ?hfa2 ?hra2 ?hQa2 ?hya2 ?hSa2 ?_;case hia2=>refine An ?_;rfl
   case hsa2=>kernel_rfl
   case hfa2=>kernel_rfl
   case hra2=>kernel_rfl
   case hQa2=>exact fun _ _ _ h=>h
   case hya2=>(refine Or.inl ⟨by rfl,?_⟩;intro w hSw;go_simp;try with_reducible rfl)
   case hSa2=>assumption
   try simp only[Act.put,Sa,Sb,Sc]
   refine wpAnyH_take (i:=3) (oi:=?oia3) (v:=?va3) ?hia3 ?hsa3 ?hfa3 ?hra3 ?hQa3 ?hya3 ?hSa3 ?_;case hia3=>refine An ?_;rfl
   case hsa3=>kernel_rfl
   case hfa3=>kernel_rfl
   case hra3=>kernel_rfl
   case hQa3=>exact fun _ _ _ h=>h
   case hya3=>(refine Or.inl ⟨by rfl,?_⟩;intro w hSw;go_simp;try with_reducible rfl)
   case hSa3=>assumption
   try simp only[Act.put,Sa,Sb,Sc]
   refine wpAnyH_take (i:=4) (oi:=?oia4) (v:=?va4) ?hia4 ?hsa4 ?hfa4 ?hra4 ?hQa4 ?hya4 ?hSa4 ?_;case hia4=>refine An ?_;rfl
   case hsa4=>kernel_rfl
   case hfa4=>kernel_rfl
   case hra4=>kernel_rfl
   case hQa4=>exact fun _ _ _ h=>h
   case hya4=>(refine Or.inl ⟨by rfl,?_⟩;intro w hSw;go_simp;try with_reducible rfl)
   case hSa4=>assumption
   try simp only[Act.put,Sa,Sb,Sc]
   refine wpAnyH_take (i:=5) (oi:=?oia5) (v:=?va5) ?hia5 ?hsa5 ?hfa5 ?hra5 ?hQa5 ?hya5 ?hSa5 ?_;case hia5=>refine An ?_;rfl
   case hsa5=>kernel_rfl
   case hfa5=>kernel_rfl
   case hra5=>kernel_rfl
   case hQa5=>exact fun _ _ _ h=>h
   case hya5=>(refine Or.inl ⟨by rfl,?_⟩;intro w hSw;go_simp;try with_reducible rfl)
   case hSa5=>assumption
   try simp only[Act.put,Sa,Sb,Sc]
   refine wpAnyH_take (i:=6) (oi:=?oia6) (v:=?va6) ?hia6 ?hsa6 ?hfa6 ?hra6 ?hQa6 ?hya6 ?hSa6 ?_;case hia6=>refine An ?_;rfl
   case hsa6=>kernel_rfl
   case hfa6=>kernel_rfl
   case hra6=>kernel_rfl
   case hQa6=>exact fun _ _ _ h=>h
   case hya6=>(refine Or.inl ⟨by rfl,?_⟩;intro w hSw;go_simp;try with_reducible rfl)
   case hSa6=>assumption
   try simp only[Act.put,Sa,Sb,Sc]
   refine wpAnyH_take (i:=7) (oi:=?oia7) (v:=?va7) ?hia7 ?hsa7 ?hfa7 ?hra7 ?hQa7 ?hya7 ?hSa7 ?_;case hia7=>refine An ?_;rfl
   case hsa7=>kernel_rfl
   case hfa7=>kernel_rfl
   case hra7=>kernel_rfl
   case hQa7=>exact fun _ _ _ h=>h
   case hya7=>(refine Or.inl ⟨by rfl,?_⟩;intro w hSw;go_simp;try with_reducible rfl)
   case hSa7=>assumption
   try simp only[Act.put,Sa,Sb,Sc]
   refine wpAnyH_take (i:=8) (oi:=?oia8) (v:=?va8) ?hia8 ?hsa8 ?hfa8 ?hra8 ?hQa8 ?hya8 ?hSa8 ?_;case hia8=>refine An ?_;rfl
   case hsa8=>kernel_rfl
   case hfa8=>kernel_rfl
   case hra8=>kernel_rfl
   case hQa8=>exact fun _ _ _ h=>h
   case hya8=>(refine Or.inl ⟨by rfl,?_⟩;intro w hSw;go_simp;try with_reducible rfl)
   case hSa8=>assumption
   try simp only[Act.put,Sa,Sb,Sc]
   refine wpAnyH_take (i:=9) (oi:=?oia9) (v:=?va9) ?hia9 ?hsa9 ?hfa9 ?hra9 ?hQa9 ?hya9 ?hSa9 ?_;case hia9=>refine An ?_;rfl
   case hsa9=>kernel_rfl
   case hfa9=>kernel_rfl
   case hra9=>kernel_rfl
   case hQa9=>exact fun _ _ _ h=>h
   case hya9=>(refine Or.inl ⟨by rfl,?_⟩;intro w hSw;go_simp;try with_reducible rfl)
   case hSa9=>assumption
   try simp only[Act.put,Sa,Sb,Sc]
   refine wpAnyH_take (i:=10) (oi:=?oia10) (v:=?va10) ?hia10 ?hsa10 ?hfa10 ?hra10 ?hQa10 ?hya10 ?hSa10 ?_;case hia10=>refine An ?_;rfl
   case hsa10=>kernel_rfl
   case hfa10=>kernel_rfl
   case hra10=>kernel_rfl
   case hQa10=>exact fun _ _ _ h=>h
   case hya10=>(refine Or.inl ⟨by rfl,?_⟩;intro w hSw;go_simp;try with_reducible rfl)
   case hSa10=>assumption
   try simp only[Act.put,Sa,Sb,Sc]
   refine wpAnyH_take (i:=11) (oi:=?oia11) (v:=?va11) ?hia11 ?hsa11 ?hfa11 ?hra11 ?hQa11 ?hya11 ?hSa11 ?_;case hia11=>refine An ?_;rfl
   case hsa11=>kernel_rfl
   case hfa11=>kernel_rfl
   case hra11=>kernel_rfl
   case hQa11=>exact fun _ _ _ h=>h
   case hya11=>(refine Or.inl ⟨by rfl,?_⟩;intro w hSw;go_simp;try with_reducible rfl)
   case hSa11=>assumption
   try simp only[Act.put,Sa,Sb,Sc]
   refine wpAnyH_take (i:=12) (oi:=?oia12) (v:=?va12) ?hia12 ?hsa12 ?hfa12 ?hra12 ?hQa12 ?hya12 ?hSa12 ?_;case hia12=>refine An ?_;rfl
   case hsa12=>kernel_rfl
   case hfa12=>kernel_rfl
   case hra12=>kernel_rfl
   case hQa12=>exact fun _ _ _ h=>h
   case hya12=>(refine Or.inl ⟨by rfl,?_⟩;intro w hSw;go_simp;try with_reducible rfl)
   case hSa12=>assumption
   try simp only[Act.put,Sa,Sb,Sc]
   refine wpAnyH_done (by kernel_rfl) ?_ _;go_wp2;go_ret2
   exact⟨by simp[hlt],Bd (Below.refl _ _)⟩
  ·have h1:decide ((p:Int)<(n:Int))=false:=decide_eq_false (by omega);go_wp2_with fail
   refine wp_region_held_drew (S:=(fun W=>W.cell? ⟨gx,0,none⟩=some (.slice A n c))) (by kernel_rfl) hS (fun hHeld0=>?_);refine wpAnyH_take (i:=0) (oi:=?oib0) (v:=?vb0) ?hib0 ?hsb0 ?hfb0 ?hrb0 ?hQb0 ?hyb0 ?hSb0 ?_;case hib0=>refine An ?_;rfl
   case hsb0=>kernel_rfl
   case hfb0=>kernel_rfl
   case hrb0=>kernel_rfl
   case hQb0=>exact fun _ _ _ h=>h
   case hyb0=>(refine Or.inl ⟨by rfl,?_⟩;intro w hSw;go_simp;try with_reducible rfl)
   case hSb0=>assumption
   try simp only[Act.put,Sa,Sb,Sc]
   refine wpAnyH_take (i:=1) (oi:=?oib1) (v:=?vb1) ?hib1 ?hsb1 ?hfb1 ?hrb1 ?hQb1 ?hyb1 ?hSb1 ?_;case hib1=>refine An ?_;rfl
   case hsb1=>kernel_rfl
   case hfb1=>kernel_rfl
   case hrb1=>kernel_rfl
   case hQb1=>exact fun _ _ _ h=>h
   case hyb1=>(refine Or.inl ⟨by rfl,?_⟩;intro w hSw;go_simp;try with_reducible rfl)
   case hSb1=>assumption
   try simp only[Act.put,Sa,Sb,Sc]
   refine wpAnyH_take (i:=2) (oi:=?oib2) (v:=?vb2) ?hib2 ?hsb2 ?hfb2 ?hrb2 ?hQb2 ?hyb2 ?hSb2 ?_;case hib2=>refine An ?_;rfl
   case hsb2=>kernel_rfl
   case hfb2=>kernel_rfl
   case hrb2=>kernel_rfl
   case hQb2=>exact fun _ _ _ h=>h
   case hyb2=>(refine Or.inl ⟨by rfl,?_⟩;intro w hSw;go_simp;try with_reducible rfl)
   case hSb2=>assumption
   try simp only[Act.put,Sa,Sb,Sc]
   refine wpAnyH_take (i:=3) (oi:=?oib3) (v:=?vb3) ?hib3 ?hsb3 ?hfb3 ?hrb3 ?hQb3 ?hyb3 ?hSb3 ?_;case hib3=>refine An ?_;rfl
   case hsb3=>kernel_rfl
   case hfb3=>kernel_rfl
   case hrb3=>kernel_rfl
   case hQb3=>exact fun _ _ _ h=>h
   case hyb3=>(refine Or.inl ⟨by rfl,?_⟩;intro w hSw;go_simp;try with_reducible rfl)
   case hSb3=>assumption
   try simp only[Act.put,Sa,Sb,Sc]
   refine wpAnyH_take (i:=4) (oi:=?oib4) (v:=?vb4) ?hib4 ?hsb4 ?hfb4 ?hrb4 ?hQb4 ?hyb4 ?hSb4 ?_;case hib4=>refine An ?_;rfl
   case hsb4=>kernel_rfl
   case hfb4=>kernel_rfl
   case hrb4=>kernel_rfl
   case hQb4=>exact fun _ _ _ h=>h
   case hyb4=>(refine Or.inl ⟨by rfl,?_⟩;intro w hSw;go_simp;try with_reducible rfl)
   case hSb4=>assumption
   try simp only[Act.put,Sa,Sb,Sc]
   refine wpAnyH_take (i:=5) (oi:=?oib5) (v:=?vb5) ?hib5 ?hsb5 ?hfb5 ?hrb5 ?hQb5 ?hyb5 ?hSb5 ?_;case hib5=>refine An ?_;rfl
   case hsb5=>kernel_rfl
   case hfb5=>kernel_rfl
   case hrb5=>kernel_rfl
   case hQb5=>exact fun _ _ _ h=>h
   case hyb5=>(refine Or.inl ⟨by rfl,?_⟩;intro w hSw;go_simp;try with_reducible rfl)
   case hSb5=>assumption
   try simp only[Act.put,Sa,Sb,Sc]
   refine wpAnyH_take (i:=6) (oi:=?oib6) (v:=?vb6) ?hib6 ?hsb6 ?hfb6 ?hrb6 ?hQb6 ?hyb6 ?hSb6 ?_;case hib6=>refine An ?_;rfl
   case hsb6=>kernel_rfl
   case hfb6=>kernel_rfl
   case hrb6=>kernel_rfl
   case hQb6=>exact fun _ _ _ h=>h
   case hyb6=>(refine Or.inl ⟨by rfl,?_⟩;intro w hSw;go_simp;try with_reducible rfl)
   case hSb6=>assumption
   try simp only[Act.put,Sa,Sb,Sc]
   refine wpAnyH_take (i:=7) (oi:=?oib7) (v:=?vb7) ?hib7 ?hsb7 ?hfb7 ?hrb7 ?hQb7 ?hyb7 ?hSb7 ?_;case hib7=>refine An ?_;rfl
   case hsb7=>kernel_rfl
   case hfb7=>kernel_rfl
   case hrb7=>kernel_rfl
   case hQb7=>exact fun _ _ _ h=>h
   case hyb7=>(refine Or.inl ⟨by rfl,?_⟩;intro w hSw;go_simp;try with_reducible rfl)
   case hSb7=>assumption
   try simp only[Act.put,Sa,Sb,Sc]
   refine wpAnyH_take (i:=8) (oi:=?oib8) (v:=?vb8) ?hib8 ?hsb8 ?hfb8 ?hrb8 ?hQb8 ?hyb8 ?hSb8 ?_;case hib8=>refine An ?_;rfl
   case hsb8=>kernel_rfl
   case hfb8=>kernel_rfl
   case hrb8=>kernel_rfl
   case hQb8=>exact fun _ _ _ h=>h
   case hyb8=>(refine Or.inl ⟨by rfl,?_⟩;intro w hSw;go_simp;try with_reducible rfl)
   case hSb8=>assumption
   try simp only[Act.put,Sa,Sb,Sc]
   refine wpAnyH_take (i:=9) (oi:=?oib9) (v:=?vb9) ?hib9 ?hsb9 ?hfb9 ?hrb9 ?hQb9 ?hyb9 ?hSb9 ?_;case hib9=>refine An ?_;rfl
   case hsb9=>kernel_rfl
   case hfb9=>kernel_rfl
   case hrb9=>kernel_rfl
   case hQb9=>exact fun _ _ _ h=>h
   case hyb9=>(refine Or.inl ⟨by rfl,?_⟩;intro w hSw;go_simp;try with_reducible rfl)
   case hSb9=>assumption
   try simp only[Act.put,Sa,Sb,Sc]
   refine wpAnyH_take (i:=10) (oi:=?oib10) (v:=?vb10) ?hib10 ?hsb10 ?hfb10 ?hrb10 ?hQb10 ?hyb10 ?hSb10 ?_;case hib10=>refine An ?_;rfl
   case hsb10=>kernel_rfl
   case hfb10=>kernel_rfl
   case hrb10=>kernel_rfl
   case hQb10=>exact fun _ _ _ h=>h
   case hyb10=>(refine Or.inl ⟨by rfl,?_⟩;intro w hSw;go_simp;try with_reducible rfl)
   case hSb10=>assumption
   try simp only[Act.put,Sa,Sb,Sc]
   refine wpAnyH_take (i:=11) (oi:=?oib11) (v:=?vb11) ?hib11 ?hsb11 ?hfb11 ?hrb11 ?hQb11 ?hyb11 ?hSb11 ?_;case hib11=>refine An ?_;rfl
   case hsb11=>kernel_rfl
   case hfb11=>kernel_rfl
   case hrb11=>kernel_rfl
   case hQb11=>exact fun _ _ _ h=>h
   case hyb11=>(refine Or.inl ⟨by rfl,?_⟩;intro w hSw;go_simp;try with_reducible rfl)
   case hSb11=>assumption
   try simp only[Act.put,Sa,Sb,Sc]
   refine wpAnyH_take (i:=12) (oi:=?oib12) (v:=?vb12) ?hib12 ?hsb12 ?hfb12 ?hrb12 ?hQb12 ?hyb12 ?hSb12 ?_;case hib12=>refine An ?_;rfl
   case hsb12=>kernel_rfl
   case hfb12=>kernel_rfl
   case hrb12=>kernel_rfl
   case hQb12=>exact fun _ _ _ h=>h
   case hyb12=>(refine Or.inl ⟨by rfl,?_⟩;intro w hSw;go_simp;try with_reducible rfl)
   case hSb12=>assumption
   try simp only[Act.put,Sa,Sb,Sc]
   refine wpAnyH_done (by kernel_rfl) ?_ _;go_wp2;go_ret2
   exact⟨by simp[hlt],Bd (Below.refl _ _)⟩
 |false =>
  go_wp2_with fail
  refine wp_region_held_drew (S:=(fun W=>W.cell? ⟨gx,0,none⟩=some (.slice A n c))) (by kernel_rfl) hS (fun hHeld0=>?_);refine wpAnyH_take (i:=0) (oi:=?oic0) (v:=?vc0) ?hic0 ?hsc0 ?hfc0 ?hrc0 ?hQc0 ?hyc0 ?hSc0 ?_;case hic0=>refine An ?_;rfl
  case hsc0=>kernel_rfl
  case hfc0=>kernel_rfl
  case hrc0=>kernel_rfl
  case hQc0=>exact fun _ _ _ h=>h
  case hyc0=>(refine Or.inl ⟨by rfl,?_⟩;intro w hSw;go_simp;try with_reducible rfl)
  case hSc0=>assumption
  try simp only[Act.put,Sa,Sb,Sc]
  refine wpAnyH_take (i:=1) (oi:=?oic1) (v:=?vc1) ?hic1 ?hsc1 ?hfc1 ?hrc1 ?hQc1 ?hyc1 ?hSc1 ?_;case hic1=>refine An ?_;rfl
  case hsc1=>kernel_rfl
  case hfc1=>kernel_rfl
  case hrc1=>kernel_rfl
  case hQc1=>exact fun _ _ _ h=>h
  case hyc1=>(refine Or.inl ⟨by rfl,?_⟩;intro w hSw;go_simp;try with_reducible rfl)
  case hSc1=>assumption
  try simp only[Act.put,Sa,Sb,Sc]
  refine wpAnyH_take (i:=2) (oi:=?oic2) (v:=?vc2) ?hic2 ?hsc2 ?hfc2 ?hrc2 ?hQc2 ?hyc2 ?hSc2 ?_;case hic2=>refine An ?_;rfl
  case hsc2=>kernel_rfl
  case hfc2=>kernel_rfl
  case hrc2=>kernel_rfl
  case hQc2=>exact fun _ _ _ h=>h
  case hyc2=>(refine Or.inl ⟨by rfl,?_⟩;intro w hSw;go_simp;try with_reducible rfl)
  case hSc2=>assumption
  try simp only[Act.put,Sa,Sb,Sc]
  refine wpAnyH_take (i:=3) (oi:=?oic3) (v:=undef) ?hic3 ?hsc3 ?hfc3 ?hrc3 ?hQc3 ?hyc3 ?hSc3 ?_;case hic3=>refine An ?_;rfl
  case hsc3=>kernel_rfl
  case hfc3=>kernel_rfl
  case hrc3=>kernel_rfl
  case hQc3=>exact fun _ _ _ h=>h
  case hyc3=>(refine Or.inr ⟨by rfl,by rfl⟩)
  case hSc3=>assumption
  try simp only[Act.put,Sa,Sb,Sc]
  refine wpAnyH_take (i:=4) (oi:=?oic4) (v:=undef) ?hic4 ?hsc4 ?hfc4 ?hrc4 ?hQc4 ?hyc4 ?hSc4 ?_;case hic4=>refine An ?_;rfl
  case hsc4=>kernel_rfl
  case hfc4=>kernel_rfl
  case hrc4=>kernel_rfl
  case hQc4=>exact fun _ _ _ h=>h
  case hyc4=>(refine Or.inr ⟨by rfl,by rfl⟩)
  case hSc4=>assumption
  try simp only[Act.put,Sa,Sb,Sc]
  refine wpAnyH_take (i:=5) (oi:=?oic5) (v:=undef) ?hic5 ?hsc5 ?hfc5 ?hrc5 ?hQc5 ?hyc5 ?hSc5 ?_;case hic5=>refine An ?_;rfl
  case hsc5=>kernel_rfl
  case hfc5=>kernel_rfl
  case hrc5=>kernel_rfl
  case hQc5=>exact fun _ _ _ h=>h
  case hyc5=>(refine Or.inr ⟨by rfl,by rfl⟩)
  case hSc5=>assumption
  try simp only[Act.put,Sa,Sb,Sc]
  refine wpAnyH_take (i:=6) (oi:=?oic6) (v:=undef) ?hic6 ?hsc6 ?hfc6 ?hrc6 ?hQc6 ?hyc6 ?hSc6 ?_;case hic6=>refine An ?_;rfl
  case hsc6=>kernel_rfl
  case hfc6=>kernel_rfl
  case hrc6=>kernel_rfl
  case hQc6=>exact fun _ _ _ h=>h
  case hyc6=>(refine Or.inr ⟨by rfl,by rfl⟩)
  case hSc6=>assumption
  try simp only[Act.put,Sa,Sb,Sc]
  refine wpAnyH_take (i:=7) (oi:=?oic7) (v:=undef) ?hic7 ?hsc7 ?hfc7 ?hrc7 ?hQc7 ?hyc7 ?hSc7 ?_;case hic7=>refine An ?_;rfl
  case hsc7=>kernel_rfl
  case hfc7=>kernel_rfl
  case hrc7=>kernel_rfl
  case hQc7=>exact fun _ _ _ h=>h
  case hyc7=>(refine Or.inr ⟨by rfl,by rfl⟩)
  case hSc7=>assumption
  try simp only[Act.put,Sa,Sb,Sc]
  refine wpAnyH_take (i:=8) (oi:=?oic8) (v:=undef) ?hic8 ?hsc8 ?hfc8 ?hrc8 ?hQc8 ?hyc8 ?hSc8 ?_;case hic8=>refine An ?_;rfl
  case hsc8=>kernel_rfl
  case hfc8=>kernel_rfl
  case hrc8=>kernel_rfl
  case hQc8=>exact fun _ _ _ h=>h
  case hyc8=>(refine Or.inr ⟨by rfl,by rfl⟩)
  case hSc8=>assumption
  try simp only[Act.put,Sa,Sb,Sc]
  refine wpAnyH_take (i:=9) (oi:=?oic9) (v:=undef) ?hic9 ?hsc9 ?hfc9 ?hrc9 ?hQc9 ?hyc9 ?hSc9 ?_;case hic9=>refine An ?_;rfl
  case hsc9=>kernel_rfl
  case hfc9=>kernel_rfl
  case hrc9=>kernel_rfl
  case hQc9=>exact fun _ _ _ h=>h
  case hyc9=>(refine Or.inr ⟨by rfl,by rfl⟩)
  case hSc9=>assumption
  try simp only[Act.put,Sa,Sb,Sc]
  refine wpAnyH_take (i:=10) (oi:=?oic10) (v:=?vc10) ?hic10 ?hsc10 ?hfc10 ?hrc10 ?hQc10 ?hyc10 ?hSc10 ?_;case hic10=>refine An ?_;rfl
  case hsc10=>kernel_rfl
  case hfc10=>kernel_rfl
  case hrc10=>kernel_rfl
  case hQc10=>exact fun _ _ _ h=>h
  case hyc10=>(refine Or.inl ⟨by rfl,?_⟩;intro w hSw;go_simp;try with_reducible rfl)
  case hSc10=>assumption
  try simp only[Act.put,Sa,Sb,Sc]
  refine wpAnyH_take (i:=11) (oi:=?oic11) (v:=?vc11) ?hic11 ?hsc11 ?hfc11 ?hrc11 ?hQc11 ?hyc11 ?hSc11 ?_;case hic11=>refine An ?_;rfl
  case hsc11=>kernel_rfl
  case hfc11=>kernel_rfl
  case hrc11=>kernel_rfl
  case hQc11=>exact fun _ _ _ h=>h
  case hyc11=>(refine Or.inl ⟨by rfl,?_⟩;intro w hSw;go_simp;try with_reducible rfl)
  case hSc11=>assumption
  try simp only[Act.put,Sa,Sb,Sc]
  refine wpAnyH_take (i:=12) (oi:=?oic12) (v:=?vc12) ?hic12 ?hsc12 ?hfc12 ?hrc12 ?hQc12 ?hyc12 ?hSc12 ?_;case hic12=>refine An ?_;rfl
  case hsc12=>kernel_rfl
  case hfc12=>kernel_rfl
  case hrc12=>kernel_rfl
  case hQc12=>exact fun _ _ _ h=>h
  case hyc12=>(refine Or.inl ⟨by rfl,?_⟩;intro w hSw;go_simp;try with_reducible rfl)
  case hSc12=>assumption
  try simp only[Act.put,Sa,Sb,Sc]
  refine wpAnyH_done (by kernel_rfl) ?_ _;go_wp2;go_ret2
  exact⟨by simp,Bd (Below.refl _ _)⟩
end
section
open Go.RowKit Go.Proofs.YtjjpiefgdggghaaGreatDoorW.PrintWords
section
variable {P:Program} {ops:List Oper} {Q:Exit→Act→World→Prop} {md:Region.Mode} {S:World→Prop} {D:List Nat}
theorem tY(i:Nat){oi:Oper}{v:Value}{fuel:Nat}{listed:Array Bool}{a a':Act}{w:World}(hS:DM D listed=true→S w)(h:Dv P md ops.toArray Q S D fuel (listed.setIfInBounds i true) a' w)
  (hi:ops.toArray[i]?=some oi:=by exact An rfl)(hy:Yields P ops.toArray oi v a:=by(refine .inl ⟨by rfl,?_⟩);intro w;go_simp;try with_reducible rfl)
  (ha:a.put oi.dst v=a':=by first |(simp only[Act.put,Sa,Sb,Sc];exact rfl) |(simp only[Act.put,Sa,Sb,Sc];done) |exact rfl)
  (hs:(Region.noSelect ops.toArray&&Region.free md ops.toArray listed i&&(Region.ready md ops.toArray listed).contains i&&!D.contains i)=true:=by kernel_rfl)
  (hQ:∀ c a w,Q (.panic c) (a.put oi.dst v) w→Q (.panic c) a w:=by exact fun _ _ _ h=>h):Dv P md ops.toArray Q S D (fuel+1) listed a w:=by
 subst ha;exact AM hi hs hQ hy hS h
theorem tL(i:Nat){oi:Oper}{v:Value}{fuel:Nat}{listed:Array Bool}{a a':Act}{w:World}(hS:S w)(h:Dv P md ops.toArray Q S D fuel (listed.setIfInBounds i true) a' w)
  (hi:ops.toArray[i]?=some oi:=by exact An rfl)(hy:YieldsIf P ops.toArray S oi v a:=by(refine .inl ⟨by rfl,?_⟩);intro w hSw;(repeat (rcases hSw with ⟨_,hSw⟩));go_simp;try with_reducible rfl)
  (ha:a.put oi.dst v=a':=by first |(simp only[Act.put,Sa,Sb,Sc];exact rfl) |(simp only[Act.put,Sa,Sb,Sc];done) |exact rfl)
  (hs:(Region.noSelect ops.toArray&&Region.free md ops.toArray listed i&&(Region.ready md ops.toArray listed).contains i&&Je md ops.toArray listed&&D.all (fun d=>d != i&&Dx md ops.toArray i ops.toArray.size d))=true:=by kernel_rfl)
  (hQ:∀ c a w,Q (.panic c) (a.put oi.dst v) w→Q (.panic c) a w:=by exact fun _ _ _ h=>h):Dv P md ops.toArray Q S D (fuel+1) listed a w:=by
 subst ha;exact Db hi hs hQ hy hS h
end
end
end Go.Proofs.YtjjpiefgdggghaaGreatDoor
namespace Go.Proofs.YtjjpiefgdggghaaGreatDoorW.PrintWords
section
open Go.RowKit
section
variable {P:Program} {d:Nat} {xs ys:Array Value} {f:Field} {fs:List Field} {a b:Value} {r s:Bool} {w:World}
theorem Vk(hn:(f.name == "_")=false)(ha:(part f.type xs f.offset).run P w=.ok a w)(hb:(part f.type ys f.offset).run P w=.ok b w)(he:(Op.equalIn d f.type a b).run P w=.ok r w):(Op.eqFields d xs ys [f]).run P w=.ok r w:=by
 have hn':f.name ≠ "_" :=by simpa using hn
 simp only[Op.eqFields,if_pos hn',Sem.run_bind,ha,hb,he,Result.andThen_ok];cases r<;>simp
theorem Fu(hn:(f.name == "_")=false)(ha:(part f.type xs f.offset).run P w=.ok a w)(hb:(part f.type ys f.offset).run P w=.ok b w)(he:(Op.equalIn d f.type a b).run P w=.ok r w)(hr:(Op.eqFields d xs ys fs).run P w=.ok s w):(Op.eqFields d xs ys (f::fs)).run P w=.ok (r&&s) w:=by
 have hn':f.name ≠ "_" :=by simpa using hn
 rw[Op.eqFields];simp only[if_pos hn',Sem.run_bind,ha,hb,he,Result.andThen_ok];cases r
 ·simp
 ·simpa using hr
theorem YI{t:TypeId}{fs:Array Field}(hu:P.underlying t=some (.struct fs))(hp:P.stoodInHeld t=false)(h:(Op.eqFields d xs ys fs.toList).run P w=.ok r w):(Op.equalIn (d+1) t (.agg xs) (.agg ys)).run P w=.ok r w:=by
 have hf:P.fieldsOf t=fs:=by simp[Program.fieldsOf,hu]
 rw[run_equalIn_struct (P:=P) w d t xs ys (by rw[hf];exact hu) hp,hf];exact h
end
end
end Go.Proofs.YtjjpiefgdggghaaGreatDoorW.PrintWords
namespace Go.Proofs.YtjjpiefgdggghaaGreatDoor
section
open Go.RowKit Go.Proofs.YtjjpiefgdggghaaGreatDoorW.PrintWords
theorem At(n:Int)(h:0≤n∧n≤7)(w:World) :
  Calls Tryz.prog 100 #[.int .i64 n] w fun e w'=>e=.returned (.bool true)∧w=w':=by
 obtain⟨h1,h2⟩:=h;go_enter Tryz.func100,Tryz.ntmps100;go_wp2;go_ret;exact⟨by simp;try omega,rfl⟩
theorem LG(n:Int)(h:¬(0≤n∧n≤7))(w:World) :
  Calls Tryz.prog 100 #[.int .i64 n] w fun e w'=>e=.returned (.bool false)∧w=w':=by
 by_cases h1:0≤n
 ·have h2:¬n≤7:=fun x=>h ⟨h1,x⟩
  go_enter Tryz.func100,Tryz.ntmps100;go_wp2;go_ret;exact⟨by simp;try omega,rfl⟩
 ·go_enter Tryz.func100,Tryz.ntmps100;go_wp2;go_ret;exact⟨by simp;try omega,rfl⟩
def FM:Array Value:=#[.string ⟨#[]⟩,.string ⟨#[99,111,110,115,116]⟩,.string ⟨#[109,111,118,101]⟩,.string ⟨#[97,100,100,107]⟩,.string ⟨#[97,110,100,107]⟩,.string ⟨#[115,104,108]⟩,.string ⟨#[115,104,114]⟩,.string ⟨#[111,114]⟩,.string ⟨#[98,101,113]⟩,.string ⟨#[98,110,101]⟩,.string ⟨#[106,117,109,112]⟩,.string ⟨#[115,101,108,102]⟩,.string ⟨#[109,97,114,107]⟩,.string ⟨#[100,111,110,101]⟩,.string ⟨#[]⟩,.string ⟨#[]⟩,.string ⟨#[108,111,97,100]⟩,.string ⟨#[115,116,111,114,101]⟩,.string ⟨#[115,119,97,112]⟩,.string ⟨#[99,97,115]⟩,.string ⟨#[102,97,100,100]⟩,.string ⟨#[97,119,97,105,116]⟩,.string ⟨#[116,97,107,101]⟩,.string ⟨#[102,114,101,101]⟩]
theorem Ro(n:Nat)(h1:1≤n)(h2:n≤23):FM[n]?=some (.string ⟨(Ak (n:Int)).toArray⟩):=by
 have:n=1∨n=2∨n=3∨n=4∨n=5∨n=6∨n=7∨n=8∨n=9∨n=10∨n=11∨n=12∨n=13∨n=14∨n=15∨n=16∨n=17∨n=18∨n=19∨n=20∨n=21∨n=22∨n=23:=by omega
 rcases this with rfl |rfl |rfl |rfl |rfl |rfl |rfl |rfl |rfl |rfl |rfl |rfl |rfl |rfl |rfl |rfl |rfl |rfl |rfl |rfl |rfl |rfl |rfl<;>rfl
theorem AA(op:Int)(w:World) :
  Calls Tryz.prog 99 #[.int .i64 op] w fun e w'=>e=.returned (.string ⟨(Ak op).toArray⟩)∧Below w.heap.size w w':=by
 by_cases h:op<1∨23<op
 ·have e:Ak op=[]:=by unfold Ak;repeat (first |rw[if_neg (by omega)] |rfl)
  rw[e];clear e;rcases h with h |h
  ·go_enter Tryz.func99,Tryz.ntmps99;go_wp2_with (first
    |(refine wpList_buildTo rfl 182 _ rfl (some 4) rfl FM ?b1 ?_;(case b1=>as_aux_lemma=>kernel_rfl))
    |(refine wpList_store_rowTo rfl 182 (.tmp 3) (.tmp 4) rfl rfl w.heap.size FM ?hx ?hy 182 #[.string ⟨#[]⟩,.string ⟨#[]⟩,.string ⟨#[]⟩,.string ⟨#[]⟩,.string ⟨#[]⟩,.string ⟨#[]⟩,.string ⟨#[]⟩,.string ⟨#[]⟩,.string ⟨#[]⟩,.string ⟨#[]⟩,.string ⟨#[]⟩,.string ⟨#[]⟩,.string ⟨#[]⟩,.string ⟨#[]⟩,.string ⟨#[]⟩,.string ⟨#[]⟩,.string ⟨#[]⟩,.string ⟨#[]⟩,.string ⟨#[]⟩,.string ⟨#[]⟩,.string ⟨#[]⟩,.string ⟨#[]⟩,.string ⟨#[]⟩,.string ⟨#[]⟩] ?hg ?b3 ?b4 ?b5 ?_;(case hx=>rfl);(case hy=>rfl);(case hg=>exact Bv _ _);(case b3=>as_aux_lemma=>kernel_rfl);(case b4=>rfl);(case b5=>as_aux_lemma=>kernel_rfl)))
   go_ret;exact⟨rfl,⟨rfl,rfl,rfl,by simp[World.setRow],fun k hk=>(setRow_other _ _ _ _ (by omega)).trans (Below.heap_alloc _ _ _ hk)⟩⟩
  ·go_enter Tryz.func99,Tryz.ntmps99;go_wp2_with (first
    |(refine wpList_buildTo rfl 182 _ rfl (some 4) rfl FM ?b1 ?_;(case b1=>as_aux_lemma=>kernel_rfl))
    |(refine wpList_store_rowTo rfl 182 (.tmp 3) (.tmp 4) rfl rfl w.heap.size FM ?hx ?hy 182 #[.string ⟨#[]⟩,.string ⟨#[]⟩,.string ⟨#[]⟩,.string ⟨#[]⟩,.string ⟨#[]⟩,.string ⟨#[]⟩,.string ⟨#[]⟩,.string ⟨#[]⟩,.string ⟨#[]⟩,.string ⟨#[]⟩,.string ⟨#[]⟩,.string ⟨#[]⟩,.string ⟨#[]⟩,.string ⟨#[]⟩,.string ⟨#[]⟩,.string ⟨#[]⟩,.string ⟨#[]⟩,.string ⟨#[]⟩,.string ⟨#[]⟩,.string ⟨#[]⟩,.string ⟨#[]⟩,.string ⟨#[]⟩,.string ⟨#[]⟩,.string ⟨#[]⟩] ?hg ?b3 ?b4 ?b5 ?_;(case hx=>rfl);(case hy=>rfl);(case hg=>exact Bv _ _);(case b3=>as_aux_lemma=>kernel_rfl);(case b4=>rfl);(case b5=>as_aux_lemma=>kernel_rfl)))
   go_ret;exact⟨rfl,⟨rfl,rfl,rfl,by simp[World.setRow],fun k hk=>(setRow_other _ _ _ _ (by omega)).trans (Below.heap_alloc _ _ _ hk)⟩⟩
 ·obtain⟨n,rfl⟩:=Int.eq_ofNat_of_zero_le (show 0≤op by omega);have h1:1≤n:=by omega
  have h2:n≤23:=by omega
  have hc:((w.alloc (.cells #[.string ⟨#[]⟩,.string ⟨#[]⟩,.string ⟨#[]⟩,.string ⟨#[]⟩,.string ⟨#[]⟩,.string ⟨#[]⟩,.string ⟨#[]⟩,.string ⟨#[]⟩,.string ⟨#[]⟩,.string ⟨#[]⟩,.string ⟨#[]⟩,.string ⟨#[]⟩,.string ⟨#[]⟩,.string ⟨#[]⟩,.string ⟨#[]⟩,.string ⟨#[]⟩,.string ⟨#[]⟩,.string ⟨#[]⟩,.string ⟨#[]⟩,.string ⟨#[]⟩,.string ⟨#[]⟩,.string ⟨#[]⟩,.string ⟨#[]⟩,.string ⟨#[]⟩] 182)).setRow w.heap.size FM).cell? ⟨w.heap.size,n,none⟩=some (.string ⟨(Ak (n:Int)).toArray⟩):=(cell_setRow_same _ _ _ _ _ _ _ (Bv _ _)).trans (Ro n h1 h2);clear h;go_enter Tryz.func99,Tryz.ntmps99;go_wp2_with (first
   |(refine wpList_buildTo rfl 182 _ rfl (some 4) rfl FM ?b1 ?_;(case b1=>as_aux_lemma=>kernel_rfl))
   |(refine wpList_store_rowTo rfl 182 (.tmp 3) (.tmp 4) rfl rfl w.heap.size FM ?hx ?hy 182 #[.string ⟨#[]⟩,.string ⟨#[]⟩,.string ⟨#[]⟩,.string ⟨#[]⟩,.string ⟨#[]⟩,.string ⟨#[]⟩,.string ⟨#[]⟩,.string ⟨#[]⟩,.string ⟨#[]⟩,.string ⟨#[]⟩,.string ⟨#[]⟩,.string ⟨#[]⟩,.string ⟨#[]⟩,.string ⟨#[]⟩,.string ⟨#[]⟩,.string ⟨#[]⟩,.string ⟨#[]⟩,.string ⟨#[]⟩,.string ⟨#[]⟩,.string ⟨#[]⟩,.string ⟨#[]⟩,.string ⟨#[]⟩,.string ⟨#[]⟩,.string ⟨#[]⟩] ?hg ?b3 ?b4 ?b5 ?_;(case hx=>rfl);(case hy=>rfl);(case hg=>exact Bv _ _);(case b3=>as_aux_lemma=>kernel_rfl);(case b4=>rfl);(case b5=>as_aux_lemma=>kernel_rfl)))
  go_ret;exact⟨rfl,⟨rfl,rfl,rfl,by simp[World.setRow],fun k hk=>(setRow_other _ _ _ _ (by omega)).trans (Below.heap_alloc _ _ _ hk)⟩⟩
end
section
def B0:Nat→(Nat→Nat)→Nat
 |0,_=>0
 |n+1,f=>B0 n f+f n
theorem Hy{f g:Nat→Nat}:∀ n:Nat,(∀ t,t<n→f t=g t)→B0 n f=B0 n g
 |0,_=>rfl
 |n+1,h=>by rw[B0,B0,Hy n (fun t ht=>h t (by omega)),h n (by omega)]
theorem D0{f g:Nat→Nat}{t:Nat}:∀ n:Nat,t<n→(∀ u,u≠t→g u=f u)→B0 n g+f t=B0 n f+g t
 |n+1,ht,h=>by
  by_cases e:t=n
  ·subst e;rw[B0,B0,Hy t (fun u hu=>h u (by omega))];omega
  ·have:=D0 n (by omega) h;rw[B0,B0,h n (fun e'=>e e'.symm)];omega
theorem Ds{f:Nat→Nat}:∀ n:Nat,(∀ t,t<n→f t=0)→B0 n f=0
 |0,_=>rfl
 |n+1,h=>by rw[B0,Ds n (fun t ht=>h t (by omega)),h n (by omega)]
theorem Gk{f g:Nat→Nat}:∀ n:Nat,(∀ t,t<n→f t≤g t)→B0 n f≤B0 n g
 |0,_=>Nl _
 |n+1,h=>by
  have:=Gk n (fun t ht=>h t (by omega));have:=h n (by omega);rw[B0,B0];omega
theorem D8(c:Nat):∀ n:Nat,B0 n (fun _=>c)=n*c
 |0=>by simp[B0]
 |n+1=>by rw[B0,D8 c n,Nat.succ_mul]
structure Fair (n R:Nat) (pg:Pg) (cells:List (Nat×Nat)) {σ:Type} (I:σ→LS→Prop) (rank:σ→Nat) (stuck:σ→Nat→Prop):Prop where
 call:∀ (r:AQ) (s:LS) (g:σ) (t:Nat) (late:Int),BF n pg cells r s→I g s→t<n→s.act t=0→∃ s' g',BF n pg cells (r.op 1 t late) s'∧I g' s'∧s'.act=Ay s.act t 1∧rank g'≤rank g+R
 unlock:∀ (r:AQ) (s:LS) (g:σ) (t:Nat) (late:Int),BF n pg cells r s→I g s→t<n→s.act t=2→∃ s' g',BF n pg cells (r.op 2 t late) s'∧I g' s'∧s'.act=Ay s.act t 3∧rank g'<rank g
 step:∀ (r:AQ) (s:LS) (g:σ) (t:Nat) (kind late:Int),BF n pg cells r s→I g s→t<n→s.act t=1∨s.act t=3→kind≠1→kind≠2→∃ s' g',BF n pg cells (r.op kind t late) s'∧I g' s' ∧
  ((∃ a,s'.act=Ay s.act t a∧(s.act t=1∧(a=1∨a=2)∨s.act t=3∧(a=3∨a=0))∧rank g'<rank g)∨(g'=g∧s'.act=s.act∧stuck g t))
 prog:∀ (s:LS) (g:σ),I g s→(∀ t,t<n→s.act t=0∨stuck g t)→∀ t,t<n→s.act t=0
 act:∀ (s:LS) (g:σ),I g s→∀ t,t<n→s.act t≤3
 ok:∀ (s:LS) (g:σ),I g s→s.tr.ok=true
section
variable {n R:Nat} {pg:Pg} {cells:List (Nat×Nat)} {σ:Type} {I:σ→LS→Prop} {rank:σ→Nat} {stuck:σ→Nat→Prop}
theorem Fair.op(F:Fair n R pg cells I rank stuck)(r:AQ)(s:LS)(h:BF n pg cells r s)(hi:∃ g,I g s)(kind t late:Int):∃ s',BF n pg cells (r.op kind t late) s'∧∃ g,I g s' :=
 V7 (I:=fun s=>∃ g,I g s) (fun r s t late h ⟨g,hi⟩ ht ha=>by obtain⟨s',g',h1,h2,_⟩:=F.call r s g t late h hi ht ha;exact⟨s',h1,g',h2⟩)
  (fun r s t late h ⟨g,hi⟩ ht ha=>by obtain⟨s',g',h1,h2,_⟩:=F.unlock r s g t late h hi ht ha;exact⟨s',h1,g',h2⟩)
  (fun r s t kind late h ⟨g,hi⟩ ht ha k1 k2=>by obtain⟨s',g',h1,h2,_⟩:=F.step r s g t kind late h hi ht ha k1 k2;exact⟨s',h1,g',h2⟩) r s h hi kind t late
theorem Fair.ops(F:Fair n R pg cells I rank stuck)(l:List (Int×Int×Int))(r:AQ)(s:LS)(g:σ)(h:BF n pg cells r s)(hi:I g s):∃ s' g',BF n pg cells (r.ops l) s'∧I g' s':=by
 obtain⟨s',h1,g',h2⟩:=Sm (I:=fun s=>∃ g,I g s) F.op l r s h ⟨g,hi⟩;exact⟨s',g',h1,h2⟩
theorem Fair.JD(F:Fair n R pg cells I rank stuck)(h1:1≤n)(h2:n≤64){r:AQ}{s:LS}{g:σ}(h:BF n pg cells r s)(hi:I g s):r.JD n=true:=h.JD h1 h2 (F.ok s g hi)
theorem Fair.trace(F:Fair n R pg cells I rank stuck)(h1:1≤n)(h2:n≤64)(l:List (Int×Int×Int)){r:AQ}{s:LS}{g:σ}(h:BF n pg cells r s)(hi:I g s):(r.ops l).JD n=true:=by
 obtain⟨s',g',h3,h4⟩:=F.ops l r s g h hi;exact F.JD h1 h2 h3 h4
theorem Fair.EH(F:Fair n R pg cells I rank stuck){r:AQ}{s:LS}{g:σ}{t:Nat}(h:BF n pg cells r s)(hi:I g s)(ht:t<n) :
  ∃ s' g',BF n pg cells (if s.act t=2 then r.op 2 t 0 else r.op 3 t 0) s'∧I g' s' ∧
   ((∃ a,s'.act=Ay s.act t a∧(s.act t=1∧(a=1∨a=2)∨s.act t=2∧a=3∨s.act t=3∧(a=3∨a=0))∧rank g'<rank g)∨(g'=g∧s'.act=s.act∧(s.act t=0∨s.act t≠0∧s.act t≠2∧stuck g t))):=by
 have h3:=F.act s g hi t ht;by_cases e2:s.act t=2
 ·rw[if_pos e2];obtain⟨s',g',a1,a2,a3,a4⟩:=F.unlock r s g t 0 h hi ht e2;exact⟨s',g',a1,a2,.inl ⟨3,a3,.inr (.inl ⟨e2,rfl⟩),a4⟩⟩
 ·rw[if_neg e2];by_cases e0:s.act t=0
  ·refine⟨s,g,?_,hi,.inr ⟨rfl,rfl,.inl e0⟩⟩;have ea:=h.act t ht;unfold AQ.op;rw[if_neg (by rw[h.la,h.bad];simp;omega),if_neg (fun x=>by cases x.1),if_neg (fun x=>by cases x.1),if_neg (fun x=>by rw[Int.toNat_natCast,ea]at x;omega)];exact h
  ·obtain⟨s',g',a1,a2,a3⟩:=F.step r s g t 3 0 h hi ht (by omega) (by decide) (by decide);refine⟨s',g',a1,a2,?_⟩;rcases a3 with ⟨a,b1,b2,b3⟩ |⟨b1,b2,b3⟩
   ·exact .inl ⟨a,b1,by rcases b2 with b |b;exact .inl b;exact .inr (.inr b),b3⟩
   ·exact .inr ⟨b1,b2,.inr ⟨e0,e2,b3⟩⟩
theorem Fair.Nq(F:Fair n R pg cells I rank stuck){r:AQ}{s:LS}{g:σ}(h:BF n pg cells r s)(hi:I g s):∀ k:Nat,k≤n →
  ∃ s' g',BF n pg cells ((List.range k).foldl Dw (r,false)).1 s'∧I g' s'∧(((List.range k).foldl Dw (r,false)).2=true↔∃ t,t<k∧s'.act t≠0) ∧
   (rank g'<rank g∨(g'=g∧s'.act=s.act∧∀ t,t<k→s.act t=0∨stuck g t))
 |0,_=>⟨s,g,h,hi,by simp,.inr ⟨rfl,rfl,fun t ht=>by omega⟩⟩
 |k+1,hk=>by
  obtain⟨s1,g1,a1,a2,a3,a4⟩:=F.Nq h hi k (by omega);rw[List.range_succ,List.foldl_append,List.foldl_cons,List.foldl_nil];generalize (List.range k).foldl Dw (r,false)=v at a1 a3;obtain⟨r1,b1⟩:=v;dsimp only at a1 a3;obtain⟨s2,g2,c1,c2,c3⟩:=F.EH (t:=k) a1 a2 (by omega);have e1:(Dw (r1,b1) k).1=if s1.act k=2 then r1.op 2 k 0 else r1.op 3 k 0:=by
   unfold Dw;dsimp only;rw[a1.act k (by omega)]
  have e2:(Dw (r1,b1) k).2=(b1||decide (s2.act k≠0)):=by
   rw[←c1.act k (by omega),←e1];rfl
  have hk2:∀ t,t<k→s2.act t=s1.act t:=fun t ht=>by
   rcases c3 with ⟨a,d1,_⟩ |⟨_,d1,_⟩
   ·rw[d1];exact Au _ _ (by omega)
   ·rw[d1]
  refine⟨s2,g2,by rw[e1];exact c1,c2,?_,?_⟩
  ·rw[e2];simp only[Bool.or_eq_true,decide_eq_true_eq,a3];constructor
   ·rintro(⟨t,ht,hn⟩ |hn)
    ·exact⟨t,by omega,by rw[hk2 t ht];exact hn⟩
    ·exact⟨k,by omega,hn⟩
   ·rintro⟨t,ht,hn⟩;by_cases e:t=k
    ·exact .inr (e▸hn)
    ·exact .inl ⟨t,by omega,by rw[←hk2 t (by omega)];exact hn⟩
  ·rcases c3 with ⟨a,_,_,d3⟩ |⟨d1,d2,d3⟩
   ·rcases a4 with a4 |⟨rfl,_⟩
    ·exact .inl (by omega)
    ·exact .inl d3
   ·subst d1;rcases a4 with a4 |⟨rfl,a5,a6⟩
    ·exact .inl a4
    ·refine .inr ⟨rfl,by rw[d2,a5],fun t ht=>?_⟩;by_cases e:t=k
     ·subst e;rw[a5]at d3;rcases d3 with d3 |⟨_,_,d3⟩
      ·exact .inl d3
      ·exact .inr d3
     ·exact a6 t (by omega)
theorem Fair.fin(F:Fair n R pg cells I rank stuck):∀ (K:Nat) (r:AQ) (s:LS) (g:σ),BF n pg cells r s→I g s→rank g<K →
  ∃ r' s' g',IY K r=(r',true)∧BF n pg cells r' s'∧I g' s'∧∀ t,t<n→s'.act t=0
 |K+1,r,s,g,h,hi,hk=>by
  obtain⟨s1,g1,a1,a2,a3,a4⟩:=F.Nq h hi n (Nl n);unfold IY Gr;rw[h.la];dsimp only;by_cases hb:((List.range n).foldl Dw (r,false)).2=false
  ·rw[if_pos hb];refine⟨_,s1,g1,rfl,a1,a2,fun t ht=>Classical.byContradiction fun hn=>?_⟩;rw[a3.2 ⟨t,ht,hn⟩]at hb;cases hb
  ·rw[if_neg hb];refine F.fin K _ s1 g1 a1 a2 ?_;rcases a4 with a4 |⟨rfl,a5,a6⟩
   ·omega
   ·exfalso;obtain⟨t,ht,hn⟩:=a3.1 (by simpa using hb);exact hn (by rw[a5];exact F.prog s g1 hi a6 t ht)
end
def EI(a:Nat→Nat)(t:Nat):Nat:=if a t=1∨a t=2 then 1 else 0
def lf(l:List Nat)(t:Nat):Nat:=l.getD t 0
theorem VH{l:List Nat}{t u v:Nat}(h:u≠t):lf (l.set t v) u=lf l u:=by
 unfold lf;rw[List.getD_eq_getElem?_getD,List.getD_eq_getElem?_getD,List.getElem?_set,if_neg (fun e=>h e.symm)]
theorem Yf{l:List Nat}{t v:Nat}(h:t<l.length):lf (l.set t v) t=v:=by
 unfold lf;rw[List.getD_eq_getElem?_getD,List.getElem?_set,if_pos rfl,if_pos h];rfl
theorem Mc{n t a:Nat}{A:Nat→Nat}(ht:t<n):B0 n (EI (Ay A t a))+EI A t=B0 n (EI A)+(if a=1∨a=2 then 1 else 0):=by
 have:=D0 (f:=EI A) (g:=EI (Ay A t a)) n ht (fun u hu=>by unfold EI;rw[Au _ _ hu]);rw[this];simp only[EI,Ag]
section
variable {n R:Nat} {pg:Pg} {cells:List (Nat×Nat)} {σ:Type} {I:σ→LS→Prop} {rank:σ→Nat} {stuck:σ→Nat→Prop}
structure YR (n R:Nat) (pg:Pg) (cells:List (Nat×Nat)) (I:σ→LS→Prop) (rank:σ→Nat) (stuck:σ→Nat→Prop) (v v':EC) (s s':LS) (g g':σ) (t:Nat):Prop where
 abs:BF n pg cells v'.r s'
 i:I g' s'
 len:v'.left.length=n
 sum:v'.EV+B0 n (lf v'.left)+B0 n (EI s'.act)=v.EV+B0 n (lf v.left)+B0 n (EI s.act)
 busy:v'.busy=(v.busy||decide (s'.act t≠0)||decide (lf v'.left t > 0))
 oth:∀ u,u≠t→s'.act u=s.act u∧lf v'.left u=lf v.left u
 dec:rank g'+(R+1)*B0 n (lf v'.left)<rank g+(R+1)*B0 n (lf v.left)∨(g'=g∧s'.act=s.act∧v'.left=v.left∧(s.act t=0∧lf v.left t=0∨s.act t≠0∧stuck g t))
theorem Fair.XJ(F:Fair n R pg cells I rank stuck){v:EC}{s:LS}{g:σ}{t:Nat}(h:BF n pg cells v.r s)(hi:I g s)(ht:t<n)(hl:v.left.length=n) :
  ∃ s' g',YR n R pg cells I rank stuck v (v.EH t) s s' g g' t:=by
 have ea:=h.act t ht;by_cases h0:s.act t=0∧lf v.left t > 0
 ·obtain⟨s',g',a1,a2,a3,a4⟩:=F.call v.r s g t 0 h hi ht h0.1;have e:v.EH t=⟨v.r.op 1 t 0,v.left.set t (lf v.left t-1),v.EV,v.busy||decide (s'.act t≠0)||decide (lf (v.left.set t (lf v.left t-1)) t > 0)⟩:=by
   rw[←a1.act t ht];unfold EC.EH;rw[ea];simp only[if_pos (show s.act t=0∧v.left.getD t 0 > 0 from h0)];rfl
  have hs:=D0 (f:=lf v.left) (g:=lf (v.left.set t (lf v.left t-1))) n ht (fun u hu=>VH hu);rw[Yf (by omega)]at hs;have hp:=Mc (a:=1) (A:=s.act) ht;have hp0:EI s.act t=0:=by unfold EI;rw[if_neg (by omega)]
  rw[hp0,if_pos (.inl rfl)]at hp;refine⟨s',g',by rw[e];exact a1,a2,by rw[e];simpa using hl,?_,by rw[e],?_,?_⟩
  ·rw[e,a3];show v.EV+B0 n (lf (v.left.set t (lf v.left t-1)))+B0 n (EI (Ay s.act t 1))=_;omega
  ·intro u hu;rw[e,a3];exact⟨Au _ _ hu,VH hu⟩
  ·left
   rw[e]
   show rank g'+(R+1)*B0 n (lf (v.left.set t (lf v.left t-1)))<_
   have h1:B0 n (lf v.left)=B0 n (lf (v.left.set t (lf v.left t-1)))+1:=by omega
   rw[h1,Nat.mul_add];omega
 ·by_cases h2:s.act t=2
  ·obtain⟨s',g',a1,a2,a3,a4⟩:=F.unlock v.r s g t 0 h hi ht h2;have e:v.EH t=⟨v.r.op 2 t 0,v.left,v.EV+1,v.busy||decide (s'.act t≠0)||decide (lf v.left t > 0)⟩:=by
    rw[←a1.act t ht];unfold EC.EH;rw[ea];simp only[if_neg (show ¬(s.act t=0∧v.left.getD t 0 > 0) from h0),if_pos h2];rfl
   have hp:=Mc (a:=3) (A:=s.act) ht;have hp0:EI s.act t=1:=by unfold EI;rw[if_pos (.inr h2)]
   rw[hp0,if_neg (by decide)]at hp;refine⟨s',g',by rw[e];exact a1,a2,by rw[e];exact hl,?_,by rw[e],?_,?_⟩
   ·rw[e,a3];show v.EV+1+B0 n (lf v.left)+B0 n (EI (Ay s.act t 3))=_;omega
   ·intro u hu;rw[e,a3];exact⟨Au _ _ hu,rfl⟩
   ·left
    rw[e]
    show rank g'+(R+1)*B0 n (lf v.left)<_
    omega
  ·obtain⟨s',g',a1,a2,a3⟩:=F.EH h hi ht;rw[if_neg h2]at a1;have e:v.EH t=⟨v.r.op 3 t 0,v.left,v.EV,v.busy||decide (s'.act t≠0)||decide (lf v.left t > 0)⟩:=by
    rw[←a1.act t ht];unfold EC.EH;rw[ea];simp only[if_neg (show ¬(s.act t=0∧v.left.getD t 0 > 0) from h0),if_neg h2];rfl
   refine⟨s',g',by rw[e];exact a1,a2,by rw[e];exact hl,?_,by rw[e],?_,?_⟩
   ·rw[e]
    show v.EV+B0 n (lf v.left)+B0 n (EI s'.act)=_
    rcases a3 with ⟨a,b1,b2,_⟩ |⟨_,b2,_⟩
    ·have hp:=Mc (a:=a) (A:=s.act) ht;rw[b1];have:EI s.act t=(if a=1∨a=2 then 1 else 0):=by
      unfold EI;rcases b2 with ⟨c1,c2⟩ |⟨c1,c2⟩ |⟨c1,c2⟩
      ·rw[if_pos (.inl c1),if_pos c2]
      ·exact absurd c1 h2
      ·rw[if_neg (by omega),if_neg (by omega)]
     omega
    ·rw[b2]
   ·intro u hu;rw[e];refine⟨?_,rfl⟩;rcases a3 with ⟨a,b1,_⟩ |⟨_,b2,_⟩
    ·rw[b1];exact Au _ _ hu
    ·rw[b2]
   ·rw[e];rcases a3 with ⟨a,b1,b2,b3⟩ |⟨b1,b2,b3⟩
    ·left
     show rank g'+(R+1)*B0 n (lf v.left)<_
     omega
    ·right
     refine⟨b1,b2,rfl,?_⟩;rcases b3 with b3 |⟨b3,_,b4⟩
     ·exact .inl ⟨b3,by have:¬lf v.left t > 0:=fun h=>h0 ⟨b3,h⟩;omega⟩
     ·exact .inr ⟨b3,b4⟩
theorem Fair.Qc(F:Fair n R pg cells I rank stuck){v:EC}{s:LS}{g:σ}(h:BF n pg cells v.r s)(hi:I g s)(hl:v.left.length=n)(hb:v.busy=false):∀ k:Nat,k≤n →
  ∃ v' s' g',v'=(List.range k).foldl EC.EH v∧BF n pg cells v'.r s'∧I g' s'∧v'.left.length=n ∧
   v'.EV+B0 n (lf v'.left)+B0 n (EI s'.act)=v.EV+B0 n (lf v.left)+B0 n (EI s.act) ∧
   (v'.busy=true↔∃ t,t<k∧(s'.act t≠0∨lf v'.left t > 0)) ∧
   (rank g'+(R+1)*B0 n (lf v'.left)<rank g+(R+1)*B0 n (lf v.left)∨(g'=g∧s'.act=s.act∧v'.left=v.left∧∀ t,t<k→s.act t=0∧lf v.left t=0∨s.act t≠0∧stuck g t))
 |0,_=>⟨v,s,g,rfl,h,hi,hl,rfl,by rw[hb];simp,.inr ⟨rfl,rfl,rfl,fun t ht=>by omega⟩⟩
 |k+1,hk=>by
  obtain⟨v1,s1,g1,e1,a1,a2,a3,a4,a5,a6⟩:=F.Qc h hi hl hb k (by omega);obtain⟨s2,g2,S⟩:=F.XJ (t:=k) a1 a2 (by omega) a3;rw[List.range_succ,List.foldl_append,List.foldl_cons,List.foldl_nil,←e1];refine⟨_,s2,g2,rfl,S.abs,S.i,S.len,S.sum.trans a4,?_,?_⟩
  ·rw[S.busy];simp only[Bool.or_eq_true,decide_eq_true_eq,a5];constructor
   ·rintro((⟨t,ht,hn⟩ |hn) |hn)
    ·have:=S.oth t (by omega);exact⟨t,by omega,by rw[this.1,this.2];exact hn⟩
    ·exact⟨k,by omega,.inl hn⟩
    ·exact⟨k,by omega,.inr hn⟩
   ·rintro⟨t,ht,hn⟩;by_cases e:t=k
    ·subst e;rcases hn with hn |hn
     ·exact .inl (.inr hn)
     ·exact .inr hn
    ·have:=S.oth t e;rw[this.1,this.2]at hn;exact .inl (.inl ⟨t,by omega,hn⟩)
  ·rcases S.dec with d |⟨rfl,d2,d3,d4⟩
   ·rcases a6 with a6 |⟨rfl,_,a7,_⟩
    ·exact .inl (by omega)
    ·rw[a7]at d;exact .inl d
   ·rcases a6 with a6 |⟨rfl,a7,a8,a9⟩
    ·rw[d3];exact .inl a6
    ·refine .inr ⟨rfl,by rw[d2,a7],by rw[d3,a8],fun t ht=>?_⟩;by_cases e:t=k
     ·subst e;rw[a7,a8]at d4;exact d4
     ·exact a9 t (by omega)
theorem Fair.Ns(F:Fair n R pg cells I rank stuck):∀ (K:Nat) (v:EC) (s:LS) (g:σ),BF n pg cells v.r s→I g s→v.left.length=n→rank g+(R+1)*B0 n (lf v.left)<K →
  ∃ s' g',BF n pg cells (v.rounds n K).r s'∧I g' s'∧(v.rounds n K).EV=v.EV+B0 n (lf v.left)+B0 n (EI s.act)
 |K+1,v,s,g,h,hi,hl,hk=>by
  obtain⟨v1,s1,g1,e1,a1,a2,a3,a4,a5,a6⟩:=F.Qc (v:={v with busy:=false}) h hi hl rfl n (Nl n);have e:v.round n=v1:=e1.symm;unfold EC.rounds;rw[e];dsimp only;by_cases hb:v1.busy=false
  ·rw[if_pos (.inl hb)];refine⟨s1,g1,a1,a2,?_⟩;have hz:∀ t,t<n→s1.act t=0∧lf v1.left t=0:=fun t ht=>Classical.byContradiction fun hn=>by
    rw[a5.2 ⟨t,ht,by omega⟩]at hb;cases hb
   have z1:=Ds (f:=lf v1.left) n (fun t ht=>(hz t ht).2);have z2:=Ds (f:=EI s1.act) n (fun t ht=>by unfold EI;rw[if_neg (by have:=(hz t ht).1;omega)]);rw[z1,z2]at a4;exact a4
  ·rw[if_neg (fun x=>by rcases x with x |x;exact hb x;rw[a1.bad]at x;cases x)];rcases a6 with a6 |⟨rfl,a7,a8,a9⟩
   ·obtain⟨s2,g2,c1,c2,c3⟩:=F.Ns K v1 s1 g1 a1 a2 a3 (by dsimp only at a6;omega);exact⟨s2,g2,c1,c2,c3.trans a4⟩
   ·exfalso;obtain⟨t,ht,hn⟩:=a5.1 (by simpa using hb);have hp:=F.prog s g1 hi (fun t ht=>by rcases a9 t ht with b |b;exact .inl b.1;exact .inr b.2) t ht;rw[a7,a8]at hn;rcases a9 t ht with b |b
    ·dsimp only at b hn;omega
    ·exact b.1 hp
theorem YS(n c t:Nat)(ht:t<n):lf (List.replicate n c) t=c:=by simp[lf,ht]
theorem Fair.Ss(F:Fair n R pg cells I rank stuck)(h1:1≤n)(h2:n≤64)(calls:Nat)(hm:(R+1)*(n*calls)<100*(n+1)*(calls+1)){x:AG}{s:LS}{g:σ}(h:BF n pg cells (AQ.new x n) s)(hi:I g s)(ha:∀ t,t<n→s.act t=0)(hg:rank g=0):Dq x n calls=true:=by
 have hs:B0 n (lf (List.replicate n calls))=n*calls:=by
  rw[Hy (g:=fun _=>calls) n (fun t ht=>YS n calls t ht),D8]
 have hz:=Ds (f:=EI s.act) n (fun t ht=>by unfold EI;rw[if_neg (by have:=ha t ht;omega)]);obtain⟨s1,g1,a1,a2,a3⟩:=F.Ns (100*(n+1)*(calls+1)) ⟨AQ.new x n,List.replicate n calls,0,true⟩ s g h hi (by simp) (by rw[hs,hg];omega);unfold Dq;dsimp only;rw[a1.bad,a3,decide_eq_true ((Eb n h1 h2 _).2 (by rw[a1.tr];exact F.ok s1 g1 a2))];simp[hs,hz]
theorem Fair.served(F:Fair n R pg cells I rank stuck)(h1:1≤n)(h2:n≤64)(hR:R+1≤100)(calls:Nat){x:AG}{s:LS}{g:σ}(h:BF n pg cells (AQ.new x n) s)(hi:I g s)(ha:∀ t,t<n→s.act t=0)(hg:rank g=0):Dq x n calls=true:=by
 have hm:(R+1)*(n*calls)<100*(n+1)*(calls+1):=by
  have m1:(R+1)*(n*calls)≤100*(n*calls):=Nat.mul_le_mul_right _ hR;have m2:100*(n+1)*(calls+1)=100*(n*calls)+100*n+100*calls+100:=by
   simp only[Nat.mul_add,Nat.add_mul,Nat.mul_one,Nat.mul_assoc];omega
  omega
 exact F.Ss h1 h2 calls hm h hi ha hg
end
end
end Go.Proofs.YtjjpiefgdggghaaGreatDoor

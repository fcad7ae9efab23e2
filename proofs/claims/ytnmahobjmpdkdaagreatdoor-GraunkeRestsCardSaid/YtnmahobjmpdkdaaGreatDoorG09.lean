/- Parts: AsmPlace, LateKit, AsmName, Lines, RefName7. -/
import Derived.Test.YtnmahobjmpdkdaaGreatDoorG02
import Derived.Test.YtnmahobjmpdkdaaGreatDoorG05
import Derived.Deep.RegionHeld3
import Derived.Test.YtnmahobjmpdkdaaGreatDoorG03
import Derived.Laws.RangeString
import Derived.RangeFuncNested
import Derived.RangeFuncBound
import Derived.RangeFuncCalls
import Derived.RangeFuncLeaves
import Derived.Shelf.Abstract
import Derived.Shelf.RegionOpen
import Derived.WalkKit
import Derived.OwnWalkIn
import Derived.TacticsInMore
import Derived.LoopNIn
import Derived.LoopIn
import Derived.Test.YtnmahobjmpdkdaaGreatDoorG08
set_option linter.unusedVariables false
set_option linter.unusedSimpArgs false
set_option maxRecDepth 100000
set_option maxHeartbeats 40000000
namespace Go.Proofs.YtnmahobjmpdkdaaGreatDoor
section
open Go.RowKit Go.Maps Go.Proofs.YtnmahobjmpdkdaaGreatDoorW.PrintWords
theorem An{α:Type}{l:List α}{i:Nat}{o:α}(h:l[i]?=some o):l.toArray[i]?=some o:=by simpa using h
theorem GV(gx bm n c:Nat)(A:Option Addr)(v1 v2:Value)(L:List (List UInt8×Nat))(s:List UInt8)(hs:s.length≤1000000)(w:World)
  (hx:w.heap[gx]?=some (.cells #[.slice A n c,v1,v2,.map (some bm)] 97 (0,0)))(hL:FT w bm L) :
  Calls Tryz.prog 63 #[.pointer (some ⟨gx,0,none⟩),.string ⟨s.toArray⟩] w fun e w' =>
   e=.returned (.tuple #[.int .i64 ((Er L s).getD 0:Nat),.bool ((Er L s).isSome&&decide (((Er L s).getD 0:Nat)<n))])∧Below w.heap.size w w':=by
 have c0:w.cell? ⟨gx,0,none⟩=some (.slice A n c):=(Bc hx 0).trans rfl;have c3:w.cell? ⟨gx,3,none⟩=some (.map (some bm)):=(Bc hx 3).trans rfl;have hS:w.drew.cell? ⟨gx,0,none⟩=some (.slice A n c):=c0;replace hL:=Az hL;obtain⟨p,hp⟩:∃ p,(Er L s).getD 0=p:=⟨_,rfl⟩
 obtain⟨b,hb⟩:∃ b,(Er L s).isSome=b:=⟨_,rfl⟩
 rw[hp,hb];go_enter Tryz.func63,Tryz.ntmps63;go_wp2_with (refine Lu rfl (.tmp 12) (.tmp 13) rfl bm L rfl hL.out s hs rfl ?_)
 clear hp hb hL hx;cases b with
 |true =>
  by_cases hlt:p<n
  ·have h1:decide ((p:Int)<(n:Int))=true:=decide_eq_true (by omega);go_wp2_with fail
   refine wp_region_held_drew (S:=(fun W=>W.cell? ⟨gx,0,none⟩=some (.slice A n c))) (by kernel_rfl) hS (fun hHeld0=>?_);refine wpAnyH_take (i:=0) (oi:=?oia0) (v:=?va0) ?hia0 ?hsa0 ?hfa0 ?hra0 ?hQa0 ?hya0 ?hSa0 ?_;case hia0=>refine An ?_;rfl
   case hsa0=>kernel_rfl
   case hfa0=>kernel_rfl
   case hra0=>kernel_rfl
   case hQa0=>exact fun _ _ _ h=>h
   case hya0=>(refine Or.inl ⟨by rfl,?_⟩;intro w hSw;go_simp;try with_reducible rfl)
   case hSa0=>assumption
   try simp only[Act.put,Sa,Sb,Sc]
   refine wpAnyH_take (i:=1) (oi:=?oia1) (v:=?va1) ?hia1 ?hsa1 ?hfa1 ?hra1 ?hQa1 ?hya1 ?hSa1 ?_;case hia1=>refine An ?_;rfl
   case hsa1=>kernel_rfl
   case hfa1=>kernel_rfl
   case hra1=>kernel_rfl
   case hQa1=>exact fun _ _ _ h=>h
   case hya1=>(refine Or.inl ⟨by rfl,?_⟩;intro w hSw;go_simp;try with_reducible rfl)
   case hSa1=>assumption
   try simp only[Act.put,Sa,Sb,Sc]
   refine wpAnyH_take (i:=2) (oi:=?oia2) (v:=?va2) ?hia2 ?hsa2 ?hfa2 ?hra2 ?hQa2 ?hya2 ?hSa2 ?_;case hia2=>refine An ?_;rfl
   case hsa2=>kernel_rfl
   case hfa2=>kernel_rfl
   case hra2=>kernel_rfl
   case hQa2=>exact fun _ _ _ h=>h
   case hya2=>(refine Or.inl ⟨by rfl,?_⟩;intro w hSw;go_simp;try with_reducible rfl)
   case hSa2=>assumption
   try simp only[Act.put,Sa,Sb,Sc]
   refine wpAnyH_take (i:=3) (oi:=?oia3) (v:=?va3) ?hia3 ?hsa3 ?hfa3 ?hra3 ?hQa3 ?hya3 ?hSa3 ?_;case hia3=>refine An ?_;rfl
   case hsa3=>kernel_rfl
   case hfa3=>kernel_rfl
   case hra3=>kernel_rfl
   case hQa3=>exact fun _ _ _ h=>h
   case hya3=>(refine Or.inl ⟨by rfl,?_⟩;intro w hSw;go_simp;try with_reducible rfl)
   case hSa3=>assumption
   try simp only[Act.put,Sa,Sb,Sc]
   refine wpAnyH_take (i:=4) (oi:=?oia4) (v:=?va4) ?hia4 ?hsa4 ?hfa4 ?hra4 ?hQa4 ?hya4 ?hSa4 ?_;case hia4=>refine An ?_;rfl
   case hsa4=>kernel_rfl
   case hfa4=>kernel_rfl
   case hra4=>kernel_rfl
   case hQa4=>exact fun _ _ _ h=>h
   case hya4=>(refine Or.inl ⟨by rfl,?_⟩;intro w hSw;go_simp;try with_reducible rfl)
   case hSa4=>assumption
   try simp only[Act.put,Sa,Sb,Sc]
   refine wpAnyH_take (i:=5) (oi:=?oia5) (v:=?va5) ?hia5 ?hsa5 ?hfa5 ?hra5 ?hQa5 ?hya5 ?hSa5 ?_;case hia5=>refine An ?_;rfl
   case hsa5=>kernel_rfl
   case hfa5=>kernel_rfl
   case hra5=>kernel_rfl
   case hQa5=>exact fun _ _ _ h=>h
   case hya5=>(refine Or.inl ⟨by rfl,?_⟩;intro w hSw;go_simp;try with_reducible rfl)
   case hSa5=>assumption
   try simp only[Act.put,Sa,Sb,Sc]
   refine wpAnyH_take (i:=6) (oi:=?oia6) (v:=?va6) ?hia6 ?hsa6 ?hfa6 ?hra6 ?hQa6 ?hya6 ?hSa6 ?_;case hia6=>refine An ?_;rfl
   case hsa6=>kernel_rfl
   case hfa6=>kernel_rfl
   case hra6=>kernel_rfl
   case hQa6=>exact fun _ _ _ h=>h
   case hya6=>(refine Or.inl ⟨by rfl,?_⟩;intro w hSw;go_simp;try with_reducible rfl)
   case hSa6=>assumption
   try simp only[Act.put,Sa,Sb,Sc]
   refine wpAnyH_take (i:=7) (oi:=?oia7) (v:=?va7) ?hia7 ?hsa7 ?hfa7 ?hra7 ?hQa7 ?hya7 ?hSa7 ?_;case hia7=>refine An ?_;rfl
   case hsa7=>kernel_rfl
   case hfa7=>kernel_rfl
   case hra7=>kernel_rfl
   case hQa7=>exact fun _ _ _ h=>h
   case hya7=>(refine Or.inl ⟨by rfl,?_⟩;intro w hSw;go_simp;try with_reducible rfl)
   case hSa7=>assumption
   try simp only[Act.put,Sa,Sb,Sc]
   refine wpAnyH_take (i:=8) (oi:=?oia8) (v:=?va8) ?hia8 ?hsa8 ?hfa8 ?hra8 ?hQa8 ?hya8 ?hSa8 ?_;case hia8=>refine An ?_;rfl
   case hsa8=>kernel_rfl
   case hfa8=>kernel_rfl
   case hra8=>kernel_rfl
   case hQa8=>exact fun _ _ _ h=>h
   case hya8=>(refine Or.inl ⟨by rfl,?_⟩;intro w hSw;go_simp;try with_reducible rfl)
   case hSa8=>assumption
   try simp only[Act.put,Sa,Sb,Sc]
   refine wpAnyH_take (i:=9) (oi:=?oia9) (v:=?va9) ?hia9 ?hsa9 ?hfa9 ?hra9 ?hQa9 ?hya9 ?hSa9 ?_;case hia9=>refine An ?_;rfl
   case hsa9=>kernel_rfl
   case hfa9=>kernel_rfl
   case hra9=>kernel_rfl
   case hQa9=>exact fun _ _ _ h=>h
   case hya9=>(refine Or.inl ⟨by rfl,?_⟩;intro w hSw;go_simp;try with_reducible rfl)
   case hSa9=>assumption
   try simp only[Act.put,Sa,Sb,Sc]
   refine wpAnyH_take (i:=10) (oi:=?oia10) (v:=?va10) ?hia10 ?hsa10 ?hfa10 ?hra10 ?hQa10 ?hya10 ?hSa10 ?_;case hia10=>refine An ?_;rfl
   case hsa10=>kernel_rfl
   case hfa10=>kernel_rfl
   case hra10=>kernel_rfl
   case hQa10=>exact fun _ _ _ h=>h
   case hya10=>(refine Or.inl ⟨by rfl,?_⟩;intro w hSw;go_simp;try with_reducible rfl)
   case hSa10=>assumption
   try simp only[Act.put,Sa,Sb,Sc]
   refine wpAnyH_take (i:=11) (oi:=?oia11) (v:=?va11) ?hia11 ?hsa11 ?hfa11 ?hra11 ?hQa11 ?hya11 ?hSa11 ?_;case hia11=>refine An ?_;rfl
   case hsa11=>kernel_rfl
   case hfa11=>kernel_rfl
   case hra11=>kernel_rfl
   case hQa11=>exact fun _ _ _ h=>h
   case hya11=>(refine Or.inl ⟨by rfl,?_⟩;intro w hSw;go_simp;try with_reducible rfl)
   case hSa11=>assumption
   try simp only[Act.put,Sa,Sb,Sc]
   refine wpAnyH_take (i:=12) (oi:=?oia12) (v:=?va12) ?hia12 ?hsa12 ?hfa12 ?hra12 ?hQa12 ?hya12 ?hSa12 ?_;case hia12=>refine An ?_;rfl
   case hsa12=>kernel_rfl
   case hfa12=>kernel_rfl
   case hra12=>kernel_rfl
   case hQa12=>exact fun _ _ _ h=>h
   case hya12=>(refine Or.inl ⟨by rfl,?_⟩;intro w hSw;go_simp;try with_reducible rfl)
   case hSa12=>assumption
   try simp only[Act.put,Sa,Sb,Sc]
   refine wpAnyH_done (by kernel_rfl) ?_ _;go_wp2;go_ret2
   exact⟨by simp[hlt],Bd (Below.refl _ _)⟩
  ·have h1:decide ((p:Int)<(n:Int))=false:=decide_eq_false (by omega);go_wp2_with fail
   refine wp_region_held_drew (S:=(fun W=>W.cell? ⟨gx,0,none⟩=some (.slice A n c))) (by kernel_rfl) hS (fun hHeld0=>?_);refine wpAnyH_take (i:=0) (oi:=?oib0) (v:=?vb0) ?hib0 ?hsb0 ?hfb0 ?hrb0 ?hQb0 ?hyb0 ?hSb0 ?_;case hib0=>refine An ?_;rfl
   case hsb0=>kernel_rfl
   case hfb0=>kernel_rfl
   case hrb0=>kernel_rfl
   case hQb0=>exact fun _ _ _ h=>h
   case hyb0=>(refine Or.inl ⟨by rfl,?_⟩;intro w hSw;go_simp;try with_reducible rfl)
   case hSb0=>assumption
   try simp only[Act.put,Sa,Sb,Sc]
   refine wpAnyH_take (i:=1) (oi:=?oib1) (v:=?vb1) ?hib1 ?hsb1 ?hfb1 ?hrb1 ?hQb1 ?hyb1 ?hSb1 ?_;case hib1=>refine An ?_;rfl
   case hsb1=>kernel_rfl
   case hfb1=>kernel_rfl
   case hrb1=>kernel_rfl
   case hQb1=>exact fun _ _ _ h=>h
   case hyb1=>(refine Or.inl ⟨by rfl,?_⟩;intro w hSw;go_simp;try with_reducible rfl)
   case hSb1=>assumption
   try simp only[Act.put,Sa,Sb,Sc]
   refine wpAnyH_take (i:=2) (oi:=?oib2) (v:=?vb2) ?hib2 ?hsb2 ?hfb2 ?hrb2 ?hQb2 ?hyb2 ?hSb2 ?_;case hib2=>refine An ?_;rfl
   case hsb2=>kernel_rfl
   case hfb2=>kernel_rfl
   case hrb2=>kernel_rfl
   case hQb2=>exact fun _ _ _ h=>h
   case hyb2=>(refine Or.inl ⟨by rfl,?_⟩;intro w hSw;go_simp;try with_reducible rfl)
   case hSb2=>assumption
   try simp only[Act.put,Sa,Sb,Sc]
   refine wpAnyH_take (i:=3) (oi:=?oib3) (v:=?vb3) ?hib3 ?hsb3 ?hfb3 ?hrb3 ?hQb3 ?hyb3 ?hSb3 ?_;case hib3=>refine An ?_;rfl
   case hsb3=>kernel_rfl
   case hfb3=>kernel_rfl
   case hrb3=>kernel_rfl
   case hQb3=>exact fun _ _ _ h=>h
   case hyb3=>(refine Or.inl ⟨by rfl,?_⟩;intro w hSw;go_simp;try with_reducible rfl)
   case hSb3=>assumption
   try simp only[Act.put,Sa,Sb,Sc]
   refine wpAnyH_take (i:=4) (oi:=?oib4) (v:=?vb4) ?hib4 ?hsb4 ?hfb4 ?hrb4 ?hQb4 ?hyb4 ?hSb4 ?_;case hib4=>refine An ?_;rfl
   case hsb4=>kernel_rfl
   case hfb4=>kernel_rfl
   case hrb4=>kernel_rfl
   case hQb4=>exact fun _ _ _ h=>h
   case hyb4=>(refine Or.inl ⟨by rfl,?_⟩;intro w hSw;go_simp;try with_reducible rfl)
   case hSb4=>assumption
   try simp only[Act.put,Sa,Sb,Sc]
   refine wpAnyH_take (i:=5) (oi:=?oib5) (v:=?vb5) ?hib5 ?hsb5 ?hfb5 ?hrb5 ?hQb5 ?hyb5 ?hSb5 ?_;case hib5=>refine An ?_;rfl
   case hsb5=>kernel_rfl
   case hfb5=>kernel_rfl
   case hrb5=>kernel_rfl
   case hQb5=>exact fun _ _ _ h=>h
   case hyb5=>(refine Or.inl ⟨by rfl,?_⟩;intro w hSw;go_simp;try with_reducible rfl)
   case hSb5=>assumption
   try simp only[Act.put,Sa,Sb,Sc]
   refine wpAnyH_take (i:=6) (oi:=?oib6) (v:=?vb6) ?hib6 ?hsb6 ?hfb6 ?hrb6 ?hQb6 ?hyb6 ?hSb6 ?_;case hib6=>refine An ?_;rfl
   case hsb6=>kernel_rfl
   case hfb6=>kernel_rfl
   case hrb6=>kernel_rfl
   case hQb6=>exact fun _ _ _ h=>h
   case hyb6=>(refine Or.inl ⟨by rfl,?_⟩;intro w hSw;go_simp;try with_reducible rfl)
   case hSb6=>assumption
   try simp only[Act.put,Sa,Sb,Sc]
   refine wpAnyH_take (i:=7) (oi:=?oib7) (v:=?vb7) ?hib7 ?hsb7 ?hfb7 ?hrb7 ?hQb7 ?hyb7 ?hSb7 ?_;case hib7=>refine An ?_;rfl
   case hsb7=>kernel_rfl
   case hfb7=>kernel_rfl
   case hrb7=>kernel_rfl
   case hQb7=>exact fun _ _ _ h=>h
   case hyb7=>(refine Or.inl ⟨by rfl,?_⟩;intro w hSw;go_simp;try with_reducible rfl)
   case hSb7=>assumption
   try simp only[Act.put,Sa,Sb,Sc]
   refine wpAnyH_take (i:=8) (oi:=?oib8) (v:=?vb8) ?hib8 ?hsb8 ?hfb8 ?hrb8 ?hQb8 ?hyb8 ?hSb8 ?_;case hib8=>refine An ?_;rfl
   case hsb8=>kernel_rfl
   case hfb8=>kernel_rfl
   case hrb8=>kernel_rfl
   case hQb8=>exact fun _ _ _ h=>h
   case hyb8=>(refine Or.inl ⟨by rfl,?_⟩;intro w hSw;go_simp;try with_reducible rfl)
   case hSb8=>assumption
   try simp only[Act.put,Sa,Sb,Sc]
   refine wpAnyH_take (i:=9) (oi:=?oib9) (v:=?vb9) ?hib9 ?hsb9 ?hfb9 ?hrb9 ?hQb9 ?hyb9 ?hSb9 ?_;case hib9=>refine An ?_;rfl
   case hsb9=>kernel_rfl
   case hfb9=>kernel_rfl
   case hrb9=>kernel_rfl
   case hQb9=>exact fun _ _ _ h=>h
   case hyb9=>(refine Or.inl ⟨by rfl,?_⟩;intro w hSw;go_simp;try with_reducible rfl)
   case hSb9=>assumption
   try simp only[Act.put,Sa,Sb,Sc]
   refine wpAnyH_take (i:=10) (oi:=?oib10) (v:=?vb10) ?hib10 ?hsb10 ?hfb10 ?hrb10 ?hQb10 ?hyb10 ?hSb10 ?_;case hib10=>refine An ?_;rfl
   case hsb10=>kernel_rfl
   case hfb10=>kernel_rfl
   case hrb10=>kernel_rfl
   case hQb10=>exact fun _ _ _ h=>h
   case hyb10=>(refine Or.inl ⟨by rfl,?_⟩;intro w hSw;go_simp;try with_reducible rfl)
   case hSb10=>assumption
   try simp only[Act.put,Sa,Sb,Sc]
   refine wpAnyH_take (i:=11) (oi:=?oib11) (v:=?vb11) ?hib11 ?hsb11 ?hfb11 ?hrb11 ?hQb11 ?hyb11 ?hSb11 ?_;case hib11=>refine An ?_;rfl
   case hsb11=>kernel_rfl
   case hfb11=>kernel_rfl
   case hrb11=>kernel_rfl
   case hQb11=>exact fun _ _ _ h=>h
   case hyb11=>(refine Or.inl ⟨by rfl,?_⟩;intro w hSw;go_simp;try with_reducible rfl)
   case hSb11=>assumption
   try simp only[Act.put,Sa,Sb,Sc]
   refine wpAnyH_take (i:=12) (oi:=?oib12) (v:=?vb12) ?hib12 ?hsb12 ?hfb12 ?hrb12 ?hQb12 ?hyb12 ?hSb12 ?_;case hib12=>refine An ?_;rfl
   case hsb12=>kernel_rfl
   case hfb12=>kernel_rfl
   case hrb12=>kernel_rfl
   case hQb12=>exact fun _ _ _ h=>h
   case hyb12=>(refine Or.inl ⟨by rfl,?_⟩;intro w hSw;go_simp;try with_reducible rfl)
   case hSb12=>assumption
   try simp only[Act.put,Sa,Sb,Sc]
   refine wpAnyH_done (by kernel_rfl) ?_ _;go_wp2;go_ret2
   exact⟨by simp[hlt],Bd (Below.refl _ _)⟩
 |false =>
  go_wp2_with fail
  refine wp_region_held_drew (S:=(fun W=>W.cell? ⟨gx,0,none⟩=some (.slice A n c))) (by kernel_rfl) hS (fun hHeld0=>?_);refine wpAnyH_take (i:=0) (oi:=?oic0) (v:=?vc0) ?hic0 ?hsc0 ?hfc0 ?hrc0 ?hQc0 ?hyc0 ?hSc0 ?_;case hic0=>refine An ?_;rfl
  case hsc0=>kernel_rfl
  case hfc0=>kernel_rfl
  case hrc0=>kernel_rfl
  case hQc0=>exact fun _ _ _ h=>h
  case hyc0=>(refine Or.inl ⟨by rfl,?_⟩;intro w hSw;go_simp;try with_reducible rfl)
  case hSc0=>assumption
  try simp only[Act.put,Sa,Sb,Sc]
  refine wpAnyH_take (i:=1) (oi:=?oic1) (v:=?vc1) ?hic1 ?hsc1 ?hfc1 ?hrc1 ?hQc1 ?hyc1 ?hSc1 ?_;case hic1=>refine An ?_;rfl
  case hsc1=>kernel_rfl
  case hfc1=>kernel_rfl
  case hrc1=>kernel_rfl
  case hQc1=>exact fun _ _ _ h=>h
  case hyc1=>(refine Or.inl ⟨by rfl,?_⟩;intro w hSw;go_simp;try with_reducible rfl)
  case hSc1=>assumption
  try simp only[Act.put,Sa,Sb,Sc]
  refine wpAnyH_take (i:=2) (oi:=?oic2) (v:=?vc2) ?hic2 ?hsc2 ?hfc2 ?hrc2 ?hQc2 ?hyc2 ?hSc2 ?_;case hic2=>refine An ?_;rfl
  case hsc2=>kernel_rfl
  case hfc2=>kernel_rfl
  case hrc2=>kernel_rfl
  case hQc2=>exact fun _ _ _ h=>h
  case hyc2=>(refine Or.inl ⟨by rfl,?_⟩;intro w hSw;go_simp;try with_reducible rfl)
  case hSc2=>assumption
  try simp only[Act.put,Sa,Sb,Sc]
  refine wpAnyH_take (i:=3) (oi:=?oic3) (v:=undef) ?hic3 ?hsc3 ?hfc3 ?hrc3 ?hQc3 ?hyc3 ?hSc3 ?_;case hic3=>refine An ?_;rfl
  case hsc3=>kernel_rfl
  case hfc3=>kernel_rfl
  case hrc3=>kernel_rfl
  case hQc3=>exact fun _ _ _ h=>h
  case hyc3=>(refine Or.inr ⟨by rfl,by rfl⟩)
  case hSc3=>assumption
  try simp only[Act.put,Sa,Sb,Sc]
  refine wpAnyH_take (i:=4) (oi:=?oic4) (v:=undef) ?hic4 ?hsc4 ?hfc4 ?hrc4 ?hQc4 ?hyc4 ?hSc4 ?_;case hic4=>refine An ?_;rfl
  case hsc4=>kernel_rfl
  case hfc4=>kernel_rfl
  case hrc4=>kernel_rfl
  case hQc4=>exact fun _ _ _ h=>h
  case hyc4=>(refine Or.inr ⟨by rfl,by rfl⟩)
  case hSc4=>assumption
  try simp only[Act.put,Sa,Sb,Sc]
  refine wpAnyH_take (i:=5) (oi:=?oic5) (v:=undef) ?hic5 ?hsc5 ?hfc5 ?hrc5 ?hQc5 ?hyc5 ?hSc5 ?_;case hic5=>refine An ?_;rfl
  case hsc5=>kernel_rfl
  case hfc5=>kernel_rfl
  case hrc5=>kernel_rfl
  case hQc5=>exact fun _ _ _ h=>h
  case hyc5=>(refine Or.inr ⟨by rfl,by rfl⟩)
  case hSc5=>assumption
  try simp only[Act.put,Sa,Sb,Sc]
  refine wpAnyH_take (i:=6) (oi:=?oic6) (v:=undef) ?hic6 ?hsc6 ?hfc6 ?hrc6 ?hQc6 ?hyc6 ?hSc6 ?_;case hic6=>refine An ?_;rfl
  case hsc6=>kernel_rfl
  case hfc6=>kernel_rfl
  case hrc6=>kernel_rfl
  case hQc6=>exact fun _ _ _ h=>h
  case hyc6=>(refine Or.inr ⟨by rfl,by rfl⟩)
  case hSc6=>assumption
  try simp only[Act.put,Sa,Sb,Sc]
  refine wpAnyH_take (i:=7) (oi:=?oic7) (v:=undef) ?hic7 ?hsc7 ?hfc7 ?hrc7 ?hQc7 ?hyc7 ?hSc7 ?_;case hic7=>refine An ?_;rfl
  case hsc7=>kernel_rfl
  case hfc7=>kernel_rfl
  case hrc7=>kernel_rfl
  case hQc7=>exact fun _ _ _ h=>h
  case hyc7=>(refine Or.inr ⟨by rfl,by rfl⟩)
  case hSc7=>assumption
  try simp only[Act.put,Sa,Sb,Sc]
  refine wpAnyH_take (i:=8) (oi:=?oic8) (v:=undef) ?hic8 ?hsc8 ?hfc8 ?hrc8 ?hQc8 ?hyc8 ?hSc8 ?_;case hic8=>refine An ?_;rfl
  case hsc8=>kernel_rfl
  case hfc8=>kernel_rfl
  case hrc8=>kernel_rfl
  case hQc8=>exact fun _ _ _ h=>h
  case hyc8=>(refine Or.inr ⟨by rfl,by rfl⟩)
  case hSc8=>assumption
  try simp only[Act.put,Sa,Sb,Sc]
  refine wpAnyH_take (i:=9) (oi:=?oic9) (v:=undef) ?hic9 ?hsc9 ?hfc9 ?hrc9 ?hQc9 ?hyc9 ?hSc9 ?_;case hic9=>refine An ?_;rfl
  case hsc9=>kernel_rfl
  case hfc9=>kernel_rfl
  case hrc9=>kernel_rfl
  case hQc9=>exact fun _ _ _ h=>h
  case hyc9=>(refine Or.inr ⟨by rfl,by rfl⟩)
  case hSc9=>assumption
  try simp only[Act.put,Sa,Sb,Sc]
  refine wpAnyH_take (i:=10) (oi:=?oic10) (v:=?vc10) ?hic10 ?hsc10 ?hfc10 ?hrc10 ?hQc10 ?hyc10 ?hSc10 ?_;case hic10=>refine An ?_;rfl
  case hsc10=>kernel_rfl
  case hfc10=>kernel_rfl
  case hrc10=>kernel_rfl
  case hQc10=>exact fun _ _ _ h=>h
  case hyc10=>(refine Or.inl ⟨by rfl,?_⟩;intro w hSw;go_simp;try with_reducible rfl)
  case hSc10=>assumption
  try simp only[Act.put,Sa,Sb,Sc]
  refine wpAnyH_take (i:=11) (oi:=?oic11) (v:=?vc11) ?hic11 ?hsc11 ?hfc11 ?hrc11 ?hQc11 ?hyc11 ?hSc11 ?_;case hic11=>refine An ?_;rfl
  case hsc11=>kernel_rfl
  case hfc11=>kernel_rfl
  case hrc11=>kernel_rfl
  case hQc11=>exact fun _ _ _ h=>h
  case hyc11=>(refine Or.inl ⟨by rfl,?_⟩;intro w hSw;go_simp;try with_reducible rfl)
  case hSc11=>assumption
  try simp only[Act.put,Sa,Sb,Sc]
  refine wpAnyH_take (i:=12) (oi:=?oic12) (v:=?vc12) ?hic12 ?hsc12 ?hfc12 ?hrc12 ?hQc12 ?hyc12 ?hSc12 ?_;case hic12=>refine An ?_;rfl
  case hsc12=>kernel_rfl
  case hfc12=>kernel_rfl
  case hrc12=>kernel_rfl
  case hQc12=>exact fun _ _ _ h=>h
  case hyc12=>(refine Or.inl ⟨by rfl,?_⟩;intro w hSw;go_simp;try with_reducible rfl)
  case hSc12=>assumption
  try simp only[Act.put,Sa,Sb,Sc]
  refine wpAnyH_done (by kernel_rfl) ?_ _;go_wp2;go_ret2
  exact⟨by simp,Bd (Below.refl _ _)⟩
end
section
open Go.RowKit Go.Proofs.YtnmahobjmpdkdaaGreatDoorW.PrintWords
section
variable {P:Program} {ops:List Oper} {Q:Exit→Act→World→Prop} {md:Region.Mode} {S:World→Prop} {D:List Nat}
theorem tY(i:Nat){oi:Oper}{v:Value}{fuel:Nat}{listed:Array Bool}{a a':Act}{w:World}(hS:DM D listed=true→S w)(h:Dv P md ops.toArray Q S D fuel (listed.setIfInBounds i true) a' w)
  (hi:ops.toArray[i]?=some oi:=by exact An rfl)(hy:Yields P ops.toArray oi v a:=by(refine .inl ⟨by rfl,?_⟩);intro w;go_simp;try with_reducible rfl)
  (ha:a.put oi.dst v=a':=by first |(simp only[Act.put,Sa,Sb,Sc];exact rfl) |(simp only[Act.put,Sa,Sb,Sc];done) |exact rfl)
  (hs:(Region.noSelect ops.toArray&&Region.free md ops.toArray listed i&&(Region.ready md ops.toArray listed).contains i&&!D.contains i)=true:=by kernel_rfl)
  (hQ:∀ c a w,Q (.panic c) (a.put oi.dst v) w→Q (.panic c) a w:=by exact fun _ _ _ h=>h):Dv P md ops.toArray Q S D (fuel+1) listed a w:=by
 subst ha;exact AM hi hs hQ hy hS h
theorem tL(i:Nat){oi:Oper}{v:Value}{fuel:Nat}{listed:Array Bool}{a a':Act}{w:World}(hS:S w)(h:Dv P md ops.toArray Q S D fuel (listed.setIfInBounds i true) a' w)
  (hi:ops.toArray[i]?=some oi:=by exact An rfl)(hy:YieldsIf P ops.toArray S oi v a:=by(refine .inl ⟨by rfl,?_⟩);intro w hSw;(repeat (rcases hSw with ⟨_,hSw⟩));go_simp;try with_reducible rfl)
  (ha:a.put oi.dst v=a':=by first |(simp only[Act.put,Sa,Sb,Sc];exact rfl) |(simp only[Act.put,Sa,Sb,Sc];done) |exact rfl)
  (hs:(Region.noSelect ops.toArray&&Region.free md ops.toArray listed i&&(Region.ready md ops.toArray listed).contains i&&Je md ops.toArray listed&&D.all (fun d=>d != i&&Dx md ops.toArray i ops.toArray.size d))=true:=by kernel_rfl)
  (hQ:∀ c a w,Q (.panic c) (a.put oi.dst v) w→Q (.panic c) a w:=by exact fun _ _ _ h=>h):Dv P md ops.toArray Q S D (fuel+1) listed a w:=by
 subst ha;exact Db hi hs hQ hy hS h
end
theorem Tj(s:ByteArray)(i:Nat)(h:128≤(s.get! i).toNat):128≤(Utf8.decode s i).1:=by
 have e:(s.get! (i+0)).toNat=(s.get! i).toNat:=rfl;unfold Utf8.decode;simp only[e];rw[if_neg (by omega)];split
 ·split
  ·simpa using ‹_›
  ·simp[Utf8.runeError]
 ·split
  ·split
   ·rename_i h2
    simp only[Bool.and_eq_true,decide_eq_true_eq]at h2;have:=h2.1;dsimp only;omega
   ·simp[Utf8.runeError]
  ·split
   ·split
    ·rename_i h2
     simp only[Bool.and_eq_true,decide_eq_true_eq]at h2;have:=h2.1;dsimp only;omega
    ·simp[Utf8.runeError]
   ·simp[Utf8.runeError]
theorem Y5(l:List UInt8)(k:Nat)(h:k<l.length):(⟨l.toArray⟩:ByteArray).get! k=l.getD k 0:=by
 simp[ByteArray.get!,List.getD_eq_getElem?_getD,List.getElem?_eq_getElem h,h]
theorem M0{P:Program}(w:World)(s:ByteArray)(pos:Nat)(ty:TypeId)(h:pos<s.size) :
  (Instr.next (.pointer (some ⟨w.heap.size,0,none⟩)) true ty).run P (w.iter s pos) =
   .ok (.tuple #[.bool true,.int .i64 pos,.int .i32 (Utf8.decode s pos).1]) (w.iter s (pos+(Utf8.decode s pos).2)):=by
 simp only[Instr.next,getObj,setObj,Sem.run_bind,Sem.run,World.iter_heap,Result.andThen,h,if_true,World.iter_set];simp[goInt,Sem.run,World.iter_heap,World.iter_set]
def posOf(g:Nat)(W:World):Nat:=match W.heap[g]? with
 |some (.stringIter _ p)=>p
 |_=>0
theorem GB(w:World)(s:ByteArray)(p:Nat):posOf w.heap.size (w.iter s p)=p:=by
 unfold posOf;rw[World.iter_heap]
def Tk(l:List UInt8)(k:Nat):Prop:=(∀ j,j<k→(EN (l.getD j 0)||M1 (l.getD j 0))=true)∧(0<k→EN (l.getD 0 0)=true)
theorem Pt{l:List UInt8}(h:Tk l l.length)(hn:0<l.length):EN (l.headD 0)=true∧l.all (fun c=>EN c||M1 c)=true:=by
 refine⟨?_,?_⟩
 ·have:=h.2 hn;cases l with
  |nil=>simp at hn
  |cons c r=>exact this
 ·rw[List.all_eq_true];intro c hc;obtain⟨j,hj,rfl⟩:=List.mem_iff_getElem.1 hc;have:=h.1 j hj
  rwa [show l.getD j 0=l[j] by simp[List.getD_eq_getElem?_getD,List.getElem?_eq_getElem hj]]at this
theorem MY{l:List UInt8}{k:Nat}(h:Tk l k)(hk:(EN (l.getD k 0)||M1 (l.getD k 0))=true)(h0:k=0→EN (l.getD 0 0)=true):Tk l (k+1):=by
 refine⟨fun j hj=>?_,fun _=>?_⟩
 ·by_cases e:j=k
  ·rw[e];exact hk
  ·exact h.1 j (by omega)
 ·by_cases e:k=0
  ·exact h0 e
  ·exact h.2 (by omega)
theorem Jw{l:List UInt8}{k:Nat}(hk:k<l.length)(h:(EN (l.getD k 0)||M1 (l.getD k 0))=false):Cp l=false:=by
 have:l.all (fun c=>EN c||M1 c)=false:=by
  rw[List.all_eq_false];exact⟨l.getD k 0,by rw[show l.getD k 0=l[k] by simp[List.getD_eq_getElem?_getD,List.getElem?_eq_getElem hk]];exact List.getElem_mem hk,by simpa using h⟩
 unfold Cp;rw[this];simp
theorem Lt{l:List UInt8}(hk:0<l.length)(h:EN (l.getD 0 0)=false):Cp l=false:=by
 have:EN (l.headD 0)=false:=by
  cases l with
  |nil=>simp at hk
  |cons c r=>exact h
 unfold Cp;rw[this];simp
theorem FA(l:List UInt8)(w:World)(hl:l.length≤1000000) :
  Calls Tryz.prog 78 #[.string ⟨l.toArray⟩] w fun e w'=>e=.returned (.bool (Cp l))∧Below w.heap.size w w':=by
 have hsz:(⟨l.toArray⟩:ByteArray).size=l.length:=by simp[ByteArray.size]
 obtain⟨r,hr⟩:∃ r,Cp l=r:=⟨_,rfl⟩
 rw[hr];replace hr:=Az hr;go_enter Tryz.func78,Tryz.ntmps78;go_wp2;go_loopw [3,4] (fun v3 v4 wr=>∃ pos,pos≤l.length∧wr=w.iter ⟨l.toArray⟩ pos∧Af (Tk l pos)) (fun _ _ wr=>l.length-posOf w.heap.size wr)
 case atStart=>exact⟨0,Nat.zero_le _,rfl,⟨fun j hj=>by omega,fun h=>by omega⟩⟩
 case round =>
  obtain⟨pos,hp,rfl,hok⟩:=hrel;have hB:Below w.heap.size w (w.iter ⟨l.toArray⟩ pos):=(Below.refl _ w).alloc (Nl _) _;by_cases hlt:pos<l.length
  ·have hnx:=fun ty=>M0 (P:=Tryz.prog) w ⟨l.toArray⟩ pos ty (by rw[hsz];exact hlt)
   have hg:=Y5 l pos hlt;have hb:=(l.getD pos 0).toNat_lt;by_cases ha:(l.getD pos 0).toNat<128
   ·have hd:Utf8.decode ⟨l.toArray⟩ pos=((l.getD pos 0).toNat,1):=by
     rw[decode_ascii ⟨l.toArray⟩ pos (by rw[hsz];exact hlt) (by
      have:(⟨l.toArray⟩:ByteArray)[pos]'(by rw[hsz];exact hlt)=l.getD pos 0:=by
       simp[List.getD_eq_getElem?_getD,List.getElem?_eq_getElem hlt];rfl
      rw[this];exact ha)]
     congr 2
     simp[List.getD_eq_getElem?_getD,List.getElem?_eq_getElem hlt];rfl
    simp only[hd]at hnx;have hlow:EN (l.getD pos 0)=decide (97≤(l.getD pos 0).toNat∧(l.getD pos 0).toNat≤122):=rfl;have hdig:M1 (l.getD pos 0)=decide (48≤(l.getD pos 0).toNat∧(l.getD pos 0).toNat≤57):=rfl;have hB2:Below w.heap.size w (w.iter ⟨l.toArray⟩ (pos+1)):=(Below.refl _ w).alloc (Nl _) _;have hstep:=fun h h0=>MY (l:=l) hok.out h h0
    have hbad:=fun h=>Jw (l:=l) hlt h
    have hbad0:pos=0→EN (l.getD pos 0)=false→Cp l=false:=fun e h=>Lt (by omega) (by rw[e]at h;exact h)
    have hz:pos=0→EN (l.getD pos 0)=true→EN (l.getD 0 0)=true:=fun e h=>by rw[e]at h;exact h
    rw[hlow,hdig]at hstep hbad;rw[hlow]at hbad0 hz;clear hg hd hlow hdig;generalize (l.getD pos 0).toNat=b at *;by_cases c1:b<97
    ·have r1:decide ((b:Int)<97)=true:=decide_eq_true (by omega);by_cases h0:pos=0
     ·obtain rfl:r=false:=by rw[←hr.out,hbad0 h0 (decide_eq_false (by omega))]
      subst h0;clear hstep hbad hbad0 hz hok;go_wp2;go_ret;exact⟨rfl,hB2⟩
     ·have q0:((pos:Int)==0)=false:=Bq (by omega);by_cases c3:b<48
      ·have r3:decide ((b:Int)<48)=true:=decide_eq_true (by omega);obtain rfl:r=false:=by rw[←hr.out,hbad (by rw[decide_eq_false (by omega),decide_eq_false (by omega)];rfl)]
       go_wp2;go_ret;exact⟨rfl,hB2⟩
      ·have r3:decide ((b:Int)<48)=false:=decide_eq_false (by omega);by_cases c4:57<b
       ·have r4:decide (57<(b:Int))=true:=decide_eq_true (by omega);obtain rfl:r=false:=by rw[←hr.out,hbad (by rw[decide_eq_false (by omega),decide_eq_false (by omega)];rfl)]
        go_wp2;go_ret;exact⟨rfl,hB2⟩
       ·have r4:decide (57<(b:Int))=false:=decide_eq_false (by omega);have hok':=Az (hstep (by rw[decide_eq_false (by omega),decide_eq_true (by omega)];rfl) (fun e=>absurd e h0));clear hstep hbad hbad0 hz hok;go_wp2;go_roundw
        case rel=>exact⟨pos+1,by omega,rfl,hok'⟩
        case measure=>rw[GB,GB];omega
    ·have r1:decide ((b:Int)<97)=false:=decide_eq_false (by omega);by_cases c2:122<b
     ·have r2:decide (122<(b:Int))=true:=decide_eq_true (by omega);have r3:decide ((b:Int)<48)=false:=decide_eq_false (by omega);have r4:decide (57<(b:Int))=true:=decide_eq_true (by omega);obtain rfl:r=false:=by rw[←hr.out,hbad (by rw[decide_eq_false (by omega),decide_eq_false (by omega)];rfl)]
      by_cases h0:pos=0
      ·subst h0;clear hstep hbad hbad0 hz hok;go_wp2;go_ret;exact⟨rfl,hB2⟩
      ·have q0:((pos:Int)==0)=false:=Bq (by omega);go_wp2;go_ret;exact⟨rfl,hB2⟩
     ·have r2:decide (122<(b:Int))=false:=decide_eq_false (by omega);have hl':decide (97≤b∧b≤122)=true:=decide_eq_true (by omega);have hok':=Az (hstep (by rw[hl'];rfl) (fun e=>hz e hl'));clear hstep hbad hbad0 hz hok;go_wp2;go_roundw
      case rel=>exact⟨pos+1,by omega,rfl,hok'⟩
      case measure=>rw[GB,GB];omega
   ·have hd:=Tj ⟨l.toArray⟩ pos (by rw[hg];omega);have hbad:=Jw hlt (show(EN (l.getD pos 0)||M1 (l.getD pos 0))=false by unfold EN M1;rw[decide_eq_false (by omega),decide_eq_false (by omega)];rfl);generalize (Utf8.decode ⟨l.toArray⟩ pos).1=R at hnx hd;generalize (Utf8.decode ⟨l.toArray⟩ pos).2=sz at hnx;have hB2:Below w.heap.size w (w.iter ⟨l.toArray⟩ (pos+sz)):=(Below.refl _ w).alloc (Nl _) _;have r1:decide ((R:Int)<97)=false:=decide_eq_false (by omega);have r2:decide (122<(R:Int))=true:=decide_eq_true (by omega);have r3:decide ((R:Int)<48)=false:=decide_eq_false (by omega);have r4:decide (57<(R:Int))=true:=decide_eq_true (by omega);obtain rfl:r=false:=by rw[←hr.out,hbad]
    clear hg hb ha hbad hd;by_cases h0:pos=0
    ·subst h0;go_wp2;go_ret;exact⟨rfl,by simpa using hB2⟩
    ·have q0:((pos:Int)==0)=false:=Bq (by omega);go_wp2;go_ret;exact⟨rfl,hB2⟩
  ·obtain rfl:pos=l.length:=by omega
   have hnx:=fun ty=>run_next_end (P:=Tryz.prog) w ⟨l.toArray⟩ l.length ty (by rw[hsz];omega)
   have hr':=hr.out;by_cases h1:1≤l.length
   ·obtain⟨ha,hb⟩:=Pt hok.out (by omega);have g1:decide (1≤(l.length:Int))=true:=decide_eq_true (by omega);by_cases h2:l.length≤16
    ·have g2:decide ((l.length:Int)≤16)=true:=decide_eq_true (by omega);obtain rfl:r=true:=by rw[←hr'];unfold Cp;rw[ha,hb,decide_eq_true ⟨h1,h2⟩];rfl
     clear hr hr' ha hb hok;go_wp2;exact bodyPost_ret (fn:=Tryz.f78) (results_tmp rfl _ _ _) rfl ⟨rfl,hB⟩
    ·have g2:decide ((l.length:Int)≤16)=false:=decide_eq_false (by omega);obtain rfl:r=false:=by rw[←hr'];unfold Cp;rw[decide_eq_false (fun h=>h2 h.2)];rfl
     clear hr hr' ha hb hok;go_wp2;go_ret;exact⟨by first |rfl |(simp;omega),hB⟩
   ·have g1:decide (1≤(l.length:Int))=false:=decide_eq_false (by omega);obtain rfl:r=false:=by rw[←hr'];unfold Cp;rw[decide_eq_false (fun h=>h1 h.1)];rfl
    clear hr hr' hok;go_wp2;go_ret;exact⟨by first |rfl |(simp;omega),hB⟩
end
section
open Go.RowKit Go.Shelf Go.Proofs.YtnmahobjmpdkdaaGreatDoorW.PrintWords
attribute [local go_sem] Oper.semAt_some
theorem Lr:Bm []=[]:=rfl
theorem JY:∀ (l:List UInt8),l≠[]→Lib.indexByte l 10 = -1→Bm l=[l]
 |[],h,_=>absurd rfl h
 |b::l,_,h=>by
  unfold Lib.indexByte at h;by_cases hb:b=10
  ·subst hb;simp at h
  ·have hb':(b==10)=false:=Bq hb;rw[hb']at h;simp only[Bool.false_eq_true,if_false]at h;have hge:=Lib.indexByte_ge l 10;by_cases hm:Lib.indexByte l 10 = -1
   ·cases l with
    |nil=>rw[Bm,if_neg hb];rfl
    |cons c r=>rw[Bm,if_neg hb,JY (c::r) (by simp) hm]
   ·rw[if_neg (by rw[beq_iff_eq];exact hm)]at h;omega
theorem Ls:∀ (l:List UInt8) (i:Nat),Lib.indexByte l 10=i→Bm l=l.take (i+1)::Bm (l.drop (i+1))
 |[],i,h=>by simp[Lib.indexByte]at h
 |b::l,i,h=>by
  unfold Lib.indexByte at h;by_cases hb:b=10
  ·subst hb;simp at h;obtain rfl:i=0:=by omega
   rw[Bm,if_pos rfl];rfl
  ·have hb':(b==10)=false:=Bq hb;rw[hb']at h;simp only[Bool.false_eq_true,if_false]at h;have hge:=Lib.indexByte_ge l 10;by_cases hm:Lib.indexByte l 10 = -1
   ·rw[hm]at h;simp at h
   ·rw[if_neg (by rw[beq_iff_eq];exact hm)]at h;obtain⟨j,rfl⟩:∃ j,i=j+1:=⟨i-1,by omega⟩
    rw[Bm,if_neg hb,Ls l j (by omega)];simp
theorem II:∀ (l:List UInt8) (i:Nat),Lib.indexByte l 10=i→i<l.length
 |[],i,h=>by simp[Lib.indexByte]at h
 |b::l,i,h=>by
  unfold Lib.indexByte at h;by_cases hb:(b==10)=true
  ·rw[if_pos hb]at h;simp;omega
  ·rw[if_neg hb]at h;have hge:=Lib.indexByte_ge l 10;by_cases hm:Lib.indexByte l 10 = -1
   ·rw[hm]at h;simp at h
   ·rw[if_neg (by rw[beq_iff_eq];exact hm)]at h;have:=II l (i-1) (by omega);simp;omega
def NR(c:Nat)(W:World):Nat:=match W.cell? ⟨c,0,none⟩ with
 |some (.string s)=>s.size
 |_=>0
theorem GA{c:Nat}{W:World}{l:List UInt8}(h:W.cell? ⟨c,0,none⟩=some (.string ⟨l.toArray⟩)):NR c W=l.length:=by
 unfold NR;rw[h];simp[ByteArray.size]
theorem Qo(n:Nat)(t:List UInt8)(c:Nat)(w:World)(ht:t.length≤1000000)(hc:w.heap[c]?=some (.cells #[.string ⟨t.toArray⟩] 9 (0,0))) :
  OL Fence.wide n Tryz.prog 75 #[.pointer (some ⟨c,0,none⟩)] (fun x:List UInt8=>Value.string ⟨x.toArray⟩) c (fun xs=>xs=Bm t) (fun pre=>∃ rest,Bm t=pre++rest) w:=by
 intro l J Jx W hW hJ hJx hY h0;have hcW:W.heap[c]?=some (.cells #[.string ⟨t.toArray⟩] 9 (0,0)):=Bk hW hc;refine callsIn_of_wp Tryz.func75 rfl trivial ?_ rfl;simp only[Tryz.ntmps75,List.size_toArray,List.length_cons,List.length_nil,Nat.reduceAdd,Nat.reduceSub,Array.replicate_succ,Array.replicate_zero,List.push_toArray,List.append_toArray,List.nil_append,List.cons_append]
 gi_wp2
 gi_loopw [3,4] (fun v3 v4 wr=>∃ (pre:List (List UInt8)) (rest:List UInt8),Bm t=pre++Bm rest∧rest.length≤1000000∧wr.heap[c]?=some (.cells #[.string ⟨rest.toArray⟩] 9 (0,0))∧J pre wr)
  (fun _ _ wr=>NR c wr)
 case atStart=>exact⟨[],t,rfl,ht,hcW,h0⟩
 case round =>
  obtain⟨pre,rest,hp,hr,hcr,hJr⟩:=hrel;have c0:wr.cell? ⟨c,0,none⟩=some (.string ⟨rest.toArray⟩):=(Bc hcr 0).trans rfl;have f0:=Bf hcr 0;have z0:c<wr.heap.size:=Bl hcr;have C:=Az (Tryz.strings_IndexByte ⟨rest.toArray⟩ 10 wr);by_cases hn:rest=[]
  ·subst hn
   gi_wp2
   go_end0
   exact⟨⟨_,rfl⟩,.inl (by simpa [hp,Lr]using hJr)⟩
  ·have hpos:0<rest.length:=List.length_pos_iff.2 hn;have hsz:(⟨rest.toArray⟩:ByteArray).size=rest.length:=by simp[ByteArray.size]
   have hge:=Lib.indexByte_ge rest 10;by_cases hm:Lib.indexByte rest 10 = -1
   ·have hl:=JY rest hn hm;have C':=C.out;rw[show Lib.indexByte (⟨rest.toArray⟩:ByteArray).data.toList (10:Int).toNat.toUInt8 = -1 from hm]at C';replace C':=Az C';clear C;have hs':(wr.setCell ⟨c,0,none⟩ (.string ⟨#[]⟩)).heap[c]?=some (.cells #[.string ⟨#[]⟩] 9 (0,0)):=Bs hcr 0 (.string ⟨#[]⟩);obtain⟨fn,tmps,assign,body,hy,hR⟩:=hY pre rest (wr.setCell ⟨c,0,none⟩ (.string ⟨#[]⟩)) ⟨[],by rw[hp,hl,List.append_nil]⟩ (hJ.cell _ _ _ hJr)
    gi_wp2
    refine⟨trivial,fun h=>by simp[Fence.wide]at h,?_⟩;refine CallsIn.mono (callsIn_wide.2 C'.out) ?_;rintro e w' ⟨rfl,rfl⟩
    gi_wp2
    refine⟨fun h=>by simp[Fence.wide]at h,hR.mono ?_⟩;rintro e W3 (⟨rfl,hJ3,hk3⟩ |⟨rfl,hJx3⟩)
    ·gi_wp2
     go_roundw
     case rel=>exact⟨pre++[rest],[],by rw[hp,hl,Lr,List.append_nil],by simp,hk3.trans hs',hJ3⟩
     case measure=>rw[GA (l:=[]) ((Bc (hk3.trans hs') 0).trans rfl),GA c0];exact hpos
    ·gi_wp2
     refine bodyPost_ret (results_none rfl _ _ _) rfl ?_;exact⟨⟨_,rfl⟩,.inr ⟨pre++[rest],⟨[],by rw[hp,hl,List.append_nil]⟩,hJx3⟩⟩
   ·obtain⟨i,hi⟩:∃ i:Nat,Lib.indexByte rest 10=i:=⟨(Lib.indexByte rest 10).toNat,by omega⟩
    have hl:=Ls rest i hi;have hlt:=II rest i hi;have C':=C.out;rw[show Lib.indexByte (⟨rest.toArray⟩:ByteArray).data.toList (10:Int).toNat.toUInt8=i from hi]at C';replace C':=Az C';clear C;have hw1:IntKind.i64.wrap ((i:Int)+1)=(i:Int)+1:=by rw[IntKind.wrap_i64];omega
    have et:(⟨rest.toArray⟩:ByteArray).extract 0 (i+1)=⟨(rest.take (i+1)).toArray⟩:=by rw[Ea];simp
    have ed:(⟨rest.toArray⟩:ByteArray).extract (i+1) rest.length=⟨(rest.drop (i+1)).toArray⟩:=by rw[Ea,List.take_of_length_le (by rw[List.length_drop];omega)]
    gi_wp2
    refine⟨trivial,fun h=>by simp[Fence.wide]at h,?_⟩;refine CallsIn.mono (callsIn_wide.2 C'.out) ?_;rintro e w' ⟨rfl,rfl⟩
    gi_wp2
    gi_region
    have hs':((w'.setCell ⟨c,0,none⟩ (.string ⟨(rest.drop (i+1)).toArray⟩)).drew).heap[c]?=some (.cells #[.string ⟨(rest.drop (i+1)).toArray⟩] 9 (0,0)):=Be (Bs hcr 0 (.string ⟨(rest.drop (i+1)).toArray⟩));obtain⟨fn,tmps,assign,body,hy,hR⟩:=hY pre (rest.take (i+1)) ((w'.setCell ⟨c,0,none⟩ (.string ⟨(rest.drop (i+1)).toArray⟩)).drew) ⟨Bm (rest.drop (i+1)),by rw[hp,hl];simp⟩ (hJ.below _ _ _ (hJ.cell _ _ _ hJr) (Bd (Below.refl _ _)))
    gi_wp2
    refine⟨fun h=>by simp[Fence.wide]at h,hR.mono ?_⟩;rintro e W3 (⟨rfl,hJ3,hk3⟩ |⟨rfl,hJx3⟩)
    ·gi_wp2
     go_roundw
     case rel=>exact⟨pre++[rest.take (i+1)],rest.drop (i+1),by rw[hp,hl];simp,by rw[List.length_drop];omega,hk3.trans hs',hJ3⟩
     case measure=>rw[GA (l:=rest.drop (i+1)) ((Bc (hk3.trans hs') 0).trans rfl),GA c0,List.length_drop];omega
    ·gi_wp2
     refine bodyPost_ret (results_none rfl _ _ _) rfl ?_;exact⟨⟨_,rfl⟩,.inr ⟨pre++[rest.take (i+1)],⟨Bm (rest.drop (i+1)),by rw[hp,hl];simp⟩,hJx3⟩⟩
end
section
open Go.RowKit Go.Proofs.YtnmahobjmpdkdaaGreatDoorW.PrintWords
theorem Sn(l:List UInt8)(i:Nat)(hi:i<l.length)(W:World):(Instr.index 9 (.string ⟨l.toArray⟩) (.int .i64 (i:Int))).run Tryz.prog W=.ok (.int .u8 ((l.getD i 0).toNat:Int)) W:=by
 rw[run_index_string W 9 _ .i64 i Tryz.underlying9,dif_pos ⟨by omega,by simp[ByteArray.size];omega⟩];have:(⟨l.toArray⟩:ByteArray)[(i:Int).toNat]'(by simp[ByteArray.size];omega)=l.getD i 0:=by
  simp[List.getD_eq_getElem?_getD,List.getElem?_eq_getElem hi];rfl
 rw[this]
theorem Kj(l:List UInt8)(w:World)(hl:l.length≤1000000):Calls Tryz.prog 58 #[.string ⟨l.toArray⟩] w fun e w'=>e=.returned (.bool (Cp l))∧Below w.heap.size w w':=by
 obtain⟨r,hr⟩:∃ r,Cp l=r:=⟨_,rfl⟩
 rw[hr];have hsz:(⟨l.toArray⟩:ByteArray).size=l.length:=by simp[ByteArray.size]
 replace hr:=Az hr;go_enter Tryz.func58,Tryz.ntmps58;by_cases h1:l.length<1
 ·obtain rfl:r=false:=by rw[←hr.out,Cp,decide_eq_false (by omega)];rfl
  have i1:(l.length:Int)<1:=by omega
  clear h1;go_wp2;go_ret;exact⟨rfl,Below.refl _ _⟩
 have i1:¬(l.length:Int)<1:=by omega
 by_cases h2:16<l.length
 ·obtain rfl:r=false:=by rw[←hr.out,Cp,decide_eq_false (by omega)];rfl
  have i2:(16:Int)<(l.length:Int):=by omega
  clear h1 h2;go_wp2;go_ret;exact⟨rfl,Below.refl _ _⟩
 have i2:¬(16:Int)<(l.length:Int):=by omega
 have hx0:∀ W,(Instr.index 9 (.string ⟨l.toArray⟩) (.int .i64 0)).run Tryz.prog W=.ok (.int .u8 ((l.getD 0 0).toNat:Int)) W:=fun W=>Sn l 0 (by omega) W
 have hlow0:EN (l.getD 0 0)=decide (97≤(l.getD 0 0).toNat∧(l.getD 0 0).toNat≤122):=rfl;have hbad0:EN (l.getD 0 0)=false→r=false:=fun h=>by rw[←hr.out];exact Lt (by omega) h
 have hgood0:EN (l.getD 0 0)=true→Tk l 0∧EN (l.getD 0 0)=true:=fun h=>⟨⟨fun j hj=>by omega,fun h=>by omega⟩,h⟩
 rw[hlow0]at hbad0;obtain⟨b0,hb0⟩:∃ b,(l.getD 0 0).toNat=b:=⟨_,rfl⟩
 rw[hb0]at hx0 hbad0;by_cases c1:b0<97
 ·obtain rfl:r=false:=hbad0 (decide_eq_false (by omega));have r1:decide ((b0:Int)<97)=true:=decide_eq_true (by omega);clear hbad0 hgood0 hlow0 hb0;go_wp2;go_ret;exact⟨rfl,Below.refl _ _⟩
 have r1:decide ((b0:Int)<97)=false:=decide_eq_false (by omega);by_cases c2:122<b0
 ·obtain rfl:r=false:=hbad0 (decide_eq_false (by omega));have r2:decide (122<(b0:Int))=true:=decide_eq_true (by omega);clear hbad0 hgood0 hlow0 hb0;go_wp2;go_ret;exact⟨rfl,Below.refl _ _⟩
 have r2:decide (122<(b0:Int))=false:=decide_eq_false (by omega);have hl0:EN (l.getD 0 0)=true:=by rw[hlow0,hb0,decide_eq_true (by omega)]
 clear hbad0 hgood0 hlow0 hb0;replace hl0:=Az hl0;replace h1:=Az h1;replace h2:=Az h2;go_wp2_with fail
 go_loopw [3] (fun v3 wr=>∃ pos:Nat,v3=.int .i64 (pos:Int)∧pos≤l.length∧wr=w∧Af (Tk l pos)) (fun v3 _=>l.length-(intOf v3).toNat)
 case atStart=>exact⟨0,rfl,Nat.zero_le _,rfl,⟨fun j hj=>by omega,fun h=>by omega⟩⟩
 case round =>
  obtain⟨pos,rfl,hp,rfl,hok⟩:=hrel;clear hx0 r1 r2 i1 i2 c1 c2;by_cases hlt:pos<l.length
  ·have hx:=fun W=>Sn l pos hlt W
   have k0:(0:Int)≤(pos:Int):=by omega
   have k1:(pos:Int)<(l.length:Int):=by omega
   have kw:IntKind.i64.wrap ((pos:Int)+1)=(pos:Int)+1:=by rw[IntKind.wrap_i64];omega
   have hlow:EN (l.getD pos 0)=decide (97≤(l.getD pos 0).toNat∧(l.getD pos 0).toNat≤122):=rfl;have hdig:M1 (l.getD pos 0)=decide (48≤(l.getD pos 0).toNat∧(l.getD pos 0).toNat≤57):=rfl;have hstep:=fun h=>MY (l:=l) hok.out h (fun _=>hl0.out)
   have hbad:=fun h=>hr.out.symm.trans (Jw (l:=l) hlt h)
   rw[hlow,hdig]at hstep hbad;generalize (l.getD pos 0).toNat=b at hx hstep hbad;clear hlow hdig hok;by_cases c1:97≤b∧b≤122
   ·have r1:decide ((97:Int)≤(b:Int))=true:=decide_eq_true (by omega);have r2:decide ((b:Int)≤122)=true:=decide_eq_true (by omega);have hok':=Az (hstep (by rw[decide_eq_true c1];rfl));clear hstep hbad c1;go_wp2;go_roundw
    case rel=>exact⟨pos+1,by go_num,by omega,trivial,hok'⟩
    case measure=>simp[intOf];omega
   by_cases c2:48≤b∧b≤57
   ·have r1:decide ((97:Int)≤(b:Int))=false:=decide_eq_false (by omega);have r3:decide ((48:Int)≤(b:Int))=true:=decide_eq_true (by omega);have r4:decide ((b:Int)≤57)=true:=decide_eq_true (by omega);have hok':=Az (hstep (by rw[decide_eq_true c2];simp));clear hstep hbad c1 c2;go_wp2;go_roundw
    case rel=>exact⟨pos+1,by go_num,by omega,trivial,hok'⟩
    case measure=>simp[intOf];omega
   obtain rfl:r=false:=hbad (by rw[decide_eq_false c1,decide_eq_false c2];rfl);clear hstep hbad;by_cases d1:97≤b
   ·have r1:decide ((97:Int)≤(b:Int))=true:=decide_eq_true (by omega);have r2:decide ((b:Int)≤122)=false:=decide_eq_false (by omega);have r3:decide ((48:Int)≤(b:Int))=true:=decide_eq_true (by omega);have r4:decide ((b:Int)≤57)=false:=decide_eq_false (by omega);clear c1 c2 d1;go_wp2;go_ret;exact⟨rfl,Below.refl _ _⟩
   have r1:decide ((97:Int)≤(b:Int))=false:=decide_eq_false (by omega);by_cases d2:48≤b
   ·have r3:decide ((48:Int)≤(b:Int))=true:=decide_eq_true (by omega);have r4:decide ((b:Int)≤57)=false:=decide_eq_false (by omega);clear c1 c2 d1 d2;go_wp2;go_ret;exact⟨rfl,Below.refl _ _⟩
   have r3:decide ((48:Int)≤(b:Int))=false:=decide_eq_false (by omega);clear c1 c2 d1 d2;go_wp2;go_ret;exact⟨rfl,Below.refl _ _⟩
  ·obtain rfl:pos=l.length:=by omega
   have n1:¬(l.length:Int)<(l.length:Int):=by omega
   obtain⟨g1,g2⟩:=Pt hok.out (by have:=h1.out;omega);obtain rfl:r=true:=by rw[←hr.out,Cp,decide_eq_true ⟨by have:=h1.out;omega,by have:=h2.out;omega⟩,g1,g2];rfl
   go_wp2;go_ret;exact⟨rfl,Below.refl _ _⟩
end
end Go.Proofs.YtnmahobjmpdkdaaGreatDoor

/- Parts: AsmPlace, LateKit, WTab, AsmDig, RefName7. -/
import Derived.Test.YtjjpiefgdggghaaGreatDoorZ02
import Derived.Test.YtjjpiefgdggghaaGreatDoorZ05
import Derived.Deep.RegionHeld3
import Derived.Test.YtjjpiefgdggghaaGreatDoorZ04
import Derived.Test.YtjjpiefgdggghaaGreatDoorZ09
import Derived.Test.YtjjpiefgdggghaaGreatDoorZ01
import Derived.Test.YtjjpiefgdggghaaGreatDoorProg
set_option linter.unusedVariables false
set_option linter.unusedSimpArgs false
set_option maxRecDepth 100000
set_option maxHeartbeats 40000000
namespace Go.Proofs.YtjjpiefgdggghaaGreatDoor
section
open Go.RowKit Go.Maps Go.Proofs.YtjjpiefgdggghaaGreatDoorW.PrintWords
theorem Ac{α:Type}{l:List α}{i:Nat}{o:α}(h:l[i]?=some o):l.toArray[i]?=some o:=by simpa using h
theorem EJ(gx bm n c:Nat)(A:Option Addr)(v1 v2:Value)(L:List (List UInt8×Nat))(s:List UInt8)(hs:s.length≤1000000)(w:World)
  (hx:w.heap[gx]?=some (.cells #[.slice A n c,v1,v2,.map (some bm)] 121 (0,0)))(hL:DU w bm L) :
  Calls Tryz.prog 68 #[.pointer (some ⟨gx,0,none⟩),.string ⟨s.toArray⟩] w fun e w' =>
   e=.returned (.tuple #[.int .i64 ((CZ L s).getD 0:Nat),.bool ((CZ L s).isSome&&decide (((CZ L s).getD 0:Nat)<n))])∧Below w.heap.size w w':=by
 have c0:w.cell? ⟨gx,0,none⟩=some (.slice A n c):=(Bc hx 0).trans rfl;have c3:w.cell? ⟨gx,3,none⟩=some (.map (some bm)):=(Bc hx 3).trans rfl;have hS:w.drew.cell? ⟨gx,0,none⟩=some (.slice A n c):=c0;replace hL:=Az hL;obtain⟨p,hp⟩:∃ p,(CZ L s).getD 0=p:=⟨_,rfl⟩
 obtain⟨b,hb⟩:∃ b,(CZ L s).isSome=b:=⟨_,rfl⟩
 rw[hp,hb];go_enter Tryz.func68,Tryz.ntmps68;go_wp2_with (refine GR rfl (.tmp 12) (.tmp 13) rfl bm L rfl hL.out s hs rfl ?_)
 clear hp hb hL hx;cases b with
 |true =>
  by_cases hlt:p<n
  ·have h1:decide ((p:Int)<(n:Int))=true:=decide_eq_true (by omega);go_wp2_with fail
   refine wp_region_held_drew (S:=(fun W=>W.cell? ⟨gx,0,none⟩=some (.slice A n c))) (by kernel_rfl) hS (fun hHeld0=>?_);refine wpAnyH_take (i:=0) (oi:=?oia0) (v:=?va0) ?hia0 ?hsa0 ?hfa0 ?hra0 ?hQa0 ?hya0 ?hSa0 ?_;case hia0=>refine Ac ?_;rfl
   case hsa0=>kernel_rfl
   case hfa0=>kernel_rfl
   case hra0=>kernel_rfl
   case hQa0=>exact fun _ _ _ h=>h
   case hya0=>(refine Or.inl ⟨by rfl,?_⟩;intro w hSw;go_simp;try with_reducible rfl)
   case hSa0=>assumption
   try simp only[Act.put,Sa,Sb,Sc]
   refine wpAnyH_take (i:=1) (oi:=?oia1) (v:=?va1) ?hia1 ?hsa1 ?hfa1 ?hra1 ?hQa1 ?hya1 ?hSa1 ?_;case hia1=>refine Ac ?_;rfl
   case hsa1=>kernel_rfl
   case hfa1=>kernel_rfl
   case hra1=>kernel_rfl
   case hQa1=>exact fun _ _ _ h=>h
   case hya1=>(refine Or.inl ⟨by rfl,?_⟩;intro w hSw;go_simp;try with_reducible rfl)
   case hSa1=>assumption
   try simp only[Act.put,Sa,Sb,Sc]
   refine wpAnyH_take (i:=2) (oi:=?oia2) (v:=?va2) ?hia2 ?hsa2 ?hfa2 ?hra2 ?hQa2 ?hya2 ?hSa2 ?_;case hia2=>refine Ac ?_;rfl
   case hsa2=>kernel_rfl
   case hfa2=>kernel_rfl
   case hra2=>kernel_rfl
   case hQa2=>exact fun _ _ _ h=>h
   case hya2=>(refine Or.inl ⟨by rfl,?_⟩;intro w hSw;go_simp;try with_reducible rfl)
   case hSa2=>assumption
   try simp only[Act.put,Sa,Sb,Sc]
   refine wpAnyH_take (i:=3) (oi:=?oia3) (v:=?va3) ?hia3 ?hsa3 ?hfa3 ?hra3 ?hQa3 ?hya3 ?hSa3 ?_;case hia3=>refine Ac ?_;rfl
   case hsa3=>kernel_rfl
   case hfa3=>kernel_rfl
   case hra3=>kernel_rfl
   case hQa3=>exact fun _ _ _ h=>h
   case hya3=>(refine Or.inl ⟨by rfl,?_⟩;intro w hSw;go_simp;try with_reducible rfl)
   case hSa3=>assumption
   try simp only[Act.put,Sa,Sb,Sc]
   refine wpAnyH_take (i:=4) (oi:=?oia4) (v:=?va4) ?hia4 ?hsa4 ?hfa4 ?hra4 ?hQa4 ?hya4 ?hSa4 ?_;case hia4=>refine Ac ?_;rfl
   case hsa4=>kernel_rfl
   case hfa4=>kernel_rfl
   case hra4=>kernel_rfl
   case hQa4=>exact fun _ _ _ h=>h
   case hya4=>(refine Or.inl ⟨by rfl,?_⟩;intro w hSw;go_simp;try with_reducible rfl)
   case hSa4=>assumption
   try simp only[Act.put,Sa,Sb,Sc]
   refine wpAnyH_take (i:=5) (oi:=?oia5) (v:=?va5) ?hia5 ?hsa5 ?hfa5 ?hra5 ?hQa5 ?hya5 ?hSa5 ?_;case hia5=>refine Ac ?_;rfl
   case hsa5=>kernel_rfl
   case hfa5=>kernel_rfl
   case hra5=>kernel_rfl
   case hQa5=>exact fun _ _ _ h=>h
   case hya5=>(refine Or.inl ⟨by rfl,?_⟩;intro w hSw;go_simp;try with_reducible rfl)
   case hSa5=>assumption
   try simp only[Act.put,Sa,Sb,Sc]
   refine wpAnyH_take (i:=6) (oi:=?oia6) (v:=?va6) ?hia6 ?hsa6 ?hfa6 ?hra6 ?hQa6 ?hya6 ?hSa6 ?_;case hia6=>refine Ac ?_;rfl
   case hsa6=>kernel_rfl
   case hfa6=>kernel_rfl
   case hra6=>kernel_rfl
   case hQa6=>exact fun _ _ _ h=>h
   case hya6=>(refine Or.inl ⟨by rfl,?_⟩;intro w hSw;go_simp;try with_reducible rfl)
   case hSa6=>assumption
   try simp only[Act.put,Sa,Sb,Sc]
   refine wpAnyH_take (i:=7) (oi:=?oia7) (v:=?va7) ?hia7 ?hsa7 ?hfa7 ?hra7 ?hQa7 ?hya7 ?hSa7 ?_;case hia7=>refine Ac ?_;rfl
   case hsa7=>kernel_rfl
   case hfa7=>kernel_rfl
   case hra7=>kernel_rfl
   case hQa7=>exact fun _ _ _ h=>h
   case hya7=>(refine Or.inl ⟨by rfl,?_⟩;intro w hSw;go_simp;try with_reducible rfl)
   case hSa7=>assumption
   try simp only[Act.put,Sa,Sb,Sc]
   refine wpAnyH_take (i:=8) (oi:=?oia8) (v:=?va8) ?hia8 ?hsa8 ?hfa8 ?hra8 ?hQa8 ?hya8 ?hSa8 ?_;case hia8=>refine Ac ?_;rfl
   case hsa8=>kernel_rfl
   case hfa8=>kernel_rfl
   case hra8=>kernel_rfl
   case hQa8=>exact fun _ _ _ h=>h
   case hya8=>(refine Or.inl ⟨by rfl,?_⟩;intro w hSw;go_simp;try with_reducible rfl)
   case hSa8=>assumption
   try simp only[Act.put,Sa,Sb,Sc]
   refine wpAnyH_take (i:=9) (oi:=?oia9) (v:=?va9) ?hia9 ?hsa9 ?hfa9 ?hra9 ?hQa9 ?hya9 ?hSa9 ?_;case hia9=>refine Ac ?_;rfl
   case hsa9=>kernel_rfl
   case hfa9=>kernel_rfl
   case hra9=>kernel_rfl
   case hQa9=>exact fun _ _ _ h=>h
   case hya9=>(refine Or.inl ⟨by rfl,?_⟩;intro w hSw;go_simp;try with_reducible rfl)
   case hSa9=>assumption
   try simp only[Act.put,Sa,Sb,Sc]
   refine wpAnyH_take (i:=10) (oi:=?oia10) (v:=?va10) ?hia10 ?hsa10 ?hfa10 ?hra10 ?hQa10 ?hya10 ?hSa10 ?_;case hia10=>refine Ac ?_;rfl
   case hsa10=>kernel_rfl
   case hfa10=>kernel_rfl
   case hra10=>kernel_rfl
   case hQa10=>exact fun _ _ _ h=>h
   case hya10=>(refine Or.inl ⟨by rfl,?_⟩;intro w hSw;go_simp;try with_reducible rfl)
   case hSa10=>assumption
   try simp only[Act.put,Sa,Sb,Sc]
   refine wpAnyH_take (i:=11) (oi:=?oia11) (v:=?va11) ?hia11 ?hsa11 ?hfa11 ?hra11 ?hQa11 ?hya11 ?hSa11 ?_;case hia11=>refine Ac ?_;rfl
   case hsa11=>kernel_rfl
   case hfa11=>kernel_rfl
   case hra11=>kernel_rfl
   case hQa11=>exact fun _ _ _ h=>h
   case hya11=>(refine Or.inl ⟨by rfl,?_⟩;intro w hSw;go_simp;try with_reducible rfl)
   case hSa11=>assumption
   try simp only[Act.put,Sa,Sb,Sc]
   refine wpAnyH_take (i:=12) (oi:=?oia12) (v:=?va12) ?hia12 ?hsa12 ?hfa12 ?hra12 ?hQa12 ?hya12 ?hSa12 ?_;case hia12=>refine Ac ?_;rfl
   case hsa12=>kernel_rfl
   case hfa12=>kernel_rfl
   case hra12=>kernel_rfl
   case hQa12=>exact fun _ _ _ h=>h
   case hya12=>(refine Or.inl ⟨by rfl,?_⟩;intro w hSw;go_simp;try with_reducible rfl)
   case hSa12=>assumption
   try simp only[Act.put,Sa,Sb,Sc]
   refine wpAnyH_done (by kernel_rfl) ?_ _;go_wp2;go_ret2
   exact⟨by simp[hlt],Bd (Below.refl _ _)⟩
  ·have h1:decide ((p:Int)<(n:Int))=false:=decide_eq_false (by omega);go_wp2_with fail
   refine wp_region_held_drew (S:=(fun W=>W.cell? ⟨gx,0,none⟩=some (.slice A n c))) (by kernel_rfl) hS (fun hHeld0=>?_);refine wpAnyH_take (i:=0) (oi:=?oib0) (v:=?vb0) ?hib0 ?hsb0 ?hfb0 ?hrb0 ?hQb0 ?hyb0 ?hSb0 ?_;case hib0=>refine Ac ?_;rfl
   case hsb0=>kernel_rfl
   case hfb0=>kernel_rfl
   case hrb0=>kernel_rfl
   case hQb0=>exact fun _ _ _ h=>h
   case hyb0=>(refine Or.inl ⟨by rfl,?_⟩;intro w hSw;go_simp;try with_reducible rfl)
   case hSb0=>assumption
   try simp only[Act.put,Sa,Sb,Sc]
   refine wpAnyH_take (i:=1) (oi:=?oib1) (v:=?vb1) ?hib1 ?hsb1 ?hfb1 ?hrb1 ?hQb1 ?hyb1 ?hSb1 ?_;case hib1=>refine Ac ?_;rfl
   case hsb1=>kernel_rfl
   case hfb1=>kernel_rfl
   case hrb1=>kernel_rfl
   case hQb1=>exact fun _ _ _ h=>h
   case hyb1=>(refine Or.inl ⟨by rfl,?_⟩;intro w hSw;go_simp;try with_reducible rfl)
   case hSb1=>assumption
   try simp only[Act.put,Sa,Sb,Sc]
   refine wpAnyH_take (i:=2) (oi:=?oib2) (v:=?vb2) ?hib2 ?hsb2 ?hfb2 ?hrb2 ?hQb2 ?hyb2 ?hSb2 ?_;case hib2=>refine Ac ?_;rfl
   case hsb2=>kernel_rfl
   case hfb2=>kernel_rfl
   case hrb2=>kernel_rfl
   case hQb2=>exact fun _ _ _ h=>h
   case hyb2=>(refine Or.inl ⟨by rfl,?_⟩;intro w hSw;go_simp;try with_reducible rfl)
   case hSb2=>assumption
   try simp only[Act.put,Sa,Sb,Sc]
   refine wpAnyH_take (i:=3) (oi:=?oib3) (v:=?vb3) ?hib3 ?hsb3 ?hfb3 ?hrb3 ?hQb3 ?hyb3 ?hSb3 ?_;case hib3=>refine Ac ?_;rfl
   case hsb3=>kernel_rfl
   case hfb3=>kernel_rfl
   case hrb3=>kernel_rfl
   case hQb3=>exact fun _ _ _ h=>h
   case hyb3=>(refine Or.inl ⟨by rfl,?_⟩;intro w hSw;go_simp;try with_reducible rfl)
   case hSb3=>assumption
   try simp only[Act.put,Sa,Sb,Sc]
   refine wpAnyH_take (i:=4) (oi:=?oib4) (v:=?vb4) ?hib4 ?hsb4 ?hfb4 ?hrb4 ?hQb4 ?hyb4 ?hSb4 ?_;case hib4=>refine Ac ?_;rfl
   case hsb4=>kernel_rfl
   case hfb4=>kernel_rfl
   case hrb4=>kernel_rfl
   case hQb4=>exact fun _ _ _ h=>h
   case hyb4=>(refine Or.inl ⟨by rfl,?_⟩;intro w hSw;go_simp;try with_reducible rfl)
   case hSb4=>assumption
   try simp only[Act.put,Sa,Sb,Sc]
   refine wpAnyH_take (i:=5) (oi:=?oib5) (v:=?vb5) ?hib5 ?hsb5 ?hfb5 ?hrb5 ?hQb5 ?hyb5 ?hSb5 ?_;case hib5=>refine Ac ?_;rfl
   case hsb5=>kernel_rfl
   case hfb5=>kernel_rfl
   case hrb5=>kernel_rfl
   case hQb5=>exact fun _ _ _ h=>h
   case hyb5=>(refine Or.inl ⟨by rfl,?_⟩;intro w hSw;go_simp;try with_reducible rfl)
   case hSb5=>assumption
   try simp only[Act.put,Sa,Sb,Sc]
   refine wpAnyH_take (i:=6) (oi:=?oib6) (v:=?vb6) ?hib6 ?hsb6 ?hfb6 ?hrb6 ?hQb6 ?hyb6 ?hSb6 ?_;case hib6=>refine Ac ?_;rfl
   case hsb6=>kernel_rfl
   case hfb6=>kernel_rfl
   case hrb6=>kernel_rfl
   case hQb6=>exact fun _ _ _ h=>h
   case hyb6=>(refine Or.inl ⟨by rfl,?_⟩;intro w hSw;go_simp;try with_reducible rfl)
   case hSb6=>assumption
   try simp only[Act.put,Sa,Sb,Sc]
   refine wpAnyH_take (i:=7) (oi:=?oib7) (v:=?vb7) ?hib7 ?hsb7 ?hfb7 ?hrb7 ?hQb7 ?hyb7 ?hSb7 ?_;case hib7=>refine Ac ?_;rfl
   case hsb7=>kernel_rfl
   case hfb7=>kernel_rfl
   case hrb7=>kernel_rfl
   case hQb7=>exact fun _ _ _ h=>h
   case hyb7=>(refine Or.inl ⟨by rfl,?_⟩;intro w hSw;go_simp;try with_reducible rfl)
   case hSb7=>assumption
   try simp only[Act.put,Sa,Sb,Sc]
   refine wpAnyH_take (i:=8) (oi:=?oib8) (v:=?vb8) ?hib8 ?hsb8 ?hfb8 ?hrb8 ?hQb8 ?hyb8 ?hSb8 ?_;case hib8=>refine Ac ?_;rfl
   case hsb8=>kernel_rfl
   case hfb8=>kernel_rfl
   case hrb8=>kernel_rfl
   case hQb8=>exact fun _ _ _ h=>h
   case hyb8=>(refine Or.inl ⟨by rfl,?_⟩;intro w hSw;go_simp;try with_reducible rfl)
   case hSb8=>assumption
   try simp only[Act.put,Sa,Sb,Sc]
   refine wpAnyH_take (i:=9) (oi:=?oib9) (v:=?vb9) ?hib9 ?hsb9 ?hfb9 ?hrb9 ?hQb9 ?hyb9 ?hSb9 ?_;case hib9=>refine Ac ?_;rfl
   case hsb9=>kernel_rfl
   case hfb9=>kernel_rfl
   case hrb9=>kernel_rfl
   case hQb9=>exact fun _ _ _ h=>h
   case hyb9=>(refine Or.inl ⟨by rfl,?_⟩;intro w hSw;go_simp;try with_reducible rfl)
   case hSb9=>assumption
   try simp only[Act.put,Sa,Sb,Sc]
   refine wpAnyH_take (i:=10) (oi:=?oib10) (v:=?vb10) ?hib10 ?hsb10 ?hfb10 ?hrb10 ?hQb10 ?hyb10 ?hSb10 ?_;case hib10=>refine Ac ?_;rfl
   case hsb10=>kernel_rfl
   case hfb10=>kernel_rfl
   case hrb10=>kernel_rfl
   case hQb10=>exact fun _ _ _ h=>h
   case hyb10=>(refine Or.inl ⟨by rfl,?_⟩;intro w hSw;go_simp;try with_reducible rfl)
   case hSb10=>assumption
   try simp only[Act.put,Sa,Sb,Sc]
   refine wpAnyH_take (i:=11) (oi:=?oib11) (v:=?vb11) ?hib11 ?hsb11 ?hfb11 ?hrb11 ?hQb11 ?hyb11 ?hSb11 ?_;case hib11=>refine Ac ?_;rfl
   case hsb11=>kernel_rfl
   case hfb11=>kernel_rfl
   case hrb11=>kernel_rfl
   case hQb11=>exact fun _ _ _ h=>h
   case hyb11=>(refine Or.inl ⟨by rfl,?_⟩;intro w hSw;go_simp;try with_reducible rfl)
   case hSb11=>assumption
   try simp only[Act.put,Sa,Sb,Sc]
   refine wpAnyH_take (i:=12) (oi:=?oib12) (v:=?vb12) ?hib12 ?hsb12 ?hfb12 ?hrb12 ?hQb12 ?hyb12 ?hSb12 ?_;case hib12=>refine Ac ?_;rfl
   case hsb12=>kernel_rfl
   case hfb12=>kernel_rfl
   case hrb12=>kernel_rfl
   case hQb12=>exact fun _ _ _ h=>h
   case hyb12=>(refine Or.inl ⟨by rfl,?_⟩;intro w hSw;go_simp;try with_reducible rfl)
   case hSb12=>assumption
   try simp only[Act.put,Sa,Sb,Sc]
   refine wpAnyH_done (by kernel_rfl) ?_ _;go_wp2;go_ret2
   exact⟨by simp[hlt],Bd (Below.refl _ _)⟩
 |false =>
  go_wp2_with fail
  refine wp_region_held_drew (S:=(fun W=>W.cell? ⟨gx,0,none⟩=some (.slice A n c))) (by kernel_rfl) hS (fun hHeld0=>?_);refine wpAnyH_take (i:=0) (oi:=?oic0) (v:=?vc0) ?hic0 ?hsc0 ?hfc0 ?hrc0 ?hQc0 ?hyc0 ?hSc0 ?_;case hic0=>refine Ac ?_;rfl
  case hsc0=>kernel_rfl
  case hfc0=>kernel_rfl
  case hrc0=>kernel_rfl
  case hQc0=>exact fun _ _ _ h=>h
  case hyc0=>(refine Or.inl ⟨by rfl,?_⟩;intro w hSw;go_simp;try with_reducible rfl)
  case hSc0=>assumption
  try simp only[Act.put,Sa,Sb,Sc]
  refine wpAnyH_take (i:=1) (oi:=?oic1) (v:=?vc1) ?hic1 ?hsc1 ?hfc1 ?hrc1 ?hQc1 ?hyc1 ?hSc1 ?_;case hic1=>refine Ac ?_;rfl
  case hsc1=>kernel_rfl
  case hfc1=>kernel_rfl
  case hrc1=>kernel_rfl
  case hQc1=>exact fun _ _ _ h=>h
  case hyc1=>(refine Or.inl ⟨by rfl,?_⟩;intro w hSw;go_simp;try with_reducible rfl)
  case hSc1=>assumption
  try simp only[Act.put,Sa,Sb,Sc]
  refine wpAnyH_take (i:=2) (oi:=?oic2) (v:=?vc2) ?hic2 ?hsc2 ?hfc2 ?hrc2 ?hQc2 ?hyc2 ?hSc2 ?_;case hic2=>refine Ac ?_;rfl
  case hsc2=>kernel_rfl
  case hfc2=>kernel_rfl
  case hrc2=>kernel_rfl
  case hQc2=>exact fun _ _ _ h=>h
  case hyc2=>(refine Or.inl ⟨by rfl,?_⟩;intro w hSw;go_simp;try with_reducible rfl)
  case hSc2=>assumption
  try simp only[Act.put,Sa,Sb,Sc]
  refine wpAnyH_take (i:=3) (oi:=?oic3) (v:=undef) ?hic3 ?hsc3 ?hfc3 ?hrc3 ?hQc3 ?hyc3 ?hSc3 ?_;case hic3=>refine Ac ?_;rfl
  case hsc3=>kernel_rfl
  case hfc3=>kernel_rfl
  case hrc3=>kernel_rfl
  case hQc3=>exact fun _ _ _ h=>h
  case hyc3=>(refine Or.inr ⟨by rfl,by rfl⟩)
  case hSc3=>assumption
  try simp only[Act.put,Sa,Sb,Sc]
  refine wpAnyH_take (i:=4) (oi:=?oic4) (v:=undef) ?hic4 ?hsc4 ?hfc4 ?hrc4 ?hQc4 ?hyc4 ?hSc4 ?_;case hic4=>refine Ac ?_;rfl
  case hsc4=>kernel_rfl
  case hfc4=>kernel_rfl
  case hrc4=>kernel_rfl
  case hQc4=>exact fun _ _ _ h=>h
  case hyc4=>(refine Or.inr ⟨by rfl,by rfl⟩)
  case hSc4=>assumption
  try simp only[Act.put,Sa,Sb,Sc]
  refine wpAnyH_take (i:=5) (oi:=?oic5) (v:=undef) ?hic5 ?hsc5 ?hfc5 ?hrc5 ?hQc5 ?hyc5 ?hSc5 ?_;case hic5=>refine Ac ?_;rfl
  case hsc5=>kernel_rfl
  case hfc5=>kernel_rfl
  case hrc5=>kernel_rfl
  case hQc5=>exact fun _ _ _ h=>h
  case hyc5=>(refine Or.inr ⟨by rfl,by rfl⟩)
  case hSc5=>assumption
  try simp only[Act.put,Sa,Sb,Sc]
  refine wpAnyH_take (i:=6) (oi:=?oic6) (v:=undef) ?hic6 ?hsc6 ?hfc6 ?hrc6 ?hQc6 ?hyc6 ?hSc6 ?_;case hic6=>refine Ac ?_;rfl
  case hsc6=>kernel_rfl
  case hfc6=>kernel_rfl
  case hrc6=>kernel_rfl
  case hQc6=>exact fun _ _ _ h=>h
  case hyc6=>(refine Or.inr ⟨by rfl,by rfl⟩)
  case hSc6=>assumption
  try simp only[Act.put,Sa,Sb,Sc]
  refine wpAnyH_take (i:=7) (oi:=?oic7) (v:=undef) ?hic7 ?hsc7 ?hfc7 ?hrc7 ?hQc7 ?hyc7 ?hSc7 ?_;case hic7=>refine Ac ?_;rfl
  case hsc7=>kernel_rfl
  case hfc7=>kernel_rfl
  case hrc7=>kernel_rfl
  case hQc7=>exact fun _ _ _ h=>h
  case hyc7=>(refine Or.inr ⟨by rfl,by rfl⟩)
  case hSc7=>assumption
  try simp only[Act.put,Sa,Sb,Sc]
  refine wpAnyH_take (i:=8) (oi:=?oic8) (v:=undef) ?hic8 ?hsc8 ?hfc8 ?hrc8 ?hQc8 ?hyc8 ?hSc8 ?_;case hic8=>refine Ac ?_;rfl
  case hsc8=>kernel_rfl
  case hfc8=>kernel_rfl
  case hrc8=>kernel_rfl
  case hQc8=>exact fun _ _ _ h=>h
  case hyc8=>(refine Or.inr ⟨by rfl,by rfl⟩)
  case hSc8=>assumption
  try simp only[Act.put,Sa,Sb,Sc]
  refine wpAnyH_take (i:=9) (oi:=?oic9) (v:=undef) ?hic9 ?hsc9 ?hfc9 ?hrc9 ?hQc9 ?hyc9 ?hSc9 ?_;case hic9=>refine Ac ?_;rfl
  case hsc9=>kernel_rfl
  case hfc9=>kernel_rfl
  case hrc9=>kernel_rfl
  case hQc9=>exact fun _ _ _ h=>h
  case hyc9=>(refine Or.inr ⟨by rfl,by rfl⟩)
  case hSc9=>assumption
  try simp only[Act.put,Sa,Sb,Sc]
  refine wpAnyH_take (i:=10) (oi:=?oic10) (v:=?vc10) ?hic10 ?hsc10 ?hfc10 ?hrc10 ?hQc10 ?hyc10 ?hSc10 ?_;case hic10=>refine Ac ?_;rfl
  case hsc10=>kernel_rfl
  case hfc10=>kernel_rfl
  case hrc10=>kernel_rfl
  case hQc10=>exact fun _ _ _ h=>h
  case hyc10=>(refine Or.inl ⟨by rfl,?_⟩;intro w hSw;go_simp;try with_reducible rfl)
  case hSc10=>assumption
  try simp only[Act.put,Sa,Sb,Sc]
  refine wpAnyH_take (i:=11) (oi:=?oic11) (v:=?vc11) ?hic11 ?hsc11 ?hfc11 ?hrc11 ?hQc11 ?hyc11 ?hSc11 ?_;case hic11=>refine Ac ?_;rfl
  case hsc11=>kernel_rfl
  case hfc11=>kernel_rfl
  case hrc11=>kernel_rfl
  case hQc11=>exact fun _ _ _ h=>h
  case hyc11=>(refine Or.inl ⟨by rfl,?_⟩;intro w hSw;go_simp;try with_reducible rfl)
  case hSc11=>assumption
  try simp only[Act.put,Sa,Sb,Sc]
  refine wpAnyH_take (i:=12) (oi:=?oic12) (v:=?vc12) ?hic12 ?hsc12 ?hfc12 ?hrc12 ?hQc12 ?hyc12 ?hSc12 ?_;case hic12=>refine Ac ?_;rfl
  case hsc12=>kernel_rfl
  case hfc12=>kernel_rfl
  case hrc12=>kernel_rfl
  case hQc12=>exact fun _ _ _ h=>h
  case hyc12=>(refine Or.inl ⟨by rfl,?_⟩;intro w hSw;go_simp;try with_reducible rfl)
  case hSc12=>assumption
  try simp only[Act.put,Sa,Sb,Sc]
  refine wpAnyH_done (by kernel_rfl) ?_ _;go_wp2;go_ret2
  exact⟨by simp,Bd (Below.refl _ _)⟩
end
section
open Go.RowKit Go.Proofs.YtjjpiefgdggghaaGreatDoorW.PrintWords
section
variable {P:Program} {ops:List Oper} {Q:Exit→Act→World→Prop} {md:Region.Mode} {S:World→Prop} {D:List Nat}
theorem tY(i:Nat){oi:Oper}{v:Value}{fuel:Nat}{listed:Array Bool}{a a':Act}{w:World}(hS:Cw D listed=true→S w)(h:Cc P md ops.toArray Q S D fuel (listed.setIfInBounds i true) a' w)
  (hi:ops.toArray[i]?=some oi:=by exact Ac rfl)(hy:Yields P ops.toArray oi v a:=by(refine .inl ⟨by rfl,?_⟩);intro w;go_simp;try with_reducible rfl)
  (ha:a.put oi.dst v=a':=by first |(simp only[Act.put,Sa,Sb,Sc];exact rfl) |(simp only[Act.put,Sa,Sb,Sc];done) |exact rfl)
  (hs:(Region.noSelect ops.toArray&&Region.free md ops.toArray listed i&&(Region.ready md ops.toArray listed).contains i&&!D.contains i)=true:=by kernel_rfl)
  (hQ:∀ c a w,Q (.panic c) (a.put oi.dst v) w→Q (.panic c) a w:=by exact fun _ _ _ h=>h):Cc P md ops.toArray Q S D (fuel+1) listed a w:=by
 subst ha;exact Ax hi hs hQ hy hS h
theorem tL(i:Nat){oi:Oper}{v:Value}{fuel:Nat}{listed:Array Bool}{a a':Act}{w:World}(hS:S w)(h:Cc P md ops.toArray Q S D fuel (listed.setIfInBounds i true) a' w)
  (hi:ops.toArray[i]?=some oi:=by exact Ac rfl)(hy:YieldsIf P ops.toArray S oi v a:=by(refine .inl ⟨by rfl,?_⟩);intro w hSw;(repeat (rcases hSw with ⟨_,hSw⟩));go_simp;try with_reducible rfl)
  (ha:a.put oi.dst v=a':=by first |(simp only[Act.put,Sa,Sb,Sc];exact rfl) |(simp only[Act.put,Sa,Sb,Sc];done) |exact rfl)
  (hs:(Region.noSelect ops.toArray&&Region.free md ops.toArray listed i&&(Region.ready md ops.toArray listed).contains i&&F6 md ops.toArray listed&&D.all (fun d=>d != i&&Ce md ops.toArray i ops.toArray.size d))=true:=by kernel_rfl)
  (hQ:∀ c a w,Q (.panic c) (a.put oi.dst v) w→Q (.panic c) a w:=by exact fun _ _ _ h=>h):Cc P md ops.toArray Q S D (fuel+1) listed a w:=by
 subst ha;exact Cl hi hs hQ hy hS h
end
end
end Go.Proofs.YtjjpiefgdggghaaGreatDoor
namespace Go.Proofs.YtjjpiefgdggghaaGreatDoorW.PrintLast
section
open Go.Proofs.YtjjpiefgdggghaaGreatDoorW.PrintWords (Ai)
def EV(md:Region.Mode)(o:Oper):List Nat:=(o.after.toList.filter (fun e=>Region.binds md e)).map (fun e=>e.on)
def Io(md:Region.Mode)(ops:Array Oper)(i:Nat)(oi:Oper):List Nat:=(List.range ops.size).filter fun j=>!(j==i)&&match ops[j]? with
 |some oj=>!(oj.after.any (fun e=>Region.binds md e&&e.on==i)||oi.apart ops oj)
 |none=>false
def En(md:Region.Mode)(ops:Array Oper):Bool×List (List Nat×List Nat):=(Region.noSelect ops,(List.range ops.size).map fun i=>match ops[i]? with
 |some o=>(EV md o,Io md ops i o)
 |none=>([],[]))
def EW(T:List (List Nat×List Nat))(l:List Bool)(i:Nat):Bool:=!l.getD i true&&match T[i]? with
 |some r=>r.1.all (fun j=>l.getD j false)
 |none=>false
def FM(T:List (List Nat×List Nat))(l:List Bool):List Nat:=(List.range T.length).filter (EW T l)
def MA(T:List (List Nat×List Nat))(l:List Bool)(i:Nat):Bool:=match T[i]? with
 |some r=>r.2.all (fun j=>l.getD j true)
 |none=>false
def Ip(T:List (List Nat×List Nat))(i:Nat):Nat→Nat→Bool
 |0,_=>false
 |fuel+1,d=>match T[d]? with
  |some r=>r.1.any fun j=>j==i||Ip T i fuel j
  |none=>false
def OD(T:List (List Nat×List Nat))(l:List Bool)(ds:List Nat)(i:Nat):Bool:=ds.all fun d=>l.getD d true||Ip T i T.length d
section
variable {md:Region.Mode} {ops:Array Oper} {T:Bool×List (List Nat×List Nat)} {l l' li lj lk:Array Bool} {ds:List Nat} {i j k:Nat}
theorem gd(l:Array Bool)(j:Nat)(b:Bool):l.getD j b=l.toList.getD j b:=by simp[Array.getD_eq_getD_getElem?,List.getD_eq_getElem?_getD]
theorem L7(o:Oper)(p:Nat→Bool):o.after.all (fun e=>!Region.binds md e||p e.on)=(EV md o).all p:=by
 unfold EV;rw[←Array.all_toList];induction o.after.toList with
 |nil=>rfl
 |cons e r ih =>
  rw[List.all_cons,ih,List.filter_cons];cases h:Region.binds md e<;>simp
theorem L8(o:Oper)(p:Nat→Bool):o.after.any (fun e=>Region.binds md e&&p e.on)=(EV md o).any p:=by
 unfold EV;rw[←Array.any_toList];induction o.after.toList with
 |nil=>rfl
 |cons e r ih =>
  rw[List.any_cons,ih,List.filter_cons];cases h:Region.binds md e<;>simp
theorem EH:(En md ops).2.length=ops.size:=by simp[En]
theorem FN{o:Oper}(h:ops[i]?=some o):(En md ops).2[i]?=some (EV md o,Io md ops i o):=by
 have hi:=(Array.getElem?_eq_some_iff.1 h).1;unfold En;rw[List.getElem?_map,List.getElem?_range hi,Option.map_some,h]
theorem FO(h:ops[i]?=none):(En md ops).2[i]?=none:=by
 have hi:ops.size≤i:=Array.getElem?_eq_none_iff.1 h;exact List.getElem?_eq_none (by rw[EH];exact hi)
theorem Kr:EW (En md ops).2 l.toList i=(!l.getD i true&&((ops[i]?).map (·.after.all fun e=>!Region.binds md e||l.getD e.on false)).getD false):=by
 unfold EW;rw[gd];cases h:ops[i]? with
 |none=>rw[FO h];rfl
 |some o =>
  rw[FN h];simp only[Option.map_some,Option.getD_some];rw[←L7];simp only[gd]
theorem F7:Region.ready md ops l=FM (En md ops).2 l.toList:=by
 unfold Region.ready FM;rw[EH];refine List.filter_congr (fun i _=>?_);rw[Kr]
theorem NI:Region.free md ops l i=MA (En md ops).2 l.toList i:=by
 unfold Region.free MA;cases h:ops[i]? with
 |none=>rw[FO h]
 |some oi =>
  rw[FN h];simp only[Io];rw[List.all_filter]
  congr 1
  funext j
  rw[gd];cases hj:ops[j]? with
  |none=>cases (j==i)<;>cases (l.toList.getD j true)<;>simp
  |some oj =>
   cases (j==i)<;>cases (l.toList.getD j true)<;>cases (oj.after.any (fun e=>Region.binds md e&&e.on==i)||oi.apart ops oj)<;>simp_all
theorem Jp:∀ (fuel d:Nat),Region.Iq md ops i fuel d=Ip (En md ops).2 i fuel d
 |0,_=>rfl
 |fuel+1,d=>by
  unfold Region.Iq Ip;cases h:ops[d]? with
  |none=>rw[FO h]
  |some o =>
   rw[FN h];simp only;rw[←L8]
   congr 1
   funext e
   rw[Jp fuel]
theorem Gx:Region.OE md ops l ds i=OD (En md ops).2 l.toList ds i:=by
 unfold Region.OE OD;rw[EH]
 congr 1
 funext d
 rw[gd,Jp]
theorem Jq(h:EW T.2 l.toList i=true)(hT:En md ops=T):(Region.ready md ops l).contains i=true:=by
 subst hT;rw[F7];unfold FM;rw[List.contains_iff_mem,List.mem_filter,List.mem_range];refine⟨?_,h⟩;unfold EW at h;rw[Bool.and_eq_true]at h;cases hq:(En md ops).2[i]? with
 |none=>rw[hq]at h;simp at h
 |some r=>exact(List.getElem?_eq_some_iff.1 hq).1
theorem Ir(h:(l.toList.set i true==l'.toList)=true):(l.setIfInBounds i true==l')=true:=by
 rw[beq_iff_eq]at h ⊢;apply Array.ext';rw[Array.toList_setIfInBounds];exact h
def PV(T:Bool×List (List Nat×List Nat))(l l':List Bool)(i:Nat):Bool:=T.1&&MA T.2 l i&&EW T.2 l i&&(l.set i true==l')
theorem EI(hT:En md ops=T)(h:PV T l.toList l'.toList i=true):NJ md ops l l' i=true:=by
 simp only[PV,Bool.and_eq_true]at h;obtain⟨⟨⟨h1,h2⟩,h3⟩,h4⟩:=h;have h5:=Jq h3 hT;have h6:=Ir h4;subst hT;simp only[NJ,Bool.and_eq_true];exact⟨⟨⟨h1,by rw[NI];exact h2⟩,h5⟩,h6⟩
theorem Is(hT:En md ops=T)(h:(FM T.2 l.toList==[i]&&l.toList.set i true==l'.toList)=true):It md ops l l' i=true:=by
 simp only[Bool.and_eq_true]at h;obtain⟨h1,h2⟩:=h;subst hT;simp only[It,Bool.and_eq_true];exact⟨by rw[F7];exact h1,Ir h2⟩
theorem MB(hT:En md ops=T)(h:(FM T.2 l.toList==[i,j]&&l.toList.set i true==li.toList&&l.toList.set j true==lj.toList)=true):(Region.ready md ops l==[i,j]&&l.setIfInBounds i true==li&&l.setIfInBounds j true==lj)=true:=by
 simp only[Bool.and_eq_true]at h ⊢;obtain⟨⟨h1,h2⟩,h3⟩:=h;subst hT;exact⟨⟨by rw[F7];exact h1,Ir h2⟩,Ir h3⟩
theorem NK(hT:En md ops=T)(h:(FM T.2 l.toList==[])=true):(Region.ready md ops l==[])=true:=by
 subst hT;rw[F7];exact h
def QI(B:List Nat)(d:Nat):List Nat→Nat
 |[]=>0
 |n::r=>(2 ^ n ||| (if n<d then B.getD n 0 else 0)) ||| QI B d r
def Iu(T:List (List Nat×List Nat))(B:List Nat):Bool:=(List.range T.length).all fun d=>match T[d]? with
 |some r=>(B.getD d 0 ||| QI B d r.1)==QI B d r.1
 |none=>false
theorem L9{P:Program}{Q:Exit→Act→World→Prop}{S:World→Prop}{n:Nat}{a:Act}{w:World}{B:List Nat}(hT:En md ops=T)(hB:Iu T.2 B=true)(h:Ai (En md ops=T)→Ai (Iu T.2 B=true)→AE P md ops Q S ds n l a w):AE P md ops Q S ds n l a w:=h ⟨hT⟩ ⟨hB⟩
end
def Fe:Code→Nat→Option (Array Oper)
 |.region id ops _,k=>if id==k then some ops else none
 |.seq a b,k=>match Fe a k with
  |some o=>some o
  |none=>Fe b k
 |.cond _ a b,k=>match Fe a k with
  |some o=>some o
  |none=>Fe b k
 |.block _ c,k=>Fe c k
 |.loop c,k=>Fe c k
 |.scope c,k=>Fe c k
 |.rangeFunc _ _ a b,k=>match Fe a k with
  |some o=>some o
  |none=>Fe b k
 |_,_=>none
def opsOf(f:Func)(k:Nat):Array Oper:=((f.body.bind fun c=>Fe c k)).getD #[]
end
end Go.Proofs.YtjjpiefgdggghaaGreatDoorW.PrintLast
namespace Go.Proofs.YtjjpiefgdggghaaGreatDoor
section
open Go.RowKit Go.Proofs.YtjjpiefgdggghaaGreatDoorW.PrintWords Go.Proofs.YtjjpiefgdggghaaGreatDoorW.PrintLast
section
variable {P:Program} {ops:Array Oper} {rest:List Oper} {o:Oper} {a:Act} {Q:Exit→Act→World→Prop} {W:World}
theorem G0{f:FuncId}{xs:Array Operand}{ts:Array TypeId}(_:o.op=.call {callee:=.value (.func f),args:=xs,argTypes:=ts})(h:wpList P ops Q (o::rest) a W):wpList P ops Q (o::rest) a W:=h
end
def Af.l0:Nat→ByteArray→Int→Int→Option (Int)
 |0,_,_,_=>none
 |k+1,x0,x1,x5=>if x5≥0 then (if 0≤x5 then (if x5<(x0.size:Int) then (if (bt x0 x5)=x1 then (some x5) else (Af.l0 k x0 x1 (wrap64 (x5-1)))) else (none)) else (none)) else (some (-1))
def Af.f(k:Nat)(a0:ByteArray)(a1:Int):Option (Int):=Af.l0 k a0 a1 (wrap64 ((a0.size:Int)-1))
theorem Af.Dp:∀ k,(∀ y0 y1 y2,BH (Af.l0 k y0 y1 y2) (Af.l0 (k+1) y0 y1 y2))
 |0=>fun _ _ _ r h=>by simp[Af.l0]at h
 |k+1=>by
  have ih0:=Af.Dp k
  ·intro y0 y1 y2;unfold Af.l0;repeat' first
   |(with_reducible exact ih0 _ _ _)
   |(with_reducible exact BH.refl _)
   |(with_reducible exact BH.none _)
   |(with_reducible refine BH.ite ?_ ?_)
   |(with_reducible refine BH.bind ?_ (fun _=>?_))
   |exact ih0 _ _ _
   |exact BH.none _
   |refine BH.ite ?_ ?_
   |refine BH.bind ?_ (fun _=>?_)
theorem Af.mono:∀ a0 a1 k,BH (Af.f k a0 a1) (Af.f (k+1) a0 a1):=by
 intro a0 a1 k;have ih0:=Af.Dp k;unfold Af.f;repeat' first
  |(with_reducible exact ih0 _ _ _)
  |(with_reducible exact BH.refl _)
  |(with_reducible exact BH.none _)
  |(with_reducible refine BH.ite ?_ ?_)
  |(with_reducible refine BH.bind ?_ (fun _=>?_))
  |exact ih0 _ _ _
  |exact BH.none _
  |refine BH.ite ?_ ?_
  |refine BH.bind ?_ (fun _=>?_)
theorem Af.calls(k:Nat)(a0:ByteArray)(a1:Int)(r:Int)(w:World)(h:Af.f k a0 a1=some r) :
  Calls Tryz.prog 144 #[.string a0,.int .u8 a1] w fun e w'=>e=.returned (.int .i64 r)∧Au w w':=by
 have H:(Af.l0 k a0 a1 (wrap64 ((a0.size:Int)-1)))=some r:=h;clear h;have H':=Az H;clear H;go_enter Tryz.func144,Tryz.ntmps144;go_wp2;go_loopg [5] k (fun kq v5 w'=>∃ (x5_1:Int),v5=.int .i64 x5_1∧Ai (Af.l0 kq a0 a1 x5_1=some r)∧Ai (kq≤k)∧Au w w')
 case atStart=>exact⟨(wrap64 ((a0.size:Int)-1)),(by first |rfl |(simp;done) |(simp[*];done)),H',⟨Nl _⟩,by repeat (first |exact Au.refl _ |apply Au.step)⟩
 case round =>
  clear H';try clear c1
  try clear p2
  obtain⟨x5_1,rfl,HA,HK1,⟨m1,rfl⟩⟩:=hrel;cases gk with
  |zero=>exact absurd HA.out (by simp[Af.l0])
  |succ k1 =>
   have H:=HA.out;clear HA;simp only[Af.l0]at H;by_cases c3:x5_1≥0
   ·rw[if_pos c3]at H;have c3b0:decide (0≤x5_1)=true:=decide_eq_true c3;clear c3;by_cases c4:0≤x5_1
    ·rw[if_pos c4]at H;have c4b0:decide (0≤x5_1)=true:=decide_eq_true c4;clear c4;by_cases c5:x5_1<(a0.size:Int)
     ·rw[if_pos c5]at H;have c5b0:decide (x5_1<(a0.size:Int))=true:=decide_eq_true c5;clear c5;by_cases c7:(bt a0 x5_1)=a1
      ·rw[if_pos c7]at H;have c7b0:((bt a0 x5_1)==a1)=true:=beq_iff_eq.mpr c7;have c7b1:((bt a0 x5_1) != a1)=false:=bne_eq_false_iff_eq.mpr c7;clear c7;obtain rfl:=Option.some.inj H;have p6:0≤(x5_1:Int):=of_decide_eq_true (by first |(with_reducible assumption) |assumption);have q6:x5_1<(a0.size:Int):=of_decide_eq_true (by first |(with_reducible assumption) |assumption);have hx6:=Cz a0 x5_1;replace p6:=eq_true p6;replace q6:=eq_true q6;go_wp2;go_ret;exact⟨by first |rfl |(simp;done) |(simp[*];done),by repeat (first |exact Au.refl _ |apply Au.step)⟩
      ·rw[if_neg c7]at H;have c7b0:((bt a0 x5_1)==a1)=false:=beq_eq_false_iff_ne.mpr c7;have c7b1:((bt a0 x5_1) != a1)=true:=bne_iff_ne.mpr c7;have H':=Az H;clear H;have p6:0≤(x5_1:Int):=of_decide_eq_true (by first |(with_reducible assumption) |assumption);have q6:x5_1<(a0.size:Int):=of_decide_eq_true (by first |(with_reducible assumption) |assumption);have hx6:=Cz a0 x5_1;replace p6:=eq_true p6;replace q6:=eq_true q6;go_wp2;go_roundg k1
       case measure=>have:=HK1.out;omega
       case rel=>exact⟨(wrap64 (x5_1-1)),(by first |rfl |(simp;done) |(simp[*];done)),H',⟨by have:=HK1.out;omega⟩,by repeat (first |exact Au.refl _ |apply Au.step)⟩
     ·rw[if_neg c5]at H;exact absurd H (by simp)
    ·rw[if_neg c4]at H;exact absurd H (by simp)
   ·rw[if_neg c3]at H;have c3b0:decide (0≤x5_1)=false:=decide_eq_false c3;clear c3;obtain rfl:=Option.some.inj H;go_wp2;go_ret;exact⟨by first |rfl |(simp;done) |(simp[*];done),by repeat (first |exact Au.refl _ |apply Au.step)⟩
def AJ.f(k:Nat)(a0:ByteArray)(a1:Int):Option (Int):=(Af.f k a0 a1).bind fun t223=>(some t223)
theorem AJ.mono:∀ a0 a1 k,BH (AJ.f k a0 a1) (AJ.f (k+1) a0 a1):=by
 intro a0 a1 k;unfold AJ.f;repeat' first
  |(with_reducible exact Af.mono _ _ _)
  |(with_reducible exact BH.refl _)
  |(with_reducible exact BH.none _)
  |(with_reducible refine BH.ite ?_ ?_)
  |(with_reducible refine BH.bind ?_ (fun _=>?_))
  |exact Af.mono _ _ _
  |exact BH.none _
  |refine BH.ite ?_ ?_
  |refine BH.bind ?_ (fun _=>?_)
theorem AJ.calls(k:Nat)(a0:ByteArray)(a1:Int)(r:Int)(w:World)(h:AJ.f k a0 a1=some r) :
  Calls Tryz.prog 121 #[.string a0,.int .u8 a1] w fun e w'=>e=.returned (.int .i64 r)∧Au w w':=by
 have H:((Af.f k a0 a1).bind fun t223=>(some t223))=some r:=h;clear h;replace H:=Option.bind_eq_some_iff.mp H;obtain⟨t223,A30,H⟩:=H;replace H:(some t223)=some r:=H;have A3:=Az A30;clear A30;obtain rfl:=Option.some.inj H;go_enter Tryz.func121,Tryz.ntmps121;go_wp2_with (first |((with_reducible refine G0 (f:=144) rfl ?_);refine I8 (some 7) rfl rfl Tryz.func144 (by kernel_rfl) rfl #[.string a0,.int .u8 a1] rfl (by(try simp only[List.map_toArray,List.map_cons,List.map_nil]);first |done |rfl |(simp only[List.length_drop,List.length_take];rfl)) ?_;(with_reducible refine(Af.calls k a0 a1 t223 _ A3.out).mono ?_);rintro e w' ⟨rfl,⟨nd,rfl⟩⟩;refine⟨_,rfl,?_⟩))
 go_ret;exact⟨by first |rfl |(simp;done) |(simp[*];done),by repeat (first |exact Au.refl _ |apply Au.step)⟩
def AZ.f(a0:ByteArray)(a1:ByteArray):Option (Bool):=if (a0.size:Int)≥(a1.size:Int) then (if 0≤(wrap64 ((a0.size:Int)-(a1.size:Int))) then (if (wrap64 ((a0.size:Int)-(a1.size:Int)))≤(a0.size:Int) then (some ((a0.extract ((wrap64 ((a0.size:Int)-(a1.size:Int))):Int).toNat a0.size).toList==a1.toList)) else (none)) else (none)) else (some false)
theorem AZ.calls(a0:ByteArray)(a1:ByteArray)(r:Bool)(w:World)(h:AZ.f a0 a1=some r) :
  Calls Tryz.prog 143 #[.string a0,.string a1] w fun e w'=>e=.returned (.bool r)∧Au w w':=by
 have H:(if (a0.size:Int)≥(a1.size:Int) then (if 0≤(wrap64 ((a0.size:Int)-(a1.size:Int))) then (if (wrap64 ((a0.size:Int)-(a1.size:Int)))≤(a0.size:Int) then (some ((a0.extract ((wrap64 ((a0.size:Int)-(a1.size:Int))):Int).toNat a0.size).toList==a1.toList)) else (none)) else (none)) else (some false))=some r:=h;clear h;by_cases c3:(a0.size:Int)≥(a1.size:Int)
 ·rw[if_pos c3]at H;have c3b0:decide ((a1.size:Int)≤(a0.size:Int))=true:=decide_eq_true c3;have c3b1:decide (a1.size≤a0.size)=true:=decide_eq_true (Int.ofNat_le.mp c3);clear c3;obtain⟨ji4,hji4⟩:∃ j_:Int,(wrap64 ((a0.size:Int)-(a1.size:Int)))=j_:=⟨_,rfl⟩
  replace H:(if 0≤(ji4) then (if (ji4)≤(a0.size:Int) then (some ((a0.extract ((ji4):Int).toNat a0.size).toList==a1.toList)) else (none)) else (none))=some r:=by first |(rw[hji4]at H;exact H) |(simp only[hji4]at H ⊢;exact H)
  have hji4w:(IntKind.i64.wrap ((a0.size:Int)-(a1.size:Int)))=ji4:=(CG _).trans hji4;by_cases c5:0≤(ji4)
  ·rw[if_pos c5]at H;have c5b0:=eq_true c5;have c5b1:decide (0≤(ji4))=true:=decide_eq_true c5;clear c5;by_cases c6:(ji4)≤(a0.size:Int)
   ·rw[if_pos c6]at H;have c6b0:=eq_true c6;have c6b1:decide ((ji4)≤(a0.size:Int))=true:=decide_eq_true c6;clear c6;obtain rfl:=Option.some.inj H;go_enter Tryz.func143,Tryz.ntmps143;go_wp2;go_ret;exact⟨by first |rfl |(simp;done) |(simp only[←hji4]<;>(first |rfl |simp)) |(simp[*];done),by repeat (first |exact Au.refl _ |apply Au.step)⟩
   ·rw[if_neg c6]at H;exact absurd H (by simp)
  ·rw[if_neg c5]at H;exact absurd H (by simp)
 ·rw[if_neg c3]at H;have c3b0:decide ((a1.size:Int)≤(a0.size:Int))=false:=decide_eq_false c3;have c3b1:decide (a1.size≤a0.size)=false:=decide_eq_false (fun h=>c3 (Int.ofNat_le.mpr h));clear c3;obtain rfl:=Option.some.inj H;go_enter Tryz.func143,Tryz.ntmps143;go_wp2;go_ret;exact⟨by first |rfl |(simp;done) |(simp[*];done),by repeat (first |exact Au.refl _ |apply Au.step)⟩
def Bp.f(a0:ByteArray)(a1:ByteArray):Option (ByteArray×Bool):=(AZ.f a0 a1).bind fun t220=>(if t220=true then (if 0≤(wrap64 ((a0.size:Int)-(a1.size:Int))) then (if (wrap64 ((a0.size:Int)-(a1.size:Int)))≤(a0.size:Int) then (some (a0.extract 0 ((wrap64 ((a0.size:Int)-(a1.size:Int))):Int).toNat,true)) else (none)) else (none)) else (some (a0,false)))
theorem Bp.calls(a0:ByteArray)(a1:ByteArray)(r1:ByteArray)(r2:Bool)(w:World)(h:Bp.f a0 a1=some (r1,r2)) :
  Calls Tryz.prog 120 #[.string a0,.string a1] w fun e w'=>e=.returned (.tuple #[.string r1,.bool r2])∧Au w w':=by
 have H:((AZ.f a0 a1).bind fun t220=>(if t220=true then (if 0≤(wrap64 ((a0.size:Int)-(a1.size:Int))) then (if (wrap64 ((a0.size:Int)-(a1.size:Int)))≤(a0.size:Int) then (some (a0.extract 0 ((wrap64 ((a0.size:Int)-(a1.size:Int))):Int).toNat,true)) else (none)) else (none)) else (some (a0,false))))=some (r1,r2):=h;clear h;replace H:=Option.bind_eq_some_iff.mp H;obtain⟨t220,A30,H⟩:=H;replace H:(if t220=true then (if 0≤(wrap64 ((a0.size:Int)-(a1.size:Int))) then (if (wrap64 ((a0.size:Int)-(a1.size:Int)))≤(a0.size:Int) then (some (a0.extract 0 ((wrap64 ((a0.size:Int)-(a1.size:Int))):Int).toNat,true)) else (none)) else (none)) else (some (a0,false)))=some (r1,r2):=H;have A3:=Az A30;clear A30;by_cases c4:t220=true
 ·subst c4;have H1:(if 0≤(wrap64 ((a0.size:Int)-(a1.size:Int))) then (if (wrap64 ((a0.size:Int)-(a1.size:Int)))≤(a0.size:Int) then (some (a0.extract 0 ((wrap64 ((a0.size:Int)-(a1.size:Int))):Int).toNat,true)) else (none)) else (none))=some (r1,r2):=by rw[if_pos rfl]at H;exact H
  clear H;have H:=H1;clear H1;obtain⟨ji5,hji5⟩:∃ j_:Int,(wrap64 ((a0.size:Int)-(a1.size:Int)))=j_:=⟨_,rfl⟩
  replace H:(if 0≤(ji5) then (if (ji5)≤(a0.size:Int) then (some (a0.extract 0 ((ji5):Int).toNat,true)) else (none)) else (none))=some (r1,r2):=by first |(rw[hji5]at H;exact H) |(simp only[hji5]at H ⊢;exact H)
  (try rw[hji5]at A3)
  have hji5w:(IntKind.i64.wrap ((a0.size:Int)-(a1.size:Int)))=ji5:=(CG _).trans hji5;by_cases c6:0≤(ji5)
  ·rw[if_pos c6]at H;have c6b0:=eq_true c6;have c6b1:decide (0≤(ji5))=true:=decide_eq_true c6;clear c6;by_cases c7:(ji5)≤(a0.size:Int)
   ·rw[if_pos c7]at H;have c7b0:=eq_true c7;have c7b1:decide ((ji5)≤(a0.size:Int))=true:=decide_eq_true c7;clear c7;simp only[Option.some.injEq,Prod.mk.injEq]at H;obtain⟨rfl,rfl⟩:=H;go_enter Tryz.func120,Tryz.ntmps120;go_wp2_with (first |((with_reducible refine G0 (f:=143) rfl ?_);refine I8 (some 8) rfl rfl Tryz.func143 (by kernel_rfl) rfl #[.string a0,.string a1] rfl (by(try simp only[List.map_toArray,List.map_cons,List.map_nil]);first |done |rfl |(simp only[List.length_drop,List.length_take];rfl)) ?_;(with_reducible refine(AZ.calls a0 a1 true _ A3.out).mono ?_);rintro e w' ⟨rfl,⟨nd,rfl⟩⟩;refine⟨_,rfl,?_⟩))
    go_ret2
    exact⟨by first |rfl |(simp;done) |(simp only[←hji5]<;>(first |rfl |simp)) |(simp[*];done),by repeat (first |exact Au.refl _ |apply Au.step)⟩
   ·rw[if_neg c7]at H;exact absurd H (by simp)
  ·rw[if_neg c6]at H;exact absurd H (by simp)
 ·replace c4:=Bool.eq_false_iff.mpr c4;subst c4;have H1:(some (a0,false))=some (r1,r2):=by rw[if_neg (show ¬(false=true) by decide)]at H;exact H
  clear H;have H:=H1;clear H1;simp only[Option.some.injEq,Prod.mk.injEq]at H;obtain⟨rfl,rfl⟩:=H;go_enter Tryz.func120,Tryz.ntmps120;go_wp2_with (first |((with_reducible refine G0 (f:=143) rfl ?_);refine I8 (some 8) rfl rfl Tryz.func143 (by kernel_rfl) rfl #[.string a0,.string a1] rfl (by(try simp only[List.map_toArray,List.map_cons,List.map_nil]);first |done |rfl |(simp only[List.length_drop,List.length_take];rfl)) ?_;(with_reducible refine(AZ.calls a0 a1 false _ A3.out).mono ?_);rintro e w' ⟨rfl,⟨nd,rfl⟩⟩;refine⟨_,rfl,?_⟩))
  go_ret2
  exact⟨by first |rfl |(simp;done) |(simp[*];done),by repeat (first |exact Au.refl _ |apply Au.step)⟩
def BQ.f(a0:ByteArray)(a1:ByteArray):Option (ByteArray×Bool):=(Bp.f a0 a1).bind fun bt221=>(some (bt221.1,bt221.2))
theorem BQ.calls(a0:ByteArray)(a1:ByteArray)(r1:ByteArray)(r2:Bool)(w:World)(h:BQ.f a0 a1=some (r1,r2)) :
  Calls Tryz.prog 96 #[.string a0,.string a1] w fun e w'=>e=.returned (.tuple #[.string r1,.bool r2])∧Au w w':=by
 have H:((Bp.f a0 a1).bind fun bt221=>(some (bt221.1,bt221.2)))=some (r1,r2):=h;clear h;replace H:=Option.bind_eq_some_iff.mp H;obtain⟨⟨t221,t222⟩,A30,H⟩:=H;replace H:(some (t221,t222))=some (r1,r2):=H;have A3:=Az A30;clear A30;simp only[Option.some.injEq,Prod.mk.injEq]at H;obtain⟨rfl,rfl⟩:=H;go_enter Tryz.func96,Tryz.ntmps96;go_wp2_with (first |((with_reducible refine G0 (f:=120) rfl ?_);refine I8 (some 8) rfl rfl Tryz.func120 (by kernel_rfl) rfl #[.string a0,.string a1] rfl (by(try simp only[List.map_toArray,List.map_cons,List.map_nil]);first |done |rfl |(simp only[List.length_drop,List.length_take];rfl)) ?_;(with_reducible refine(Bp.calls a0 a1 t221 t222 _ A3.out).mono ?_);rintro e w' ⟨rfl,⟨nd,rfl⟩⟩;refine⟨_,rfl,?_⟩))
 go_ret2
 exact⟨by first |rfl |(simp;done) |(simp[*];done),by repeat (first |exact Au.refl _ |apply Au.step)⟩
end
section
open Go.RowKit Go.Proofs.YtjjpiefgdggghaaGreatDoorW.PrintWords
theorem KU(l:List UInt8)(i:Nat)(hi:i<l.length)(W:World):(Instr.index 9 (.string ⟨l.toArray⟩) (.int .i64 (i:Int))).run Tryz.prog W=.ok (.int .u8 ((l.getD i 0).toNat:Int)) W:=by
 rw[run_index_string W 9 _ .i64 i Tryz.underlying9,dif_pos ⟨by omega,by simp[ByteArray.size];omega⟩];have:(⟨l.toArray⟩:ByteArray)[(i:Int).toNat]'(by simp[ByteArray.size];omega)=l.getD i 0:=by
  simp[List.getD_eq_getElem?_getD,List.getElem?_eq_getElem hi];rfl
 rw[this]
theorem FX(l:List UInt8)(w:World)(hl:l.length≤1000000):Calls Tryz.prog 63 #[.string ⟨l.toArray⟩] w fun e w'=>e=.returned (.bool (B8 l))∧Below w.heap.size w w':=by
 obtain⟨r,hr⟩:∃ r,B8 l=r:=⟨_,rfl⟩
 rw[hr];have hsz:(⟨l.toArray⟩:ByteArray).size=l.length:=by simp[ByteArray.size]
 replace hr:=Az hr;go_enter Tryz.func63,Tryz.ntmps63;by_cases h1:l.length<1
 ·obtain rfl:r=false:=by rw[←hr.out,B8,decide_eq_false (by omega)];rfl
  have i1:(l.length:Int)<1:=by omega
  clear h1;go_wp2;go_ret;exact⟨rfl,Below.refl _ _⟩
 have i1:¬(l.length:Int)<1:=by omega
 by_cases h2:16<l.length
 ·obtain rfl:r=false:=by rw[←hr.out,B8,decide_eq_false (by omega)];rfl
  have i2:(16:Int)<(l.length:Int):=by omega
  clear h1 h2;go_wp2;go_ret;exact⟨rfl,Below.refl _ _⟩
 have i2:¬(16:Int)<(l.length:Int):=by omega
 have hx0:∀ W,(Instr.index 9 (.string ⟨l.toArray⟩) (.int .i64 0)).run Tryz.prog W=.ok (.int .u8 ((l.getD 0 0).toNat:Int)) W:=fun W=>KU l 0 (by omega) W
 have hlow0:Dt (l.getD 0 0)=decide (97≤(l.getD 0 0).toNat∧(l.getD 0 0).toNat≤122):=rfl;have hbad0:Dt (l.getD 0 0)=false→r=false:=fun h=>by rw[←hr.out];exact Hk (by omega) h
 have hgood0:Dt (l.getD 0 0)=true→LM l 0∧Dt (l.getD 0 0)=true:=fun h=>⟨⟨fun j hj=>by omega,fun h=>by omega⟩,h⟩
 rw[hlow0]at hbad0;obtain⟨b0,hb0⟩:∃ b,(l.getD 0 0).toNat=b:=⟨_,rfl⟩
 rw[hb0]at hx0 hbad0;by_cases c1:b0<97
 ·obtain rfl:r=false:=hbad0 (decide_eq_false (by omega));have r1:decide ((b0:Int)<97)=true:=decide_eq_true (by omega);clear hbad0 hgood0 hlow0 hb0;go_wp2;go_ret;exact⟨rfl,Below.refl _ _⟩
 have r1:decide ((b0:Int)<97)=false:=decide_eq_false (by omega);by_cases c2:122<b0
 ·obtain rfl:r=false:=hbad0 (decide_eq_false (by omega));have r2:decide (122<(b0:Int))=true:=decide_eq_true (by omega);clear hbad0 hgood0 hlow0 hb0;go_wp2;go_ret;exact⟨rfl,Below.refl _ _⟩
 have r2:decide (122<(b0:Int))=false:=decide_eq_false (by omega);have hl0:Dt (l.getD 0 0)=true:=by rw[hlow0,hb0,decide_eq_true (by omega)]
 clear hbad0 hgood0 hlow0 hb0;replace hl0:=Az hl0;replace h1:=Az h1;replace h2:=Az h2;go_wp2_with fail
 go_loopw [3] (fun v3 wr=>∃ pos:Nat,v3=.int .i64 (pos:Int)∧pos≤l.length∧wr=w∧Ai (LM l pos)) (fun v3 _=>l.length-(intOf v3).toNat)
 case atStart=>exact⟨0,rfl,Nat.zero_le _,rfl,⟨fun j hj=>by omega,fun h=>by omega⟩⟩
 case round =>
  obtain⟨pos,rfl,hp,rfl,hok⟩:=hrel;clear hx0 r1 r2 i1 i2 c1 c2;by_cases hlt:pos<l.length
  ·have hx:=fun W=>KU l pos hlt W
   have k0:(0:Int)≤(pos:Int):=by omega
   have k1:(pos:Int)<(l.length:Int):=by omega
   have kw:IntKind.i64.wrap ((pos:Int)+1)=(pos:Int)+1:=by rw[IntKind.wrap_i64];omega
   have hlow:Dt (l.getD pos 0)=decide (97≤(l.getD pos 0).toNat∧(l.getD pos 0).toNat≤122):=rfl;have hdig:Hz (l.getD pos 0)=decide (48≤(l.getD pos 0).toNat∧(l.getD pos 0).toNat≤57):=rfl;have hstep:=fun h=>HX (l:=l) hok.out h (fun _=>hl0.out)
   have hbad:=fun h=>hr.out.symm.trans (FV (l:=l) hlt h)
   rw[hlow,hdig]at hstep hbad;generalize (l.getD pos 0).toNat=b at hx hstep hbad;clear hlow hdig hok;by_cases c1:97≤b∧b≤122
   ·have r1:decide ((97:Int)≤(b:Int))=true:=decide_eq_true (by omega);have r2:decide ((b:Int)≤122)=true:=decide_eq_true (by omega);have hok':=Az (hstep (by rw[decide_eq_true c1];rfl));clear hstep hbad c1;go_wp2;go_roundw
    case rel=>exact⟨pos+1,by go_num,by omega,trivial,hok'⟩
    case measure=>simp[intOf];omega
   by_cases c2:48≤b∧b≤57
   ·have r1:decide ((97:Int)≤(b:Int))=false:=decide_eq_false (by omega);have r3:decide ((48:Int)≤(b:Int))=true:=decide_eq_true (by omega);have r4:decide ((b:Int)≤57)=true:=decide_eq_true (by omega);have hok':=Az (hstep (by rw[decide_eq_true c2];simp));clear hstep hbad c1 c2;go_wp2;go_roundw
    case rel=>exact⟨pos+1,by go_num,by omega,trivial,hok'⟩
    case measure=>simp[intOf];omega
   obtain rfl:r=false:=hbad (by rw[decide_eq_false c1,decide_eq_false c2];rfl);clear hstep hbad;by_cases d1:97≤b
   ·have r1:decide ((97:Int)≤(b:Int))=true:=decide_eq_true (by omega);have r2:decide ((b:Int)≤122)=false:=decide_eq_false (by omega);have r3:decide ((48:Int)≤(b:Int))=true:=decide_eq_true (by omega);have r4:decide ((b:Int)≤57)=false:=decide_eq_false (by omega);clear c1 c2 d1;go_wp2;go_ret;exact⟨rfl,Below.refl _ _⟩
   have r1:decide ((97:Int)≤(b:Int))=false:=decide_eq_false (by omega);by_cases d2:48≤b
   ·have r3:decide ((48:Int)≤(b:Int))=true:=decide_eq_true (by omega);have r4:decide ((b:Int)≤57)=false:=decide_eq_false (by omega);clear c1 c2 d1 d2;go_wp2;go_ret;exact⟨rfl,Below.refl _ _⟩
   have r3:decide ((48:Int)≤(b:Int))=false:=decide_eq_false (by omega);clear c1 c2 d1 d2;go_wp2;go_ret;exact⟨rfl,Below.refl _ _⟩
  ·obtain rfl:pos=l.length:=by omega
   have n1:¬(l.length:Int)<(l.length:Int):=by omega
   obtain⟨g1,g2⟩:=JE hok.out (by have:=h1.out;omega);obtain rfl:r=true:=by rw[←hr.out,B8,decide_eq_true ⟨by have:=h1.out;omega,by have:=h2.out;omega⟩,g1,g2];rfl
   go_wp2;go_ret;exact⟨rfl,Below.refl _ _⟩
end
end Go.Proofs.YtjjpiefgdggghaaGreatDoor

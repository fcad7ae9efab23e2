/- Parts: AsmPlace, RegionLate, LateKit, TracePlain. -/
import Derived.Test.YtnmahobjmpdkdaaGreatDoorQ02
import Derived.Test.YtnmahobjmpdkdaaGreatDoorQ04
import Derived.Deep.RegionHeld3
import Derived.OrdersHeld
set_option linter.unusedVariables false
set_option linter.unusedSimpArgs false
set_option maxRecDepth 100000
set_option maxHeartbeats 40000000
namespace Go.Proofs.YtnmahobjmpdkdaaGreatDoor
section
open Go.RowKit Go.Maps Go.Proofs.YtnmahobjmpdkdaaGreatDoorW.PrintWords
theorem An{α:Type}{l:List α}{i:Nat}{o:α}(h:l[i]?=some o):l.toArray[i]?=some o:=by simpa using h
theorem GC(gx bm n c:Nat)(A:Option Addr)(v1 v2:Value)(L:List (List UInt8×Nat))(s:List UInt8)(hs:s.length≤1000000)(w:World)
  (hx:w.heap[gx]?=some (.cells #[.slice A n c,v1,v2,.map (some bm)] 97 (0,0)))(hL:FC w bm L) :
  Calls Tryz.prog 63 #[.pointer (some ⟨gx,0,none⟩),.string ⟨s.toArray⟩] w fun e w' =>
   e=.returned (.tuple #[.int .i64 ((Eg L s).getD 0:Nat),.bool ((Eg L s).isSome&&decide (((Eg L s).getD 0:Nat)<n))])∧Below w.heap.size w w':=by
 have c0:w.cell? ⟨gx,0,none⟩=some (.slice A n c):=(Bc hx 0).trans rfl;have c3:w.cell? ⟨gx,3,none⟩=some (.map (some bm)):=(Bc hx 3).trans rfl;have hS:w.drew.cell? ⟨gx,0,none⟩=some (.slice A n c):=c0;replace hL:=Az hL;obtain⟨p,hp⟩:∃ p,(Eg L s).getD 0=p:=⟨_,rfl⟩
 obtain⟨b,hb⟩:∃ b,(Eg L s).isSome=b:=⟨_,rfl⟩
 rw[hp,hb];go_enter Tryz.func63,Tryz.ntmps63;go_wp2_with (refine KH rfl (.tmp 12) (.tmp 13) rfl bm L rfl hL.out s hs rfl ?_)
 clear hp hb hL hx;cases b with
 |true =>
  by_cases hlt:p<n
  ·have h1:decide ((p:Int)<(n:Int))=true:=decide_eq_true (by omega);go_wp2_with fail
   refine wp_region_held_drew (S:=(fun W=>W.cell? ⟨gx,0,none⟩=some (.slice A n c))) (by kernel_rfl) hS (fun hHeld0=>?_);refine wpAnyH_take (i:=0) (oi:=?oia0) (v:=?va0) ?hia0 ?hsa0 ?hfa0 ?hra0 ?hQa0 ?hya0 ?hSa0 ?_;case hia0=>refine An ?_;rfl
   case hsa0=>kernel_rfl
   case hfa0=>kernel_rfl
   case hra0=>kernel_rfl
   case hQa0=>exact fun _ _ _ h=>h
   case hya0=>(refine Or.inl ⟨by rfl,?_⟩;intro w hSw;go_simp;try with_reducible rfl)
   case hSa0=>assumption
   try simp only[Act.put,Sa,Sb,Sc]
   refine wpAnyH_take (i:=1) (oi:=?oia1) (v:=?va1) ?hia1 ?hsa1 ?hfa1 ?hra1 ?hQa1 ?hya1 ?hSa1 ?_;case hia1=>refine An ?_;rfl
   case hsa1=>kernel_rfl
   case hfa1=>kernel_rfl
   case hra1=>kernel_rfl
   case hQa1=>exact fun _ _ _ h=>h
   case hya1=>(refine Or.inl ⟨by rfl,?_⟩;intro w hSw;go_simp;try with_reducible rfl)
   case hSa1=>assumption
   try simp only[Act.put,Sa,Sb,Sc]
   refine wpAnyH_take (i:=2) (oi:=?oia2) (v:=?va2) ?hia2 ?hsa2 ?hfa2 ?hra2 ?hQa2 ?hya2 ?hSa2 ?_;case hia2=>refine An ?_;rfl
   case hsa2=>kernel_rfl
   case hfa2=>kernel_rfl
   case hra2=>kernel_rfl
   case hQa2=>exact fun _ _ _ h=>h
   case hya2=>(refine Or.inl ⟨by rfl,?_⟩;intro w hSw;go_simp;try with_reducible rfl)
   case hSa2=>assumption
   try simp only[Act.put,Sa,Sb,Sc]
   refine wpAnyH_take (i:=3) (oi:=?oia3) (v:=?va3) ?hia3 ?hsa3 ?hfa3 ?hra3 ?hQa3 ?hya3 ?hSa3 ?_;case hia3=>refine An ?_;rfl
   case hsa3=>kernel_rfl
   case hfa3=>kernel_rfl
   case hra3=>kernel_rfl
   case hQa3=>exact fun _ _ _ h=>h
   case hya3=>(refine Or.inl ⟨by rfl,?_⟩;intro w hSw;go_simp;try with_reducible rfl)
   case hSa3=>assumption
   try simp only[Act.put,Sa,Sb,Sc]
   refine wpAnyH_take (i:=4) (oi:=?oia4) (v:=?va4) ?hia4 ?hsa4 ?hfa4 ?hra4 ?hQa4 ?hya4 ?hSa4 ?_;case hia4=>refine An ?_;rfl
   case hsa4=>kernel_rfl
   case hfa4=>kernel_rfl
   case hra4=>kernel_rfl
   case hQa4=>exact fun _ _ _ h=>h
   case hya4=>(refine Or.inl ⟨by rfl,?_⟩;intro w hSw;go_simp;try with_reducible rfl)
   case hSa4=>assumption
   try simp only[Act.put,Sa,Sb,Sc]
   refine wpAnyH_take (i:=5) (oi:=?oia5) (v:=?va5) ?hia5 ?hsa5 ?hfa5 ?hra5 ?hQa5 ?hya5 ?hSa5 ?_;case hia5=>refine An ?_;rfl
   case hsa5=>kernel_rfl
   case hfa5=>kernel_rfl
   case hra5=>kernel_rfl
   case hQa5=>exact fun _ _ _ h=>h
   case hya5=>(refine Or.inl ⟨by rfl,?_⟩;intro w hSw;go_simp;try with_reducible rfl)
   case hSa5=>assumption
   try simp only[Act.put,Sa,Sb,Sc]
   refine wpAnyH_take (i:=6) (oi:=?oia6) (v:=?va6) ?hia6 ?hsa6 ?hfa6 ?hra6 ?hQa6 ?hya6 ?hSa6 ?_;case hia6=>refine An ?_;rfl
   case hsa6=>kernel_rfl
   case hfa6=>kernel_rfl
   case hra6=>kernel_rfl
   case hQa6=>exact fun _ _ _ h=>h
   case hya6=>(refine Or.inl ⟨by rfl,?_⟩;intro w hSw;go_simp;try with_reducible rfl)
   case hSa6=>assumption
   try simp only[Act.put,Sa,Sb,Sc]
   refine wpAnyH_take (i:=7) (oi:=?oia7) (v:=?va7) ?hia7 ?hsa7 ?hfa7 ?hra7 ?hQa7 ?hya7 ?hSa7 ?_;case hia7=>refine An ?_;rfl
   case hsa7=>kernel_rfl
   case hfa7=>kernel_rfl
   case hra7=>kernel_rfl
   case hQa7=>exact fun _ _ _ h=>h
   case hya7=>(refine Or.inl ⟨by rfl,?_⟩;intro w hSw;go_simp;try with_reducible rfl)
   case hSa7=>assumption
   try simp only[Act.put,Sa,Sb,Sc]
   refine wpAnyH_take (i:=8) (oi:=?oia8) (v:=?va8) ?hia8 ?hsa8 ?hfa8 ?hra8 ?hQa8 ?hya8 ?hSa8 ?_;case hia8=>refine An ?_;rfl
   case hsa8=>kernel_rfl
   case hfa8=>kernel_rfl
   case hra8=>kernel_rfl
   case hQa8=>exact fun _ _ _ h=>h
   case hya8=>(refine Or.inl ⟨by rfl,?_⟩;intro w hSw;go_simp;try with_reducible rfl)
   case hSa8=>assumption
   try simp only[Act.put,Sa,Sb,Sc]
   refine wpAnyH_take (i:=9) (oi:=?oia9) (v:=?va9) ?hia9 ?hsa9 ?hfa9 ?hra9 ?hQa9 ?hya9 ?hSa9 ?_;case hia9=>refine An ?_;rfl
   case hsa9=>kernel_rfl
   case hfa9=>kernel_rfl
   case hra9=>kernel_rfl
   case hQa9=>exact fun _ _ _ h=>h
   case hya9=>(refine Or.inl ⟨by rfl,?_⟩;intro w hSw;go_simp;try with_reducible rfl)
   case hSa9=>assumption
   try simp only[Act.put,Sa,Sb,Sc]
   refine wpAnyH_take (i:=10) (oi:=?oia10) (v:=?va10) ?hia10 ?hsa10 ?hfa10 ?hra10 ?hQa10 ?hya10 ?hSa10 ?_;case hia10=>refine An ?_;rfl
   case hsa10=>kernel_rfl
   case hfa10=>kernel_rfl
   case hra10=>kernel_rfl
   case hQa10=>exact fun _ _ _ h=>h
   case hya10=>(refine Or.inl ⟨by rfl,?_⟩;intro w hSw;go_simp;try with_reducible rfl)
   case hSa10=>assumption
   try simp only[Act.put,Sa,Sb,Sc]
   refine wpAnyH_take (i:=11) (oi:=?oia11) (v:=?va11) ?hia11 ?hsa11 ?hfa11 ?hra11 ?hQa11 ?hya11 ?hSa11 ?_;case hia11=>refine An ?_;rfl
   case hsa11=>kernel_rfl
   case hfa11=>kernel_rfl
   case hra11=>kernel_rfl
   case hQa11=>exact fun _ _ _ h=>h
   case hya11=>(refine Or.inl ⟨by rfl,?_⟩;intro w hSw;go_simp;try with_reducible rfl)
   case hSa11=>assumption
   try simp only[Act.put,Sa,Sb,Sc]
   refine wpAnyH_take (i:=12) (oi:=?oia12) (v:=?va12) ?hia12 ?hsa12 ?hfa12 ?hra12 ?hQa12 ?hya12 ?hSa12 ?_;case hia12=>refine An ?_;rfl
   case hsa12=>kernel_rfl
   case hfa12=>kernel_rfl
   case hra12=>kernel_rfl
   case hQa12=>exact fun _ _ _ h=>h
   case hya12=>(refine Or.inl ⟨by rfl,?_⟩;intro w hSw;go_simp;try with_reducible rfl)
   case hSa12=>assumption
   try simp only[Act.put,Sa,Sb,Sc]
   refine wpAnyH_done (by kernel_rfl) ?_ _;go_wp2;go_ret2
   exact⟨by simp[hlt],Bd (Below.refl _ _)⟩
  ·have h1:decide ((p:Int)<(n:Int))=false:=decide_eq_false (by omega);go_wp2_with fail
   refine wp_region_held_drew (S:=(fun W=>W.cell? ⟨gx,0,none⟩=some (.slice A n c))) (by kernel_rfl) hS (fun hHeld0=>?_);refine wpAnyH_take (i:=0) (oi:=?oib0) (v:=?vb0) ?hib0 ?hsb0 ?hfb0 ?hrb0 ?hQb0 ?hyb0 ?hSb0 ?_;case hib0=>refine An ?_;rfl
   case hsb0=>kernel_rfl
   case hfb0=>kernel_rfl
   case hrb0=>kernel_rfl
   case hQb0=>exact fun _ _ _ h=>h
   case hyb0=>(refine Or.inl ⟨by rfl,?_⟩;intro w hSw;go_simp;try with_reducible rfl)
   case hSb0=>assumption
   try simp only[Act.put,Sa,Sb,Sc]
   refine wpAnyH_take (i:=1) (oi:=?oib1) (v:=?vb1) ?hib1 ?hsb1 ?hfb1 ?hrb1 ?hQb1 ?hyb1 ?hSb1 ?_;case hib1=>refine An ?_;rfl
   case hsb1=>kernel_rfl
   case hfb1=>kernel_rfl
   case hrb1=>kernel_rfl
   case hQb1=>exact fun _ _ _ h=>h
   case hyb1=>(refine Or.inl ⟨by rfl,?_⟩;intro w hSw;go_simp;try with_reducible rfl)
   case hSb1=>assumption
   try simp only[Act.put,Sa,Sb,Sc]
   refine wpAnyH_take (i:=2) (oi:=?oib2) (v:=?vb2) ?hib2 ?hsb2 ?hfb2 ?hrb2 ?hQb2 ?hyb2 ?hSb2 ?_;case hib2=>refine An ?_;rfl
   case hsb2=>kernel_rfl
   case hfb2=>kernel_rfl
   case hrb2=>kernel_rfl
   case hQb2=>exact fun _ _ _ h=>h
   case hyb2=>(refine Or.inl ⟨by rfl,?_⟩;intro w hSw;go_simp;try with_reducible rfl)
   case hSb2=>assumption
   try simp only[Act.put,Sa,Sb,Sc]
   refine wpAnyH_take (i:=3) (oi:=?oib3) (v:=?vb3) ?hib3 ?hsb3 ?hfb3 ?hrb3 ?hQb3 ?hyb3 ?hSb3 ?_;case hib3=>refine An ?_;rfl
   case hsb3=>kernel_rfl
   case hfb3=>kernel_rfl
   case hrb3=>kernel_rfl
   case hQb3=>exact fun _ _ _ h=>h
   case hyb3=>(refine Or.inl ⟨by rfl,?_⟩;intro w hSw;go_simp;try with_reducible rfl)
   case hSb3=>assumption
   try simp only[Act.put,Sa,Sb,Sc]
   refine wpAnyH_take (i:=4) (oi:=?oib4) (v:=?vb4) ?hib4 ?hsb4 ?hfb4 ?hrb4 ?hQb4 ?hyb4 ?hSb4 ?_;case hib4=>refine An ?_;rfl
   case hsb4=>kernel_rfl
   case hfb4=>kernel_rfl
   case hrb4=>kernel_rfl
   case hQb4=>exact fun _ _ _ h=>h
   case hyb4=>(refine Or.inl ⟨by rfl,?_⟩;intro w hSw;go_simp;try with_reducible rfl)
   case hSb4=>assumption
   try simp only[Act.put,Sa,Sb,Sc]
   refine wpAnyH_take (i:=5) (oi:=?oib5) (v:=?vb5) ?hib5 ?hsb5 ?hfb5 ?hrb5 ?hQb5 ?hyb5 ?hSb5 ?_;case hib5=>refine An ?_;rfl
   case hsb5=>kernel_rfl
   case hfb5=>kernel_rfl
   case hrb5=>kernel_rfl
   case hQb5=>exact fun _ _ _ h=>h
   case hyb5=>(refine Or.inl ⟨by rfl,?_⟩;intro w hSw;go_simp;try with_reducible rfl)
   case hSb5=>assumption
   try simp only[Act.put,Sa,Sb,Sc]
   refine wpAnyH_take (i:=6) (oi:=?oib6) (v:=?vb6) ?hib6 ?hsb6 ?hfb6 ?hrb6 ?hQb6 ?hyb6 ?hSb6 ?_;case hib6=>refine An ?_;rfl
   case hsb6=>kernel_rfl
   case hfb6=>kernel_rfl
   case hrb6=>kernel_rfl
   case hQb6=>exact fun _ _ _ h=>h
   case hyb6=>(refine Or.inl ⟨by rfl,?_⟩;intro w hSw;go_simp;try with_reducible rfl)
   case hSb6=>assumption
   try simp only[Act.put,Sa,Sb,Sc]
   refine wpAnyH_take (i:=7) (oi:=?oib7) (v:=?vb7) ?hib7 ?hsb7 ?hfb7 ?hrb7 ?hQb7 ?hyb7 ?hSb7 ?_;case hib7=>refine An ?_;rfl
   case hsb7=>kernel_rfl
   case hfb7=>kernel_rfl
   case hrb7=>kernel_rfl
   case hQb7=>exact fun _ _ _ h=>h
   case hyb7=>(refine Or.inl ⟨by rfl,?_⟩;intro w hSw;go_simp;try with_reducible rfl)
   case hSb7=>assumption
   try simp only[Act.put,Sa,Sb,Sc]
   refine wpAnyH_take (i:=8) (oi:=?oib8) (v:=?vb8) ?hib8 ?hsb8 ?hfb8 ?hrb8 ?hQb8 ?hyb8 ?hSb8 ?_;case hib8=>refine An ?_;rfl
   case hsb8=>kernel_rfl
   case hfb8=>kernel_rfl
   case hrb8=>kernel_rfl
   case hQb8=>exact fun _ _ _ h=>h
   case hyb8=>(refine Or.inl ⟨by rfl,?_⟩;intro w hSw;go_simp;try with_reducible rfl)
   case hSb8=>assumption
   try simp only[Act.put,Sa,Sb,Sc]
   refine wpAnyH_take (i:=9) (oi:=?oib9) (v:=?vb9) ?hib9 ?hsb9 ?hfb9 ?hrb9 ?hQb9 ?hyb9 ?hSb9 ?_;case hib9=>refine An ?_;rfl
   case hsb9=>kernel_rfl
   case hfb9=>kernel_rfl
   case hrb9=>kernel_rfl
   case hQb9=>exact fun _ _ _ h=>h
   case hyb9=>(refine Or.inl ⟨by rfl,?_⟩;intro w hSw;go_simp;try with_reducible rfl)
   case hSb9=>assumption
   try simp only[Act.put,Sa,Sb,Sc]
   refine wpAnyH_take (i:=10) (oi:=?oib10) (v:=?vb10) ?hib10 ?hsb10 ?hfb10 ?hrb10 ?hQb10 ?hyb10 ?hSb10 ?_;case hib10=>refine An ?_;rfl
   case hsb10=>kernel_rfl
   case hfb10=>kernel_rfl
   case hrb10=>kernel_rfl
   case hQb10=>exact fun _ _ _ h=>h
   case hyb10=>(refine Or.inl ⟨by rfl,?_⟩;intro w hSw;go_simp;try with_reducible rfl)
   case hSb10=>assumption
   try simp only[Act.put,Sa,Sb,Sc]
   refine wpAnyH_take (i:=11) (oi:=?oib11) (v:=?vb11) ?hib11 ?hsb11 ?hfb11 ?hrb11 ?hQb11 ?hyb11 ?hSb11 ?_;case hib11=>refine An ?_;rfl
   case hsb11=>kernel_rfl
   case hfb11=>kernel_rfl
   case hrb11=>kernel_rfl
   case hQb11=>exact fun _ _ _ h=>h
   case hyb11=>(refine Or.inl ⟨by rfl,?_⟩;intro w hSw;go_simp;try with_reducible rfl)
   case hSb11=>assumption
   try simp only[Act.put,Sa,Sb,Sc]
   refine wpAnyH_take (i:=12) (oi:=?oib12) (v:=?vb12) ?hib12 ?hsb12 ?hfb12 ?hrb12 ?hQb12 ?hyb12 ?hSb12 ?_;case hib12=>refine An ?_;rfl
   case hsb12=>kernel_rfl
   case hfb12=>kernel_rfl
   case hrb12=>kernel_rfl
   case hQb12=>exact fun _ _ _ h=>h
   case hyb12=>(refine Or.inl ⟨by rfl,?_⟩;intro w hSw;go_simp;try with_reducible rfl)
   case hSb12=>assumption
   try simp only[Act.put,Sa,Sb,Sc]
   refine wpAnyH_done (by kernel_rfl) ?_ _;go_wp2;go_ret2
   exact⟨by simp[hlt],Bd (Below.refl _ _)⟩
 |false =>
  go_wp2_with fail
  refine wp_region_held_drew (S:=(fun W=>W.cell? ⟨gx,0,none⟩=some (.slice A n c))) (by kernel_rfl) hS (fun hHeld0=>?_);refine wpAnyH_take (i:=0) (oi:=?oic0) (v:=?vc0) ?hic0 ?hsc0 ?hfc0 ?hrc0 ?hQc0 ?hyc0 ?hSc0 ?_;case hic0=>refine An ?_;rfl
  case hsc0=>kernel_rfl
  case hfc0=>kernel_rfl
  case hrc0=>kernel_rfl
  case hQc0=>exact fun _ _ _ h=>h
  case hyc0=>(refine Or.inl ⟨by rfl,?_⟩;intro w hSw;go_simp;try with_reducible rfl)
  case hSc0=>assumption
  try simp only[Act.put,Sa,Sb,Sc]
  refine wpAnyH_take (i:=1) (oi:=?oic1) (v:=?vc1) ?hic1 ?hsc1 ?hfc1 ?hrc1 ?hQc1 ?hyc1 ?hSc1 ?_;case hic1=>refine An ?_;rfl
  case hsc1=>kernel_rfl
  case hfc1=>kernel_rfl
  case hrc1=>kernel_rfl
  case hQc1=>exact fun _ _ _ h=>h
  case hyc1=>(refine Or.inl ⟨by rfl,?_⟩;intro w hSw;go_simp;try with_reducible rfl)
  case hSc1=>assumption
  try simp only[Act.put,Sa,Sb,Sc]
  refine wpAnyH_take (i:=2) (oi:=?oic2) (v:=?vc2) ?hic2 ?hsc2 ?hfc2 ?hrc2 ?hQc2 ?hyc2 ?hSc2 ?_;case hic2=>refine An ?_;rfl
  case hsc2=>kernel_rfl
  case hfc2=>kernel_rfl
  case hrc2=>kernel_rfl
  case hQc2=>exact fun _ _ _ h=>h
  case hyc2=>(refine Or.inl ⟨by rfl,?_⟩;intro w hSw;go_simp;try with_reducible rfl)
  case hSc2=>assumption
  try simp only[Act.put,Sa,Sb,Sc]
  refine wpAnyH_take (i:=3) (oi:=?oic3) (v:=undef) ?hic3 ?hsc3 ?hfc3 ?hrc3 ?hQc3 ?hyc3 ?hSc3 ?_;case hic3=>refine An ?_;rfl
  case hsc3=>kernel_rfl
  case hfc3=>kernel_rfl
  case hrc3=>kernel_rfl
  case hQc3=>exact fun _ _ _ h=>h
  case hyc3=>(refine Or.inr ⟨by rfl,by rfl⟩)
  case hSc3=>assumption
  try simp only[Act.put,Sa,Sb,Sc]
  refine wpAnyH_take (i:=4) (oi:=?oic4) (v:=undef) ?hic4 ?hsc4 ?hfc4 ?hrc4 ?hQc4 ?hyc4 ?hSc4 ?_;case hic4=>refine An ?_;rfl
  case hsc4=>kernel_rfl
  case hfc4=>kernel_rfl
  case hrc4=>kernel_rfl
  case hQc4=>exact fun _ _ _ h=>h
  case hyc4=>(refine Or.inr ⟨by rfl,by rfl⟩)
  case hSc4=>assumption
  try simp only[Act.put,Sa,Sb,Sc]
  refine wpAnyH_take (i:=5) (oi:=?oic5) (v:=undef) ?hic5 ?hsc5 ?hfc5 ?hrc5 ?hQc5 ?hyc5 ?hSc5 ?_;case hic5=>refine An ?_;rfl
  case hsc5=>kernel_rfl
  case hfc5=>kernel_rfl
  case hrc5=>kernel_rfl
  case hQc5=>exact fun _ _ _ h=>h
  case hyc5=>(refine Or.inr ⟨by rfl,by rfl⟩)
  case hSc5=>assumption
  try simp only[Act.put,Sa,Sb,Sc]
  refine wpAnyH_take (i:=6) (oi:=?oic6) (v:=undef) ?hic6 ?hsc6 ?hfc6 ?hrc6 ?hQc6 ?hyc6 ?hSc6 ?_;case hic6=>refine An ?_;rfl
  case hsc6=>kernel_rfl
  case hfc6=>kernel_rfl
  case hrc6=>kernel_rfl
  case hQc6=>exact fun _ _ _ h=>h
  case hyc6=>(refine Or.inr ⟨by rfl,by rfl⟩)
  case hSc6=>assumption
  try simp only[Act.put,Sa,Sb,Sc]
  refine wpAnyH_take (i:=7) (oi:=?oic7) (v:=undef) ?hic7 ?hsc7 ?hfc7 ?hrc7 ?hQc7 ?hyc7 ?hSc7 ?_;case hic7=>refine An ?_;rfl
  case hsc7=>kernel_rfl
  case hfc7=>kernel_rfl
  case hrc7=>kernel_rfl
  case hQc7=>exact fun _ _ _ h=>h
  case hyc7=>(refine Or.inr ⟨by rfl,by rfl⟩)
  case hSc7=>assumption
  try simp only[Act.put,Sa,Sb,Sc]
  refine wpAnyH_take (i:=8) (oi:=?oic8) (v:=undef) ?hic8 ?hsc8 ?hfc8 ?hrc8 ?hQc8 ?hyc8 ?hSc8 ?_;case hic8=>refine An ?_;rfl
  case hsc8=>kernel_rfl
  case hfc8=>kernel_rfl
  case hrc8=>kernel_rfl
  case hQc8=>exact fun _ _ _ h=>h
  case hyc8=>(refine Or.inr ⟨by rfl,by rfl⟩)
  case hSc8=>assumption
  try simp only[Act.put,Sa,Sb,Sc]
  refine wpAnyH_take (i:=9) (oi:=?oic9) (v:=undef) ?hic9 ?hsc9 ?hfc9 ?hrc9 ?hQc9 ?hyc9 ?hSc9 ?_;case hic9=>refine An ?_;rfl
  case hsc9=>kernel_rfl
  case hfc9=>kernel_rfl
  case hrc9=>kernel_rfl
  case hQc9=>exact fun _ _ _ h=>h
  case hyc9=>(refine Or.inr ⟨by rfl,by rfl⟩)
  case hSc9=>assumption
  try simp only[Act.put,Sa,Sb,Sc]
  refine wpAnyH_take (i:=10) (oi:=?oic10) (v:=?vc10) ?hic10 ?hsc10 ?hfc10 ?hrc10 ?hQc10 ?hyc10 ?hSc10 ?_;case hic10=>refine An ?_;rfl
  case hsc10=>kernel_rfl
  case hfc10=>kernel_rfl
  case hrc10=>kernel_rfl
  case hQc10=>exact fun _ _ _ h=>h
  case hyc10=>(refine Or.inl ⟨by rfl,?_⟩;intro w hSw;go_simp;try with_reducible rfl)
  case hSc10=>assumption
  try simp only[Act.put,Sa,Sb,Sc]
  refine wpAnyH_take (i:=11) (oi:=?oic11) (v:=?vc11) ?hic11 ?hsc11 ?hfc11 ?hrc11 ?hQc11 ?hyc11 ?hSc11 ?_;case hic11=>refine An ?_;rfl
  case hsc11=>kernel_rfl
  case hfc11=>kernel_rfl
  case hrc11=>kernel_rfl
  case hQc11=>exact fun _ _ _ h=>h
  case hyc11=>(refine Or.inl ⟨by rfl,?_⟩;intro w hSw;go_simp;try with_reducible rfl)
  case hSc11=>assumption
  try simp only[Act.put,Sa,Sb,Sc]
  refine wpAnyH_take (i:=12) (oi:=?oic12) (v:=?vc12) ?hic12 ?hsc12 ?hfc12 ?hrc12 ?hQc12 ?hyc12 ?hSc12 ?_;case hic12=>refine An ?_;rfl
  case hsc12=>kernel_rfl
  case hfc12=>kernel_rfl
  case hrc12=>kernel_rfl
  case hQc12=>exact fun _ _ _ h=>h
  case hyc12=>(refine Or.inl ⟨by rfl,?_⟩;intro w hSw;go_simp;try with_reducible rfl)
  case hSc12=>assumption
  try simp only[Act.put,Sa,Sb,Sc]
  refine wpAnyH_done (by kernel_rfl) ?_ _;go_wp2;go_ret2
  exact⟨by simp,Bd (Below.refl _ _)⟩
end
end Go.Proofs.YtnmahobjmpdkdaaGreatDoor
namespace Go
section
section
variable {P:Program} {ops:Array Oper} {Q:Exit→Act→World→Prop} {md:Region.Mode} {S:World→Prop} {D:List Nat}
def DK(D:List Nat)(listed:Array Bool):Bool:=D.all fun d=>!listed.getD d false
def Du(md:Region.Mode)(ops:Array Oper)(i:Nat):Nat→Nat→Bool
 |0,d=>d==i
 |n+1,d=>d==i||((ops[d]?).map (·.after.any fun e=>Region.binds md e&&Du md ops i n e.on)).getD false
def IF(md:Region.Mode)(ops:Array Oper)(listed:Array Bool):Bool :=
 (List.range ops.size).all fun j=>!listed.getD j false||((ops[j]?).map (·.after.all fun e=>!Region.binds md e||listed.getD e.on false)).getD false
def Fh(md:Region.Mode)(ops:Array Oper)(listed:Array Bool):Prop :=
 ∀ j o,ops[j]?=some o→listed.getD j false=true→∀ e∈o.after,Region.binds md e=true→listed.getD e.on false=true
theorem LY{listed:Array Bool}(h:IF md ops listed=true):Fh md ops listed:=by
 intro j o ho hj e he hb;unfold IF at h;rw[List.all_eq_true]at h;have h1:=h j (List.mem_range.2 (Array.getElem?_eq_some_iff.1 ho).1);rw[hj,ho]at h1;have h2:(o.after.all fun e=>!Region.binds md e||listed.getD e.on false)=true:=by simpa using h1
 have h3:=Array.all_eq_true_iff_forall_mem.1 h2 e he;rw[hb]at h3
 simpa using h3
theorem Fh.step{listed:Array Bool}{i:Nat}(h:Fh md ops listed)(hr:i∈Region.ready md ops listed):Fh md ops (listed.setIfInBounds i true):=by
 intro j o ho hj e he hb;obtain⟨_,oi,hoi,hall⟩:=mem_ready.1 hr;by_cases hij:i=j
 ·subst hij;rw[hoi]at ho;cases ho;exact getD_set_true (hall e he hb)
 ·rw[getD_set_ne false hij]at hj;exact getD_set_true (h j o ho hj e he hb)
theorem FM{listed:Array Bool}{i:Nat}(h:Fh md ops listed):∀ n d,Du md ops i n d=true→listed.getD d false=true→listed.getD i false=true
 |0,d,hw,hd=>by
  have:d=i:=by simpa [Du]using hw
  subst this;exact hd
 |n+1,d,hw,hd=>by
  unfold Du at hw;rcases Bool.or_eq_true ..▸hw with h1 |h1
  ·have:d=i:=by simpa using h1
   subst this;exact hd
  ·cases ho:ops[d]? with
   |none=>rw[ho]at h1;simp at h1
   |some o =>
    rw[ho]at h1;have h2:(o.after.any fun e=>Region.binds md e&&Du md ops i n e.on)=true:=by simpa using h1
    obtain⟨e,he,hb⟩:=Array.any_eq_true'.1 h2;rw[Bool.and_eq_true]at hb;exact FM h n e.on hb.2 (h d o ho hd e he hb.1)
theorem Lf{listed:Array Bool}{i:Nat}(h:Fh md ops listed)(hi:listed.getD i false=false)(n d:Nat)(hw:Du md ops i n d=true)(hne:d≠i) :
  d∉Region.ready md ops listed:=fun hr=>by
 obtain⟨_,o,ho,hall⟩:=mem_ready.1 hr;cases n with
 |zero=>exact hne (by simpa [Du]using hw)
 |succ n =>
  unfold Du at hw;rcases Bool.or_eq_true ..▸hw with h1 |h1
  ·exact hne (by simpa using h1)
  ·rw[ho]at h1;have h2:(o.after.any fun e=>Region.binds md e&&Du md ops i n e.on)=true:=by simpa using h1
   obtain⟨e,he,hb⟩:=Array.any_eq_true'.1 h2;rw[Bool.and_eq_true]at hb;have:=FM h n e.on hb.2 (hall e he hb.1);rw[hi]at this;cases this
def Dq(P:Program)(md:Region.Mode)(ops:Array Oper)(Q:Exit→Act→World→Prop)(S:World→Prop)(D:List Nat):Nat→Array Bool→Act→World→Prop
 |0,listed,a,w=>Region.ready md ops listed=[]∧Q .normal a w
 |fuel+1,listed,a,w =>
  (Region.ready md ops listed=[]→Q .normal a w) ∧
  ∀ i∈Region.ready md ops listed,wpOp P ops Q i (fun a' w'=>(DK D (listed.setIfInBounds i true)=true→S w')∧Dq P md ops Q S D fuel (listed.setIfInBounds i true) a' w') a w
theorem H5:∀ (fuel:Nat) (listed:Array Bool) (a:Act) (w:World),Dq P md ops Q S D fuel listed a w→wpAny P md ops Q fuel listed a w
 |0,_,_,_,h=>h
 |fuel+1,_,_,_,h=>⟨h.1,fun i hi=>wpOp_mono (fun a' w' h'=>H5 fuel _ a' w' h'.2) (h.2 i hi)⟩
theorem Hd{listed:Array Bool}{i:Nat}(hr:i∈Region.ready md ops listed):listed.getD i false=false:=by
 have h0:=(mem_ready.1 hr).1;rcases Nat.lt_or_ge i listed.size with h' |h'
 ·simp[h']at h0 ⊢;exact h0
 ·simp[Array.getElem?_eq_none h']at h0
theorem Ie{listed:Array Bool}{i:Nat}(hi:i∉D)(h:DK D listed=true):DK D (listed.setIfInBounds i true)=true:=by
 unfold DK at *;rw[List.all_eq_true]at *;intro d hd;rw[getD_set_ne false (fun e:i=d=>hi (by rw[e];exact hd))];exact h d hd
theorem NC{i:Nat}{oi:Oper}{v:Value}(hi:ops[i]?=some oi)(hsel:∀ (j:Nat) (o:Oper) cs b,ops[j]?=some o→o.op≠.select cs b)
  (hQ:∀ c a w,Q (.panic c) (a.put oi.dst v) w→Q (.panic c) a w)(hD:∀ d∈D,d≠i∧Du md ops i ops.size d=true) :
  ∀ (fuel:Nat) (listed:Array Bool) (a:Act) (w:World),
   (∀ j oj,ops[j]?=some oj→j≠i→listed.getD j true=false→(∀ e∈oj.after,Region.binds md e=true→e.on≠i)→oi.apart ops oj=true) →
   Fh md ops listed→i∈Region.ready md ops listed→YieldsIf P ops S oi v a→S w →
   Dq P md ops Q S D fuel (listed.setIfInBounds i true) (a.put oi.dst v) w→Dq P md ops Q S D (fuel+1) listed a w:=by
 intro fuel;induction fuel with
 |zero =>
  intro listed a w _ hsd hr hy hS H;refine⟨fun h=>(by rw[h]at hr;cases hr),fun j hj=>?_⟩;by_cases hji:j=i
  ·subst hji;exact hy.wpOp hi hS ⟨fun _=>hS,H⟩
  ·have:=ready_mono hj hji;rw[H.1]at this;cases this
 |succ fuel ih =>
  intro listed a w hfree hsd hr hy hS H;refine⟨fun h=>(by rw[h]at hr;cases hr),fun j hj=>?_⟩;by_cases hji:j=i
  ·subst hji;exact hy.wpOp hi hS ⟨fun _=>hS,H⟩
  ·have h1:=H.2 j (ready_mono hj hji);obtain⟨hjun,oj,hoj,hall⟩:=mem_ready.1 hj;have hnot:∀ e∈oj.after,Region.binds md e=true→e.on≠i:=fun e he hb heq=>by
    have h1:=hall e he hb;rw[heq,Hd hr]at h1;cases h1
   have h2:=wpOp_putIf hoj (hfree j oj hoj hji hjun hnot) (fun cs b=>hsel i oi cs b hi) (fun cs b=>hsel j oj cs b hoj) hQ hy h1;have hfree':∀ k ok,ops[k]?=some ok→k≠i→(listed.setIfInBounds j true).getD k true=false →
     (∀ e∈ok.after,Region.binds md e=true→e.on≠i)→oi.apart ops ok=true:=fun k ok hk hki hun hno=>by
    refine hfree k ok hk hki ?_ hno;by_cases hjk:j=k
    ·subst hjk;exact hjun
    ·rw[getD_set_ne true hjk]at hun;exact hun
   have hun:=Hd hr;have hjD:j∉D:=fun hd=>Lf hsd hun _ j (hD j hd).2 hji hj
   have hiD:i∉D:=fun hd=>(hD i hd).1 rfl
   have hnl:DK D listed=true:=by
    unfold DK;rw[List.all_eq_true];intro d hd;cases hc:listed.getD d false with
    |false=>rfl
    |true =>
     have:=FM hsd _ d (hD d hd).2 hc;rw[hun]at this;cases this
   refine wpOp_mono (fun a' w' h3=>?_) h2;have hS':S w':=h3.2.1 (Ie hjD (Ie hiD hnl));refine⟨fun _=>hS',ih (listed.setIfInBounds j true) a' w' hfree' (hsd.step hj) (ready_mono hr (Ne.symm hji)) h3.1 hS' ?_⟩;rw[Array.setIfInBounds_comm _ _ hji];exact h3.2.2
theorem Ez{i:Nat}{oi:Oper}{v:Value}{fuel:Nat}{listed:Array Bool}{a:Act}{w:World}(hi:ops[i]?=some oi)
  (hs:(Region.noSelect ops&&Region.free md ops listed i&&(Region.ready md ops listed).contains i&&IF md ops listed&&D.all (fun d=>d != i&&Du md ops i ops.size d))=true)
  (hQ:∀ c a w,Q (.panic c) (a.put oi.dst v) w→Q (.panic c) a w)(hy:YieldsIf P ops S oi v a)(hS:S w)
  (h:Dq P md ops Q S D fuel (listed.setIfInBounds i true) (a.put oi.dst v) w):Dq P md ops Q S D (fuel+1) listed a w:=by
 simp only[Bool.and_eq_true]at hs;obtain⟨⟨⟨⟨h1,h2⟩,h3⟩,h4⟩,h5⟩:=hs;refine NC hi (Region.noSelect_spec h1) hQ (fun d hd=>?_) fuel listed a w (Region.free_spec hi h2) (LY h4) (by simpa using h3) hy hS h;have:=List.all_eq_true.1 h5 d hd
 simpa using this
theorem LZ{i:Nat}{oi:Oper}{v:Value}(hi:ops[i]?=some oi)(hsel:∀ (j:Nat) (o:Oper) cs b,ops[j]?=some o→o.op≠.select cs b)
  (hQ:∀ c a w,Q (.panic c) (a.put oi.dst v) w→Q (.panic c) a w)(hiD:i∉D) :
  ∀ (fuel:Nat) (listed:Array Bool) (a:Act) (w:World),
   (∀ j oj,ops[j]?=some oj→j≠i→listed.getD j true=false→(∀ e∈oj.after,Region.binds md e=true→e.on≠i)→oi.apart ops oj=true) →
   i∈Region.ready md ops listed→Yields P ops oi v a→(DK D listed=true→S w) →
   Dq P md ops Q S D fuel (listed.setIfInBounds i true) (a.put oi.dst v) w→Dq P md ops Q S D (fuel+1) listed a w:=by
 have back:∀ {listed:Array Bool},DK D (listed.setIfInBounds i true)=true→DK D listed=true:=fun {listed} h=>by
  unfold DK at *;rw[List.all_eq_true]at *;intro d hd;have h1:=h d hd
  rwa [getD_set_ne false (fun e:i=d=>hiD (by rw[e];exact hd))]at h1
 intro fuel;induction fuel with
 |zero =>
  intro listed a w _ hr hy hS H;refine⟨fun h=>(by rw[h]at hr;cases hr),fun j hj=>?_⟩;by_cases hji:j=i
  ·subst hji;exact hy.wpOp hi ⟨fun h=>hS (back h),H⟩
  ·have:=ready_mono hj hji;rw[H.1]at this;cases this
 |succ fuel ih =>
  intro listed a w hfree hr hy hS H;refine⟨fun h=>(by rw[h]at hr;cases hr),fun j hj=>?_⟩;by_cases hji:j=i
  ·subst hji;exact hy.wpOp hi ⟨fun h=>hS (back h),H⟩
  ·have h1:=H.2 j (ready_mono hj hji);obtain⟨hjun,oj,hoj,hall⟩:=mem_ready.1 hj;have hnot:∀ e∈oj.after,Region.binds md e=true→e.on≠i:=fun e he hb heq=>by
    have h1:=hall e he hb;rw[heq,Hd hr]at h1;cases h1
   have h2:=wpOp_put hoj (hfree j oj hoj hji hjun hnot) (fun cs b=>hsel i oi cs b hi) (fun cs b=>hsel j oj cs b hoj) hQ hy h1;have hfree':∀ k ok,ops[k]?=some ok→k≠i→(listed.setIfInBounds j true).getD k true=false →
     (∀ e∈ok.after,Region.binds md e=true→e.on≠i)→oi.apart ops ok=true:=fun k ok hk hki hun hno=>by
    refine hfree k ok hk hki ?_ hno;by_cases hjk:j=k
    ·subst hjk;exact hjun
    ·rw[getD_set_ne true hjk]at hun;exact hun
   refine wpOp_mono (fun a' w' h3=>?_) h2;have hS':DK D (listed.setIfInBounds j true)=true→S w':=fun h=>h3.2.1 (by rw[Array.setIfInBounds_comm _ _ (Ne.symm hji)];exact Ie hiD h)
   refine⟨hS',ih (listed.setIfInBounds j true) a' w' hfree' (ready_mono hr (Ne.symm hji)) h3.1 hS' ?_⟩;rw[Array.setIfInBounds_comm _ _ hji];exact h3.2.2
theorem AU{i:Nat}{oi:Oper}{v:Value}{fuel:Nat}{listed:Array Bool}{a:Act}{w:World}(hi:ops[i]?=some oi)
  (hs:(Region.noSelect ops&&Region.free md ops listed i&&(Region.ready md ops listed).contains i&&!D.contains i)=true)
  (hQ:∀ c a w,Q (.panic c) (a.put oi.dst v) w→Q (.panic c) a w)(hy:Yields P ops oi v a)(hS:DK D listed=true→S w)
  (h:Dq P md ops Q S D fuel (listed.setIfInBounds i true) (a.put oi.dst v) w):Dq P md ops Q S D (fuel+1) listed a w:=by
 simp only[Bool.and_eq_true]at hs;obtain⟨⟨⟨h1,h2⟩,h3⟩,h4⟩:=hs;exact LZ hi (Region.noSelect_spec h1) hQ (by simpa using h4) fuel listed a w (Region.free_spec hi h2) (by simpa using h3) hy hS h
def Aa(P:Program)(md:Region.Mode)(ops:Array Oper)(Q:Exit→Act→World→Prop)(S:World→Prop)(D:List Nat)(fuel:Nat)(listed:Array Bool)(a:Act)(w:World)(rs:List Nat):Prop :=
 ∀ i∈rs,wpOp P ops Q i (fun a' w'=>(DK D (listed.setIfInBounds i true)=true→S w')∧Dq P md ops Q S D fuel (listed.setIfInBounds i true) a' w') a w
theorem Aa.nil{fuel:Nat}{listed:Array Bool}{a:Act}{w:World}:Aa P md ops Q S D fuel listed a w []:=fun _ h=>by cases h
theorem Aa.cons{fuel:Nat}{listed:Array Bool}{a:Act}{w:World}{i:Nat}{o:Oper}{rs:List Nat}(ho:ops[i]?=some o)
  (h:∀ K':Act→World→Prop,Shut (∀ a w,(DK D (listed.setIfInBounds i true)=true→S w)→((DK D (listed.setIfInBounds i true)=true→S w)→Dq P md ops Q S D fuel (listed.setIfInBounds i true) a w)→K' a w)→if Region.wanted o (yielded ops a.tmps)=true then Oper.wp P o a w K' Q else K' (a.put o.dst undef) w)
  (hs:Aa P md ops Q S D fuel listed a w rs):Aa P md ops Q S D fuel listed a w (i::rs):=fun j hj=>by
 rcases List.mem_cons.1 hj with rfl |hj
 ·exact wpOp_step ho (fun K' hK=>h K' (fun a w hS hW=>hK a w ⟨hS,hW hS⟩))
 ·exact hs j hj
theorem Ab{rs:List Nat}{fuel:Nat}{listed:Array Bool}{a:Act}{w:World}(hr:Region.ready md ops listed=rs)(hne:rs≠[])
 (h:Aa P md ops Q S D fuel listed a w rs):Dq P md ops Q S D (fuel+1) listed a w:=⟨fun h0=>absurd (hr▸h0) hne,hr▸h⟩
theorem AE{listed:Array Bool}{a:Act}{w:World}(hr:Region.ready md ops listed=[])(h:Q .normal a w) :
  ∀ fuel,Dq P md ops Q S D fuel listed a w
 |0=>⟨hr,h⟩
 |_+1=>⟨fun _=>h,by rw[hr];simp⟩
theorem Ay{id:Nat}{a:Act}{w:World}(D:List Nat)(hm:P.follows .mixedOrders=true)(hS:S w.drew)
  (h:S w.drew→Dq P .any ops Q S D ops.size (Array.replicate ops.size false) a w.drew):(Code.region id ops true).wp P Q a w :=
 wp_region_any hm (H5 _ _ _ _ (h hS))
end
end
end Go
namespace Go.Proofs.YtnmahobjmpdkdaaGreatDoor
section
open Go.RowKit Go.Proofs.YtnmahobjmpdkdaaGreatDoorW.PrintWords
section
variable {P:Program} {ops:List Oper} {Q:Exit→Act→World→Prop} {md:Region.Mode} {S:World→Prop} {D:List Nat}
theorem tY(i:Nat){oi:Oper}{v:Value}{fuel:Nat}{listed:Array Bool}{a a':Act}{w:World}(hS:DK D listed=true→S w)(h:Dq P md ops.toArray Q S D fuel (listed.setIfInBounds i true) a' w)
  (hi:ops.toArray[i]?=some oi:=by exact An rfl)(hy:Yields P ops.toArray oi v a:=by(refine .inl ⟨by rfl,?_⟩);intro w;go_simp;try with_reducible rfl)
  (ha:a.put oi.dst v=a':=by first |(simp only[Act.put,Sa,Sb,Sc];exact rfl) |(simp only[Act.put,Sa,Sb,Sc];done) |exact rfl)
  (hs:(Region.noSelect ops.toArray&&Region.free md ops.toArray listed i&&(Region.ready md ops.toArray listed).contains i&&!D.contains i)=true:=by kernel_rfl)
  (hQ:∀ c a w,Q (.panic c) (a.put oi.dst v) w→Q (.panic c) a w:=by exact fun _ _ _ h=>h):Dq P md ops.toArray Q S D (fuel+1) listed a w:=by
 subst ha;exact AU hi hs hQ hy hS h
theorem tL(i:Nat){oi:Oper}{v:Value}{fuel:Nat}{listed:Array Bool}{a a':Act}{w:World}(hS:S w)(h:Dq P md ops.toArray Q S D fuel (listed.setIfInBounds i true) a' w)
  (hi:ops.toArray[i]?=some oi:=by exact An rfl)(hy:YieldsIf P ops.toArray S oi v a:=by(refine .inl ⟨by rfl,?_⟩);intro w hSw;(repeat (rcases hSw with ⟨_,hSw⟩));go_simp;try with_reducible rfl)
  (ha:a.put oi.dst v=a':=by first |(simp only[Act.put,Sa,Sb,Sc];exact rfl) |(simp only[Act.put,Sa,Sb,Sc];done) |exact rfl)
  (hs:(Region.noSelect ops.toArray&&Region.free md ops.toArray listed i&&(Region.ready md ops.toArray listed).contains i&&IF md ops.toArray listed&&D.all (fun d=>d != i&&Du md ops.toArray i ops.toArray.size d))=true:=by kernel_rfl)
  (hQ:∀ c a w,Q (.panic c) (a.put oi.dst v) w→Q (.panic c) a w:=by exact fun _ _ _ h=>h):Dq P md ops.toArray Q S D (fuel+1) listed a w:=by
 subst ha;exact Ez hi hs hQ hy hS h
end
end
section
theorem He{α:Type}{motive:List α→Prop}(h0:motive [])(h1:∀ l x,motive l→motive (l++[x]))(l:List α):motive l:=by
 have:∀ l:List α,motive l.reverse:=by
  intro l;induction l with
  |nil=>exact h0
  |cons x l ih=>rw[List.reverse_cons];exact h1 _ _ ih
 have:=this l.reverse
 rwa [List.reverse_reverse]at this
abbrev DQ:=Nat×Nat
def CC(l:List DQ)(t:Nat):Nat:=l.foldl (fun k x=>if x.2=t then x.1 else k) 0
def MJ(k:Nat):Nat:=if k=1 then 1 else if k=2 then 2 else if k=3 then 3 else if k=4 then 5 else if k=5 then 4 else if k=8 then 6 else if k=9 then 7 else 0
def E7(l:List DQ)(t:Nat):Nat:=MJ (CC l t)
def Ch(l:List DQ):List DQ→List Nat
 |[]=>[]
 |x::r=>if x.1=2∧CC l x.2=2∧CC r x.2=0 then x.2::Ch l r else Ch l r
def Gq(l:List DQ):List Nat:=Ch l l
def Pz(k:Nat):Bool:=k==3||k==4||k==6
def D9(l:List DQ):List DQ→Int
 |[] => -1
 |x::r=>if Pz (E7 l x.2)=true then (x.2:Int) else D9 l r
def Gc(l:List DQ):Int:=D9 l l.reverse
def Db(kind last:Nat)(head:Bool)(free:Bool):Bool :=
 if kind=1 then last==0||last==6||last==7||last==10
 else if kind=2∨kind=7 then last==1
 else if kind=3 then last==2&&head&&free
 else if kind=4 then last==2
 else if kind=5 then last==3
 else if kind=6 then last==4
 else if kind=8 then last==5
 else if kind=9 then last==8
 else if kind=10 then last==9
 else false
def Fi(n:Nat)(l:List DQ)(x:DQ):Bool:=decide (x.2<n)&&Db x.1 (CC l x.2) ((Gq l).head?==some x.2) (Gc l == -1)
def Dg(n:Nat)(pre:List DQ):List DQ→Nat
 |[]=>pre.length
 |x::r=>if Fi n pre x=true then Dg n (pre++[x]) r else pre.length
def Co(n:Nat)(l:List DQ):Nat:=if n<1∨n > 64 then 0 else Dg n [] l
theorem EV(l:List DQ)(x:DQ)(t:Nat):CC (l++[x]) t=if x.2=t then x.1 else CC l t:=by
 simp[CC,List.foldl_append]
theorem Hf(l:List DQ)(x:DQ)(hx:x.1≠0):∀ r:List DQ,Ch (l++[x]) (r++[x])=(Ch l r).filter (· != x.2)++(if x.1=2 then [x.2] else [])
 |[]=>by
  simp[Ch,EV];by_cases h:x.1=2<;>simp[h,CC]
 |y::r=>by
  have ih:=Hf l x hx r;simp only[List.cons_append,Ch,EV,ih];by_cases h:x.2=y.2
  ·have h':¬(y.1=2∧(if x.2=y.2 then x.1 else CC l y.2)=2∧(if x.2=y.2 then x.1 else CC r y.2)=0):=fun⟨_,_,e⟩=>by rw[if_pos h]at e;exact hx e
   rw[if_neg h'];by_cases h2:y.1=2∧CC l y.2=2∧CC r y.2=0
   ·rw[if_pos h2,List.filter_cons_of_neg (by simp[h])]
   ·rw[if_neg h2]
  ·rw[if_neg h,if_neg h];by_cases h2:y.1=2∧CC l y.2=2∧CC r y.2=0
   ·rw[if_pos h2,if_pos h2,List.filter_cons_of_pos (by simpa using fun e=>h e.symm),List.cons_append]
   ·rw[if_neg h2,if_neg h2]
theorem Pc(l:List DQ)(x:DQ)(hx:x.1≠0):Gq (l++[x])=(Gq l).filter (· != x.2)++(if x.1=2 then [x.2] else []):=Hf l x hx l
theorem Hg(l:List DQ):∀ r:List DQ,D9 l r = -1↔∀ x∈r,Pz (E7 l x.2)=false
 |[]=>by simp[D9]
 |x::r=>by
  have ih:=Hg l r;unfold D9;by_cases h:Pz (E7 l x.2)=true
  ·rw[if_pos h];constructor
   ·intro e;omega
   ·intro e;rw[e x (List.mem_cons_self ..)]at h;cases h
  ·rw[if_neg h,ih];simp at h;simp[h]
theorem Pd(l:List DQ):Gc l = -1↔∀ x∈l,Pz (E7 l x.2)=false:=by
 rw[Gc,Hg];simp
theorem SA:∀ (l:List DQ) (t:Nat),(∀ x∈l,x.2≠t)→CC l t=0:=by
 intro l t h;induction l using He with
 |h0=>rfl
 |h1 l x ih =>
  rw[EV,if_neg (h x (by simp)),ih (fun y hy=>h y (by simp[hy]))]
structure D8 where
 last:List Nat
 queue:List Nat
 ok:Bool
deriving DecidableEq
def D8.new(n:Nat):D8:=⟨List.replicate n 0,[],true⟩
def K6(k:Nat):Bool:=k==3||k==5||k==8
def D8.fits(x:D8)(kind t:Nat):Bool:=decide (t<x.last.length)&&Db kind (x.last.getD t 0) (x.queue.head?==some t) (x.last.all (fun k=>!K6 k))
def D8.enter(x:D8)(kind t:Nat):D8 :=
 ⟨x.last.set t kind,x.queue.filter (· != t)++(if kind=2 then [t] else []),x.ok&&x.fits kind t⟩
def D8.of(n:Nat)(l:List DQ):D8:=l.foldl (fun x e=>x.enter e.1 e.2) (D8.new n)
theorem D8.F7(n:Nat)(l:List DQ)(e:DQ):D8.of n (l++[e])=(D8.of n l).enter e.1 e.2:=by simp[D8.of,List.foldl_append]
theorem D8.len(n:Nat)(l:List DQ):(D8.of n l).last.length=n:=by
 induction l using He with
 |h0=>simp[D8.of,D8.new]
 |h1 l x ih=>rw[D8.F7];simp[D8.enter,ih]
theorem D8.Kb(n:Nat)(l:List DQ)(t:Nat)(ht:t<n):(D8.of n l).last.getD t 0=CC l t:=by
 induction l using He with
 |h0=>simp[D8.of,D8.new,CC,ht]
 |h1 l x ih =>
  rw[D8.F7,EV,←ih];have hl:=D8.len n l;simp only[D8.enter,List.getD_eq_getElem?_getD,List.getElem?_set];by_cases h:x.2=t
  ·rw[if_pos h,if_pos h,if_pos (by omega)];rfl
  ·rw[if_neg h,if_neg h]
theorem D8.Uy(n:Nat)(l:List DQ)(h:∀ x∈l,x.1≠0):(D8.of n l).queue=Gq l:=by
 induction l using He with
 |h0=>rfl
 |h1 l x ih =>
  rw[D8.F7,Pc _ _ (h x (by simp)),←ih (fun y hy=>h y (by simp[hy]))];rfl
theorem Mz(k:Nat):Pz (MJ k)=K6 k:=by
 unfold MJ K6;repeat' split
 all_goals first |(subst_vars;rfl) |skip
 rw[show(k==3)=false from Bq (by assumption),show(k==5)=false from Bq (by assumption),show(k==8)=false from Bq (by assumption)];rfl
theorem D8.Uz(n:Nat)(l:List DQ)(h:∀ x∈l,x.2<n):(D8.of n l).last.all (fun k=>!K6 k)=(Gc l == -1):=by
 rw[Bool.eq_iff_iff,List.all_eq_true,beq_iff_eq,Pd];constructor
 ·intro h1 x hx;have h2:=h x hx;have h3:=h1 ((D8.of n l).last.getD x.2 0) (by
   rw[List.getD_eq_getElem?_getD,List.getElem?_eq_getElem (by rw[D8.len];exact h2)];exact List.getElem_mem _)
  rw[D8.Kb n l _ h2]at h3;rw[E7,Mz]
  simpa using h3
 ·intro h1 k hk;obtain⟨t,ht,rfl⟩:=List.mem_iff_getElem.1 hk;have ht':t<n:=by rw[D8.len]at ht;exact ht
  have e:(D8.of n l).last[t]=CC l t:=by rw[←D8.Kb n l t ht',List.getD_eq_getElem?_getD,List.getElem?_eq_getElem ht];rfl
  rw[e];by_cases hx:∃ x∈l,x.2=t
  ·obtain⟨x,hx,rfl⟩:=hx;have:=h1 x hx;rw[E7,Mz]at this;simp[this]
  ·rw[SA l t (fun x hx2 e=>hx ⟨x,hx2,e⟩)];rfl
theorem U0{kind last:Nat}{a b:Bool}(h:Db kind last a b=true):kind≠0:=by
 intro e;subst e;simp[Db]at h
def Lh(n:Nat)(l:List DQ):Prop:=∀ a x b,l=a++x::b→Fi n a x=true
theorem M0(n:Nat):Lh n []:=fun a x b e=>by cases a with
 |nil=>cases e
 |cons y a=>cases e
theorem Li{n:Nat}{l:List DQ}{x:DQ}:Lh n (l++[x])↔Lh n l∧Fi n l x=true:=by
 constructor
 ·intro h;exact⟨fun a y b e=>h a y (b++[x]) (by rw[e];simp),h l x [] rfl⟩
 ·rintro⟨h1,h2⟩ a y b e;rcases List.eq_nil_or_concat b with rfl |⟨b',z,rfl⟩
  ·obtain⟨rfl,h⟩:=List.append_inj' e rfl;cases h;exact h2
  ·have e':l++[x]=(a++y::b')++[z]:=by rw[e];simp
   obtain⟨rfl,_⟩:=List.append_inj' e' rfl;exact h1 a y b' rfl
theorem SB{n:Nat}{l:List DQ}(h:Lh n l):∀ x∈l,x.2<n∧x.1≠0:=by
 intro x hx;obtain⟨a,b,rfl⟩:=List.append_of_mem hx;have:=h a x b rfl;simp only[Fi,Bool.and_eq_true,decide_eq_true_eq]at this;exact⟨this.1,U0 this.2⟩
theorem D8.X8(n:Nat)(l:List DQ):(D8.of n l).ok=true↔Lh n l:=by
 induction l using He with
 |h0=>exact⟨fun _=>M0 n,fun _=>rfl⟩
 |h1 l x ih =>
  rw[Li,D8.F7,←ih];simp only[D8.enter,Bool.and_eq_true];refine and_congr_right fun h=>?_
  have hg:=SB (ih.1 h);have e:(D8.of n l).fits x.1 x.2=Fi n l x:=by
   unfold D8.fits Fi;rw[D8.len,D8.Uy n l (fun y hy=>(hg y hy).2),D8.Uz n l (fun y hy=>(hg y hy).1)];by_cases hx:x.2<n
   ·rw[D8.Kb n l _ hx]
   ·simp[hx]
  rw[e]
theorem H6(n:Nat):∀ (r pre:List DQ),Lh n pre→(Dg n pre r=(pre++r).length↔Lh n (pre++r))
 |[],pre,h=>by simp[Dg,h]
 |x::r,pre,h=>by
  unfold Dg;by_cases hx:Fi n pre x=true
  ·rw[if_pos hx];have:=H6 n r (pre++[x]) (Li.2 ⟨h,hx⟩)
   simpa using this
  ·rw[if_neg hx];constructor
   ·intro e;simp at e
   ·intro e;exact absurd (e pre x r rfl) hx
theorem Em(n:Nat)(h1:1≤n)(h2:n≤64)(l:List DQ):Co n l=l.length↔(D8.of n l).ok=true:=by
 rw[D8.X8];unfold Co;rw[if_neg (by omega)];exact H6 n l [] (M0 n)
end
end Go.Proofs.YtnmahobjmpdkdaaGreatDoor

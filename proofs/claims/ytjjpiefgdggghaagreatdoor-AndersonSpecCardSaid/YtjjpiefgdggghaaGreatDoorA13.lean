/- Parts: AsmPlace, LateKit, One. -/
import Derived.Test.YtjjpiefgdggghaaGreatDoorA03
import Derived.Test.YtjjpiefgdggghaaGreatDoorA06
import Derived.Deep.RegionHeld3
import Derived.Test.YtjjpiefgdggghaaGreatDoorA02
import Derived.Test.YtjjpiefgdggghaaGreatDoorA07
import Derived.Test.YtjjpiefgdggghaaGreatDoorA12
set_option linter.unusedVariables false
set_option linter.unusedSimpArgs false
set_option maxRecDepth 100000
set_option maxHeartbeats 40000000
namespace Go.Proofs.YtjjpiefgdggghaaGreatDoor
section
open Go.RowKit Go.Maps Go.Proofs.YtjjpiefgdggghaaGreatDoorW.PrintWords
theorem Au{α:Type}{l:List α}{i:Nat}{o:α}(h:l[i]?=some o):l.toArray[i]?=some o:=by simpa using h
theorem Gi(gx bm n c:Nat)(A:Option Addr)(v1 v2:Value)(L:List (List UInt8×Nat))(s:List UInt8)(hs:s.length≤1000000)(w:World)
  (hx:w.heap[gx]?=some (.cells #[.slice A n c,v1,v2,.map (some bm)] 121 (0,0)))(hL:ES w bm L) :
  Calls Tryz.prog 68 #[.pointer (some ⟨gx,0,none⟩),.string ⟨s.toArray⟩] w fun e w' =>
   e=.returned (.tuple #[.int .i64 ((DG L s).getD 0:Nat),.bool ((DG L s).isSome&&decide (((DG L s).getD 0:Nat)<n))])∧Below w.heap.size w w':=by
 have c0:w.cell? ⟨gx,0,none⟩=some (.slice A n c):=(Bc hx 0).trans rfl;have c3:w.cell? ⟨gx,3,none⟩=some (.map (some bm)):=(Bc hx 3).trans rfl;have hS:w.drew.cell? ⟨gx,0,none⟩=some (.slice A n c):=c0;replace hL:=Az hL;obtain⟨p,hp⟩:∃ p,(DG L s).getD 0=p:=⟨_,rfl⟩
 obtain⟨b,hb⟩:∃ b,(DG L s).isSome=b:=⟨_,rfl⟩
 rw[hp,hb];go_enter Tryz.func68,Tryz.ntmps68;go_wp2_with (refine J4 rfl (.tmp 12) (.tmp 13) rfl bm L rfl hL.out s hs rfl ?_)
 clear hp hb hL hx;cases b with
 |true =>
  by_cases hlt:p<n
  ·have h1:decide ((p:Int)<(n:Int))=true:=decide_eq_true (by omega);go_wp2_with fail
   refine wp_region_held_drew (S:=(fun W=>W.cell? ⟨gx,0,none⟩=some (.slice A n c))) (by kernel_rfl) hS (fun hHeld0=>?_);refine wpAnyH_take (i:=0) (oi:=?oia0) (v:=?va0) ?hia0 ?hsa0 ?hfa0 ?hra0 ?hQa0 ?hya0 ?hSa0 ?_;case hia0=>refine Au ?_;rfl
   case hsa0=>kernel_rfl
   case hfa0=>kernel_rfl
   case hra0=>kernel_rfl
   case hQa0=>exact fun _ _ _ h=>h
   case hya0=>(refine Or.inl ⟨by rfl,?_⟩;intro w hSw;go_simp;try with_reducible rfl)
   case hSa0=>assumption
   try simp only[Act.put,Sa,Sb,Sc]
   refine wpAnyH_take (i:=1) (oi:=?oia1) (v:=?va1) ?hia1 ?hsa1 ?hfa1 ?hra1 ?hQa1 ?hya1 ?hSa1 ?_;case hia1=>refine Au ?_;rfl
   case hsa1=>kernel_rfl
   case hfa1=>kernel_rfl
   case hra1=>kernel_rfl
   case hQa1=>exact fun _ _ _ h=>h
   case hya1=>(refine Or.inl ⟨by rfl,?_⟩;intro w hSw;go_simp;try with_reducible rfl)
   case hSa1=>assumption
   try simp only[Act.put,Sa,Sb,Sc]
   refine wpAnyH_take (i:=2) (oi:=?oia2) (v:=?va2) ?hia2 ?hsa2 ?hfa2 ?hra2 ?hQa2 ?hya2 ?hSa2 ?_;case hia2=>refine Au ?_;rfl
   case hsa2=>kernel_rfl
   case hfa2=>kernel_rfl
   case hra2=>kernel_rfl
   case hQa2=>exact fun _ _ _ h=>h
   case hya2=>(refine Or.inl ⟨by rfl,?_⟩;intro w hSw;go_simp;try with_reducible rfl)
   case hSa2=>assumption
   try simp only[Act.put,Sa,Sb,Sc]
   refine wpAnyH_take (i:=3) (oi:=?oia3) (v:=?va3) ?hia3 ?hsa3 ?hfa3 ?hra3 ?hQa3 ?hya3 ?hSa3 ?_;case hia3=>refine Au ?_;rfl
   case hsa3=>kernel_rfl
   case hfa3=>kernel_rfl
   case hra3=>kernel_rfl
   case hQa3=>exact fun _ _ _ h=>h
   case hya3=>(refine Or.inl ⟨by rfl,?_⟩;intro w hSw;go_simp;try with_reducible rfl)
   case hSa3=>assumption
   try simp only[Act.put,Sa,Sb,Sc]
   refine wpAnyH_take (i:=4) (oi:=?oia4) (v:=?va4) ?hia4 ?hsa4 ?hfa4 ?hra4 ?hQa4 ?hya4 ?hSa4 ?_;case hia4=>refine Au ?_;rfl
   case hsa4=>kernel_rfl
   case hfa4=>kernel_rfl
   case hra4=>kernel_rfl
   case hQa4=>exact fun _ _ _ h=>h
   case hya4=>(refine Or.inl ⟨by rfl,?_⟩;intro w hSw;go_simp;try with_reducible rfl)
   case hSa4=>assumption
   try simp only[Act.put,Sa,Sb,Sc]
   refine wpAnyH_take (i:=5) (oi:=?oia5) (v:=?va5) ?hia5 ?hsa5 ?hfa5 ?hra5 ?hQa5 ?hya5 ?hSa5 ?_;case hia5=>refine Au ?_;rfl
   case hsa5=>kernel_rfl
   case hfa5=>kernel_rfl
   case hra5=>kernel_rfl
   case hQa5=>exact fun _ _ _ h=>h
   case hya5=>(refine Or.inl ⟨by rfl,?_⟩;intro w hSw;go_simp;try with_reducible rfl)
   case hSa5=>assumption
   try simp only[Act.put,Sa,Sb,Sc]
   refine wpAnyH_take (i:=6) (oi:=?oia6) (v:=?va6) ?hia6 ?hsa6 ?hfa6 ?hra6 ?hQa6 ?hya6 ?hSa6 ?_;case hia6=>refine Au ?_;rfl
   case hsa6=>kernel_rfl
   case hfa6=>kernel_rfl
   case hra6=>kernel_rfl
   case hQa6=>exact fun _ _ _ h=>h
   case hya6=>(refine Or.inl ⟨by rfl,?_⟩;intro w hSw;go_simp;try with_reducible rfl)
   case hSa6=>assumption
   try simp only[Act.put,Sa,Sb,Sc]
   refine wpAnyH_take (i:=7) (oi:=?oia7) (v:=?va7) ?hia7 ?hsa7 ?hfa7 ?hra7 ?hQa7 ?hya7 ?hSa7 ?_;case hia7=>refine Au ?_;rfl
   case hsa7=>kernel_rfl
   case hfa7=>kernel_rfl
   case hra7=>kernel_rfl
   case hQa7=>exact fun _ _ _ h=>h
   case hya7=>(refine Or.inl ⟨by rfl,?_⟩;intro w hSw;go_simp;try with_reducible rfl)
   case hSa7=>assumption
   try simp only[Act.put,Sa,Sb,Sc]
   refine wpAnyH_take (i:=8) (oi:=?oia8) (v:=?va8) ?hia8 ?hsa8 ?hfa8 ?hra8 ?hQa8 ?hya8 ?hSa8 ?_;case hia8=>refine Au ?_;rfl
   case hsa8=>kernel_rfl
   case hfa8=>kernel_rfl
   case hra8=>kernel_rfl
   case hQa8=>exact fun _ _ _ h=>h
   case hya8=>(refine Or.inl ⟨by rfl,?_⟩;intro w hSw;go_simp;try with_reducible rfl)
   case hSa8=>assumption
   try simp only[Act.put,Sa,Sb,Sc]
   refine wpAnyH_take (i:=9) (oi:=?oia9) (v:=?va9) ?hia9 ?hsa9 ?hfa9 ?hra9 ?hQa9 ?hya9 ?hSa9 ?_;case hia9=>refine Au ?_;rfl
   case hsa9=>kernel_rfl
   case hfa9=>kernel_rfl
   case hra9=>kernel_rfl
   case hQa9=>exact fun _ _ _ h=>h
   case hya9=>(refine Or.inl ⟨by rfl,?_⟩;intro w hSw;go_simp;try with_reducible rfl)
   case hSa9=>assumption
   try simp only[Act.put,Sa,Sb,Sc]
   refine wpAnyH_take (i:=10) (oi:=?oia10) (v:=?va10) ?hia10 ?hsa10 ?hfa10 ?hra10 ?hQa10 ?hya10 ?hSa10 ?_;case hia10=>refine Au ?_;rfl
   case hsa10=>kernel_rfl
   case hfa10=>kernel_rfl
   case hra10=>kernel_rfl
   case hQa10=>exact fun _ _ _ h=>h
   case hya10=>(refine Or.inl ⟨by rfl,?_⟩;intro w hSw;go_simp;try with_reducible rfl)
   case hSa10=>assumption
   try simp only[Act.put,Sa,Sb,Sc]
   refine wpAnyH_take (i:=11) (oi:=?oia11) (v:=?va11) ?hia11 ?hsa11 ?hfa11 ?hra11 ?hQa11 ?hya11 ?hSa11 ?_;case hia11=>refine Au ?_;rfl
   case hsa11=>kernel_rfl
   case hfa11=>kernel_rfl
   case hra11=>kernel_rfl
   case hQa11=>exact fun _ _ _ h=>h
   case hya11=>(refine Or.inl ⟨by rfl,?_⟩;intro w hSw;go_simp;try with_reducible rfl)
   case hSa11=>assumption
   try simp only[Act.put,Sa,Sb,Sc]
   refine wpAnyH_take (i:=12) (oi:=?oia12) (v:=?va12) ?hia12 ?hsa12 ?hfa12 ?hra12 ?hQa12 ?hya12 ?hSa12 ?_;case hia12=>refine Au ?_;rfl
   case hsa12=>kernel_rfl
   case hfa12=>kernel_rfl
   case hra12=>kernel_rfl
   case hQa12=>exact fun _ _ _ h=>h
   case hya12=>(refine Or.inl ⟨by rfl,?_⟩;intro w hSw;go_simp;try with_reducible rfl)
   case hSa12=>assumption
   try simp only[Act.put,Sa,Sb,Sc]
   refine wpAnyH_done (by kernel_rfl) ?_ _;go_wp2;go_ret2
   exact⟨by simp[hlt],Bd (Below.refl _ _)⟩
  ·have h1:decide ((p:Int)<(n:Int))=false:=decide_eq_false (by omega);go_wp2_with fail
   refine wp_region_held_drew (S:=(fun W=>W.cell? ⟨gx,0,none⟩=some (.slice A n c))) (by kernel_rfl) hS (fun hHeld0=>?_);refine wpAnyH_take (i:=0) (oi:=?oib0) (v:=?vb0) ?hib0 ?hsb0 ?hfb0 ?hrb0 ?hQb0 ?hyb0 ?hSb0 ?_;case hib0=>refine Au ?_;rfl
   case hsb0=>kernel_rfl
   case hfb0=>kernel_rfl
   case hrb0=>kernel_rfl
   case hQb0=>exact fun _ _ _ h=>h
   case hyb0=>(refine Or.inl ⟨by rfl,?_⟩;intro w hSw;go_simp;try with_reducible rfl)
   case hSb0=>assumption
   try simp only[Act.put,Sa,Sb,Sc]
   refine wpAnyH_take (i:=1) (oi:=?oib1) (v:=?vb1) ?hib1 ?hsb1 ?hfb1 ?hrb1 ?hQb1 ?hyb1 ?hSb1 ?_;case hib1=>refine Au ?_;rfl
   case hsb1=>kernel_rfl
   case hfb1=>kernel_rfl
   case hrb1=>kernel_rfl
   case hQb1=>exact fun _ _ _ h=>h
   case hyb1=>(refine Or.inl ⟨by rfl,?_⟩;intro w hSw;go_simp;try with_reducible rfl)
   case hSb1=>assumption
   try simp only[Act.put,Sa,Sb,Sc]
   refine wpAnyH_take (i:=2) (oi:=?oib2) (v:=?vb2) ?hib2 ?hsb2 ?hfb2 ?hrb2 ?hQb2 ?hyb2 ?hSb2 ?_;case hib2=>refine Au ?_;rfl
   case hsb2=>kernel_rfl
   case hfb2=>kernel_rfl
   case hrb2=>kernel_rfl
   case hQb2=>exact fun _ _ _ h=>h
   case hyb2=>(refine Or.inl ⟨by rfl,?_⟩;intro w hSw;go_simp;try with_reducible rfl)
   case hSb2=>assumption
   try simp only[Act.put,Sa,Sb,Sc]
   refine wpAnyH_take (i:=3) (oi:=?oib3) (v:=?vb3) ?hib3 ?hsb3 ?hfb3 ?hrb3 ?hQb3 ?hyb3 ?hSb3 ?_;case hib3=>refine Au ?_;rfl
   case hsb3=>kernel_rfl
   case hfb3=>kernel_rfl
   case hrb3=>kernel_rfl
   case hQb3=>exact fun _ _ _ h=>h
   case hyb3=>(refine Or.inl ⟨by rfl,?_⟩;intro w hSw;go_simp;try with_reducible rfl)
   case hSb3=>assumption
   try simp only[Act.put,Sa,Sb,Sc]
   refine wpAnyH_take (i:=4) (oi:=?oib4) (v:=?vb4) ?hib4 ?hsb4 ?hfb4 ?hrb4 ?hQb4 ?hyb4 ?hSb4 ?_;case hib4=>refine Au ?_;rfl
   case hsb4=>kernel_rfl
   case hfb4=>kernel_rfl
   case hrb4=>kernel_rfl
   case hQb4=>exact fun _ _ _ h=>h
   case hyb4=>(refine Or.inl ⟨by rfl,?_⟩;intro w hSw;go_simp;try with_reducible rfl)
   case hSb4=>assumption
   try simp only[Act.put,Sa,Sb,Sc]
   refine wpAnyH_take (i:=5) (oi:=?oib5) (v:=?vb5) ?hib5 ?hsb5 ?hfb5 ?hrb5 ?hQb5 ?hyb5 ?hSb5 ?_;case hib5=>refine Au ?_;rfl
   case hsb5=>kernel_rfl
   case hfb5=>kernel_rfl
   case hrb5=>kernel_rfl
   case hQb5=>exact fun _ _ _ h=>h
   case hyb5=>(refine Or.inl ⟨by rfl,?_⟩;intro w hSw;go_simp;try with_reducible rfl)
   case hSb5=>assumption
   try simp only[Act.put,Sa,Sb,Sc]
   refine wpAnyH_take (i:=6) (oi:=?oib6) (v:=?vb6) ?hib6 ?hsb6 ?hfb6 ?hrb6 ?hQb6 ?hyb6 ?hSb6 ?_;case hib6=>refine Au ?_;rfl
   case hsb6=>kernel_rfl
   case hfb6=>kernel_rfl
   case hrb6=>kernel_rfl
   case hQb6=>exact fun _ _ _ h=>h
   case hyb6=>(refine Or.inl ⟨by rfl,?_⟩;intro w hSw;go_simp;try with_reducible rfl)
   case hSb6=>assumption
   try simp only[Act.put,Sa,Sb,Sc]
   refine wpAnyH_take (i:=7) (oi:=?oib7) (v:=?vb7) ?hib7 ?hsb7 ?hfb7 ?hrb7 ?hQb7 ?hyb7 ?hSb7 ?_;case hib7=>refine Au ?_;rfl
   case hsb7=>kernel_rfl
   case hfb7=>kernel_rfl
   case hrb7=>kernel_rfl
   case hQb7=>exact fun _ _ _ h=>h
   case hyb7=>(refine Or.inl ⟨by rfl,?_⟩;intro w hSw;go_simp;try with_reducible rfl)
   case hSb7=>assumption
   try simp only[Act.put,Sa,Sb,Sc]
   refine wpAnyH_take (i:=8) (oi:=?oib8) (v:=?vb8) ?hib8 ?hsb8 ?hfb8 ?hrb8 ?hQb8 ?hyb8 ?hSb8 ?_;case hib8=>refine Au ?_;rfl
   case hsb8=>kernel_rfl
   case hfb8=>kernel_rfl
   case hrb8=>kernel_rfl
   case hQb8=>exact fun _ _ _ h=>h
   case hyb8=>(refine Or.inl ⟨by rfl,?_⟩;intro w hSw;go_simp;try with_reducible rfl)
   case hSb8=>assumption
   try simp only[Act.put,Sa,Sb,Sc]
   refine wpAnyH_take (i:=9) (oi:=?oib9) (v:=?vb9) ?hib9 ?hsb9 ?hfb9 ?hrb9 ?hQb9 ?hyb9 ?hSb9 ?_;case hib9=>refine Au ?_;rfl
   case hsb9=>kernel_rfl
   case hfb9=>kernel_rfl
   case hrb9=>kernel_rfl
   case hQb9=>exact fun _ _ _ h=>h
   case hyb9=>(refine Or.inl ⟨by rfl,?_⟩;intro w hSw;go_simp;try with_reducible rfl)
   case hSb9=>assumption
   try simp only[Act.put,Sa,Sb,Sc]
   refine wpAnyH_take (i:=10) (oi:=?oib10) (v:=?vb10) ?hib10 ?hsb10 ?hfb10 ?hrb10 ?hQb10 ?hyb10 ?hSb10 ?_;case hib10=>refine Au ?_;rfl
   case hsb10=>kernel_rfl
   case hfb10=>kernel_rfl
   case hrb10=>kernel_rfl
   case hQb10=>exact fun _ _ _ h=>h
   case hyb10=>(refine Or.inl ⟨by rfl,?_⟩;intro w hSw;go_simp;try with_reducible rfl)
   case hSb10=>assumption
   try simp only[Act.put,Sa,Sb,Sc]
   refine wpAnyH_take (i:=11) (oi:=?oib11) (v:=?vb11) ?hib11 ?hsb11 ?hfb11 ?hrb11 ?hQb11 ?hyb11 ?hSb11 ?_;case hib11=>refine Au ?_;rfl
   case hsb11=>kernel_rfl
   case hfb11=>kernel_rfl
   case hrb11=>kernel_rfl
   case hQb11=>exact fun _ _ _ h=>h
   case hyb11=>(refine Or.inl ⟨by rfl,?_⟩;intro w hSw;go_simp;try with_reducible rfl)
   case hSb11=>assumption
   try simp only[Act.put,Sa,Sb,Sc]
   refine wpAnyH_take (i:=12) (oi:=?oib12) (v:=?vb12) ?hib12 ?hsb12 ?hfb12 ?hrb12 ?hQb12 ?hyb12 ?hSb12 ?_;case hib12=>refine Au ?_;rfl
   case hsb12=>kernel_rfl
   case hfb12=>kernel_rfl
   case hrb12=>kernel_rfl
   case hQb12=>exact fun _ _ _ h=>h
   case hyb12=>(refine Or.inl ⟨by rfl,?_⟩;intro w hSw;go_simp;try with_reducible rfl)
   case hSb12=>assumption
   try simp only[Act.put,Sa,Sb,Sc]
   refine wpAnyH_done (by kernel_rfl) ?_ _;go_wp2;go_ret2
   exact⟨by simp[hlt],Bd (Below.refl _ _)⟩
 |false =>
  go_wp2_with fail
  refine wp_region_held_drew (S:=(fun W=>W.cell? ⟨gx,0,none⟩=some (.slice A n c))) (by kernel_rfl) hS (fun hHeld0=>?_);refine wpAnyH_take (i:=0) (oi:=?oic0) (v:=?vc0) ?hic0 ?hsc0 ?hfc0 ?hrc0 ?hQc0 ?hyc0 ?hSc0 ?_;case hic0=>refine Au ?_;rfl
  case hsc0=>kernel_rfl
  case hfc0=>kernel_rfl
  case hrc0=>kernel_rfl
  case hQc0=>exact fun _ _ _ h=>h
  case hyc0=>(refine Or.inl ⟨by rfl,?_⟩;intro w hSw;go_simp;try with_reducible rfl)
  case hSc0=>assumption
  try simp only[Act.put,Sa,Sb,Sc]
  refine wpAnyH_take (i:=1) (oi:=?oic1) (v:=?vc1) ?hic1 ?hsc1 ?hfc1 ?hrc1 ?hQc1 ?hyc1 ?hSc1 ?_;case hic1=>refine Au ?_;rfl
  case hsc1=>kernel_rfl
  case hfc1=>kernel_rfl
  case hrc1=>kernel_rfl
  case hQc1=>exact fun _ _ _ h=>h
  case hyc1=>(refine Or.inl ⟨by rfl,?_⟩;intro w hSw;go_simp;try with_reducible rfl)
  case hSc1=>assumption
  try simp only[Act.put,Sa,Sb,Sc]
  refine wpAnyH_take (i:=2) (oi:=?oic2) (v:=?vc2) ?hic2 ?hsc2 ?hfc2 ?hrc2 ?hQc2 ?hyc2 ?hSc2 ?_;case hic2=>refine Au ?_;rfl
  case hsc2=>kernel_rfl
  case hfc2=>kernel_rfl
  case hrc2=>kernel_rfl
  case hQc2=>exact fun _ _ _ h=>h
  case hyc2=>(refine Or.inl ⟨by rfl,?_⟩;intro w hSw;go_simp;try with_reducible rfl)
  case hSc2=>assumption
  try simp only[Act.put,Sa,Sb,Sc]
  refine wpAnyH_take (i:=3) (oi:=?oic3) (v:=undef) ?hic3 ?hsc3 ?hfc3 ?hrc3 ?hQc3 ?hyc3 ?hSc3 ?_;case hic3=>refine Au ?_;rfl
  case hsc3=>kernel_rfl
  case hfc3=>kernel_rfl
  case hrc3=>kernel_rfl
  case hQc3=>exact fun _ _ _ h=>h
  case hyc3=>(refine Or.inr ⟨by rfl,by rfl⟩)
  case hSc3=>assumption
  try simp only[Act.put,Sa,Sb,Sc]
  refine wpAnyH_take (i:=4) (oi:=?oic4) (v:=undef) ?hic4 ?hsc4 ?hfc4 ?hrc4 ?hQc4 ?hyc4 ?hSc4 ?_;case hic4=>refine Au ?_;rfl
  case hsc4=>kernel_rfl
  case hfc4=>kernel_rfl
  case hrc4=>kernel_rfl
  case hQc4=>exact fun _ _ _ h=>h
  case hyc4=>(refine Or.inr ⟨by rfl,by rfl⟩)
  case hSc4=>assumption
  try simp only[Act.put,Sa,Sb,Sc]
  refine wpAnyH_take (i:=5) (oi:=?oic5) (v:=undef) ?hic5 ?hsc5 ?hfc5 ?hrc5 ?hQc5 ?hyc5 ?hSc5 ?_;case hic5=>refine Au ?_;rfl
  case hsc5=>kernel_rfl
  case hfc5=>kernel_rfl
  case hrc5=>kernel_rfl
  case hQc5=>exact fun _ _ _ h=>h
  case hyc5=>(refine Or.inr ⟨by rfl,by rfl⟩)
  case hSc5=>assumption
  try simp only[Act.put,Sa,Sb,Sc]
  refine wpAnyH_take (i:=6) (oi:=?oic6) (v:=undef) ?hic6 ?hsc6 ?hfc6 ?hrc6 ?hQc6 ?hyc6 ?hSc6 ?_;case hic6=>refine Au ?_;rfl
  case hsc6=>kernel_rfl
  case hfc6=>kernel_rfl
  case hrc6=>kernel_rfl
  case hQc6=>exact fun _ _ _ h=>h
  case hyc6=>(refine Or.inr ⟨by rfl,by rfl⟩)
  case hSc6=>assumption
  try simp only[Act.put,Sa,Sb,Sc]
  refine wpAnyH_take (i:=7) (oi:=?oic7) (v:=undef) ?hic7 ?hsc7 ?hfc7 ?hrc7 ?hQc7 ?hyc7 ?hSc7 ?_;case hic7=>refine Au ?_;rfl
  case hsc7=>kernel_rfl
  case hfc7=>kernel_rfl
  case hrc7=>kernel_rfl
  case hQc7=>exact fun _ _ _ h=>h
  case hyc7=>(refine Or.inr ⟨by rfl,by rfl⟩)
  case hSc7=>assumption
  try simp only[Act.put,Sa,Sb,Sc]
  refine wpAnyH_take (i:=8) (oi:=?oic8) (v:=undef) ?hic8 ?hsc8 ?hfc8 ?hrc8 ?hQc8 ?hyc8 ?hSc8 ?_;case hic8=>refine Au ?_;rfl
  case hsc8=>kernel_rfl
  case hfc8=>kernel_rfl
  case hrc8=>kernel_rfl
  case hQc8=>exact fun _ _ _ h=>h
  case hyc8=>(refine Or.inr ⟨by rfl,by rfl⟩)
  case hSc8=>assumption
  try simp only[Act.put,Sa,Sb,Sc]
  refine wpAnyH_take (i:=9) (oi:=?oic9) (v:=undef) ?hic9 ?hsc9 ?hfc9 ?hrc9 ?hQc9 ?hyc9 ?hSc9 ?_;case hic9=>refine Au ?_;rfl
  case hsc9=>kernel_rfl
  case hfc9=>kernel_rfl
  case hrc9=>kernel_rfl
  case hQc9=>exact fun _ _ _ h=>h
  case hyc9=>(refine Or.inr ⟨by rfl,by rfl⟩)
  case hSc9=>assumption
  try simp only[Act.put,Sa,Sb,Sc]
  refine wpAnyH_take (i:=10) (oi:=?oic10) (v:=?vc10) ?hic10 ?hsc10 ?hfc10 ?hrc10 ?hQc10 ?hyc10 ?hSc10 ?_;case hic10=>refine Au ?_;rfl
  case hsc10=>kernel_rfl
  case hfc10=>kernel_rfl
  case hrc10=>kernel_rfl
  case hQc10=>exact fun _ _ _ h=>h
  case hyc10=>(refine Or.inl ⟨by rfl,?_⟩;intro w hSw;go_simp;try with_reducible rfl)
  case hSc10=>assumption
  try simp only[Act.put,Sa,Sb,Sc]
  refine wpAnyH_take (i:=11) (oi:=?oic11) (v:=?vc11) ?hic11 ?hsc11 ?hfc11 ?hrc11 ?hQc11 ?hyc11 ?hSc11 ?_;case hic11=>refine Au ?_;rfl
  case hsc11=>kernel_rfl
  case hfc11=>kernel_rfl
  case hrc11=>kernel_rfl
  case hQc11=>exact fun _ _ _ h=>h
  case hyc11=>(refine Or.inl ⟨by rfl,?_⟩;intro w hSw;go_simp;try with_reducible rfl)
  case hSc11=>assumption
  try simp only[Act.put,Sa,Sb,Sc]
  refine wpAnyH_take (i:=12) (oi:=?oic12) (v:=?vc12) ?hic12 ?hsc12 ?hfc12 ?hrc12 ?hQc12 ?hyc12 ?hSc12 ?_;case hic12=>refine Au ?_;rfl
  case hsc12=>kernel_rfl
  case hfc12=>kernel_rfl
  case hrc12=>kernel_rfl
  case hQc12=>exact fun _ _ _ h=>h
  case hyc12=>(refine Or.inl ⟨by rfl,?_⟩;intro w hSw;go_simp;try with_reducible rfl)
  case hSc12=>assumption
  try simp only[Act.put,Sa,Sb,Sc]
  refine wpAnyH_done (by kernel_rfl) ?_ _;go_wp2;go_ret2
  exact⟨by simp,Bd (Below.refl _ _)⟩
end
section
open Go.RowKit Go.Proofs.YtjjpiefgdggghaaGreatDoorW.PrintWords
section
variable {P:Program} {ops:List Oper} {Q:Exit→Act→World→Prop} {md:Region.Mode} {S:World→Prop} {D:List Nat}
theorem tY(i:Nat){oi:Oper}{v:Value}{fuel:Nat}{listed:Array Bool}{a a':Act}{w:World}(hS:Dv D listed=true→S w)(h:CV P md ops.toArray Q S D fuel (listed.setIfInBounds i true) a' w)
  (hi:ops.toArray[i]?=some oi:=by exact Au rfl)(hy:Yields P ops.toArray oi v a:=by(refine .inl ⟨by rfl,?_⟩);intro w;go_simp;try with_reducible rfl)
  (ha:a.put oi.dst v=a':=by first |(simp only[Act.put,Sa,Sb,Sc];exact rfl) |(simp only[Act.put,Sa,Sb,Sc];done) |exact rfl)
  (hs:(Region.noSelect ops.toArray&&Region.free md ops.toArray listed i&&(Region.ready md ops.toArray listed).contains i&&!D.contains i)=true:=by kernel_rfl)
  (hQ:∀ c a w,Q (.panic c) (a.put oi.dst v) w→Q (.panic c) a w:=by exact fun _ _ _ h=>h):CV P md ops.toArray Q S D (fuel+1) listed a w:=by
 subst ha;exact Bo hi hs hQ hy hS h
theorem tL(i:Nat){oi:Oper}{v:Value}{fuel:Nat}{listed:Array Bool}{a a':Act}{w:World}(hS:S w)(h:CV P md ops.toArray Q S D fuel (listed.setIfInBounds i true) a' w)
  (hi:ops.toArray[i]?=some oi:=by exact Au rfl)(hy:YieldsIf P ops.toArray S oi v a:=by(refine .inl ⟨by rfl,?_⟩);intro w hSw;(repeat (rcases hSw with ⟨_,hSw⟩));go_simp;try with_reducible rfl)
  (ha:a.put oi.dst v=a':=by first |(simp only[Act.put,Sa,Sb,Sc];exact rfl) |(simp only[Act.put,Sa,Sb,Sc];done) |exact rfl)
  (hs:(Region.noSelect ops.toArray&&Region.free md ops.toArray listed i&&(Region.ready md ops.toArray listed).contains i&&H2 md ops.toArray listed&&D.all (fun d=>d != i&&CX md ops.toArray i ops.toArray.size d))=true:=by kernel_rfl)
  (hQ:∀ c a w,Q (.panic c) (a.put oi.dst v) w→Q (.panic c) a w:=by exact fun _ _ _ h=>h):CV P md ops.toArray Q S D (fuel+1) listed a w:=by
 subst ha;exact BZ hi hs hQ hy hS h
end
theorem EM{W W1:World}{a:Addr}{v:Value}(hb:Below W.heap.size W W1)(h:W.cell? a=some v):W1.cell? a=some v :=
 (World.cell?_of_block (hb.block a.block (World.block_lt_of_cell? W a h))).trans h
def CoreM.arr(c:CoreM):Array Value:=(c.r.map (fun v:Nat=>Value.int .i64 v)++[Value.int .i64 c.pc]).toArray
theorem Mi(c:CoreM)(h:c.r.length=8):c.arr.size=9:=by simp[CoreM.arr,h]
theorem Hd{c:CoreM}(h:c.r.length=8)(i:Nat)(hi:i<8):c.arr[i]?=some (.int .i64 (c.r.getD i 0:Nat)):=by
 simp[CoreM.arr,List.getElem?_append_left,h,hi,List.getD_eq_getElem?_getD]
theorem Ih{c:CoreM}(h:c.r.length=8):c.arr[8]?=some (.int .i64 c.pc):=by
 simp[CoreM.arr,h]
theorem OL{c:CoreM}(h:c.r.length=8)(d:Nat)(hd:d<8)(v:Nat):c.arr.setIfInBounds d (.int .i64 v)=(c.set d v).arr:=by
 apply Array.ext';simp[CoreM.arr,CoreM.set,List.set_append,h,hd]
theorem NK{c:CoreM}(h:c.r.length=8)(pc:Int):c.arr.setIfInBounds 8 (.int .i64 pc)=(c.at pc).arr:=by
 apply Array.ext';simp[CoreM.arr,CoreM.at,List.set_append,h]
theorem Ed(c:CoreM)(d:Int)(v:Nat):(c.set d v).r.length=c.r.length:=by simp[CoreM.set]
theorem BU{c:CoreM}(h:c.r.length=8):∃ y0 y1 y2 y3 y4 y5 y6 y7 y8:Int,c.arr=#[.int .i64 y0,.int .i64 y1,.int .i64 y2,.int .i64 y3,.int .i64 y4,.int .i64 y5,.int .i64 y6,.int .i64 y7,.int .i64 y8]:=by
 obtain⟨l,pc⟩:=c
 match l,h with
 |[y0,y1,y2,y3,y4,y5,y6,y7],_=>exact⟨y0,y1,y2,y3,y4,y5,y6,y7,pc,rfl⟩
theorem Jp(w:World)(o o' o'':Obj):(((w.alloc o).alloc o').alloc o'').heap[w.heap.size+2]?=some o'':=by
 have h:=Cv (w.alloc o) o' o'';have e:(w.alloc o).heap.size=w.heap.size+1:=by simp
 rw[e]at h;exact h
theorem FV{w:World}{g:Nat}{t:TypeId}{a0 a1 a2 a3 a4 a5 a6 a7 a8:Value}(h:w.heap[g]?=some (.cells #[a0,a1,a2,a3,a4,a5,a6,a7,a8] t (0,0)))(v0 v1 v2 v3 v4 v5 v6 v7 v8:Value) :
  (((((((((w.setCell ⟨g,0,none⟩ v0).setCell ⟨g,1,none⟩ v1).setCell ⟨g,2,none⟩ v2).setCell ⟨g,3,none⟩ v3).setCell ⟨g,4,none⟩ v4).setCell ⟨g,5,none⟩ v5).setCell ⟨g,6,none⟩ v6).setCell ⟨g,7,none⟩ v7).setCell ⟨g,8,none⟩ v8).heap[g]?=some (.cells #[v0,v1,v2,v3,v4,v5,v6,v7,v8] t (0,0)):=by
 have h1:(w.setCell ⟨g,0,none⟩ v0).heap[g]?=some (.cells #[v0,a1,a2,a3,a4,a5,a6,a7,a8] t (0,0)):=Bs h 0 v0;have h2:((w.setCell ⟨g,0,none⟩ v0).setCell ⟨g,1,none⟩ v1).heap[g]?=some (.cells #[v0,v1,a2,a3,a4,a5,a6,a7,a8] t (0,0)):=Bs h1 1 v1;have h3:(((w.setCell ⟨g,0,none⟩ v0).setCell ⟨g,1,none⟩ v1).setCell ⟨g,2,none⟩ v2).heap[g]?=some (.cells #[v0,v1,v2,a3,a4,a5,a6,a7,a8] t (0,0)):=Bs h2 2 v2;have h4:((((w.setCell ⟨g,0,none⟩ v0).setCell ⟨g,1,none⟩ v1).setCell ⟨g,2,none⟩ v2).setCell ⟨g,3,none⟩ v3).heap[g]?=some (.cells #[v0,v1,v2,v3,a4,a5,a6,a7,a8] t (0,0)):=Bs h3 3 v3;have h5:(((((w.setCell ⟨g,0,none⟩ v0).setCell ⟨g,1,none⟩ v1).setCell ⟨g,2,none⟩ v2).setCell ⟨g,3,none⟩ v3).setCell ⟨g,4,none⟩ v4).heap[g]?=some (.cells #[v0,v1,v2,v3,v4,a5,a6,a7,a8] t (0,0)):=Bs h4 4 v4;have h6:((((((w.setCell ⟨g,0,none⟩ v0).setCell ⟨g,1,none⟩ v1).setCell ⟨g,2,none⟩ v2).setCell ⟨g,3,none⟩ v3).setCell ⟨g,4,none⟩ v4).setCell ⟨g,5,none⟩ v5).heap[g]?=some (.cells #[v0,v1,v2,v3,v4,v5,a6,a7,a8] t (0,0)):=Bs h5 5 v5;have h7:(((((((w.setCell ⟨g,0,none⟩ v0).setCell ⟨g,1,none⟩ v1).setCell ⟨g,2,none⟩ v2).setCell ⟨g,3,none⟩ v3).setCell ⟨g,4,none⟩ v4).setCell ⟨g,5,none⟩ v5).setCell ⟨g,6,none⟩ v6).heap[g]?=some (.cells #[v0,v1,v2,v3,v4,v5,v6,a7,a8] t (0,0)):=Bs h6 6 v6;have h8:((((((((w.setCell ⟨g,0,none⟩ v0).setCell ⟨g,1,none⟩ v1).setCell ⟨g,2,none⟩ v2).setCell ⟨g,3,none⟩ v3).setCell ⟨g,4,none⟩ v4).setCell ⟨g,5,none⟩ v5).setCell ⟨g,6,none⟩ v6).setCell ⟨g,7,none⟩ v7).heap[g]?=some (.cells #[v0,v1,v2,v3,v4,v5,v6,v7,a8] t (0,0)):=Bs h7 7 v7;have h9:(((((((((w.setCell ⟨g,0,none⟩ v0).setCell ⟨g,1,none⟩ v1).setCell ⟨g,2,none⟩ v2).setCell ⟨g,3,none⟩ v3).setCell ⟨g,4,none⟩ v4).setCell ⟨g,5,none⟩ v5).setCell ⟨g,6,none⟩ v6).setCell ⟨g,7,none⟩ v7).setCell ⟨g,8,none⟩ v8).heap[g]?=some (.cells #[v0,v1,v2,v3,v4,v5,v6,v7,v8] t (0,0)):=Bs h8 8 v8;exact h9
theorem Er{N g:Nat}{w W:World}(h:Below N w W)(hg:N≤g)(v0 v1 v2 v3 v4 v5 v6 v7 v8:Value):Below N w (((((((((W.setCell ⟨g,0,none⟩ v0).setCell ⟨g,1,none⟩ v1).setCell ⟨g,2,none⟩ v2).setCell ⟨g,3,none⟩ v3).setCell ⟨g,4,none⟩ v4).setCell ⟨g,5,none⟩ v5).setCell ⟨g,6,none⟩ v6).setCell ⟨g,7,none⟩ v7).setCell ⟨g,8,none⟩ v8):=by
 have h1:Below N w (W.setCell ⟨g,0,none⟩ v0):=h.setCell (p:=⟨g,0,none⟩) hg v0;have h2:Below N w ((W.setCell ⟨g,0,none⟩ v0).setCell ⟨g,1,none⟩ v1):=h1.setCell (p:=⟨g,1,none⟩) hg v1;have h3:Below N w (((W.setCell ⟨g,0,none⟩ v0).setCell ⟨g,1,none⟩ v1).setCell ⟨g,2,none⟩ v2):=h2.setCell (p:=⟨g,2,none⟩) hg v2;have h4:Below N w ((((W.setCell ⟨g,0,none⟩ v0).setCell ⟨g,1,none⟩ v1).setCell ⟨g,2,none⟩ v2).setCell ⟨g,3,none⟩ v3):=h3.setCell (p:=⟨g,3,none⟩) hg v3;have h5:Below N w (((((W.setCell ⟨g,0,none⟩ v0).setCell ⟨g,1,none⟩ v1).setCell ⟨g,2,none⟩ v2).setCell ⟨g,3,none⟩ v3).setCell ⟨g,4,none⟩ v4):=h4.setCell (p:=⟨g,4,none⟩) hg v4;have h6:Below N w ((((((W.setCell ⟨g,0,none⟩ v0).setCell ⟨g,1,none⟩ v1).setCell ⟨g,2,none⟩ v2).setCell ⟨g,3,none⟩ v3).setCell ⟨g,4,none⟩ v4).setCell ⟨g,5,none⟩ v5):=h5.setCell (p:=⟨g,5,none⟩) hg v5;have h7:Below N w (((((((W.setCell ⟨g,0,none⟩ v0).setCell ⟨g,1,none⟩ v1).setCell ⟨g,2,none⟩ v2).setCell ⟨g,3,none⟩ v3).setCell ⟨g,4,none⟩ v4).setCell ⟨g,5,none⟩ v5).setCell ⟨g,6,none⟩ v6):=h6.setCell (p:=⟨g,6,none⟩) hg v6;have h8:Below N w ((((((((W.setCell ⟨g,0,none⟩ v0).setCell ⟨g,1,none⟩ v1).setCell ⟨g,2,none⟩ v2).setCell ⟨g,3,none⟩ v3).setCell ⟨g,4,none⟩ v4).setCell ⟨g,5,none⟩ v5).setCell ⟨g,6,none⟩ v6).setCell ⟨g,7,none⟩ v7):=h7.setCell (p:=⟨g,7,none⟩) hg v7;have h9:Below N w (((((((((W.setCell ⟨g,0,none⟩ v0).setCell ⟨g,1,none⟩ v1).setCell ⟨g,2,none⟩ v2).setCell ⟨g,3,none⟩ v3).setCell ⟨g,4,none⟩ v4).setCell ⟨g,5,none⟩ v5).setCell ⟨g,6,none⟩ v6).setCell ⟨g,7,none⟩ v7).setCell ⟨g,8,none⟩ v8):=h8.setCell (p:=⟨g,8,none⟩) hg v8;exact h9
def CoreM.v(c:CoreM):Value:=.agg c.arr
def Jk:Array Value:=#[.int .i64 0,.int .i64 0,.int .i64 0,.int .i64 0,.int .i64 0,.int .i64 0,.int .i64 0,.int .i64 0,.int .i64 0]
theorem HV{w W:World}{N d:Nat}{c:CoreM}{cs z:Array Value}{t t':TypeId}(b3:W.heap[N]?=some (.cells cs t (0,0)))(b6:W.heap[N+1+1]?=some (.cells z t' (0,0)))(hB:Below N w W)(he:c.arr=cs)
  (hs:∀ v:Nat,c.arr.setIfInBounds d (.int .i64 v)=(c.set d v).arr)(v:Nat) :
  (W.setCell ⟨N,d,none⟩ (.int .i64 v)).heap[N]?=some (.cells (c.set d v).arr t (0,0))∧(W.setCell ⟨N,d,none⟩ (.int .i64 v)).heap[N+1+1]?=some (.cells z t' (0,0))∧Below N w (W.setCell ⟨N,d,none⟩ (.int .i64 v)):=by
 have h:=Bs b3 d (.int .i64 v);rw[←he,hs]at h;exact⟨h,Ba (p:=⟨N,d,none⟩) b6 (show N+1+1≠N by omega) _,hB.setCell (p:=⟨N,d,none⟩) (Nl _) _⟩
theorem Ms(c:CoreM)(d s t k:Nat)(op u a q:Int)(self:Nat)(w:World)(hc:c.r.length=8)(hop:op=1∨op=2∨op=3∨op=4∨op=5∨op=6∨op=7∨op=8∨op=9∨op=10∨op=11∨op=12)(hk5:op=5∨op=6→k<32)(hd:d<8)(hs:s<8)(ht:t<8)(hk:k<4294967296)(hreg:∀ j,c.r.getD j 0<4294967296)(hself:self<4294967296)(hp0:0≤c.pc)(hp1:c.pc≤100000) :
  Calls Tryz.prog 152 #[c.v,(In.mk op d s t u a k q).v,.int .i64 self] w fun e W'=>e=.returned (E5 c ⟨op,d,s,t,u,a,k,q⟩ self).v∧Below w.heap.size w W':=by
 obtain⟨a0,a1,a2,a3,a4,a5,a6,a7,a8,he⟩:=BU hc;have b0:=Az (Below.refl w.heap.size w);have hcs:=Hd hc s hs;have hct:=Hd hc t ht;have hcp:=Ih hc;have hset:=fun v=>OL hc d hd v
 unfold CoreM.v;rw[he]at hcs hct hcp ⊢;simp only[In.v];obtain⟨fin,hfin⟩:∃ r,E5 c ⟨op,d,s,t,u,a,k,q⟩ self=r:=⟨_,rfl⟩
 rw[hfin];obtain⟨S,hS9⟩:∃ S,c.r.getD s 0=S:=⟨_,rfl⟩
 obtain⟨T,hT9⟩:∃ S,c.r.getD t 0=S:=⟨_,rfl⟩
 simp only[E5,CoreM.get,Int.toNat_natCast,hS9,hT9]at hfin;have hS1:=hreg s;have hT1:=hreg t;rw[hS9]at hcs hS1;rw[hT9]at hct hT1;clear hS9 hT9;have hcd:=Hd hc d hd;rw[he]at hcd;have hpw:IntKind.i64.wrap (c.pc+1)=c.pc+1:=by rw[IntKind.wrap_i64];omega
 obtain⟨D,hD9⟩:∃ S,c.r.getD d 0=S:=⟨_,rfl⟩
 rw[hD9]at hcd;clear hD9;replace hfin:=Az hfin;replace hset:=Az hset;have hkw:IntKind.i64.wrap (k:Int)=(k:Int):=by rw[IntKind.wrap_i64];omega
 have o1:¬op≥16:=by omega
 have o2:¬op=13:=by omega
 have o3:(op==13)=false:=Bq o2;go_enter Tryz.func152,Tryz.ntmps152;go_wp2_with fail
 obtain⟨W1,hW1⟩:∃ x,(((w.alloc (.cells #[.int .i64 a0,.int .i64 a1,.int .i64 a2,.int .i64 a3,.int .i64 a4,.int .i64 a5,.int .i64 a6,.int .i64 a7,.int .i64 a8] 155)).alloc (.cells (In.cs ⟨op,d,s,t,u,a,k,q⟩) 114)).alloc (.cells #[.int .i64 0,.int .i64 0,.int .i64 0,.int .i64 0,.int .i64 0,.int .i64 0,.int .i64 0,.int .i64 0,.int .i64 0] 155))=x:=⟨_,rfl⟩
 simp only[In.cs]at hW1;have b3:W1.heap[w.heap.size]?=some (.cells #[.int .i64 a0,.int .i64 a1,.int .i64 a2,.int .i64 a3,.int .i64 a4,.int .i64 a5,.int .i64 a6,.int .i64 a7,.int .i64 a8] 155 (0,0)):=by rw[←hW1];exact AZ (AZ (Bv w _) _) _
 have b4:W1.heap[w.heap.size+1]?=some (.cells (In.cs ⟨op,d,s,t,u,a,k,q⟩) 114 (0,0)):=by rw[←hW1];exact AZ (Cv w _ _) _
 have b6:W1.heap[w.heap.size+1+1]?=some (.cells #[.int .i64 0,.int .i64 0,.int .i64 0,.int .i64 0,.int .i64 0,.int .i64 0,.int .i64 0,.int .i64 0,.int .i64 0] 155 (0,0)):=by rw[←hW1];exact Jp w _ _ _
 rw[hW1];have s0:(0:Int)≤(s:Int):=by omega
 have s1:(s:Int)<8:=by omega
 have t0:(0:Int)≤(t:Int):=by omega
 have t1:(t:Int)<8:=by omega
 have d0:(0:Int)≤(d:Int):=by omega
 have d1:(d:Int)<8:=by omega
 have hS:W1.drew.cell? ⟨w.heap.size+1,2,none⟩=some (.int .i64 s)∧W1.drew.cell? ⟨w.heap.size+1,3,none⟩=some (.int .i64 t)∧W1.drew.cell? ⟨w.heap.size+1,6,none⟩=some (.int .u32 k)∧W1.drew.cell? ⟨w.heap.size,s,none⟩=some (.int .i64 (S:Int))∧W1.drew.cell? ⟨w.heap.size,t,none⟩=some (.int .i64 (T:Int)) :=
  ⟨(Bc b4 2).trans rfl,(Bc b4 3).trans rfl,(Bc b4 6).trans rfl,(Bc b3 s).trans hcs,(Bc b3 t).trans hct⟩
 go_region_held3 (fun W=>W.cell? ⟨w.heap.size+1,2,none⟩=some (.int .i64 s)∧W.cell? ⟨w.heap.size+1,3,none⟩=some (.int .i64 t)∧W.cell? ⟨w.heap.size+1,6,none⟩=some (.int .u32 k)∧W.cell? ⟨w.heap.size,s,none⟩=some (.int .i64 (S:Int))∧W.cell? ⟨w.heap.size,t,none⟩=some (.int .i64 (T:Int))) (first |exact hS) (first |fail)
 replace b3:=Be b3;replace b4:=Be b4;replace b6:=Be b6;have hB:Below w.heap.size w W1.drew:=by rw[←hW1];exact Bd ((((b0.out.alloc (Nl _) _).alloc (by simp) _).alloc (by simp;omega) _))
 obtain⟨W2,hW2⟩:∃ x,W1.drew=x:=⟨_,rfl⟩
 rw[hW2]at b3 b4 b6 hB ⊢;clear hS hW1 hW2;replace hB:=Az hB;have p8:=(Bc b3 8).trans hcp;have f8:=Bf b3 8;have c3:W2.cell? ⟨w.heap.size,d,none⟩=some (.int .i64 (D:Int)):=(Bc b3 d).trans hcd;have f3:=Bf b3 d;have y0:W2.cell? ⟨w.heap.size+1,0,none⟩=some (.int .i64 op):=(Bc b4 0).trans rfl;have y1:W2.cell? ⟨w.heap.size+1,1,none⟩=some (.int .i64 d):=(Bc b4 1).trans rfl;have y7:W2.cell? ⟨w.heap.size+1,7,none⟩=some (.int .i64 q):=(Bc b4 7).trans rfl;have hput:=fun v=>(HV b3 b6 hB.out he hset.out v)
 replace hput:=Az hput;replace b3:=Az b3;replace b6:=Az b6;go_upto_region 4 with fail
 go_cut [10] (fun v10 wx=>v10=.int .i64 (c.pc+1)∧wx=W2)
 case first =>
  go_wp2_with fail
  go_meet
  exact⟨rfl,rfl⟩
 case rest =>
 obtain⟨rfl,rfl⟩:=hcut;go_step
 go_step
 go_cut [10] (fun v10 wx=>∃ (c1:CoreM) (p:Int),v10=.int .i64 p∧Ag (c1.at p=fin)∧c1.r.length=8∧Ag (wx.heap[w.heap.size]?=some (.cells c1.arr 155 (0,0)))∧Ag (wx.heap[w.heap.size+1+1]?=some (.cells Jk 155 (0,0)))∧Ag (Below w.heap.size w wx))
 case first =>
  rcases hop with rfl |rfl |rfl |rfl |rfl |rfl |rfl |rfl |rfl |rfl |rfl |rfl
  ·go_wp2_with fail
   go_meet
   obtain⟨h1,h2,h3⟩:=hput.out k;exact⟨_,_,rfl,⟨by rw[←hfin.out];simp⟩,by rw[Ed];exact hc,⟨h1⟩,⟨h2⟩,⟨h3⟩⟩
  ·go_wp2_with fail
   go_meet
   obtain⟨h1,h2,h3⟩:=hput.out S;exact⟨_,_,rfl,⟨by rw[←hfin.out];simp⟩,by rw[Ed];exact hc,⟨h1⟩,⟨h2⟩,⟨h3⟩⟩
  ·go_wp2_with fail
   go_meet
   obtain⟨h1,h2,h3⟩:=hput.out ((S+k)%B5);have e3:(((S+k)%B5:Nat):Int)=((S:Int)+k)%4294967296:=by simp[B5]
   rw[e3]at h1 h2 h3;exact⟨_,_,rfl,⟨by rw[←hfin.out];simp⟩,by rw[Ed];exact hc,⟨h1⟩,⟨h2⟩,⟨h3⟩⟩
  ·skip
   have hS5:(fun W':World=>W'.cell? ⟨w.heap.size+1,1,none⟩=some (.int .i64 (d:Int))) wc.drew:=EM (Bd (Below.refl _ _)) y1;have hb3:=Be b3.out;have hb6:=Be b6.out;have hbB:=Bd hB.out;go_wp2_with fail
   refine Av [7] (S:=fun W':World=>W'.cell? ⟨w.heap.size+1,1,none⟩=some (.int .i64 (d:Int))) (by kernel_rfl) hS5 (fun hS0=>?_);clear hS5 c3 f3 y0 y1 y7 p8 f8;try simp only[Act.put,Sa,Sb,Sc]
   refine tY 0 (fun _=>hS0) ?_;refine BZ (i:=1) (v:=?_) (Au rfl) (by kernel_rfl) (fun _ _ _ h=>h) (.inl ⟨by rfl,?_⟩) (hS0) ?_;rotate_left
   ·intro w hSw;obtain s0:=hSw;go_simp;try with_reducible rfl
   try simp only[Act.put,Sa,Sb,Sc]
   refine tY 2 (fun _=>hS0) ?_;refine tY 3 (fun _=>hS0) ?_;refine tY 5 (fun _=>hS0) ?_;refine Ab (rs:=[4]) (by kernel_rfl) (by simp) ?_;refine Aa.cons (Au rfl) (fun K hK=>?_) Aa.nil;rw[if_pos (by rfl)];go_wp2_with fail
   refine(Qe S k hS1 (by omega) _).mono ?_;rintro e w9 ⟨rfl,hb9⟩;replace hS0:(fun W':World=>W'.cell? ⟨w.heap.size+1,1,none⟩=some (.int .i64 (d:Int))) w9:=EM hb9 hS0;refine hK.out _ _ (fun _=>hS0) (fun _=>?_);have p3:=Bk hb9 hb3;have p6:=Bk hb9 hb6;have pB:=hbB.trans (hb9.mono hbB.size);have c3:w9.cell? ⟨w.heap.size,d,none⟩=some (.int .i64 (D:Int)):=(Bc p3 d).trans hcd;have f3:=Bf p3 d;obtain⟨h1,h2,h3⟩:=HV p3 p6 pB he hset.out (Nat.land S k);clear hb9 hb3 hb6 hbB hK p3 p6 pB;try simp only[Act.put,Sa,Sb,Sc]
   refine tY 6 (fun _=>hS0) ?_;refine Ab (rs:=[7]) (by kernel_rfl) (by simp) ?_;refine Aa.cons (Au rfl) (fun K hK=>?_) Aa.nil;rw[if_pos (by rfl)];go_wp2_with fail
   refine hK.out _ _ (fun h=>by cases h) (fun _=>?_);try simp only[Act.put,Sa,Sb,Sc]
   refine Ax (by kernel_rfl) ?_ _;go_wp2;go_meet
   exact⟨_,_,rfl,⟨by rw[←hfin.out];simp⟩,by rw[Ed];exact hc,⟨h1⟩,⟨h2⟩,⟨h3⟩⟩
  ·have hkk:=hk5 (.inl rfl);have C:=I2 k (by omega);have hpo:=HP (n:=k) (by omega);obtain⟨x,hx⟩:∃ x,2 ^ k=x:=⟨_,rfl⟩
   rw[hx]at C hpo;have hmul:S*x<9223372036854775808:=Nat.lt_of_lt_of_le (Nat.mul_lt_mul_of_lt_of_le hS1 hpo (by decide)) (by decide);obtain⟨z,hz⟩:∃ z,S*x=z:=⟨_,rfl⟩
   rw[hz]at hmul;have hz2:(S:Int)*(x:Int)=(z:Int):=by rw[←hz];simp
   have hz3:IntKind.i64.wrap (z:Int)=(z:Int):=by rw[IntKind.wrap_i64];omega
   have hz4:wrap64 (z:Int)=(z:Int):=by unfold wrap64;omega
   have hz5:Int.tmod (z:Int) 4294967296=((z%B5:Nat):Int):=rfl;have hz6:IntKind.i64.wrap ((z%B5:Nat):Int)=((z%B5:Nat):Int):=(wrap_small (Nat.mod_lt _ (by decide))).1;have hS5:(fun W':World=>W'.cell? ⟨w.heap.size+1,1,none⟩=some (.int .i64 (d:Int))) wc.drew:=EM (Bd (Below.refl _ _)) y1;have hb3:=Be b3.out;have hb6:=Be b6.out;have hbB:=Bd hB.out;go_wp2_with fail
   refine Av [9] (S:=fun W':World=>W'.cell? ⟨w.heap.size+1,1,none⟩=some (.int .i64 (d:Int))) (by kernel_rfl) hS5 (fun hS0=>?_);clear hS5 c3 f3 y0 y1 y7 p8 f8;try simp only[Act.put,Sa,Sb,Sc]
   refine tY 0 (fun _=>hS0) ?_;refine BZ (i:=1) (v:=?_) (Au rfl) (by kernel_rfl) (fun _ _ _ h=>h) (.inl ⟨by rfl,?_⟩) (hS0) ?_;rotate_left
   ·intro w hSw;obtain s0:=hSw;go_simp;try with_reducible rfl
   try simp only[Act.put,Sa,Sb,Sc]
   refine tY 2 (fun _=>hS0) ?_;refine tY 3 (fun _=>hS0) ?_;refine tY 7 (fun _=>hS0) ?_;refine Ab (rs:=[4]) (by kernel_rfl) (by simp) ?_;refine Aa.cons (Au rfl) (fun K hK=>?_) Aa.nil;rw[if_pos (by rfl)];go_wp2_with fail
   refine(C _).mono ?_;rintro e w9 ⟨rfl,hb9⟩;replace hS0:(fun W':World=>W'.cell? ⟨w.heap.size+1,1,none⟩=some (.int .i64 (d:Int))) w9:=EM hb9 hS0;refine hK.out _ _ (fun _=>hS0) (fun _=>?_);have p3:=Bk hb9 hb3;have p6:=Bk hb9 hb6;have pB:=hbB.trans (hb9.mono hbB.size);have c3:w9.cell? ⟨w.heap.size,d,none⟩=some (.int .i64 (D:Int)):=(Bc p3 d).trans hcd;have f3:=Bf p3 d;obtain⟨h1,h2,h3⟩:=HV p3 p6 pB he hset.out (z%B5);clear hb9 hb3 hb6 hbB hK p3 p6 pB;try simp only[Act.put,Sa,Sb,Sc]
   refine tY 5 (fun _=>hS0) ?_;refine tY 6 (fun _=>hS0) ?_;refine tY 8 (fun _=>hS0) ?_;refine Ab (rs:=[9]) (by kernel_rfl) (by simp) ?_;refine Aa.cons (Au rfl) (fun K hK=>?_) Aa.nil;rw[if_pos (by rfl)];go_wp2_with fail
   refine hK.out _ _ (fun h=>by cases h) (fun _=>?_);try simp only[Act.put,Sa,Sb,Sc]
   refine Ax (by kernel_rfl) ?_ _;go_wp2;go_meet
   exact⟨_,_,rfl,⟨by rw[←hfin.out];simp[←hz,←hx]⟩,by rw[Ed];exact hc,⟨h1⟩,⟨h2⟩,⟨h3⟩⟩
  ·have hkk:=hk5 (.inr rfl);have C:=I2 k (by omega);have hpo:=HP (n:=k) (by omega);have hp0:=Nat.two_pow_pos k;obtain⟨x,hx⟩:∃ x,2 ^ k=x:=⟨_,rfl⟩
   rw[hx]at C hpo hp0;have xz:((x:Int)==0)=false:=Bq (by omega);have xz2:¬(x:Int)=0:=by omega
   have xz3:¬x=0:=by omega
   have hz2:Int.tdiv (S:Int) (x:Int)=((S/x:Nat):Int):=rfl;obtain⟨z,hz⟩:∃ z,S/x=z:=⟨_,rfl⟩
   have hzl:z<4294967296:=by rw[←hz];exact Nat.lt_of_le_of_lt (Nat.div_le_self S x) hS1
   rw[hz]at hz2;obtain⟨hz3,hz4⟩:=wrap_small hzl;have hS5:(fun W':World=>W'.cell? ⟨w.heap.size+1,1,none⟩=some (.int .i64 (d:Int))) wc.drew:=EM (Bd (Below.refl _ _)) y1;have hb3:=Be b3.out;have hb6:=Be b6.out;have hbB:=Bd hB.out;go_wp2_with fail
   refine Av [8] (S:=fun W':World=>W'.cell? ⟨w.heap.size+1,1,none⟩=some (.int .i64 (d:Int))) (by kernel_rfl) hS5 (fun hS0=>?_);clear hS5 c3 f3 y0 y1 y7 p8 f8;try simp only[Act.put,Sa,Sb,Sc]
   refine tY 0 (fun _=>hS0) ?_;refine BZ (i:=1) (v:=?_) (Au rfl) (by kernel_rfl) (fun _ _ _ h=>h) (.inl ⟨by rfl,?_⟩) (hS0) ?_;rotate_left
   ·intro w hSw;obtain s0:=hSw;go_simp;try with_reducible rfl
   try simp only[Act.put,Sa,Sb,Sc]
   refine tY 2 (fun _=>hS0) ?_;refine tY 3 (fun _=>hS0) ?_;refine tY 6 (fun _=>hS0) ?_;refine Ab (rs:=[4]) (by kernel_rfl) (by simp) ?_;refine Aa.cons (Au rfl) (fun K hK=>?_) Aa.nil;rw[if_pos (by rfl)];go_wp2_with fail
   refine(C _).mono ?_;rintro e w9 ⟨rfl,hb9⟩;replace hS0:(fun W':World=>W'.cell? ⟨w.heap.size+1,1,none⟩=some (.int .i64 (d:Int))) w9:=EM hb9 hS0;refine hK.out _ _ (fun _=>hS0) (fun _=>?_);have p3:=Bk hb9 hb3;have p6:=Bk hb9 hb6;have pB:=hbB.trans (hb9.mono hbB.size);have c3:w9.cell? ⟨w.heap.size,d,none⟩=some (.int .i64 (D:Int)):=(Bc p3 d).trans hcd;have f3:=Bf p3 d;obtain⟨h1,h2,h3⟩:=HV p3 p6 pB he hset.out z;clear hb9 hb3 hb6 hbB hK p3 p6 pB;try simp only[Act.put,Sa,Sb,Sc]
   refine tY 5 (fun _=>hS0) ?_;refine tY 7 (fun _=>hS0) ?_;refine Ab (rs:=[8]) (by kernel_rfl) (by simp) ?_;refine Aa.cons (Au rfl) (fun K hK=>?_) Aa.nil;rw[if_pos (by rfl)];go_wp2_with fail
   refine hK.out _ _ (fun h=>by cases h) (fun _=>?_);try simp only[Act.put,Sa,Sb,Sc]
   refine Ax (by kernel_rfl) ?_ _;go_wp2;go_meet
   exact⟨_,_,rfl,⟨by rw[←hfin.out];simp[←hz,←hx]⟩,by rw[Ed];exact hc,⟨h1⟩,⟨h2⟩,⟨h3⟩⟩
  ·skip
   have hS5:(fun W':World=>W'.cell? ⟨w.heap.size+1,1,none⟩=some (.int .i64 (d:Int))) wc.drew:=EM (Bd (Below.refl _ _)) y1;have hb3:=Be b3.out;have hb6:=Be b6.out;have hbB:=Bd hB.out;go_wp2_with fail
   refine Av [7] (S:=fun W':World=>W'.cell? ⟨w.heap.size+1,1,none⟩=some (.int .i64 (d:Int))) (by kernel_rfl) hS5 (fun hS0=>?_);clear hS5 c3 f3 y0 y1 y7 p8 f8;try simp only[Act.put,Sa,Sb,Sc]
   refine tY 0 (fun _=>hS0) ?_;refine BZ (i:=1) (v:=?_) (Au rfl) (by kernel_rfl) (fun _ _ _ h=>h) (.inl ⟨by rfl,?_⟩) (hS0) ?_;rotate_left
   ·intro w hSw;obtain s0:=hSw;go_simp;try with_reducible rfl
   try simp only[Act.put,Sa,Sb,Sc]
   refine tY 2 (fun _=>hS0) ?_;refine tY 3 (fun _=>hS0) ?_;refine tY 5 (fun _=>hS0) ?_;refine Ab (rs:=[4]) (by kernel_rfl) (by simp) ?_;refine Aa.cons (Au rfl) (fun K hK=>?_) Aa.nil;rw[if_pos (by rfl)];go_wp2_with fail
   refine(Sg S T hS1 hT1 _).mono ?_;rintro e w9 ⟨rfl,hb9⟩;replace hS0:(fun W':World=>W'.cell? ⟨w.heap.size+1,1,none⟩=some (.int .i64 (d:Int))) w9:=EM hb9 hS0;refine hK.out _ _ (fun _=>hS0) (fun _=>?_);have p3:=Bk hb9 hb3;have p6:=Bk hb9 hb6;have pB:=hbB.trans (hb9.mono hbB.size);have c3:w9.cell? ⟨w.heap.size,d,none⟩=some (.int .i64 (D:Int)):=(Bc p3 d).trans hcd;have f3:=Bf p3 d;obtain⟨h1,h2,h3⟩:=HV p3 p6 pB he hset.out (Nat.lor S T);clear hb9 hb3 hb6 hbB hK p3 p6 pB;try simp only[Act.put,Sa,Sb,Sc]
   refine tY 6 (fun _=>hS0) ?_;refine Ab (rs:=[7]) (by kernel_rfl) (by simp) ?_;refine Aa.cons (Au rfl) (fun K hK=>?_) Aa.nil;rw[if_pos (by rfl)];go_wp2_with fail
   refine hK.out _ _ (fun h=>by cases h) (fun _=>?_);try simp only[Act.put,Sa,Sb,Sc]
   refine Ax (by kernel_rfl) ?_ _;go_wp2;go_meet
   exact⟨_,_,rfl,⟨by rw[←hfin.out];simp⟩,by rw[Ed];exact hc,⟨h1⟩,⟨h2⟩,⟨h3⟩⟩
  ·by_cases hST:S=T
   ·subst hST;have e1:((S:Int)==(S:Int))=true:=beq_self_eq_true _;go_wp2_with fail
    go_meet
    exact⟨c,_,rfl,⟨by rw[←hfin.out];simp⟩,hc,⟨by rw[he];exact b3.out⟩,b6,hB⟩
   ·have e1:((S:Int)==(T:Int))=false:=Bq (by omega);go_wp2_with fail
    go_meet
    exact⟨c,_,rfl,⟨by rw[←hfin.out];simp[hST]⟩,hc,⟨by rw[he];exact b3.out⟩,b6,hB⟩
  ·by_cases hST:S=T
   ·subst hST;have e1:((S:Int)==(S:Int))=true:=beq_self_eq_true _;have e2:((S:Int) != (S:Int))=false:=bne_self_eq_false _;go_wp2_with fail
    go_meet
    exact⟨c,_,rfl,⟨by rw[←hfin.out];simp⟩,hc,⟨by rw[he];exact b3.out⟩,b6,hB⟩
   ·have e1:((S:Int)==(T:Int))=false:=Bq (by omega);have e2:((S:Int) != (T:Int))=true:=bne_iff_ne.2 (by omega);go_wp2_with fail
    go_meet
    exact⟨c,_,rfl,⟨by rw[←hfin.out];simp[hST]⟩,hc,⟨by rw[he];exact b3.out⟩,b6,hB⟩
  ·go_wp2_with fail
   go_meet
   exact⟨c,_,rfl,⟨by rw[←hfin.out];simp⟩,hc,⟨by rw[he];exact b3.out⟩,b6,hB⟩
  ·go_wp2_with fail
   go_meet
   obtain⟨h1,h2,h3⟩:=hput.out self;exact⟨_,_,rfl,⟨by rw[←hfin.out];simp⟩,by rw[Ed];exact hc,⟨h1⟩,⟨h2⟩,⟨h3⟩⟩
  ·go_wp2_with fail
   go_meet
   exact⟨c,_,rfl,⟨by rw[←hfin.out];simp⟩,hc,⟨by rw[he];exact b3.out⟩,b6,hB⟩
 case rest =>
  obtain⟨c1,p,rfl,hf,hl,b3,b6,hB⟩:=hcut;have p8:=(Bc b3.out 8).trans (Ih hl);have f8:=Bf b3.out 8;have b3':=Bs b3.out 8 (.int .i64 p);have b6':=Ba (p:=⟨w.heap.size,8,none⟩) b6.out (show w.heap.size+1+1≠w.heap.size by omega) (.int .i64 p);have hB':=hB.out.setCell (p:=⟨w.heap.size,8,none⟩) (Nl _) (.int .i64 p);rw[NK hl,hf.out]at b3';have hl':fin.r.length=8:=by rw[←hf.out];exact hl
  generalize hW4:wc.setCell ⟨w.heap.size,8,none⟩ (.int .i64 p)=W4 at *;go_upto_region 31 with fail
  try rw[hW4]
  obtain⟨z0,z1,z2,z3,z4,z5,z6,z7,z8,hz⟩:=BU (c:=fin) hl';rw[hz]at b3';have g0:W4.cell? ⟨w.heap.size,0,none⟩=some (.int .i64 z0):=(Bc b3' 0).trans rfl;have g1:W4.cell? ⟨w.heap.size,1,none⟩=some (.int .i64 z1):=(Bc b3' 1).trans rfl;have g2:W4.cell? ⟨w.heap.size,2,none⟩=some (.int .i64 z2):=(Bc b3' 2).trans rfl;have g3:W4.cell? ⟨w.heap.size,3,none⟩=some (.int .i64 z3):=(Bc b3' 3).trans rfl;have g4:W4.cell? ⟨w.heap.size,4,none⟩=some (.int .i64 z4):=(Bc b3' 4).trans rfl;have g5:W4.cell? ⟨w.heap.size,5,none⟩=some (.int .i64 z5):=(Bc b3' 5).trans rfl;have g6:W4.cell? ⟨w.heap.size,6,none⟩=some (.int .i64 z6):=(Bc b3' 6).trans rfl;have g7:W4.cell? ⟨w.heap.size,7,none⟩=some (.int .i64 z7):=(Bc b3' 7).trans rfl;have g8:W4.cell? ⟨w.heap.size,8,none⟩=some (.int .i64 z8):=(Bc b3' 8).trans rfl;have x0:W4.cell? ⟨w.heap.size+1+1,0,none⟩=some (.int .i64 0):=(Bc b6' 0).trans rfl;have y0:=Bf b6' 0;have x1:W4.cell? ⟨w.heap.size+1+1,1,none⟩=some (.int .i64 0):=(Bc b6' 1).trans rfl;have y1:=Bf b6' 1;have x2:W4.cell? ⟨w.heap.size+1+1,2,none⟩=some (.int .i64 0):=(Bc b6' 2).trans rfl;have y2:=Bf b6' 2;have x3:W4.cell? ⟨w.heap.size+1+1,3,none⟩=some (.int .i64 0):=(Bc b6' 3).trans rfl;have y3:=Bf b6' 3;have x4:W4.cell? ⟨w.heap.size+1+1,4,none⟩=some (.int .i64 0):=(Bc b6' 4).trans rfl;have y4:=Bf b6' 4;have x5:W4.cell? ⟨w.heap.size+1+1,5,none⟩=some (.int .i64 0):=(Bc b6' 5).trans rfl;have y5:=Bf b6' 5;have x6:W4.cell? ⟨w.heap.size+1+1,6,none⟩=some (.int .i64 0):=(Bc b6' 6).trans rfl;have y6:=Bf b6' 6;have x7:W4.cell? ⟨w.heap.size+1+1,7,none⟩=some (.int .i64 0):=(Bc b6' 7).trans rfl;have y7:=Bf b6' 7;have x8:W4.cell? ⟨w.heap.size+1+1,8,none⟩=some (.int .i64 0):=(Bc b6' 8).trans rfl;have y8:=Bf b6' 8;have hG2:w.heap.size≤w.heap.size+1+1:=by omega
  clear hW4 b3 b6 hB p8 f8;generalize w.heap.size+1+1=G at *;go_wp2;refine bodyPost_ret (fn:=Tryz.f152) (results_cell_row rfl _ _ G 155 #[.int .i64 z0,.int .i64 z1,.int .i64 z2,.int .i64 z3,.int .i64 z4,.int .i64 z5,.int .i64 z6,.int .i64 z7,.int .i64 z8] (0,0) _ rfl ?_ Tryz.underlying155 rfl (by kernel_rfl)) rfl ⟨by rw[hz],?_⟩
  ·exact FV b6' _ _ _ _ _ _ _ _ _
  ·exact Er hB' hG2 _ _ _ _ _ _ _ _ _
end
end Go.Proofs.YtjjpiefgdggghaaGreatDoor

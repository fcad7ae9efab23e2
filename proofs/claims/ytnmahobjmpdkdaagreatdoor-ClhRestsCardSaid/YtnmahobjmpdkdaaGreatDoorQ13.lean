/- Parts: RangeCell, Lines, AsmKit. -/
import Derived.Test.YtnmahobjmpdkdaaGreatDoorQ02
import Derived.RangeFuncWrites
import Derived.RangeFuncNested
import Derived.RangeFuncBound
import Derived.RangeFuncCalls
import Derived.RangeFuncLeaves
import Derived.Shelf.Abstract
import Derived.Shelf.RegionOpen
import Derived.WalkKit
import Derived.OwnWalkIn
import Derived.TacticsInMore
import Derived.LoopNIn
import Derived.LoopIn
import Derived.Test.YtnmahobjmpdkdaaGreatDoorQ04
import Derived.Test.YtnmahobjmpdkdaaGreatDoorQ12
set_option linter.unusedVariables false
set_option linter.unusedSimpArgs false
set_option maxRecDepth 100000
set_option maxHeartbeats 40000000
namespace Go.Proofs.YtnmahobjmpdkdaaGreatDoor
section
open Go Go.RowKit Go.Proofs.YtnmahobjmpdkdaaGreatDoorW.PrintWords
section
variable {F:Fence} {n:Nat} {P:Program} {α:Type}
structure Calm {β:Type} (c:Nat) (I:β→World→Prop):Prop where
 below:∀ s W W',I s W→Below W.heap.size W W'→I s W'
 cell:∀ s W v,I s W→I s (W.setCell ⟨c,0,none⟩ v)
def NV(F:Fence)(n:Nat)(P:Program)(g:Nat)(lb:Array Value)(enc:α→Value)(c:Nat)(S Sp:List α→Prop)(w:World):Prop :=
 ∀ (l:Nat) (J Jx:List α→World→Prop) (W:World),Below w.heap.size w W→Calm c J→Calm c Jx →
  (∀ pre x W1,Sp (pre++[x])→J pre W1→YieldAt F (n-1) P l #[enc x] W1 fun e W2 =>
   (e=.returned (.bool true)∧J (pre++[x]) W2∧W2.heap[c]?=W1.heap[c]?)∨(e=.returned (.bool false)∧Jx (pre++[x]) W2)) →
  J [] W →
  CallsIn F n P g (#[.func (.yield l) #[] #[]]++lb) W fun e W2=>(∃ v,e=.returned v)∧((∃ xs,S xs∧J xs W2)∨(∃ pre,Sp pre∧Jx pre W2))
def SU(B c:Nat)(I Ix:List α→World→Prop)(xs:List α)(W:World):Exit→Act→World→Prop
 |.normal,_,W2=>KeepsFrom B W W2∧W2.heap[c]?=W.heap[c]?∧I xs W2
 |.ret,_,W2=>KeepsFrom B W W2∧Ix xs W2
 |_,_,_=>False
theorem EK{W:World}{l c:Nat}{o:Obj}(h:c≠l):(W.putObj l o).heap[c]?=W.heap[c]?:=World.putObj_heap_other h
theorem Pv{g:Operand}{p:Tmp}{assign body:Code}{Q:Exit→Act→World→Prop}{a:Act}{w:World}
  (hro:F.round=none)(h1:1≤n){gf:Nat}{lb:Array Value}(hg:a.eval g=.func (.func gf) #[] lb)(hFg:F.fn gf)(eg:∀ args w,(callFunc gf args).run P w=.ok (.enter gf args) w)
  {enc:α→Value}{c:Nat}{S Sp:List α→Prop}(hc:c<w.heap.size)(hseq:NV F (n-1) P gf lb enc c S Sp w)
  (I Ix:List α→World→Prop)(hI:Calm c I)(hIx:Calm c Ix)
  (hIp:∀ s W l o o',I s W→w.heap.size≤l→W.heap[l]?=some o→o.isCells=false→I s (W.putObj l o'))
  (hIxp:∀ s W l o o',Ix s W→w.heap.size≤l→W.heap[l]?=some o→o.isCells=false→Ix s (W.putObj l o'))
  (h0:I [] w)(a₁:α→Act)
  (hassign:∀ (l:Nat) (x:α) (W:World) (K:Act→World→Prop),K (a₁ x) W →
   assign.wpIn (F.inRound l) (n-1-1) P (Exit.then K (fun _ _ _=>False)) {tmps:=(#[p].zip #[enc x]).foldl (fun t (p,v)=>t.setIfInBounds p v) a.tmps,defers:=[]} W)
  (hbody:∀ (l:Nat) (pre:List α) (x:α) (W:World),Sp (pre++[x])→I pre W→body.wpIn (F.inRound l) (n-1-1) P (SU w.heap.size c I Ix (pre++[x]) W) (a₁ x) W)
  (hdone:∀ (D:Nat) (xs:List α) (W:World),w.heap.size≤D→S xs→I xs W→W.heap[D]?=some (.deferred (some []))→Q .normal {a with defers:={target:=.collected D,args:=#[]}::a.defers} W)
  (hstop:∀ (D:Nat) (pre:List α) (W:World),w.heap.size≤D→Sp pre→Ix pre W→W.heap[D]?=some (.deferred (some []))→Code.ret.wpIn F n P Q {a with defers:={target:=.collected D,args:=#[]}::a.defers} W) :
  (Code.rangeFunc g #[p] assign body).wpIn F n P Q a w:=by
 refine wpIn_rangeFunc fun fn hfn=>?_
 rw[hro]
 let rec_:LoopState→Option Code→Loop:=fun st pe=>{state:=st,pending:=pe,fn,tmps:=a.tmps,params:=#[p],assign,body,defers:=w.heap.size}
 have hrec:∀ st pe,rec_ st pe={state:=st,pending:=pe,fn,tmps:=a.tmps,params:=#[p],assign,body,defers:=w.heap.size}:=fun _ _=>rfl
 generalize rec_=rec at hrec;have hD0:(w.alloc (.deferred (some []))).heap[w.heap.size]?=some (.deferred (some [])):=Bv w _;have hW1:((w.alloc (.deferred (some []))).alloc (.loop (rec .ready none))).heap[w.heap.size+1]?=some (.loop (rec .ready none)):=by
  have:=Bv (w.alloc (.deferred (some []))) (.loop (rec .ready none))
  rwa [World.size_alloc]at this
 have hD1:((w.alloc (.deferred (some []))).alloc (.loop (rec .ready none))).heap[w.heap.size]?=some (.deferred (some [])):=AJ hD0 _;have hB1:Below w.heap.size w ((w.alloc (.deferred (some []))).alloc (.loop (rec .ready none))):=((Below.refl _ w).alloc (Nl _) _).alloc (by simp) _;have hI1:I [] ((w.alloc (.deferred (some []))).alloc (.loop (rec .ready none))):=hI.below _ _ _ h0 hB1;refine⟨w.heap.size+1,[{target:=.collected w.heap.size,args:=#[]}],(w.alloc (.deferred (some []))).alloc (.loop (rec .ready none)),{target:=.fn (.func gf) lb,args:=#[.func (.yield (w.heap.size+1)) #[] #[]]},
  (w.alloc (.deferred (some []))).alloc (.loop (rec .ready none)),gf,#[.func (.yield (w.heap.size+1)) #[] #[]]++lb,(w.alloc (.deferred (some []))).alloc (.loop (rec .ready none)),?_,?_,?_,?_,fun _=>h1,?_⟩
 ·rw[hrec];exact run_enterLoop_outer _ _ _ _ _
 ·simp only[resolve,hg];simp[go_sem]
 ·intro f' hf';simp[Target.leads]at hf';subst hf';exact hFg
 ·simp[invoke,go_sem,eg]
 have hkeep:∀ {W W2:World} {o:Obj} {k:Nat},W.heap[k]?=some o→Below W.heap.size W W2→W2.heap[k]?=some o:=fun h hb=>Bk hb h
 have hfar:∀ {W:World} {o:Obj} {k:Nat} (v:Value),w.heap.size≤k→W.heap[k]?=some o→(W.setCell ⟨c,0,none⟩ v).heap[k]?=some o:=fun v hk h =>
  (Below.heap_setCell _ ⟨c,0,none⟩ v _ (show _≠c by omega)).trans h
 refine(hseq (w.heap.size+1)
  (fun pre W=>I pre W∧W.heap[w.heap.size+1]?=some (.loop (rec .ready none))∧W.heap[w.heap.size]?=some (.deferred (some [])))
  (fun pre W=>Ix pre W∧W.heap[w.heap.size+1]?=some (.loop (rec .done (some .ret)))∧W.heap[w.heap.size]?=some (.deferred (some [])))
  _ hB1
  ⟨fun s W W2 h hb=>⟨hI.below _ _ _ h.1 hb,hkeep h.2.1 hb,hkeep h.2.2 hb⟩,fun s W v h=>⟨hI.cell _ _ _ h.1,hfar v (by omega) h.2.1,hfar v (by omega) h.2.2⟩⟩
  ⟨fun s W W2 h hb=>⟨hIx.below _ _ _ h.1 hb,hkeep h.2.1 hb,hkeep h.2.2 hb⟩,fun s W v h=>⟨hIx.cell _ _ _ h.1,hfar v (by omega) h.2.1,hfar v (by omega) h.2.2⟩⟩
  ?round ⟨hI1,hW1,hD1⟩).mono ?after
 case round =>
  rintro pre x W hsp ⟨hi,hl,hd⟩;have hlt:w.heap.size+1<W.heap.size:=Bl hl;have hy:=run_yield (P:=P) (args:=#[enc x]) hl (by rw[hrec];rfl);rw[hrec]at hy;refine⟨fn,_,assign,body,hy,roundIn_of_wpIn hfn (hassign _ x W _ ⟨_,run_beginRound hl (by rw[hrec]),?_⟩)⟩;obtain⟨busy,hbusy⟩:∃ b:Obj,b=.loop {rec .ready none with state:=.busy}:=⟨_,rfl⟩
  rw[←hbusy];have hl2:(W.putObj (w.heap.size+1) busy).heap[w.heap.size+1]?=some busy:=World.putObj_heap_same hlt;have hd2:(W.putObj (w.heap.size+1) busy).heap[w.heap.size]?=some (.deferred (some [])):=(EK (by omega)).trans hd;have hc2:(W.putObj (w.heap.size+1) busy).heap[c]?=W.heap[c]?:=EK (by omega);have hnb:busy.isCells=false:=by rw[hbusy];rfl
  refine wpIn_mono (hbody _ pre x _ hsp (hIp _ _ _ _ _ hi (by omega) hl rfl)) ?_;rintro e a3 W3 hp;have fin:∀ (jump:Option Code),KeepsFrom w.heap.size (W.putObj (w.heap.size+1) busy) W3 →
    (Instr.endRound (w.heap.size+1) jump).run P W3=.ok (.bool jump.isNone) (W3.putObj (w.heap.size+1) (.loop (rec (if jump.isNone then .ready else .done) jump))) ∧
    W3.heap[w.heap.size+1]?=some busy ∧
    (W3.putObj (w.heap.size+1) (.loop (rec (if jump.isNone then .ready else .done) jump))).heap[w.heap.size+1]?=some (.loop (rec (if jump.isNone then .ready else .done) jump)) ∧
    (W3.putObj (w.heap.size+1) (.loop (rec (if jump.isNone then .ready else .done) jump))).heap[w.heap.size]?=some (.deferred (some [])):=fun jump hk3=>by
   have hl3:=hk3.same _ _ (by omega) hl2 hnb;have hd3:=hk3.same _ _ (Nl _) hd2 rfl;have hr:=hl3;rw[hbusy]at hr;have:=run_endRound (P:=P) jump hr;rw[hrec]at this ⊢;exact⟨this,hl3,World.putObj_heap_same (Bl hl3),(EK (by omega)).trans hd3⟩
  cases e with
  |normal =>
   obtain⟨hk3,hc3,hi3⟩:=hp;obtain⟨hr,hl3,hl4,hd4⟩:=fin none hk3;exact⟨_,_,hr,.inl ⟨rfl,⟨hIp _ _ _ _ _ hi3 (by omega) hl3 hnb,hl4,hd4⟩,(EK (by omega)).trans (hc3.trans hc2)⟩⟩
  |ret =>
   obtain⟨hk3,hi3⟩:=hp;obtain⟨hr,hl3,hl4,hd4⟩:=fin (some .ret) hk3;exact⟨_,_,hr,.inr ⟨rfl,hIxp _ _ _ _ _ hi3 (by omega) hl3 hnb,hl4,hd4⟩⟩
  |exit id=>exact hp.elim
  |goto t=>exact hp.elim
  |panic ch=>exact hp.elim
  |outgrown=>exact hp.elim
 case after =>
  rintro e W2 ⟨⟨v,rfl⟩,(⟨xs,hS,hi,hl,hd⟩ |⟨pre,hSp,hi,hl,hd⟩)⟩
  ·have he:=run_endLoop (P:=P) hl (by rw[hrec];simp);rw[hrec]at he;exact⟨none,_,he,hdone _ xs _ (Nl _) hS (hIp _ _ _ _ _ hi (by omega) hl rfl) ((EK (by omega)).trans hd)⟩
  ·have he:=run_endLoop (P:=P) hl (by rw[hrec];simp);rw[hrec]at he;exact⟨some .ret,_,he,hstop _ pre _ (Nl _) hSp (hIxp _ _ _ _ _ hi (by omega) hl rfl) ((EK (by omega)).trans hd)⟩
end
end
section
open Go.RowKit Go.Shelf Go.Proofs.YtnmahobjmpdkdaaGreatDoorW.PrintWords
attribute [local go_sem] Oper.semAt_some
theorem KD:Bh []=[]:=rfl
theorem J4:∀ (l:List UInt8),l≠[]→Lib.indexByte l 10 = -1→Bh l=[l]
 |[],h,_=>absurd rfl h
 |b::l,_,h=>by
  unfold Lib.indexByte at h;by_cases hb:b=10
  ·subst hb;simp at h
  ·have hb':(b==10)=false:=Bq hb;rw[hb']at h;simp only[Bool.false_eq_true,if_false]at h;have hge:=Lib.indexByte_ge l 10;by_cases hm:Lib.indexByte l 10 = -1
   ·cases l with
    |nil=>rw[Bh,if_neg hb];rfl
    |cons c r=>rw[Bh,if_neg hb,J4 (c::r) (by simp) hm]
   ·rw[if_neg (by rw[beq_iff_eq];exact hm)]at h;omega
theorem KE:∀ (l:List UInt8) (i:Nat),Lib.indexByte l 10=i→Bh l=l.take (i+1)::Bh (l.drop (i+1))
 |[],i,h=>by simp[Lib.indexByte]at h
 |b::l,i,h=>by
  unfold Lib.indexByte at h;by_cases hb:b=10
  ·subst hb;simp at h;obtain rfl:i=0:=by omega
   rw[Bh,if_pos rfl];rfl
  ·have hb':(b==10)=false:=Bq hb;rw[hb']at h;simp only[Bool.false_eq_true,if_false]at h;have hge:=Lib.indexByte_ge l 10;by_cases hm:Lib.indexByte l 10 = -1
   ·rw[hm]at h;simp at h
   ·rw[if_neg (by rw[beq_iff_eq];exact hm)]at h;obtain⟨j,rfl⟩:∃ j,i=j+1:=⟨i-1,by omega⟩
    rw[Bh,if_neg hb,KE l j (by omega)];simp
theorem Iz:∀ (l:List UInt8) (i:Nat),Lib.indexByte l 10=i→i<l.length
 |[],i,h=>by simp[Lib.indexByte]at h
 |b::l,i,h=>by
  unfold Lib.indexByte at h;by_cases hb:(b==10)=true
  ·rw[if_pos hb]at h;simp;omega
  ·rw[if_neg hb]at h;have hge:=Lib.indexByte_ge l 10;by_cases hm:Lib.indexByte l 10 = -1
   ·rw[hm]at h;simp at h
   ·rw[if_neg (by rw[beq_iff_eq];exact hm)]at h;have:=Iz l (i-1) (by omega);simp;omega
def Na(c:Nat)(W:World):Nat:=match W.cell? ⟨c,0,none⟩ with
 |some (.string s)=>s.size
 |_=>0
theorem Gj{c:Nat}{W:World}{l:List UInt8}(h:W.cell? ⟨c,0,none⟩=some (.string ⟨l.toArray⟩)):Na c W=l.length:=by
 unfold Na;rw[h];simp[ByteArray.size]
theorem Pw(n:Nat)(t:List UInt8)(c:Nat)(w:World)(ht:t.length≤1000000)(hc:w.heap[c]?=some (.cells #[.string ⟨t.toArray⟩] 9 (0,0))) :
  NV Fence.wide n Tryz.prog 75 #[.pointer (some ⟨c,0,none⟩)] (fun x:List UInt8=>Value.string ⟨x.toArray⟩) c (fun xs=>xs=Bh t) (fun pre=>∃ rest,Bh t=pre++rest) w:=by
 intro l J Jx W hW hJ hJx hY h0;have hcW:W.heap[c]?=some (.cells #[.string ⟨t.toArray⟩] 9 (0,0)):=Bk hW hc;refine callsIn_of_wp Tryz.func75 rfl trivial ?_ rfl;simp only[Tryz.ntmps75,List.size_toArray,List.length_cons,List.length_nil,Nat.reduceAdd,Nat.reduceSub,Array.replicate_succ,Array.replicate_zero,List.push_toArray,List.append_toArray,List.nil_append,List.cons_append]
 gi_wp2
 gi_loopw [3,4] (fun v3 v4 wr=>∃ (pre:List (List UInt8)) (rest:List UInt8),Bh t=pre++Bh rest∧rest.length≤1000000∧wr.heap[c]?=some (.cells #[.string ⟨rest.toArray⟩] 9 (0,0))∧J pre wr)
  (fun _ _ wr=>Na c wr)
 case atStart=>exact⟨[],t,rfl,ht,hcW,h0⟩
 case round =>
  obtain⟨pre,rest,hp,hr,hcr,hJr⟩:=hrel;have c0:wr.cell? ⟨c,0,none⟩=some (.string ⟨rest.toArray⟩):=(Bc hcr 0).trans rfl;have f0:=Bf hcr 0;have z0:c<wr.heap.size:=Bl hcr;have C:=Az (Tryz.strings_IndexByte ⟨rest.toArray⟩ 10 wr);by_cases hn:rest=[]
  ·subst hn
   gi_wp2
   go_end0
   exact⟨⟨_,rfl⟩,.inl (by simpa [hp,KD]using hJr)⟩
  ·have hpos:0<rest.length:=List.length_pos_iff.2 hn;have hsz:(⟨rest.toArray⟩:ByteArray).size=rest.length:=by simp[ByteArray.size]
   have hge:=Lib.indexByte_ge rest 10;by_cases hm:Lib.indexByte rest 10 = -1
   ·have hl:=J4 rest hn hm;have C':=C.out;rw[show Lib.indexByte (⟨rest.toArray⟩:ByteArray).data.toList (10:Int).toNat.toUInt8 = -1 from hm]at C';replace C':=Az C';clear C;have hs':(wr.setCell ⟨c,0,none⟩ (.string ⟨#[]⟩)).heap[c]?=some (.cells #[.string ⟨#[]⟩] 9 (0,0)):=Bs hcr 0 (.string ⟨#[]⟩);obtain⟨fn,tmps,assign,body,hy,hR⟩:=hY pre rest (wr.setCell ⟨c,0,none⟩ (.string ⟨#[]⟩)) ⟨[],by rw[hp,hl,List.append_nil]⟩ (hJ.cell _ _ _ hJr)
    gi_wp2
    refine⟨trivial,fun h=>by simp[Fence.wide]at h,?_⟩;refine CallsIn.mono (callsIn_wide.2 C'.out) ?_;rintro e w' ⟨rfl,rfl⟩
    gi_wp2
    refine⟨fun h=>by simp[Fence.wide]at h,hR.mono ?_⟩;rintro e W3 (⟨rfl,hJ3,hk3⟩ |⟨rfl,hJx3⟩)
    ·gi_wp2
     go_roundw
     case rel=>exact⟨pre++[rest],[],by rw[hp,hl,KD,List.append_nil],by simp,hk3.trans hs',hJ3⟩
     case measure=>rw[Gj (l:=[]) ((Bc (hk3.trans hs') 0).trans rfl),Gj c0];exact hpos
    ·gi_wp2
     refine bodyPost_ret (results_none rfl _ _ _) rfl ?_;exact⟨⟨_,rfl⟩,.inr ⟨pre++[rest],⟨[],by rw[hp,hl,List.append_nil]⟩,hJx3⟩⟩
   ·obtain⟨i,hi⟩:∃ i:Nat,Lib.indexByte rest 10=i:=⟨(Lib.indexByte rest 10).toNat,by omega⟩
    have hl:=KE rest i hi;have hlt:=Iz rest i hi;have C':=C.out;rw[show Lib.indexByte (⟨rest.toArray⟩:ByteArray).data.toList (10:Int).toNat.toUInt8=i from hi]at C';replace C':=Az C';clear C;have hw1:IntKind.i64.wrap ((i:Int)+1)=(i:Int)+1:=by rw[IntKind.wrap_i64];omega
    have et:(⟨rest.toArray⟩:ByteArray).extract 0 (i+1)=⟨(rest.take (i+1)).toArray⟩:=by rw[DR];simp
    have ed:(⟨rest.toArray⟩:ByteArray).extract (i+1) rest.length=⟨(rest.drop (i+1)).toArray⟩:=by rw[DR,List.take_of_length_le (by rw[List.length_drop];omega)]
    gi_wp2
    refine⟨trivial,fun h=>by simp[Fence.wide]at h,?_⟩;refine CallsIn.mono (callsIn_wide.2 C'.out) ?_;rintro e w' ⟨rfl,rfl⟩
    gi_wp2
    gi_region
    have hs':((w'.setCell ⟨c,0,none⟩ (.string ⟨(rest.drop (i+1)).toArray⟩)).drew).heap[c]?=some (.cells #[.string ⟨(rest.drop (i+1)).toArray⟩] 9 (0,0)):=Be (Bs hcr 0 (.string ⟨(rest.drop (i+1)).toArray⟩));obtain⟨fn,tmps,assign,body,hy,hR⟩:=hY pre (rest.take (i+1)) ((w'.setCell ⟨c,0,none⟩ (.string ⟨(rest.drop (i+1)).toArray⟩)).drew) ⟨Bh (rest.drop (i+1)),by rw[hp,hl];simp⟩ (hJ.below _ _ _ (hJ.cell _ _ _ hJr) (Bd (Below.refl _ _)))
    gi_wp2
    refine⟨fun h=>by simp[Fence.wide]at h,hR.mono ?_⟩;rintro e W3 (⟨rfl,hJ3,hk3⟩ |⟨rfl,hJx3⟩)
    ·gi_wp2
     go_roundw
     case rel=>exact⟨pre++[rest.take (i+1)],rest.drop (i+1),by rw[hp,hl];simp,by rw[List.length_drop];omega,hk3.trans hs',hJ3⟩
     case measure=>rw[Gj (l:=rest.drop (i+1)) ((Bc (hk3.trans hs') 0).trans rfl),Gj c0,List.length_drop];omega
    ·gi_wp2
     refine bodyPost_ret (results_none rfl _ _ _) rfl ?_;exact⟨⟨_,rfl⟩,.inr ⟨pre++[rest.take (i+1)],⟨Bh (rest.drop (i+1)),by rw[hp,hl];simp⟩,hJx3⟩⟩
end
section
open Go.RowKit Go.Proofs.YtnmahobjmpdkdaaGreatDoorW.PrintWords
structure Ik (x:Src) (m:Nat):Prop where
 n:x.names.length=x.l.length
 r:x.rows.length=x.l.length
 l:x.l.length≤64
 b:x.labels.length≤m
 s:∀ s∈x.names,s.length≤16
theorem Rr(s:List UInt8)(h:(FZ s).2.2=true):(FZ s).2.1.length≤16:=by
 rw[Qz]at h ⊢;split at h
 ·rename_i hc
  rw[if_pos hc];simp only[Cq,Bool.and_eq_true,decide_eq_true_eq]at h;exact h.1.1.2
 ·rename_i hc
  rw[if_neg hc];simp
theorem SN(x:Src)(s:List UInt8)(n:Int){m:Nat}(h:Ik x m):Ik (Cx x s n).1 (m+1):=by
 obtain⟨h1,h2,h3,h4,h5⟩:=h;unfold Cx;dsimp only;repeat' split
 all_goals first
  |exact⟨h1,h2,h3,by omega,h5⟩
  |exact⟨h1,h2,h3,by simp;omega,h5⟩
  |(rename_i hx hh;exact⟨by simp[h1],by simp[h2],by simp;omega,by simpa using (by omega:x.labels.length≤m+1),fun s hs=>by
   rcases List.mem_append.1 hs with hs |hs
   ·exact h5 s hs
   ·rw[List.mem_singleton.1 hs];exact Rr _ (by simpa using hx)⟩)
theorem Ps(W:World)(base gx bm m:Nat)(v0 v1 v2:Value)(x:Src)(s:List UInt8)(n:Int)(he:Env W)(hX:DH W base gx bm v0 v1 v2 x)(hs:s.length≤90000)(hb0:base≤W.heap.size)(hok:Ik x m)(hm:m≤1000000) :
  Calls Tryz.prog 62 #[.pointer (some ⟨gx,0,none⟩),.string ⟨s.toArray⟩,.int .i64 n] W fun e W1=>e=.returned (.int .i64 (Cx x s n).2) ∧
   ∃ u0 u1 u2,DH W1 base gx bm u0 u1 u2 (Cx x s n).1∧Br W W1 base gx bm v0 v1 v2 u0 u1 u2:=by
 by_cases hend:s.getLast?=some 10
 ·by_cases hlab:s.dropLast.getLast?=some 58∧Cq s.dropLast.dropLast=true
  ·exact Pt W base gx bm v0 v1 v2 x s n he hX hs hb0 (by have:=hok.l;omega) (Nat.le_trans hok.b hm) hend hlab.1 hlab.2
  ·by_cases hbad:(FZ s.dropLast).2.2=false∨64≤x.l.length
   ·exact Rt W base gx bm v0 v1 v2 x s n he hX hs hb0 hend hlab hbad
   ·have h1:(FZ s.dropLast).2.2=true:=by simpa using fun h=>hbad (.inl h)
    exact SO W base gx bm v0 v1 v2 x s n he hX hs hb0 hend hlab h1 (Nat.lt_of_not_le fun h=>hbad (.inr h)) hok.n hok.r
 ·exact SP W base gx bm v0 v1 v2 x s n he hX hs hb0 hend
theorem Me(s:List UInt8):∀ (pre:List (List UInt8)) (n:Int) (x:Src),(Dc pre n x).2.2=0 →
  Dc (pre++[s]) n x=if (Cx (Dc pre n x).1 s (n+pre.length+1)).2=0 then ((Cx (Dc pre n x).1 s (n+pre.length+1)).1,n+pre.length+1,0)
   else ((Dc pre n x).1,n+pre.length+1,(Cx (Dc pre n x).1 s (n+pre.length+1)).2)
 |[],n,x,_=>by simp[Dc]
 |p::pre,n,x,h=>by
  by_cases h1:(Cx x p (n+1)).2=0
  ·have e1:∀ l,Dc (p::l) n x=Dc l (n+1) (Cx x p (n+1)).1:=fun l=>by simp only[Dc];rw[if_pos h1]
   rw[e1]at h;rw[List.cons_append,e1,e1,Me s pre _ _ h];have e:n+1+(pre.length:Int)+1=n+((p::pre).length:Int)+1:=by simp;omega
   rw[e]
  ·simp only[Dc]at h;rw[if_neg h1]at h;exact absurd h h1
theorem Mf(rest:List (List UInt8)):∀ (pre:List (List UInt8)) (n:Int) (x:Src),(Dc pre n x).2.2≠0→Dc (pre++rest) n x=Dc pre n x
 |[],n,x,h=>absurd rfl h
 |p::pre,n,x,h=>by
  simp only[Dc,List.cons_append]at h ⊢;by_cases h1:(Cx x p (n+1)).2=0
  ·rw[if_pos h1]at h;rw[if_pos h1,if_pos h1,Mf rest pre _ _ h]
  ·rw[if_neg h1,if_neg h1]
theorem Hi:∀ (t s:List UInt8),s∈Bh t→s.length≤t.length
 |[],s,h=>by simp[Bh]at h
 |c::l,s,h=>by
  unfold Bh at h;split at h
  ·rcases List.mem_cons.1 h with rfl |h
   ·simp
   ·exact Nat.le_succ_of_le (Hi l s h)
  ·split at h
   ·simp at h;subst h;simp
   ·rename_i w ws e
    rcases List.mem_cons.1 h with rfl |h
    ·have:=Hi l w (by rw[e];simp)
     simpa using this
    ·exact Nat.le_succ_of_le (Hi l s (by rw[e];exact List.mem_cons_of_mem _ h))
theorem Jq:∀ (t:List UInt8),(Bh t).length≤t.length
 |[]=>Nl _
 |c::l=>by
  have:=Jq l;unfold Bh;split
  ·simpa using this
  ·split
   ·simp
   ·rename_i w ws e
    rw[e]at this;simp at this ⊢;omega
structure AI (w0 W:World) (N:Nat) (x:Src) (k:Nat):Prop where
 b:Below N w0 W
 c2:W.heap[N]?=some (.cells #[.slice none 0 0,.int .i64 0,.int .i64 0] 36 (0,0))
 c3:W.heap[N+1]?=some (.cells #[.int .i64 0] 3 (0,0))
 c4:W.heap[N+2]?=some (.cells #[.int .i64 0] 39 (0,0))
 c5:W.heap[N+5]?=some (.cells #[.pointer (some ⟨N+4,0,none⟩)] 94 (0,0))
 c6:W.heap[N+6]?=some (.cells #[.int .i64 k] 3 (0,0))
 z:N+8≤W.heap.size
 ok:Ik x k
 s:∃ v0 v1 v2,DH W N (N+4) (N+3) v0 v1 v2 x∧(∀ j,v0.ownBlock=some j→N+8≤j)∧(∀ j,v1.ownBlock=some j→N+8≤j)∧(∀ j,v2.ownBlock=some j→N+8≤j)
section
variable {w0 W W1:World} {N k:Nat} {x:Src}
theorem AI.far(h:AI w0 W N x k)(hb:Below N w0 W1)(hz:W.heap.size≤W1.heap.size)(hk:∀ j o,W.heap[j]?=some o→j≠N+7→(j<N+8∨o.isCells=true)→W1.heap[j]?=some o):AI w0 W1 N x k:=by
 obtain⟨v0,v1,v2,hs,h0,h1,h2⟩:=h.s;have own:∀ {e:TypeId} {size n:Nat} {v:Value} {xs:List Value},W.ownsRow N e size v n xs→(∀ j,v.ownBlock=some j→N+8≤j)→W1.ownsRow N e size v n xs:=fun ho hv =>
  Om ho fun j hj=>by
   obtain⟨cells,hc⟩:=Dv ho j hj;have:=hv j hj;rw[hc];exact hk j _ hc (by omega) (.inr rfl)
 obtain⟨nm,D,⟨es,clock,hm,r⟩,hi,hn,hL⟩:=hs.m;exact⟨hb,hk _ _ h.c2 (by omega) (.inl (by omega)),hk _ _ h.c3 (by omega) (.inl (by omega)),hk _ _ h.c4 (by omega) (.inl (by omega)),hk _ _ h.c5 (by omega) (.inl (by omega)),hk _ _ h.c6 (by omega) (.inl (by omega)),Nat.le_trans h.z hz,h.ok,
  v0,v1,v2,⟨hk _ _ hs.s (by omega) (.inl (by omega)),own hs.r0 h0,own hs.r1 h1,own hs.r2 h2,⟨nm,D,⟨es,clock,hk _ _ hm (by omega) (.inl (by omega)),r⟩,hi,hn,hL⟩,hs.gb,hs.bb⟩,h0,h1,h2⟩
theorem AI.keep(h:AI w0 W N x k)(hb:Below W.heap.size W W1):AI w0 W1 N x k :=
 h.far (h.b.trans (hb.mono (by have:=h.z;omega))) hb.size fun j o hj _ _=>Bk hb hj
theorem AI.Ko(h:AI w0 W N x k)(j:Nat)(v:Value):AI w0 (W.setCell ⟨N+7,j,none⟩ v) N x k :=
 h.far (h.b.setCell (show N≤N+7 by omega) v) (by simp) fun i o hi hne _=>(Below.heap_setCell W ⟨N+7,j,none⟩ v i hne).trans hi
theorem IL{N:Nat}{w0 W:World}(h:Below N w0 W){l:Nat}(hl:N≤l)(o:Obj):Below N w0 (W.putObj l o) :=
 ⟨h.os,h.tape,h.output,by rw[World.putObj_size];exact h.size,fun k hk=>(World.putObj_heap_other (by omega)).trans (h.block k hk)⟩
theorem AI.put(h:AI w0 W N x k){l:Nat}{o o':Obj}(hl:N+8≤l)(ho:W.heap[l]?=some o)(hn:o.isCells=false):AI w0 (W.putObj l o') N x k :=
 h.far (IL h.b (by omega) o') (by simp) fun j p hj _ hc=>by
  refine(World.putObj_heap_other (fun e=>?_)).trans hj;subst e;rcases hc with hc |hc
  ·omega
  ·rw[ho]at hj;cases hj;rw[hn]at hc;cases hc
theorem AI.num(h:AI w0 W N x k)(m:Nat)(hok:Ik x m):AI w0 (W.setCell ⟨N+6,0,none⟩ (.int .i64 m)) N x m:=by
 obtain⟨v0,v1,v2,hs,h0,h1,h2⟩:=h.s;have far:∀ {j:Nat} {o:Obj},W.heap[j]?=some o→j≠N+6→(W.setCell ⟨N+6,0,none⟩ (.int .i64 m)).heap[j]?=some o:=fun hj hne=>(Below.heap_setCell W ⟨N+6,0,none⟩ _ _ hne).trans hj
 have own:∀ {e:TypeId} {size n:Nat} {v:Value} {xs:List Value},W.ownsRow N e size v n xs→(∀ j,v.ownBlock=some j→N+8≤j)→(W.setCell ⟨N+6,0,none⟩ (.int .i64 m)).ownsRow N e size v n xs:=fun ho hv =>
  Om ho fun j hj=>Below.heap_setCell W ⟨N+6,0,none⟩ _ _ (show j≠N+6 by have:=hv j hj;omega)
 exact⟨h.b.setCell (show N≤N+6 by omega) _,far h.c2 (by omega),far h.c3 (by omega),far h.c4 (by omega),far h.c5 (by omega),Bs h.c6 0 _,by simpa using h.z,hok,
  v0,v1,v2,⟨far hs.s (by omega),own hs.r0 h0,own hs.r1 h1,own hs.r2 h2,hs.m.keep (Below.heap_setCell W ⟨N+6,0,none⟩ _ _ (show N+3≠N+6 by omega)),hs.gb,hs.bb⟩,h0,h1,h2⟩
theorem AI.line(h:AI w0 W N x k){x':Src}(hok:Ik x' k){v0 v1 v2 u0 u1 u2:Value}(h0:∀ j,v0.ownBlock=some j→N+8≤j)(h1:∀ j,v1.ownBlock=some j→N+8≤j)(h2:∀ j,v2.ownBlock=some j→N+8≤j)
  (hs:DH W1 N (N+4) (N+3) u0 u1 u2 x')(hK:Br W W1 N (N+4) (N+3) v0 v1 v2 u0 u1 u2):AI w0 W1 N x' k∧W1.heap[N+7]?=W.heap[N+7]?:=by
 have hz:=h.z;have far:∀ {j:Nat},j<N+8→j≠N+4→j≠N+3→W1.heap[j]?=W.heap[j]?:=fun {j} hj a b =>
  hK.k j (by omega) a b (fun e=>by have:=h0 j e.symm;omega) (fun e=>by have:=h1 j e.symm;omega) (fun e=>by have:=h2 j e.symm;omega)
 refine⟨⟨h.b.trans hK.b,(far (by omega) (by omega) (by omega)).trans h.c2,(far (by omega) (by omega) (by omega)).trans h.c3,(far (by omega) (by omega) (by omega)).trans h.c4,(far (by omega) (by omega) (by omega)).trans h.c5,
  (far (by omega) (by omega) (by omega)).trans h.c6,Nat.le_trans h.z hK.b.size,hok,u0,u1,u2,hs,fun j hj=>?_,fun j hj=>?_,fun j hj=>?_⟩,far (by omega) (by omega) (by omega)⟩
 ·rcases hK.n0 j hj with e |e
  ·exact h0 j e
  ·omega
 ·rcases hK.n1 j hj with e |e
  ·exact h1 j e
  ·omega
 ·rcases hK.n2 j hj with e |e
  ·exact h2 j e
  ·omega
theorem KeepsFrom.line{v0 v1 v2 u0 u1 u2:Value}{B base gx bm:Nat}(hs:DH W base gx bm v0 v1 v2 x)(hg:gx<B)(hm:bm<B)(hK:Br W W1 base gx bm v0 v1 v2 u0 u1 u2):KeepsFrom B W W1 :=
 ⟨hK.b.size,fun j o hB hj ho=>by
  have no:∀ {e:TypeId} {size n:Nat} {v:Value} {xs:List Value},W.ownsRow base e size v n xs→some j≠v.ownBlock:=fun hr e1=>by
   obtain⟨cells,hc⟩:=Dv hr j e1.symm;rw[hc]at hj;cases hj;cases ho
  exact(hK.k j (Bl hj) (by omega) (by omega) (no hs.r0) (no hs.r1) (no hs.r2)).trans hj⟩
theorem KeepsFrom.setCell{B:Nat}{p:Addr}(v:Value)(hp:p.block<B):KeepsFrom B W (W.setCell p v) :=
 ⟨by simp,fun j o hB hj _=>(Below.heap_setCell W p v j (by omega)).trans hj⟩
theorem KeepsFrom.drew(B:Nat):KeepsFrom B W W.drew:=(KeepsOthers.drew W).from B
end
structure AX (w0 W:World) (N:Nat) (line err:Int):Prop where
 b:Below N w0 W
 c2:W.heap[N]?=some (.cells #[.slice none 0 0,.int .i64 0,.int .i64 0] 36 (0,0))
 c3:W.heap[N+1]?=some (.cells #[.int .i64 line] 3 (0,0))
 c4:W.heap[N+2]?=some (.cells #[.int .i64 err] 39 (0,0))
theorem AX.far{w0 W W1:World}{N:Nat}{line err:Int}(h:AX w0 W N line err)(hb:Below N w0 W1)(hk:∀ j,j<N+3→W1.heap[j]?=W.heap[j]?):AX w0 W1 N line err :=
 ⟨hb,(hk _ (by omega)).trans h.c2,(hk _ (by omega)).trans h.c3,(hk _ (by omega)).trans h.c4⟩
theorem AX.of{w0 W:World}{N k:Nat}{x:Src}(h:AI w0 W N x k)(line err:Int) :
  AX w0 (((((W.setCell ⟨N,0,none⟩ (.slice none 0 0)).setCell ⟨N,1,none⟩ (.int .i64 0)).setCell ⟨N,2,none⟩ (.int .i64 0)).setCell ⟨N+1,0,none⟩ (.int .i64 line)).setCell ⟨N+2,0,none⟩ (.int .i64 err)) N line err:=by
 have far:∀ {W:World} {j g i:Nat} {o:Obj} (v:Value),W.heap[j]?=some o→j≠g→(W.setCell ⟨g,i,none⟩ v).heap[j]?=some o:=fun v hj hne=>(Below.heap_setCell _ ⟨_,_,none⟩ v _ hne).trans hj
 refine⟨((((h.b.setCell (Nl _) _).setCell (Nl _) _).setCell (Nl _) _).setCell (show N≤N+1 by omega) _).setCell (show N≤N+2 by omega) _,?_,?_,?_⟩
 ·exact far _ (far _ (Bs (Bs (Bs h.c2 0 _) 1 _) 2 _) (by omega)) (by omega)
 ·exact far _ (Bs (far _ (far _ (far _ h.c3 (by omega)) (by omega)) (by omega)) 0 _) (by omega)
 ·exact Bs (far _ (far _ (far _ (far _ h.c4 (by omega)) (by omega)) (by omega)) (by omega)) 0 _
theorem Ru{F:Fence}{n:Nat}{P:Program}{fn:Func}{R:Ending→World→Prop}{a:Act}{W:World}{D:Nat}(hd:a.defers=[{target:=.collected D,args:=#[]}])(hD:W.heap[D]?=some (.deferred (some [])))
  (h:∃ v,(results fn a.tmps).run P (W.putObj D (.deferred none))=.ok v (W.putObj D (.deferred none))∧R (.returned v) (W.putObj D (.deferred none))):bodyPostM F n P fn R .ret a W:=by
 show LeavesInM F n P fn a.tmps R a.defers .returning W
 rw[hd];exact⟨by simp,.inl ⟨D,_,rfl,run_takeDeferred hD,h⟩⟩
theorem NS{P:Program}{fn:Func}{p q r:Tmp}{t1 t2 t3:TypeId}(h:fn.results=#[.cell p t1,.cell q t2,.cell r t3])(tmps:Array Value)(w:World)(g1 g2 g3:Nat)(cs:Array Value)(x y:Value)(f1 f2 f3:Nat×Nat)(d:TypeDesc)
  (hp:tmps.getD p undef=.pointer (some ⟨g1,0,none⟩))(hg1:w.heap[g1]?=some (.cells cs t1 f1))(hu:P.underlying t1=some d)(hdd:(match d with |.struct _ |.array _ _=>true |_=>false)=true)(hi:(P.info? t1).map (·.size)=some cs.size)
  (hq:tmps.getD q undef=.pointer (some ⟨g2,0,none⟩))(l2:(loadVar t2 ⟨g2,0,none⟩).run P w=.ok x w)
  (hr:tmps.getD r undef=.pointer (some ⟨g3,0,none⟩))(l3:(loadVar t3 ⟨g3,0,none⟩).run P w=.ok y w) :
  (results fn tmps).run P w=.ok (.tuple #[.agg cs,x,y]) w:=by
 have hp':tmps[p]?.getD undef=.pointer (some ⟨g1,0,none⟩):=by simpa using hp
 have hq':tmps[q]?.getD undef=.pointer (some ⟨g2,0,none⟩):=by simpa using hq
 have hr':tmps[r]?.getD undef=.pointer (some ⟨g3,0,none⟩):=by simpa using hr
 have hl:=run_loadVar_row w g1 t1 t1 cs f1 d hg1 hu hdd hi;simp only[results,h];simp[Sem.run_bind,Result.andThen,hp',hq',hr',asAddr,hl,l2,l3]
def Il(x:Src)(k:Nat)(done:List In):List In ⊕ Int :=
 match fixF x (x.l.drop k) (x.names.drop k) (x.rows.drop k) with
 |.inl r=>.inl (done++r)
 |.inr e=>.inr e
theorem Rv(x:Src):Il x 0 []=fixF x x.l x.names x.rows:=by
 unfold Il;simp only[List.drop_zero,List.nil_append];cases fixF x x.l x.names x.rows<;>rfl
theorem SQ(x:Src)(k:Nat)(done:List In)(h:x.l.length≤k):Il x k done=.inl done:=by
 unfold Il;rw[List.drop_eq_nil_of_le h];simp[fixF]
theorem Dw{α:Type}(l:List α)(k:Nat)(d:α)(h:k<l.length):l.drop k=l.getD k d::l.drop (k+1):=by
 rw[List.drop_eq_getElem_cons h]
 congr 1
 simp[List.getD_eq_getElem?_getD,List.getElem?_eq_getElem h]
section
variable {x:Src} {k:Nat} {done:List In}
theorem Rw(h:k<x.l.length)(h1:x.names.length=x.l.length)(h2:x.rows.length=x.l.length) :
  Il x k done=if x.names.getD k []=[] then Il x (k+1) (done++[x.l.getD k In.zero]) else
   match x.place (x.names.getD k []) with
   |none=>.inr (x.rows.getD k 0)
   |some p=>Il x (k+1) (done++[{x.l.getD k In.zero with q:=p}]):=by
 unfold Il;rw[Dw x.l k In.zero h,Dw x.names k [] (by omega),Dw x.rows k 0 (by omega)];simp only[fixF];by_cases hs:x.names.getD k []=[]
 ·rw[if_pos hs,if_pos hs];cases fixF x (x.l.drop (k+1)) (x.names.drop (k+1)) (x.rows.drop (k+1))<;>simp
 ·rw[if_neg hs,if_neg hs];cases x.place (x.names.getD k []) with
  |none=>rfl
  |some p=>cases fixF x (x.l.drop (k+1)) (x.names.drop (k+1)) (x.rows.drop (k+1))<;>simp
end
theorem GA:∀ (l:List In) (k:Nat) (q:Int) (h:k<l.length),(Bu l).set (k*8+7) (.int .i64 q)=Bu (l.set k {l.getD k In.zero with q:=q})
 |[],k,q,h=>by simp at h
 |i::l,0,q,h=>by
  cases i;simp[Bu,In.cs]
 |i::l,k+1,q,h=>by
  have ih:=GA l k q (by simpa using h);have e:∀ j:List In,Bu (i::j)=i.cs.toList++Bu j:=fun j=>by simp[Bu]
  rw[Sc,e,e,List.set_append_right _ _ (by simp[In.cs];omega)];have e8:i.cs.toList.length=8:=rfl;rw[e8,show(k+1)*8+7-8=k*8+7 by omega,ih];simp[List.getD_eq_getElem?_getD]
theorem C8.WU{W:World}{base k n c g:Nat}{xs:List In}(h:C8 W base (.slice (some ⟨g,0,none⟩) n c) xs)(hk:k<xs.length)(q:Int) :
  C8 (W.setCell ⟨g,k*8+7,none⟩ (.int .i64 q)) base (.slice (some ⟨g,0,none⟩) n c) (xs.set k {xs.getD k In.zero with q:=q}):=by
 obtain⟨h1,h2⟩:=h;rcases h2 with ⟨h0,_⟩ |⟨g',cap,cur,h0,hb,hg,hc,hm,hs,ht⟩
 ·cases h0
 ·cases h0;refine⟨by rw[Jr,List.length_set],.inr ⟨g,c,_,by rw[List.length_set],hb,Bs hg (k*8+7) _,by rw[List.length_set];exact hc,hm,by simpa using hs,?_⟩⟩;rw[List.length_set,←GA xs k q hk,←ht];simp[List.take_set]
theorem C8.cell{W:World}{base:Nat}{v:Value}{xs:List In}(h:C8 W base v xs)(hn:0<xs.length) :
  ∃ g c,v=.slice (some ⟨g,0,none⟩) xs.length c∧xs.length≤c∧base≤g∧g<W.heap.size∧W.frozen? ⟨g,0,none⟩=W.frozen? ⟨g,0,none⟩∧∃ cs,W.heap[g]?=some (.cells cs 104 (0,0))∧xs.length*8≤cs.size:=by
 obtain⟨h1,h2⟩:=h;rcases h2 with ⟨rfl,h0⟩ |⟨g,cap,cur,rfl,hg,hh,hc,hm,hs,ht⟩
 ·omega
 ·exact⟨g,cap,rfl,hc,hg,Bl hh,rfl,cur,hh,by rw[hs];exact Nat.mul_le_mul_right _ hc⟩
theorem Ex.cell{W:World}{base:Nat}{v:Value}{xs:List (List UInt8)}(h:Ex W base v xs)(hn:0<xs.length) :
  ∃ g c,v=.slice (some ⟨g,0,none⟩) xs.length c∧xs.length≤c∧∀ j,j<xs.length→W.cell? ⟨g,j,none⟩=some (.string ⟨(xs.getD j []).toArray⟩):=by
 obtain⟨h1,h2⟩:=h;rcases h2 with ⟨rfl,h0⟩ |⟨g,cap,cur,rfl,hg,hh,hc,hm,hs,ht⟩
 ·omega
 ·refine⟨g,cap,rfl,hc,fun j hj=>(Bc hh j).trans ?_⟩;have e:(cur.toList.take (xs.length*1))[j]?=(xs.map fun s=>Value.string ⟨s.toArray⟩)[j]?:=by rw[ht]
  rw[List.getElem?_take_of_lt (by omega),Array.getElem?_toList]at e;rw[e];simp[List.getElem?_eq_getElem hj,List.getD_eq_getElem?_getD]
theorem NT(s:List UInt8)(W:World):Calls Tryz.prog 61 #[.string ⟨s.toArray⟩] W fun e W1 =>
  e=.returned (.func (.func 75) #[] #[.pointer (some ⟨W.heap.size,0,none⟩)])∧W1=W.alloc (.cells #[.string ⟨s.toArray⟩] 9):=by
 go_enter Tryz.func61,Tryz.ntmps61;go_wp2;go_ret;exact⟨rfl,rfl⟩
structure BI (w0 W:World) (N D:Nat) (v0 v1 v2:Value) (x:Src) (l:List In):Prop where
 b:Below N w0 W
 c2:W.heap[N]?=some (.cells #[.slice none 0 0,.int .i64 0,.int .i64 0] 36 (0,0))
 c3:W.heap[N+1]?=some (.cells #[.int .i64 0] 3 (0,0))
 c4:W.heap[N+2]?=some (.cells #[.int .i64 0] 39 (0,0))
 c5:W.heap[N+5]?=some (.cells #[.pointer (some ⟨N+4,0,none⟩)] 94 (0,0))
 d:W.heap[D]?=some (.deferred (some []))
 s:DH W N (N+4) (N+3) v0 v1 v2 {x with l:=l}
 o0:∀ j,v0.ownBlock=some j→N+8≤j
 o1:∀ j,v1.ownBlock=some j→N+8≤j
 o2:∀ j,v2.ownBlock=some j→N+8≤j
theorem BI.keep{w0 W W1:World}{N D:Nat}{v0 v1 v2:Value}{x:Src}{l:List In}(h:BI w0 W N D v0 v1 v2 x l)(hb:Below W.heap.size W W1):BI w0 W1 N D v0 v1 v2 x l :=
 ⟨h.b.trans (hb.mono (Nat.le_of_lt (Bl h.c2))),Bk hb h.c2,Bk hb h.c3,Bk hb h.c4,Bk hb h.c5,Bk hb h.d,h.s.keep hb,h.o0,h.o1,h.o2⟩
theorem BI.put{w0 W:World}{N D g n c k:Nat}{v1 v2:Value}{x:Src}{l:List In}(h:BI w0 W N D (.slice (some ⟨g,0,none⟩) n c) v1 v2 x l)(hk:k<l.length)(q:Int) :
  BI w0 (W.setCell ⟨g,k*8+7,none⟩ (.int .i64 q)) N D (.slice (some ⟨g,0,none⟩) n c) v1 v2 x (l.set k {l.getD k In.zero with q:=q}):=by
 have hg:N+8≤g:=h.o0 g rfl;obtain⟨cells,hc⟩:=Dv h.s.r0 g rfl;have far:∀ {j:Nat} {o:Obj},W.heap[j]?=some o→j≠g→(W.setCell ⟨g,k*8+7,none⟩ (.int .i64 q)).heap[j]?=some o:=fun hj hne=>(Below.heap_setCell W ⟨g,k*8+7,none⟩ _ _ hne).trans hj
 have off:∀ {e:TypeId} {size m:Nat} {v:Value} {xs:List Value},W.ownsRow N e size v m xs→e≠104→(W.setCell ⟨g,k*8+7,none⟩ (.int .i64 q)).ownsRow N e size v m xs:=fun hr hne =>
  Om hr fun j hj=>Below.heap_setCell W ⟨g,k*8+7,none⟩ _ _ (fun e=>Oa hr hc hne (by rw[hj,←show j=g from e]))
 exact⟨h.b.setCell (show N≤g by omega) _,far h.c2 (by omega),far h.c3 (by omega),far h.c4 (by omega),far h.c5 (by omega),far h.d (fun e=>by subst e;rw[h.d]at hc;cases hc),
  ⟨far h.s.s (by omega),h.s.r0.WU hk q,off h.s.r1 (by decide),off h.s.r2 (by decide),h.s.m.keep (Below.heap_setCell W ⟨g,k*8+7,none⟩ _ _ (show N+3≠g by omega)),h.s.gb,h.s.bb⟩,h.o0,h.o1,h.o2⟩
theorem SR(done:List In)(l:List In)(k:Nat)(i:In)(hd:done.length=k)(hk:k<l.length):(done++l.drop k).set k i=(done++[i])++l.drop (k+1):=by
 rw[List.set_append_right _ _ (by omega),hd,Nat.sub_self,List.drop_eq_getElem_cons hk,Sb];simp
theorem get_at(done:List In)(l:List In)(k:Nat)(d:In)(hd:done.length=k)(hk:k<l.length):(done++l.drop k).getD k d=l.getD k d:=by
 rw[Dw l k d hk,List.getD_eq_getElem?_getD,List.getElem?_append_right (by omega),hd,Nat.sub_self];rfl
theorem IM(x:Src)(s:List UInt8)(n:Nat)(hn:x.l.length=n):∃ (p:Nat) (b:Bool),(b=true→x.place s=some p)∧(b=false→x.place s=none)∧(Eg x.labels s).getD 0=p∧((Eg x.labels s).isSome&&decide (p<n))=b:=by
 subst hn;refine⟨_,_,?_,?_,rfl,rfl⟩
 ·intro h;rw[Bool.and_eq_true,decide_eq_true_eq]at h;obtain⟨p,hp⟩:=Option.isSome_iff_exists.1 h.1;have:x.at s=some p:=hp;unfold Src.place;rw[this];rw[hp]at h;simp only[Option.getD_some]at h;simp[h.2,hp]
 ·intro h;unfold Src.place
  show(Eg x.labels s).filter _=none
  cases hp:Eg x.labels s with
  |none=>rfl
  |some p =>
   rw[hp]at h;simp at h;simp[h]
theorem AX.Vf{w0 W:World}{N k:Nat}{x:Src}(h:AI w0 W N x k)(line err:Int) :
  AX w0 (((((W.setCell ⟨N,0,none⟩ (.slice none 0 0)).setCell ⟨N,1,none⟩ (.int .i64 0)).setCell ⟨N,2,none⟩ (.int .i64 0)).setCell ⟨N+1,0,none⟩ (.int .i64 line)).setCell ⟨N+2,0,none⟩ (.int .i64 err)).drew N line err:=by
 have h1:=AX.of h line err;generalize ((((W.setCell ⟨N,0,none⟩ (.slice none 0 0)).setCell ⟨N,1,none⟩ (.int .i64 0)).setCell ⟨N,2,none⟩ (.int .i64 0)).setCell ⟨N+1,0,none⟩ (.int .i64 line)).setCell ⟨N+2,0,none⟩ (.int .i64 err)=W1 at *;exact h1.far (Bd h1.b) (fun j hj=>rfl)
theorem KeepsFrom.YR{B N:Nat}{W W1:World}(h:KeepsFrom B W W1)(hN:N+2<B)(a b c d e:Value) :
  KeepsFrom B W (((((W1.setCell ⟨N,0,none⟩ a).setCell ⟨N,1,none⟩ b).setCell ⟨N,2,none⟩ c).setCell ⟨N+1,0,none⟩ d).setCell ⟨N+2,0,none⟩ e).drew:=by
 have s1:∀ (W:World) (i:Nat) (v:Value),KeepsFrom B W (W.setCell ⟨N,i,none⟩ v):=fun W i v=>KeepsFrom.setCell v (show N<B by omega)
 have s2:∀ (W:World) (i:Nat) (v:Value),KeepsFrom B W (W.setCell ⟨N+1,i,none⟩ v):=fun W i v=>KeepsFrom.setCell v (show N+1<B by omega)
 have s3:∀ (W:World) (i:Nat) (v:Value),KeepsFrom B W (W.setCell ⟨N+2,i,none⟩ v):=fun W i v=>KeepsFrom.setCell v (show N+2<B by omega)
 exact(((((h.trans (s1 _ _ _)).trans (s1 _ _ _)).trans (s1 _ _ _)).trans (s2 _ _ _)).trans (s3 _ _ _)).trans (KeepsFrom.drew _)
theorem Ck{W W1:World}{a:Addr}{v:Value}(hb:Below W.heap.size W W1)(h:W.cell? a=some v):W1.cell? a=some v :=
 (World.cell?_of_block (hb.block a.block (World.block_lt_of_cell? W a h))).trans h
theorem ME{w0 W W1:World}{N D:Nat}{v0 v1 v2:Value}{x:Src}{l:List In}{a b d:Addr}{y1 y2 y3:Value}(hb:Below W.heap.size W W1)
  (h:Af (BI w0 W N D v0 v1 v2 x l)∧W.cell? a=some y1∧W.cell? b=some y2∧W.cell? d=some y3) :
  Af (BI w0 W1 N D v0 v1 v2 x l)∧W1.cell? a=some y1∧W1.cell? b=some y2∧W1.cell? d=some y3 :=
 ⟨⟨h.1.out.keep hb⟩,Ck hb h.2.1,Ck hb h.2.2.1,Ck hb h.2.2.2⟩
theorem YS{w0 W:World}{N:Nat}(hb:Below N w0 W){x0 x1 x2 x3 x4:Value}(c2:W.heap[N]?=some (.cells #[x0,x1,x2] 36 (0,0)))(c3:W.heap[N+1]?=some (.cells #[x3] 3 (0,0)))(c4:W.heap[N+2]?=some (.cells #[x4] 39 (0,0)))
  (v a b line err:Value):∀ W',W'=((((W.setCell ⟨N,0,none⟩ v).setCell ⟨N,1,none⟩ a).setCell ⟨N,2,none⟩ b).setCell ⟨N+1,0,none⟩ line).setCell ⟨N+2,0,none⟩ err →
  Below N w0 W'∧W'.heap[N]?=some (.cells #[v,a,b] 36 (0,0))∧W'.heap[N+1]?=some (.cells #[line] 3 (0,0))∧W'.heap[N+2]?=some (.cells #[err] 39 (0,0))∧∀ j,N+3≤j→W'.heap[j]?=W.heap[j]?:=by
 rintro W' rfl;have far:∀ {W:World} {j g i:Nat} {o:Obj} (v:Value),W.heap[j]?=some o→j≠g→(W.setCell ⟨g,i,none⟩ v).heap[j]?=some o:=fun v hj hne=>(Below.heap_setCell _ ⟨_,_,none⟩ v _ hne).trans hj
 refine⟨((((hb.setCell (Nl _) _).setCell (Nl _) _).setCell (Nl _) _).setCell (show N≤N+1 by omega) _).setCell (show N≤N+2 by omega) _,?_,?_,?_,fun j hj=>?_⟩
 ·exact far _ (far _ (Bs (Bs (Bs c2 0 _) 1 _) 2 _) (by omega)) (by omega)
 ·exact far _ (Bs (far _ (far _ (far _ c3 (by omega)) (by omega)) (by omega)) 0 _) (by omega)
 ·exact Bs (far _ (far _ (far _ (far _ c4 (by omega)) (by omega)) (by omega)) (by omega)) 0 _
 ·rw[Below.heap_setCell _ ⟨N+2,0,none⟩ _ _ (show j≠N+2 by omega),Below.heap_setCell _ ⟨N+1,0,none⟩ _ _ (show j≠N+1 by omega),Below.heap_setCell _ ⟨N,2,none⟩ _ _ (show j≠N by omega),Below.heap_setCell _ ⟨N,1,none⟩ _ _ (show j≠N by omega),Below.heap_setCell _ ⟨N,0,none⟩ _ _ (show j≠N by omega)]
theorem YT{w0 W:World}{N:Nat}(hb:Below N w0 W){x0 x1 x2 x3 x4:Value}(c2:W.heap[N]?=some (.cells #[x0,x1,x2] 36 (0,0)))(c3:W.heap[N+1]?=some (.cells #[x3] 3 (0,0)))(c4:W.heap[N+2]?=some (.cells #[x4] 39 (0,0)))
  (v a b line err:Value):∀ W',W'=(((((W.setCell ⟨N,0,none⟩ v).setCell ⟨N,1,none⟩ a).setCell ⟨N,2,none⟩ b).setCell ⟨N+1,0,none⟩ line).setCell ⟨N+2,0,none⟩ err).drew →
  Below N w0 W'∧W'.heap[N]?=some (.cells #[v,a,b] 36 (0,0))∧W'.heap[N+1]?=some (.cells #[line] 3 (0,0))∧W'.heap[N+2]?=some (.cells #[err] 39 (0,0))∧∀ j,N+3≤j→W'.heap[j]?=W.heap[j]?:=by
 intro W' hW';obtain⟨h1,h2,h3,h4,h5⟩:=YS hb c2 c3 c4 v a b line err _ rfl;generalize ((((W.setCell ⟨N,0,none⟩ v).setCell ⟨N,1,none⟩ a).setCell ⟨N,2,none⟩ b).setCell ⟨N+1,0,none⟩ line).setCell ⟨N+2,0,none⟩ err=W2 at *;subst hW';exact⟨Bd h1,h2,h3,h4,h5⟩
theorem MF{W:World}{N g2 kk g i:Nat}{y1 y2 y3 v:Value}(hg:g<N+3)(hg2:N+8≤g2)
  (h:W.drew.cell? ⟨N+5,0,none⟩=some y1∧W.drew.cell? ⟨N+4,2,none⟩=some y2∧W.drew.cell? ⟨g2,kk,none⟩=some y3) :
  (W.setCell ⟨g,i,none⟩ v).drew.cell? ⟨N+5,0,none⟩=some y1∧(W.setCell ⟨g,i,none⟩ v).drew.cell? ⟨N+4,2,none⟩=some y2∧(W.setCell ⟨g,i,none⟩ v).drew.cell? ⟨g2,kk,none⟩=some y3 :=
 ⟨(World.cell?_setCell_far W ⟨g,i,none⟩ ⟨N+5,0,none⟩ v (show g≠N+5 by omega)).trans h.1,(World.cell?_setCell_far W ⟨g,i,none⟩ ⟨N+4,2,none⟩ v (show g≠N+4 by omega)).trans h.2.1,(World.cell?_setCell_far W ⟨g,i,none⟩ ⟨g2,kk,none⟩ v (show g≠g2 by omega)).trans h.2.2⟩
theorem Vg{A B:Prop}(h:A∧B):A:=h.1
end
end Go.Proofs.YtnmahobjmpdkdaaGreatDoor

/- Parts: RangeCell. -/
import Derived.Test.YtjjpiefgdggghaaGreatDoorK05
import Derived.Test.YtjjpiefgdggghaaGreatDoorK02
import Derived.RangeFuncWrites
set_option linter.unusedVariables false
set_option linter.unusedSimpArgs false
set_option maxRecDepth 100000
set_option maxHeartbeats 40000000
namespace Go.Proofs.YtjjpiefgdggghaaGreatDoor
section
open Go Go.RowKit Go.Proofs.YtjjpiefgdggghaaGreatDoorW.PrintWords
section
variable {F:Fence} {n:Nat} {P:Program} {α:Type}
structure Calm {β:Type} (c:Nat) (I:β→World→Prop):Prop where
 below:∀ s W W',I s W→Below W.heap.size W W'→I s W'
 cell:∀ s W v,I s W→I s (W.setCell ⟨c,0,none⟩ v)
def OL(F:Fence)(n:Nat)(P:Program)(g:Nat)(lb:Array Value)(enc:α→Value)(c:Nat)(S Sp:List α→Prop)(w:World):Prop :=
 ∀ (l:Nat) (J Jx:List α→World→Prop) (W:World),Below w.heap.size w W→Calm c J→Calm c Jx →
  (∀ pre x W1,Sp (pre++[x])→J pre W1→YieldAt F (n-1) P l #[enc x] W1 fun e W2 =>
   (e=.returned (.bool true)∧J (pre++[x]) W2∧W2.heap[c]?=W1.heap[c]?)∨(e=.returned (.bool false)∧Jx (pre++[x]) W2)) →
  J [] W →
  CallsIn F n P g (#[.func (.yield l) #[] #[]]++lb) W fun e W2=>(∃ v,e=.returned v)∧((∃ xs,S xs∧J xs W2)∨(∃ pre,Sp pre∧Jx pre W2))
def Ud(B c:Nat)(I Ix:List α→World→Prop)(xs:List α)(W:World):Exit→Act→World→Prop
 |.normal,_,W2=>KeepsFrom B W W2∧W2.heap[c]?=W.heap[c]?∧I xs W2
 |.ret,_,W2=>KeepsFrom B W W2∧Ix xs W2
 |_,_,_=>False
theorem ET{W:World}{l c:Nat}{o:Obj}(h:c≠l):(W.putObj l o).heap[c]?=W.heap[c]?:=World.putObj_heap_other h
theorem Qn{g:Operand}{p:Tmp}{assign body:Code}{Q:Exit→Act→World→Prop}{a:Act}{w:World}
  (hro:F.round=none)(h1:1≤n){gf:Nat}{lb:Array Value}(hg:a.eval g=.func (.func gf) #[] lb)(hFg:F.fn gf)(eg:∀ args w,(callFunc gf args).run P w=.ok (.enter gf args) w)
  {enc:α→Value}{c:Nat}{S Sp:List α→Prop}(hc:c<w.heap.size)(hseq:OL F (n-1) P gf lb enc c S Sp w)
  (I Ix:List α→World→Prop)(hI:Calm c I)(hIx:Calm c Ix)
  (hIp:∀ s W l o o',I s W→w.heap.size≤l→W.heap[l]?=some o→o.isCells=false→I s (W.putObj l o'))
  (hIxp:∀ s W l o o',Ix s W→w.heap.size≤l→W.heap[l]?=some o→o.isCells=false→Ix s (W.putObj l o'))
  (h0:I [] w)(a₁:α→Act)
  (hassign:∀ (l:Nat) (x:α) (W:World) (K:Act→World→Prop),K (a₁ x) W →
   assign.wpIn (F.inRound l) (n-1-1) P (Exit.then K (fun _ _ _=>False)) {tmps:=(#[p].zip #[enc x]).foldl (fun t (p,v)=>t.setIfInBounds p v) a.tmps,defers:=[]} W)
  (hbody:∀ (l:Nat) (pre:List α) (x:α) (W:World),Sp (pre++[x])→I pre W→body.wpIn (F.inRound l) (n-1-1) P (Ud w.heap.size c I Ix (pre++[x]) W) (a₁ x) W)
  (hdone:∀ (D:Nat) (xs:List α) (W:World),w.heap.size≤D→S xs→I xs W→W.heap[D]?=some (.deferred (some []))→Q .normal {a with defers:={target:=.collected D,args:=#[]}::a.defers} W)
  (hstop:∀ (D:Nat) (pre:List α) (W:World),w.heap.size≤D→Sp pre→Ix pre W→W.heap[D]?=some (.deferred (some []))→Code.ret.wpIn F n P Q {a with defers:={target:=.collected D,args:=#[]}::a.defers} W) :
  (Code.rangeFunc g #[p] assign body).wpIn F n P Q a w:=by
 refine wpIn_rangeFunc fun fn hfn=>?_
 rw[hro]
 let rec_:LoopState→Option Code→Loop:=fun st pe=>{state:=st,pending:=pe,fn,tmps:=a.tmps,params:=#[p],assign,body,defers:=w.heap.size}
 have hrec:∀ st pe,rec_ st pe={state:=st,pending:=pe,fn,tmps:=a.tmps,params:=#[p],assign,body,defers:=w.heap.size}:=fun _ _=>rfl
 generalize rec_=rec at hrec;have hD0:(w.alloc (.deferred (some []))).heap[w.heap.size]?=some (.deferred (some [])):=Bv w _;have hW1:((w.alloc (.deferred (some []))).alloc (.loop (rec .ready none))).heap[w.heap.size+1]?=some (.loop (rec .ready none)):=by
  have:=Bv (w.alloc (.deferred (some []))) (.loop (rec .ready none))
  rwa [World.size_alloc]at this
 have hD1:((w.alloc (.deferred (some []))).alloc (.loop (rec .ready none))).heap[w.heap.size]?=some (.deferred (some [])):=AF hD0 _;have hB1:Below w.heap.size w ((w.alloc (.deferred (some []))).alloc (.loop (rec .ready none))):=((Below.refl _ w).alloc (Nl _) _).alloc (by simp) _;have hI1:I [] ((w.alloc (.deferred (some []))).alloc (.loop (rec .ready none))):=hI.below _ _ _ h0 hB1;refine⟨w.heap.size+1,[{target:=.collected w.heap.size,args:=#[]}],(w.alloc (.deferred (some []))).alloc (.loop (rec .ready none)),{target:=.fn (.func gf) lb,args:=#[.func (.yield (w.heap.size+1)) #[] #[]]},
  (w.alloc (.deferred (some []))).alloc (.loop (rec .ready none)),gf,#[.func (.yield (w.heap.size+1)) #[] #[]]++lb,(w.alloc (.deferred (some []))).alloc (.loop (rec .ready none)),?_,?_,?_,?_,fun _=>h1,?_⟩
 ·rw[hrec];exact run_enterLoop_outer _ _ _ _ _
 ·simp only[resolve,hg];simp[go_sem]
 ·intro f' hf';simp[Target.leads]at hf';subst hf';exact hFg
 ·simp[invoke,go_sem,eg]
 have hkeep:∀ {W W2:World} {o:Obj} {k:Nat},W.heap[k]?=some o→Below W.heap.size W W2→W2.heap[k]?=some o:=fun h hb=>Bk hb h
 have hfar:∀ {W:World} {o:Obj} {k:Nat} (v:Value),w.heap.size≤k→W.heap[k]?=some o→(W.setCell ⟨c,0,none⟩ v).heap[k]?=some o:=fun v hk h =>
  (Below.heap_setCell _ ⟨c,0,none⟩ v _ (show _≠c by omega)).trans h
 refine(hseq (w.heap.size+1)
  (fun pre W=>I pre W∧W.heap[w.heap.size+1]?=some (.loop (rec .ready none))∧W.heap[w.heap.size]?=some (.deferred (some [])))
  (fun pre W=>Ix pre W∧W.heap[w.heap.size+1]?=some (.loop (rec .done (some .ret)))∧W.heap[w.heap.size]?=some (.deferred (some [])))
  _ hB1
  ⟨fun s W W2 h hb=>⟨hI.below _ _ _ h.1 hb,hkeep h.2.1 hb,hkeep h.2.2 hb⟩,fun s W v h=>⟨hI.cell _ _ _ h.1,hfar v (by omega) h.2.1,hfar v (by omega) h.2.2⟩⟩
  ⟨fun s W W2 h hb=>⟨hIx.below _ _ _ h.1 hb,hkeep h.2.1 hb,hkeep h.2.2 hb⟩,fun s W v h=>⟨hIx.cell _ _ _ h.1,hfar v (by omega) h.2.1,hfar v (by omega) h.2.2⟩⟩
  ?round ⟨hI1,hW1,hD1⟩).mono ?after
 case round =>
  rintro pre x W hsp ⟨hi,hl,hd⟩;have hlt:w.heap.size+1<W.heap.size:=Bl hl;have hy:=run_yield (P:=P) (args:=#[enc x]) hl (by rw[hrec];rfl);rw[hrec]at hy;refine⟨fn,_,assign,body,hy,roundIn_of_wpIn hfn (hassign _ x W _ ⟨_,run_beginRound hl (by rw[hrec]),?_⟩)⟩;obtain⟨busy,hbusy⟩:∃ b:Obj,b=.loop {rec .ready none with state:=.busy}:=⟨_,rfl⟩
  rw[←hbusy];have hl2:(W.putObj (w.heap.size+1) busy).heap[w.heap.size+1]?=some busy:=World.putObj_heap_same hlt;have hd2:(W.putObj (w.heap.size+1) busy).heap[w.heap.size]?=some (.deferred (some [])):=(ET (by omega)).trans hd;have hc2:(W.putObj (w.heap.size+1) busy).heap[c]?=W.heap[c]?:=ET (by omega);have hnb:busy.isCells=false:=by rw[hbusy];rfl
  refine wpIn_mono (hbody _ pre x _ hsp (hIp _ _ _ _ _ hi (by omega) hl rfl)) ?_;rintro e a3 W3 hp;have fin:∀ (jump:Option Code),KeepsFrom w.heap.size (W.putObj (w.heap.size+1) busy) W3 →
    (Instr.endRound (w.heap.size+1) jump).run P W3=.ok (.bool jump.isNone) (W3.putObj (w.heap.size+1) (.loop (rec (if jump.isNone then .ready else .done) jump))) ∧
    W3.heap[w.heap.size+1]?=some busy ∧
    (W3.putObj (w.heap.size+1) (.loop (rec (if jump.isNone then .ready else .done) jump))).heap[w.heap.size+1]?=some (.loop (rec (if jump.isNone then .ready else .done) jump)) ∧
    (W3.putObj (w.heap.size+1) (.loop (rec (if jump.isNone then .ready else .done) jump))).heap[w.heap.size]?=some (.deferred (some [])):=fun jump hk3=>by
   have hl3:=hk3.same _ _ (by omega) hl2 hnb;have hd3:=hk3.same _ _ (Nl _) hd2 rfl;have hr:=hl3;rw[hbusy]at hr;have:=run_endRound (P:=P) jump hr;rw[hrec]at this ⊢;exact⟨this,hl3,World.putObj_heap_same (Bl hl3),(ET (by omega)).trans hd3⟩
  cases e with
  |normal =>
   obtain⟨hk3,hc3,hi3⟩:=hp;obtain⟨hr,hl3,hl4,hd4⟩:=fin none hk3;exact⟨_,_,hr,.inl ⟨rfl,⟨hIp _ _ _ _ _ hi3 (by omega) hl3 hnb,hl4,hd4⟩,(ET (by omega)).trans (hc3.trans hc2)⟩⟩
  |ret =>
   obtain⟨hk3,hi3⟩:=hp;obtain⟨hr,hl3,hl4,hd4⟩:=fin (some .ret) hk3;exact⟨_,_,hr,.inr ⟨rfl,hIxp _ _ _ _ _ hi3 (by omega) hl3 hnb,hl4,hd4⟩⟩
  |exit id=>exact hp.elim
  |goto t=>exact hp.elim
  |panic ch=>exact hp.elim
  |outgrown=>exact hp.elim
 case after =>
  rintro e W2 ⟨⟨v,rfl⟩,(⟨xs,hS,hi,hl,hd⟩ |⟨pre,hSp,hi,hl,hd⟩)⟩
  ·have he:=run_endLoop (P:=P) hl (by rw[hrec];simp);rw[hrec]at he;exact⟨none,_,he,hdone _ xs _ (Nl _) hS (hIp _ _ _ _ _ hi (by omega) hl rfl) ((ET (by omega)).trans hd)⟩
  ·have he:=run_endLoop (P:=P) hl (by rw[hrec];simp);rw[hrec]at he;exact⟨some .ret,_,he,hstop _ pre _ (Nl _) hSp (hIxp _ _ _ _ _ hi (by omega) hl rfl) ((ET (by omega)).trans hd)⟩
end
end
end Go.Proofs.YtjjpiefgdggghaaGreatDoor

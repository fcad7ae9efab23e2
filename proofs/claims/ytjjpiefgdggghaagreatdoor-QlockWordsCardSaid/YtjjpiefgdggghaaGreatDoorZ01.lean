/- Parts: WWords. -/
import Derived.Below
import Derived.Deep.Draws
import Derived.Deep.AppendLies
import Derived.Maps.AppendAt
import Derived.OwnWalk
import Derived.Laws.BytesArg
import Derived.Laws.MakeOwn
import Derived.Laws.OwnMore
import Derived.Deep.OwnRows
import Derived.Tactics
import Derived.Lib.ConvBytes
import Derived.Laws.Slices
import Derived.WalkKit
import Derived.KernelRfl
import Derived.RowKit3
import Derived.Deep.LoopGhost
import Derived.Deep.QuietTactic
import Derived.BigQuiet
import Derived.WideLaws
import Derived.Deep.DeepCutAuto
import Derived.Deep.CutBlock
import Derived.Deep.RegionHeld3
import Derived.Laws.Rows
import Derived.Lib.AppendStr
import Derived.ArgAppend
import Derived.Laws.IdiomCopy
import Derived.RowKit
set_option linter.unusedVariables false
set_option linter.unusedSimpArgs false
set_option maxRecDepth 100000
set_option maxHeartbeats 40000000
section
set_option linter.unusedVariables false
set_option linter.unusedSimpArgs false
end
namespace Go.Proofs.YtjjpiefgdggghaaGreatDoorW.PrintWords
section
open Go.RowKit
structure Ai (p:Prop):Prop where mk::(out:p)
structure Au (w w':World):Prop where mk::(out:∃ n,w'=w.drewN n)
theorem Au.refl(w:World):Au w w:=⟨⟨0,rfl⟩⟩
theorem Au.step{w w':World}(h:Au w w')(n:Nat):Au w (w'.drewN n):=by
 obtain⟨m,rfl⟩:=h;exact⟨⟨m+n,World.drewN_drewN ..⟩⟩
theorem Au.grown{w w':World}(h:Au w w'):Grown w w':=by
 obtain⟨n,rfl⟩:=h;induction n with
 |zero=>exact Grown.refl _
 |succ n ih=>rw[←World.drew_drewN];exact Grown.drew ih
theorem Au.below{w w':World}(h:Au w w'):Below w.heap.size w w':=by
 obtain⟨n,rfl⟩:=h;induction n with
 |zero=>exact Below.refl _ _
 |succ n ih=>rw[←World.drew_drewN];exact ih.drew
def rd(xs:List Int)(i:Int):Int:=xs.getD i.toNat 0
def bt(s:ByteArray)(i:Int):Int:=if h:i.toNat<s.size then ((s[i.toNat]'h).toNat:Int) else 0
theorem Cz(s:ByteArray)(i:Int):∀ h:i.toNat<s.size,((s[i.toNat]'h).toNat:Int)=bt s i:=fun h=>by simp[bt,h]
def OS(k:IntKind)(xs:List Int):List Value:=xs.map fun x=>.int k x
theorem AA{w W:World}(h:Below w.heap.size w W)(o:Obj):Below w.heap.size w (W.alloc o):=h.alloc h.size o
theorem Bd{B:Nat}{w W:World}(h:Below B w W):Below B w W.drew:=⟨h.os,h.tape,h.output,h.size,h.block⟩
theorem Aq{B:Nat}{w W:World}(h:Below B w W)(n:Nat):Below B w (W.drewN n):=⟨h.os,h.tape,h.output,h.size,h.block⟩
theorem GL{B:Nat}{w w1 w2:World}(h:Below B w w1)(hB:B≤w1.heap.size)(k:Below w1.heap.size w1 w2):Below B w w2 :=
 h.trans ⟨k.os,k.tape,k.output,k.size,fun i hi=>k.block i (Nat.lt_of_lt_of_le hi hB)⟩
theorem GM{w w1:World}(h:Below w.heap.size w w1)(row:Option Nat):w.grownBy w1 row:=⟨h.os,h.tape,h.output,h.size,fun i hi _=>h.block i hi⟩
theorem DT{w w1:World}(h:Below w.heap.size w w1){a:Addr}{v:Value}(hc:w.cell? a=some v):w1.cell? a=some v:=(h.cell (World.block_lt_of_cell? w a hc)).trans hc
theorem add_plain(g j:Nat):(⟨g,0,none⟩:Addr).add j=⟨g,j,none⟩:=by unfold Addr.add;split<;>simp_all
def B9(w:World)(k:IntKind)(A:Option Addr)(n:Nat)(xs:List Int):Prop :=
 xs.length=n∧n≤9223372036854775807∧(0<n→∃ ad,A=some ad∧∀ j,j<n→w.cell? (ad.add j)=some (.int k (xs.getD j 0)))
theorem B9.below{w w1:World}{k:IntKind}{A:Option Addr}{n:Nat}{xs:List Int}(h:B9 w k A n xs)(hb:Below w.heap.size w w1):B9 w1 k A n xs :=
 ⟨h.1,h.2.1,fun hn=>by
  obtain⟨ad,e,hc⟩:=h.2.2 hn;exact⟨ad,e,fun j hj=>DT hb (hc j hj)⟩⟩
theorem N4(W:World)(base:Nat)(e:TypeId)(size:Nat):W.ownsRow base e size (.slice none 0 0) 0 []:=⟨by simp,.inl ⟨rfl,rfl⟩⟩
theorem Ob{w:World}{base:Nat}{e:TypeId}{size n:Nat}{v:Value}{xs:List Value}(h:w.ownsRow base e size v n xs)(k:Nat)(hk:v.ownBlock=some k):base≤k:=by
 rcases h.2 with ⟨rfl,_⟩ |⟨g,cap,cur,rfl,hb,_⟩
 ·simp[Value.ownBlock]at hk
 ·have:g=k:=by simpa [Value.ownBlock]using hk
  omega
theorem Ol{w:World}{base:Nat}{e:TypeId}{size n:Nat}{v:Value}{xs:List Value}(h:w.ownsRow base e size v n xs)(k:Nat)(hk:v.ownBlock=some k):k<w.heap.size:=by
 rcases h.2 with ⟨rfl,_⟩ |⟨g,cap,cur,rfl,hb,hh,_⟩
 ·simp[Value.ownBlock]at hk
 ·have:g=k:=by simpa [Value.ownBlock]using hk
  subst this;exact(Array.getElem?_eq_some_iff.1 hh).1
theorem F2{w w1:World}{base:Nat}{e:TypeId}{size n:Nat}{v:Value}{xs:List Value}(h:w.ownsRow base e size v n xs)(hb:Below w.heap.size w w1):w1.ownsRow base e size v n xs :=
 h.kept (GM hb none) (by cases v.ownBlock<;>simp)
theorem L3{w w1:World}{base:Nat}{e:TypeId}{size n:Nat}{v:Value}{xs:List Value}(h:w.ownsRow base e size v n xs){row:Option Nat}(hg:w.grownBy w1 row)(hne:v.ownBlock=none∨v.ownBlock≠row):w1.ownsRow base e size v n xs:=h.kept hg hne
theorem AB{w:World}{base n:Nat}{e:TypeId}{size:Nat}{v:Value}{xs:List Value}(h:w.ownsRow base e size v n xs):∃ A c,v=.slice A n c:=by
 rcases h.2 with ⟨rfl,rfl⟩ |⟨g,cap,cur,rfl,_⟩
 ·exact⟨none,0,rfl⟩
 ·exact⟨_,cap,rfl⟩
theorem El{P:Program}{w:World}{base n:Nat}{e' src dst e:TypeId}{v:Value}{xs:List Int}(hs:P.underlying src=some (.slice e))(he:P.underlying e=some (.int .u8))(hd:P.underlying dst=some .string)
  (h:w.ownsRow base e' 1 v n (OS .u8 xs)):(convert src dst v).run P w=.ok (.string (strOfNums xs)) w:=by
 have hl:xs.length=n:=by have:=h.1;simp[OS]at this;exact this
 rcases h.2 with ⟨rfl,rfl⟩ |⟨g,cap,cur,rfl,_⟩
 ·obtain rfl:xs=[]:=List.eq_nil_of_length_eq_zero hl;exact run_convert_bytes_nil w src e hs he 0 0 dst hd
 ·refine run_convert_bytes_arg w src e hs he g 0 n cap xs hl (fun i hi=>?_) dst hd;have hc:=h.cells (g:=g) rfl i (.int .u8 (xs.getD i 0)) (by simp[OS,List.getElem?_eq_getElem (show i<xs.length by omega),List.getD_eq_getElem?_getD]);have ha:(⟨g,0,none⟩:Addr).add i=⟨g,0+i,none⟩:=by unfold Addr.add;split<;>simp_all
  rwa [ha]at hc
def bytesOf(s:ByteArray):List Int:=s.data.toList.map fun b=>(b.toNat:Int)
theorem Ge(s:ByteArray):s.data.toList.length=s.size:=by rw[Array.length_toList];rfl
theorem GN(s:ByteArray):(bytesOf s).length=s.size:=by rw[bytesOf,List.length_map,Ge]
theorem E7{P:Program}(src dst e:TypeId){u:TypeDesc}(hs:P.underlying src=some u)(hd:P.underlying dst=some (.slice e))(he:P.underlying e=some (.int .u8))(s:ByteArray)(W:World) :
 (convert src dst (.string s)).run P W=.ok (.slice (some ⟨W.heap.size,0,none⟩) s.size (grownCap W s.size 0 e)) (Lib.bytesWorld W e s):=Lib.run_convert_string_bytes W src dst e s hs hd he
theorem Jb(W:World)(e:TypeId)(s:ByteArray)(hs:s.size≤9223372036854775807):B9 (Lib.bytesWorld W e s) .u8 (some ⟨W.heap.size,0,none⟩) s.size (bytesOf s):=by
 refine⟨GN s,hs,fun _=>⟨_,rfl,fun j hj=>?_⟩⟩;rw[add_plain,Lib.bytesWorld_cell W e s j hj];have h':j<s.data.toList.length:=by rw[Ge];exact hj
 simp[bytesOf,List.getD_eq_getElem?_getD,List.getElem?_eq_getElem h']
theorem DH{B:Nat}{w W:World}(h:Below B w W)(hB:B≤W.heap.size)(e:TypeId)(s:ByteArray):Below B w (Lib.bytesWorld W e s) :=
 h.trans ⟨rfl,rfl,rfl,by rw[Lib.bytesWorld_size];omega,fun i hi=>Lib.bytesWorld_at_old W e s i (by omega)⟩
def BH{α:Type}(a b:Option α):Prop:=∀ r,a=some r→b=some r
theorem BH.refl{α:Type}(a:Option α):BH a a:=fun _ h=>h
theorem BH.none{α:Type}(b:Option α):BH Option.none b:=fun _ h=>by cases h
theorem BH.trans{α:Type}{a b c:Option α}(h:BH a b)(k:BH b c):BH a c:=fun r hr=>k r (h r hr)
theorem BH.ite{α:Type}{c:Prop}[Decidable c]{a a' b b':Option α}(h:BH a a')(k:BH b b'):BH (if c then a else b) (if c then a' else b'):=by
 split
 ·exact h
 ·exact k
theorem BH.bind{α β:Type}{a a':Option α}{f f':α→Option β}(h:BH a a')(k:∀ x,BH (f x) (f' x)):BH (a.bind f) (a'.bind f'):=by
 intro r hr;obtain⟨x,hx,hf⟩:=Option.bind_eq_some_iff.1 hr;exact Option.bind_eq_some_iff.2 ⟨x,h x hx,k x r hf⟩
theorem BH.map{α β:Type}{a a':Option α}(f:α→β)(h:BH a a'):BH (a.map f) (a'.map f):=by
 intro r hr;obtain⟨x,hx,hf⟩:=Option.map_eq_some_iff.1 hr;exact Option.map_eq_some_iff.2 ⟨x,h x hx,hf⟩
theorem Gf{α:Type}{g:Nat→Option α}(h:∀ k,BH (g k) (g (k+1)))(k:Nat):∀ j,BH (g k) (g (k+j))
 |0=>BH.refl _
 |j+1=>(Gf h k j).trans (h (k+j))
theorem FL{α:Type}{g:Nat→Option α}(h:∀ k,BH (g k) (g (k+1))){k k':Nat}(hk:k≤k'){r:α}(hr:g k=some r):g k'=some r:=by
 have:=Gf h k (k'-k) r hr
 rwa [Nat.add_sub_cancel' hk]at this
theorem PQ{α β:Type}{g:Nat→Option α}{f:Nat→Option β}(hg:∀ k,BH (g k) (g (k+1)))(hf:∀ k,BH (f k) (f (k+1))){r:α}{q:β}(h:∃ k,g k=some r)(h':∃ k,f k=some q):∃ k,g k=some r∧f k=some q:=by
 obtain⟨k,hk⟩:=h;obtain⟨k',hk'⟩:=h';exact⟨max k k',FL hg (Nat.le_max_left _ _) hk,FL hf (Nat.le_max_right _ _) hk'⟩
def Bo{α:Type}(R:α→List Value→Prop)(size:Nat)(ps:List α)(cs:List Value):Prop :=
 cs.length=ps.length*size∧∀ j p,ps[j]?=some p→R p ((cs.drop (j*size)).take size)
theorem Bo.none{α:Type}(R:α→List Value→Prop)(size:Nat):Bo R size [] []:=⟨by simp,fun j p h=>by simp at h⟩
theorem Bo.snoc{α:Type}{R:α→List Value→Prop}{size:Nat}{ps:List α}{cs c:List Value}{p:α}(h:Bo R size ps cs)(hp:R p c)(hc:c.length=size):Bo R size (ps++[p]) (cs++c):=by
 refine⟨by rw[List.length_append,h.1,hc,List.length_append,List.length_singleton,Nat.add_mul,Nat.one_mul],fun j q hq=>?_⟩;rcases Nat.lt_or_ge j ps.length with hj |hj
 ·rw[List.getElem?_append_left hj]at hq;have h1:j*size+size≤cs.length:=by rw[h.1,←Nat.succ_mul];exact Nat.mul_le_mul_right _ hj
  have h2:=h.2 j q hq;rw[List.drop_append_of_le_length (by omega),List.take_append_of_le_length (by rw[List.length_drop];omega)];exact h2
 ·have hj':j=ps.length:=by
   have:=(List.getElem?_eq_some_iff.1 hq).1;rw[List.length_append,List.length_singleton]at this;omega
  subst hj';have hq':p=q:=by simpa using hq
  subst hq';rw[←h.1,List.drop_left,←hc,List.take_length];exact hp
theorem Bo.Gt{α:Type}{R R':α→List Value→Prop}{size:Nat}{ps:List α}{cs:List Value}(h:Bo R size ps cs)(hR:∀ p c,R p c→R' p c):Bo R' size ps cs:=⟨h.1,fun j p hj=>hR _ _ (h.2 j p hj)⟩
def D4{α:Type}(R:α→List Value→Prop)(size:Nat)(w:World)(A:Option Addr)(n:Nat)(ps:List α):Prop :=
 ps.length=n∧n≤9223372036854775807∧(0<n→∃ ad,A=some ad∧∀ j p,ps[j]?=some p→∃ c,c.length=size∧R p c∧∀ i u,c[i]?=some u→w.cell? (ad.add (j*size+i))=some u)
theorem D4.Gt{α:Type}{R R':α→List Value→Prop}{size:Nat}{w w1:World}{A:Option Addr}{n:Nat}{ps:List α}(h:D4 R size w A n ps)(hb:Below w.heap.size w w1)(hR:∀ p c,R p c→R' p c):D4 R' size w1 A n ps :=
 ⟨h.1,h.2.1,fun hn=>by
  obtain⟨ad,e,hc⟩:=h.2.2 hn;refine⟨ad,e,fun j p hj=>?_⟩;obtain⟨c,hs,hr,hcell⟩:=hc j p hj;exact⟨c,hs,hR _ _ hr,fun i u hu=>DT hb (hcell i u hu)⟩⟩
theorem Hy{α:Type}{R:α→List Value→Prop}{w:World}{base n size:Nat}{e:TypeId}{v:Value}{ps:List α}{cs:List Value}(h:w.ownsRow base e size v n cs)(hR:Bo R size ps cs)(hn:ps.length=n) :
  ∃ A c,v=.slice A n c∧D4 R size w A n ps:=by
 rcases Nat.eq_zero_or_pos n with h0 |h0
 ·rcases h.2 with ⟨rfl,rfl⟩ |⟨g,cap,cur,rfl,_⟩
  ·exact⟨none,0,rfl,hn,by omega,fun hp=>absurd hp (by omega)⟩
  ·exact⟨_,cap,rfl,hn,by omega,fun hp=>absurd hp (by omega)⟩
 ·obtain⟨g,cap,rfl,_,_⟩:=h.form h0;have hm:n≤9223372036854775807:=by
   rcases h.2 with ⟨_,h1⟩ |⟨g',cap',cur,he,_,_,h1,h2,_⟩
   ·omega
   ·simp only[maxLen]at h2;omega
  refine⟨_,cap,rfl,hn,hm,fun _=>⟨_,rfl,fun j p hj=>⟨(cs.drop (j*size)).take size,?_,hR.2 j p hj,fun i u hu=>?_⟩⟩⟩
  ·have hjl:=(List.getElem?_eq_some_iff.1 hj).1;have h1:j*size+size≤cs.length:=by rw[hR.1,←Nat.succ_mul];exact Nat.mul_le_mul_right _ hjl
   rw[List.length_take,List.length_drop];omega
  ·refine h.cells (g:=g) rfl _ u ?_;rw[List.getElem?_take]at hu;split at hu
   ·rw[List.getElem?_drop]at hu;exact hu
   ·cases hu
section
variable {P:Program} {ops:Array Oper} {rest:List Oper} {o:Oper} {a:Act} {Q:Exit→Act→World→Prop}
theorem D5{w0 W:World}(base:Nat)(hgd:o.guard=none)(s x:Operand)(t e:TypeId)(z:Value)(size bytes:Nat)
  (ho:o.op=.call {callee:=.builtin .append,args:=#[s,x],argTypes:=#[t,t]})
  (ht:P.underlying t=some (.slice e))(hinfo:(P.info? e).map (fun i=>(i.zero,i.size,i.bytes))=some (some z,size,bytes))(hz:z.cells.size=size)(hs0:0<size)(hb0:0<bytes)
  (v:Value)(n:Nat)(xs ys:List Value)(hs:a.eval s=v)(hx:a.eval x=.slice (some ⟨W.heap.size,0,none⟩) 1 1)(hys:ys.length=size)(h1:∀ u∈ys,u.oneCell'=true)
  (HO:W.ownsRow base e size v n xs)(HB:Below base w0 W)(hbase:base≤W.heap.size)(hl:(n+1)*bytes≤140737488355328)
  (h:∀ v1 w1,w1.ownsRow base e size v1 (n+1) (xs++ys)→Below base w0 w1→W.grownBy w1 v.ownBlock→(v1.ownBlock=v.ownBlock∨∃ b,v1.ownBlock=some b∧W.heap.size≤b)→wpList P ops Q rest (a.put o.dst v1) w1) :
  wpList P ops Q (o::rest) a (W.alloc (.cells ys.toArray e)):=by
 obtain⟨i0,hi,hzz⟩:=Option.map_eq_some_iff.1 hinfo;simp only[Prod.mk.injEq]at hzz;obtain⟨hz0,hz1,hz2⟩:=hzz;have hlen:n+1≤140737488355328:=Nat.le_trans (Nat.le_mul_of_pos_right _ hb0) hl;refine wpList_append_own_at (W.alloc (.cells ys.toArray e)) hgd s x t ho base e i0 z size bytes ht hi hz0 hz1 hz2 hz hs0 v n xs hs (HO.alloc _) ⟨W.heap.size,0,none⟩ 1 1 ys hx (by rw[hys];simp)
  (by simpa using World.news_of_block (cs:=ys.toArray) (t:=e) (fr:=(0,0)) (heap_alloc_new W (.cells ys.toArray e))) h1 (by simp only[maxLen];omega) hl (by simp;omega) ?_
 intro v1 w1 hown hg _ hat;refine h v1 w1 hown ((HB.alloc hbase _).grown hg (by simp;omega) (Ob HO)) (World.grownBy.trans (World.grownBy_alloc W _ _) hg) ?_;rcases hat with hat |hat
 ·exact .inl hat
 ·exact .inr ⟨_,hat,by simp⟩
end
theorem OT{w:World}{base:Nat}{e t:TypeId}{size n g:Nat}{v:Value}{xs:List Value}{cs:Array Value}(h:w.ownsRow base e size v n xs)(hg:w.heap[g]?=some (.cells cs t (0,0)))(hne:e≠t):some g≠v.ownBlock:=by
 rcases h.2 with ⟨rfl,_⟩ |⟨g',cap,cur,rfl,_,hh,_⟩
 ·simp[Value.ownBlock]
 ·intro he;have:g=g':=by simpa [Value.ownBlock]using he
  subst this;rw[hg]at hh;injection hh with hh
  injection hh with _ ht
  exact hne ht.symm
theorem Bs{w:World}{g:Nat}{t:TypeId}{cs:Array Value}(h:w.heap[g]?=some (.cells cs t (0,0)))(i:Nat)(u:Value):(w.setCell ⟨g,i,none⟩ u).heap[g]?=some (.cells (cs.setIfInBounds i u) t (0,0)):=by
 simp[World.setCell,Array.getElem?_modify,h]
theorem Ba{w:World}{g:Nat}{t:TypeId}{cs:Array Value}(h:w.heap[g]?=some (.cells cs t (0,0))){p:Addr}(hp:g≠p.block)(u:Value):(w.setCell p u).heap[g]?=some (.cells cs t (0,0)):=(Below.heap_setCell w p u g hp).trans h
theorem Bl{w:World}{g:Nat}{o:Obj}(h:w.heap[g]?=some o):g<w.heap.size:=(Array.getElem?_eq_some_iff.1 h).1
theorem Bc{w:World}{g:Nat}{t:TypeId}{cs:Array Value}(h:w.heap[g]?=some (.cells cs t (0,0)))(i:Nat):w.cell? ⟨g,i,none⟩=cs[i]?:=cell_of_row w g i cs t (0,0) h
theorem Bf{w:World}{g:Nat}{t:TypeId}{cs:Array Value}(h:w.heap[g]?=some (.cells cs t (0,0)))(i:Nat):w.frozen? ⟨g,i,none⟩=false:=by simp[World.frozen?,h]
theorem Bg{w w1:World}{g:Nat}{o:Obj}{row:Option Nat}(h:w.heap[g]?=some o)(hg:w.grownBy w1 row)(hne:some g≠row):w1.heap[g]?=some o:=(hg.block g (Bl h) hne).trans h
theorem Ij{w:World}{g g':Nat}{t t':TypeId}{cs cs':Array Value}(h:w.heap[g]?=some (.cells cs t (0,0)))(h':w.heap[g']?=some (.cells cs' t' (0,0)))(hne:t≠t'):g≠g':=by
 rintro rfl;rw[h]at h';injection h' with h'
 injection h' with _ ht
 exact hne ht
def BS(w w':World)(g:Nat)(row:Option Nat):Prop:=w.heap.size≤w'.heap.size∧∀ i,i<w.heap.size→i≠g→some i≠row→w'.heap[i]?=w.heap[i]?
theorem BS.refl(w:World)(g:Nat)(row:Option Nat):BS w w g row:=⟨Nat.le_refl _,fun _ _ _ _=>rfl⟩
theorem BS.Dm{w w1:World}(h:Below w.heap.size w w1)(g:Nat)(row:Option Nat):BS w w1 g row:=⟨h.size,fun i hi _ _=>h.block i hi⟩
theorem BS.trans{w w1 w2:World}{g:Nat}{row row1:Option Nat}(h:BS w w1 g row)(k:BS w1 w2 g row1)(hr:row1=row∨∃ b,row1=some b∧w.heap.size≤b):BS w w2 g row :=
 ⟨Nat.le_trans h.1 k.1,fun i hi hg hn=>by
  refine(k.2 i (Nat.lt_of_lt_of_le hi h.1) hg ?_).trans (h.2 i hi hg hn);rcases hr with rfl |⟨b,rfl,hb⟩
  ·exact hn
  ·intro e;injection e with e
   omega⟩
theorem BS.P4{w w1:World}{g g':Nat}{row:Option Nat}{o:Obj}(h:BS w w1 g row)(hb:w.heap[g']?=some o)(hg:g'≠g)(hr:some g'≠row):w1.heap[g']?=some o:=(h.2 g' (Bl hb) hg hr).trans hb
theorem BS.own{w w1:World}{g:Nat}{row:Option Nat}{base:Nat}{e:TypeId}{size n:Nat}{v:Value}{xs:List Value}(h:BS w w1 g row)(ho:w.ownsRow base e size v n xs)(hg:v.ownBlock≠some g)(hr:v.ownBlock=none∨v.ownBlock≠row):w1.ownsRow base e size v n xs:=by
 obtain⟨h1,h2⟩:=ho;refine⟨h1,?_⟩;rcases h2 with h2 |⟨b,cap,cur,rfl,hb,hh,r⟩
 ·exact .inl h2
 ·refine .inr ⟨b,cap,cur,rfl,hb,h.P4 hh ?_ ?_,r⟩
  ·intro e;exact hg (by rw[←e];rfl)
  ·rcases hr with hr |hr
   ·simp[Value.ownBlock]at hr
   ·exact hr
def Ev{α:Type}(g:Nat→Option α)(r:α):Prop:=∃ K,∀ k,K≤k→g k=some r
theorem Ev.of{α:Type}{g:Nat→Option α}{r:α}(hg:∀ k,BH (g k) (g (k+1))){k:Nat}(h:g k=some r):Ev g r:=⟨k,fun _ hk=>FL hg hk h⟩
theorem Ev.now{α:Type}(r:α):Ev (fun _=>some r) r:=⟨0,fun _ _=>rfl⟩
theorem Ev.rounds{α:Type}{g:Nat→Option α}{r:α}(h:Ev g r):∃ k,g k=some r:=by
 obtain⟨K,h⟩:=h;exact⟨K,h K (Nat.le_refl _)⟩
theorem Ev.bind{α β:Type}{g:Nat→Option α}{f:Nat→α→Option β}{a:α}{r:β}(h:Ev g a)(k:Ev (fun n=>f n a) r):Ev (fun n=>(g n).bind (f n)) r:=by
 obtain⟨K,h⟩:=h;obtain⟨K',k⟩:=k;refine⟨max K K',fun n hn=>?_⟩;have h1:=h n (by omega);have h2:=k n (by omega);simp only[h1,Option.bind_some];exact h2
theorem Ev.step{α:Type}{g f:Nat→Option α}{r:α}(h:∀ k,g (k+1)=f k)(k:Ev f r):Ev g r:=by
 obtain⟨K,k⟩:=k;refine⟨K+1,fun n hn=>?_⟩;obtain⟨m,rfl⟩:∃ m,n=m+1:=⟨n-1,by omega⟩
 rw[h];exact k m (by omega)
theorem Ev.congr{α:Type}{g f:Nat→Option α}{r:α}(h:∀ k,g k=f k)(k:Ev f r):Ev g r:=by
 obtain⟨K,k⟩:=k;exact⟨K,fun n hn=>(h n).trans (k n hn)⟩
theorem Kl{w:World}{base base':Nat}{e:TypeId}{size n:Nat}{v:Value}{xs:List Value}(h:w.ownsRow base e size v n xs)(hb:base'≤base):w.ownsRow base' e size v n xs:=by
 obtain⟨h1,h2⟩:=h;refine⟨h1,?_⟩;rcases h2 with h2 |⟨g,cap,cur,rfl,hg,r⟩
 ·exact .inl h2
 ·exact .inr ⟨g,cap,cur,rfl,Nat.le_trans hb hg,r⟩
section
variable {α:Type} {enc:α→Value} {d:α}
def Km(enc:α→Value)(xs:List α):List Value:=xs.map enc
theorem Ji(xs:List α):(Km enc xs).length=xs.length:=by simp[Km]
def CM(enc:α→Value)(d:α)(w:World)(A:Option Addr)(n:Nat)(xs:List α):Prop :=
 xs.length=n∧n≤9223372036854775807∧(0<n→∃ ad,A=some ad∧∀ j,j<n→w.cell? (ad.add j)=some (enc (xs.getD j d)))
theorem CM.below{w w1:World}{A:Option Addr}{n:Nat}{xs:List α}(h:CM enc d w A n xs)(hb:Below w.heap.size w w1):CM enc d w1 A n xs :=
 ⟨h.1,h.2.1,fun hn=>by
  obtain⟨ad,e,hc⟩:=h.2.2 hn;exact⟨ad,e,fun j hj=>DT hb (hc j hj)⟩⟩
end
theorem Be{w:World}{g:Nat}{o:Obj}(h:w.heap[g]?=some o):w.drew.heap[g]?=some o:=h
theorem Bv(w:World)(o:Obj):(w.alloc o).heap[w.heap.size]?=some o:=heap_alloc_new w o
section
variable {P:Program}
theorem BX{fn:Func}{p u v:Tmp}{ty:TypeId}(h:fn.results=#[.cell p ty,.tmp u,.tmp v])(tmps:Array Value)(w:World)(g:Nat)(t:TypeId)(cs:Array Value)(fr:Nat×Nat)(d:TypeDesc)
  (hp:tmps.getD p undef=.pointer (some ⟨g,0,none⟩))(hg:w.heap[g]?=some (.cells cs t fr))
  (hu:P.underlying ty=some d)(hd:(match d with |.struct _ |.array _ _=>true |_=>false)=true)(hi:(P.info? ty).map (·.size)=some cs.size) :
  (results fn tmps).run P w=.ok (.tuple #[.agg cs,tmps.getD u undef,tmps.getD v undef]) w:=by
 have hp':tmps[p]?.getD undef=.pointer (some ⟨g,0,none⟩):=by simpa using hp
 simp[results,h,hp',asAddr,run_loadVar_row w g t ty cs fr d hg hu hd hi]
end
theorem OU{w:World}{base n m c size:Nat}{e:TypeId}{A:Option Addr}{xs:List Value}(h:w.ownsRow base e size (.slice A m c) n xs):m≤c:=by
 rcases h.2 with ⟨he,_⟩ |⟨g,cap,cur,he,_,_,hnc,_⟩
 ·injection he with _ h2 h3
  omega
 ·injection he with _ h2 h3
  omega
def BJ{α:Type}(R:α→List Value→Prop)(e:TypeId)(size:Nat)(w:World)(base:Nat)(v:Value)(ps:List α):Prop :=
 ∃ inner,w.ownsRow base e size v ps.length inner∧Bo R size ps inner
section
variable {α:Type} {R R':α→List Value→Prop} {e:TypeId} {size:Nat} {w w1:World} {base:Nat} {v:Value} {ps:List α}
theorem BJ.none_(R:α→List Value→Prop)(e:TypeId)(size:Nat)(w:World)(base:Nat):BJ R e size w base (.slice none 0 0) []:=⟨[],N4 _ _ _ _,Bo.none _ _⟩
theorem BJ.Gt(h:BJ R e size w base v ps)(hR:∀ p c,R p c→R' p c):BJ R' e size w base v ps:=by
 obtain⟨inner,ho,hr⟩:=h;exact⟨inner,ho,hr.Gt hR⟩
theorem BJ.below(h:BJ R e size w base v ps)(hb:Below w.heap.size w w1):BJ R e size w1 base v ps:=by
 obtain⟨inner,ho,hr⟩:=h;exact⟨inner,F2 ho hb,hr⟩
theorem BJ.other(h:BJ R e size w base v ps){row:Option Nat}(hg:w.grownBy w1 row)(hne:v.ownBlock=none∨v.ownBlock≠row):BJ R e size w1 base v ps:=by
 obtain⟨inner,ho,hr⟩:=h;exact⟨inner,L3 ho hg hne,hr⟩
theorem BJ.keep(h:BJ R e size w base v ps){g:Nat}{t:TypeId}{cells:Array Value}(hb:w.heap[g]?=some (.cells cells t (0,0)))(ht:e≠t)(hk:BS w w1 g none):BJ R e size w1 base v ps:=by
 obtain⟨inner,ho,hr⟩:=h;exact⟨inner,hk.own ho (Ne.symm (OT ho hb ht)) (by cases v.ownBlock<;>simp),hr⟩
theorem BJ.reads(h:BJ R e size w base v ps):∃ A c,v=.slice A ps.length c∧ps.length≤c∧D4 R size w A ps.length ps:=by
 obtain⟨inner,ho,hr⟩:=h;obtain⟨A,c,rfl,hrow⟩:=Hy ho hr rfl;exact⟨A,c,rfl,OU ho,hrow⟩
theorem BJ.lit(W:World)(base:Nat){inner:List Value}(hr:Bo R size ps inner)(hb:base≤W.heap.size)(hm:ps.length≤9223372036854775807) :
  BJ R e size (W.alloc (.cells inner.toArray e)) base (.slice (some ⟨W.heap.size,0,none⟩) ps.length ps.length) ps:=by
 have h:=World.ownsRow_lit (base:=base) (e:=e) (size:=size) W inner.toArray ps.length hb (by simpa [maxLen]using hm) (by simpa using hr.1);exact⟨inner,by simpa using h,hr⟩
end
section
variable {P:Program} {ops:Array Oper} {rest:List Oper} {o:Oper} {a:Act} {Q:Exit→Act→World→Prop} {α:Type} {R:α→List Value→Prop}
theorem BJ.append{w0 W:World}(base:Nat)(hgd:o.guard=none)(s x:Operand)(t e:TypeId)(z:Value)(size bytes:Nat)
  (ho:o.op=.call {callee:=.builtin .append,args:=#[s,x],argTypes:=#[t,t]})
  (ht:P.underlying t=some (.slice e))(hinfo:(P.info? e).map (fun i=>(i.zero,i.size,i.bytes))=some (some z,size,bytes))(hz:z.cells.size=size)(hs0:0<size)(hb0:0<bytes)
  (v:Value)(ps:List α)(p:α)(cs:List Value)(hs:a.eval s=v)(hx:a.eval x=.slice (some ⟨W.heap.size,0,none⟩) 1 1)(hp:R p cs)(hcs:cs.length=size)(h1:∀ u∈cs,u.oneCell'=true)
  (HO:BJ R e size W base v ps)(HB:Below base w0 W)(hbase:base≤W.heap.size)(hl:(ps.length+1)*bytes≤140737488355328)
  (h:∀ v1 w1,BJ R e size w1 base v1 (ps++[p])→Below base w0 w1→W.grownBy w1 v.ownBlock→(v1.ownBlock=v.ownBlock∨∃ b,v1.ownBlock=some b∧W.heap.size≤b)→wpList P ops Q rest (a.put o.dst v1) w1) :
  wpList P ops Q (o::rest) a (W.alloc (.cells cs.toArray e)):=by
 obtain⟨inner,hown,hr⟩:=HO;refine D5 base hgd s x t e z size bytes ho ht hinfo hz hs0 hb0 v ps.length inner cs hs hx hcs h1 hown HB hbase hl ?_;intro v1 w1 hown1 hb1 hg1 hat1;exact h v1 w1 ⟨inner++cs,by rw[List.length_append,List.length_singleton];exact hown1,hr.snoc hp hcs⟩ hb1 hg1 hat1
end
structure Kd (α:Type) where
 sz:Nat
 E:List Nat
 K:World→α→List Value→Prop
 M:World→Nat→(Nat→Prop)→α→List Value→Prop
 Eb:∀ {w x cs},K w x cs→cs.length=sz
 Ez:∀ {w x cs},K w x cs→∀ u∈cs,u.oneCell'=true
 CO:∀ {w w1:World} {x cs},Below w.heap.size w w1→K w x cs→K w1 x cs
 CP:∀ {w base ok x cs},M w base ok x cs→K w x cs
 BV:∀ {w base ok ok' x cs},(∀ k,ok k→ok' k)→M w base ok x cs→M w base ok' x cs
 Cb:∀ {w:World} {base ok x cs},M w base ok x cs→M w base (fun k=>ok k∧base≤k∧k<w.heap.size∧∃ q,q∈E∧∃ cells,w.heap[k]?=some (.cells cells q (0,0))) x cs
 Df:∀ {w w1:World} {base ok x cs},(∀ k,ok k→w1.heap[k]?=w.heap[k]?)→M w base ok x cs→M w1 base ok x cs
 CS:∀ {w base base' ok x cs},base'≤base→M w base ok x cs→M w base' ok x cs
theorem Om{w w1:World}{base:Nat}{e:TypeId}{size n:Nat}{v:Value}{xs:List Value}(h:w.ownsRow base e size v n xs)(hm:∀ k,v.ownBlock=some k→w1.heap[k]?=w.heap[k]?):w1.ownsRow base e size v n xs:=by
 obtain⟨h1,h2⟩:=h;refine⟨h1,?_⟩;rcases h2 with h2 |⟨g,cap,cur,rfl,hg,hh,r⟩
 ·exact .inl h2
 ·exact .inr ⟨g,cap,cur,rfl,hg,(hm g (by simp[Value.ownBlock])).trans hh,r⟩
theorem Cg{w:World}{base:Nat}{e:TypeId}{size n:Nat}{v:Value}{xs:List Value}(h:w.ownsRow base e size v n xs)(k:Nat)(hk:v.ownBlock=some k):∃ cells,w.heap[k]?=some (.cells cells e (0,0)):=by
 rcases h.2 with ⟨rfl,_⟩ |⟨g,cap,cur,rfl,hg,hh,r⟩
 ·simp[Value.ownBlock]at hk
 ·have:g=k:=by simpa [Value.ownBlock]using hk
  subst this;exact⟨cur,hh⟩
namespace Kd
def C{α:Type}(d:Kd α)(w:World)(A:Option Addr)(n:Nat)(xs:List α):Prop:=D4 (d.K w) d.sz w A n xs
def R{α:Type}(d:Kd α)(e:Nat)(w:World)(base:Nat)(ok:Nat→Prop)(v:Value)(xs:List α):Prop :=
 (∀ k,v.ownBlock=some k→ok k)∧BJ (d.M w base (fun k=>ok k∧some k≠v.ownBlock)) e d.sz w base v xs
section
variable {α:Type} {d:Kd α} {e:Nat} {w w1:World} {base:Nat} {ok ok':Nat→Prop} {v:Value} {xs:List α}
theorem N5{A:Option Addr}{n:Nat}(h:d.C w A n xs)(hb:Below w.heap.size w w1):d.C w1 A n xs:=D4.Gt h hb (fun _ _ hp=>d.CO hb hp)
theorem OC(d:Kd α)(e:Nat)(w:World)(base:Nat)(ok:Nat→Prop):d.R e w base ok (.slice none 0 0) []:=⟨fun k hk=>by simp[Value.ownBlock]at hk,BJ.none_ _ _ _ _ _⟩
theorem Mz(h:d.R e w base ok v xs)(hok:∀ k,ok k→ok' k):d.R e w base ok' v xs:=⟨fun k hk=>hok k (h.1 k hk),h.2.Gt (fun _ _ hp=>d.BV (fun k hk=>⟨hok k hk.1,hk.2⟩) hp)⟩
theorem KL(h:d.R e w base ok v xs):d.R e w base (fun k=>ok k∧base≤k∧k<w.heap.size∧∃ q,q∈e::d.E∧∃ cells,w.heap[k]?=some (.cells cells q (0,0))) v xs:=by
 obtain⟨h0,inner,ho,hr⟩:=h;refine⟨fun k hk=>?_,inner,ho,hr.Gt (fun _ _ hp=>d.BV (fun k hk=>?_) (d.Cb hp))⟩
 ·obtain⟨cells,hc⟩:=Cg ho k hk;exact⟨h0 k hk,Ob ho k hk,Ol ho k hk,e,List.mem_cons_self,cells,hc⟩
 ·obtain⟨⟨h1,h2⟩,h3,h4,q,hq,hc⟩:=hk;exact⟨⟨h1,h3,h4,q,List.mem_cons_of_mem _ hq,hc⟩,h2⟩
theorem M0(h:d.R e w base ok v xs)(hm:∀ k,ok k→w1.heap[k]?=w.heap[k]?):d.R e w1 base ok v xs:=by
 obtain⟨h0,inner,ho,hr⟩:=h;exact⟨h0,inner,Om ho (fun k hk=>hm k (h0 k hk)),hr.Gt (fun _ _ hp=>d.Df (fun k hk=>hm k hk.1) hp)⟩
theorem Gw{base':Nat}(h:d.R e w base ok v xs)(hb:base'≤base):d.R e w base' ok v xs:=by
 obtain⟨h0,inner,ho,hr⟩:=h;exact⟨h0,inner,Kl ho hb,hr.Gt (fun _ _ hp=>d.CS hb hp)⟩
theorem OV(h:d.R e w base ok v xs)(hm:∀ k,ok k→k<w.heap.size→w1.heap[k]?=w.heap[k]?):d.R e w1 base ok v xs :=
 Mz (M0 (KL h) (fun k hk=>hm k hk.1 hk.2.2.1)) (fun _ hk=>hk.1)
theorem OW{x:α}{cs:List Value}(h:d.M w base ok x cs)(hm:∀ k,ok k→k<w.heap.size→w1.heap[k]?=w.heap[k]?):d.M w1 base ok x cs :=
 d.BV (fun _ hk=>hk.1) (d.Df (fun k hk=>hm k hk.1 hk.2.2.1) (d.Cb h))
theorem F3(h:d.R e w base ok v xs)(hb:Below w.heap.size w w1):d.R e w1 base ok v xs:=OV h (fun k _ hk=>hb.block k hk)
theorem KM{x:α}{cs:List Value}(h:d.M w base ok x cs)(hb:Below w.heap.size w w1):d.M w1 base ok x cs:=OW h (fun k _ hk=>hb.block k hk)
theorem N6(h:d.R e w base ok v xs):∃ A c,v=.slice A xs.length c∧xs.length≤c∧d.C w A xs.length xs:=by
 obtain⟨A,c,he,hl,hr⟩:=BJ.reads h.2;exact⟨A,c,he,hl,hr.Gt (Below.refl _ _) (fun _ _ hp=>d.CP hp)⟩
end
def scalar{α:Type}(enc:α→Value)(h1:∀ x,(enc x).oneCell'=true):Kd α where
 sz:=1
 E:=[]
 K:=fun _ x cs=>cs=[enc x]
 M:=fun _ _ _ x cs=>cs=[enc x]
 Eb:=fun h=>by rw[h];rfl
 Ez:=fun h u hu=>by
  rw[h]at hu;rw[List.mem_singleton.1 hu];exact h1 _
 CO:=fun _ h=>h
 CP:=fun h=>h
 BV:=fun _ h=>h
 Cb:=fun h=>h
 Df:=fun _ h=>h
 CS:=fun _ h=>h
def int(k:IntKind):Kd Int:=scalar (Value.int k) (fun _=>rfl)
def bool:Kd Bool:=scalar Value.bool (fun _=>rfl)
def string:Kd ByteArray:=scalar Value.string (fun _=>rfl)
def slice{α:Type}(e:Nat)(d:Kd α):Kd (List α) where
 sz:=1
 E:=e::d.E
 K:=fun w xs cs=>∃ A c,cs=[.slice A xs.length c]∧xs.length≤c∧d.C w A xs.length xs
 M:=fun w base ok xs cs=>∃ v,cs=[v]∧d.R e w base ok v xs
 Eb:=by
  rintro w x cs ⟨A,c,rfl,_⟩;rfl
 Ez:=by
  rintro w x cs ⟨A,c,rfl,_⟩ u hu;rw[List.mem_singleton.1 hu];rfl
 CO:=by
  rintro w w1 x cs hb ⟨A,c,rfl,hl,hr⟩;exact⟨A,c,rfl,hl,N5 hr hb⟩
 CP:=by
  rintro w base ok x cs ⟨v,rfl,h⟩;obtain⟨A,c,rfl,hl,hr⟩:=N6 h;exact⟨A,c,rfl,hl,hr⟩
 BV:=by
  rintro w base ok ok' x cs hok ⟨v,rfl,h⟩;exact⟨v,rfl,Mz h hok⟩
 Cb:=by
  rintro w base ok x cs ⟨v,rfl,h⟩;exact⟨v,rfl,KL h⟩
 Df:=by
  rintro w w1 base ok x cs hm ⟨v,rfl,h⟩;exact⟨v,rfl,M0 h hm⟩
 CS:=by
  rintro w base base' ok x cs hb ⟨v,rfl,h⟩;exact⟨v,rfl,Gw h hb⟩
def pair{α β:Type}(a:Kd α)(b:Kd β):Kd (α×β) where
 sz:=a.sz+b.sz
 E:=a.E++b.E
 K:=fun w x cs=>∃ c0 c1,cs=c0++c1∧a.K w x.1 c0∧b.K w x.2 c1
 M:=fun w base ok x cs=>∃ c0 c1,cs=c0++c1∧a.M w base ok x.1 c0∧b.M w base ok x.2 c1
 Eb:=by
  rintro w x cs ⟨c0,c1,rfl,h0,h1⟩;rw[List.length_append,a.Eb h0,b.Eb h1]
 Ez:=by
  rintro w x cs ⟨c0,c1,rfl,h0,h1⟩ u hu;rcases List.mem_append.1 hu with hu |hu
  ·exact a.Ez h0 u hu
  ·exact b.Ez h1 u hu
 CO:=by
  rintro w w1 x cs hb ⟨c0,c1,rfl,h0,h1⟩;exact⟨c0,c1,rfl,a.CO hb h0,b.CO hb h1⟩
 CP:=by
  rintro w base ok x cs ⟨c0,c1,rfl,h0,h1⟩;exact⟨c0,c1,rfl,a.CP h0,b.CP h1⟩
 BV:=by
  rintro w base ok ok' x cs hok ⟨c0,c1,rfl,h0,h1⟩;exact⟨c0,c1,rfl,a.BV hok h0,b.BV hok h1⟩
 Cb:=by
  rintro w base ok x cs ⟨c0,c1,rfl,h0,h1⟩;refine⟨c0,c1,rfl,a.BV ?_ (a.Cb h0),b.BV ?_ (b.Cb h1)⟩
  ·rintro k ⟨h2,h3,h4,q,hq,hc⟩;exact⟨h2,h3,h4,q,List.mem_append_left _ hq,hc⟩
  ·rintro k ⟨h2,h3,h4,q,hq,hc⟩;exact⟨h2,h3,h4,q,List.mem_append_right _ hq,hc⟩
 Df:=by
  rintro w w1 base ok x cs hm ⟨c0,c1,rfl,h0,h1⟩;exact⟨c0,c1,rfl,a.Df hm h0,b.Df hm h1⟩
 CS:=by
  rintro w base base' ok x cs hb ⟨c0,c1,rfl,h0,h1⟩;exact⟨c0,c1,rfl,a.CS hb h0,b.CS hb h1⟩
def bot{α:Type}(sz:Nat)(E:List Nat):Kd α where
 sz:=sz
 E:=E
 K:=fun _ _ _=>False
 M:=fun _ _ _ _ _=>False
 Eb:=fun h=>h.elim
 Ez:=fun h=>h.elim
 CO:=fun _ h=>h
 CP:=fun h=>h
 BV:=fun _ h=>h
 Cb:=fun h=>h
 Df:=fun _ h=>h
 CS:=fun _ h=>h
def upto{α:Type}(F:Kd α→Kd α)(sz:Nat)(E:List Nat):Nat→Kd α
 |0=>bot sz E
 |n+1=>F (upto F sz E n)
theorem Kn{α:Type}{d:Kd α}{e base:Nat}{ok okp:Nat→Prop}{W w1:World}{v v1:Value}{xs:List α}{p:α}{inner cs:List Value}(h0:∀ k,v.ownBlock=some k→ok k)(hr:Bo (d.M W base (fun k=>ok k∧some k≠v.ownBlock)) d.sz xs inner)(hp:d.M W base okp p cs)(hokp:∀ k,okp k→ok k∧some k≠v.ownBlock)(hfresh:∀ k,W.heap.size≤k→ok k)
  (hown:w1.ownsRow base e d.sz v1 (xs.length+1) (inner++cs))(hg:W.grownBy w1 v.ownBlock)(hat:v1.ownBlock=v.ownBlock∨∃ b,v1.ownBlock=some b∧W.heap.size≤b):d.R e w1 base ok v1 (xs++[p]):=by
 have hne:∀ k,some k≠v.ownBlock→k<W.heap.size→some k≠v1.ownBlock:=by
  intro k hk hlt;rcases hat with hat |⟨b,hb,hle⟩
  ·rw[hat];exact hk
  ·rw[hb];intro he;injection he with he
   omega
 have step:∀ {q:α} {c:List Value} {o:Nat→Prop},d.M W base o q c→(∀ k,o k→ok k∧some k≠v.ownBlock)→d.M w1 base (fun k=>ok k∧some k≠v1.ownBlock) q c:=by
  intro q c o hq ho;have h1:=d.Df (w1:=w1) (fun k hk=>hg.block k hk.2.2.1 (ho k hk.1).2) (d.Cb hq);exact d.BV (fun k hk=>⟨(ho k hk.1).1,hne k (ho k hk.1).2 hk.2.2.1⟩) h1
 refine⟨fun k hk=>?_,inner++cs,by rw[List.length_append,List.length_singleton];exact hown,?_⟩
 ·rcases hat with hat |⟨b,hb,hle⟩
  ·exact h0 k (hat▸hk)
  ·rw[hb]at hk;injection hk with hk
   exact hfresh k (by omega)
 ·exact(hr.Gt (fun _ _ hq=>step hq (fun _ hk=>hk))).snoc (step hp hokp) (d.Eb (d.CP hp))
section
variable {P:Program} {ops:Array Oper} {rest:List Oper} {o:Oper} {a:Act} {Q:Exit→Act→World→Prop} {α:Type}
theorem Jj(d:Kd α){w0 W:World}(base:Nat)(hgd:o.guard=none)(s x:Operand)(t e:TypeId)(z:Value)(bytes:Nat)
  (ho:o.op=.call {callee:=.builtin .append,args:=#[s,x],argTypes:=#[t,t]})
  (ht:P.underlying t=some (.slice e))(hinfo:(P.info? e).map (fun i=>(i.zero,i.size,i.bytes))=some (some z,d.sz,bytes))(hz:z.cells.size=d.sz)(hs0:0<d.sz)(hb0:0<bytes)
  (v:Value)(xs:List α)(p:α)(cs:List Value)(ok okp:Nat→Prop)(hs:a.eval s=v)(hx:a.eval x=.slice (some ⟨W.heap.size,0,none⟩) 1 1)(hp:d.M W base okp p cs)(hokp:∀ k,okp k→ok k∧some k≠v.ownBlock)(hfresh:∀ k,W.heap.size≤k→ok k)
  (HO:d.R e W base ok v xs)(HB:Below base w0 W)(hbase:base≤W.heap.size)(hl:(xs.length+1)*bytes≤140737488355328)
  (h:∀ v1 w1,d.R e w1 base ok v1 (xs++[p])→Below base w0 w1→W.grownBy w1 v.ownBlock→(v1.ownBlock=v.ownBlock∨∃ b,v1.ownBlock=some b∧W.heap.size≤b)→wpList P ops Q rest (a.put o.dst v1) w1) :
  wpList P ops Q (o::rest) a (W.alloc (.cells cs.toArray e)):=by
 obtain⟨h0,inner,hown,hr⟩:=HO;refine D5 base hgd s x t e z d.sz bytes ho ht hinfo hz hs0 hb0 v xs.length inner cs hs hx (d.Eb (d.CP hp)) (d.Ez (d.CP hp)) hown HB hbase hl ?_;intro v1 w1 hown1 hb1 hg1 hat1;exact h v1 w1 (Kn h0 hr hp hokp hfresh hown1 hg1 hat1) hb1 hg1 hat1
end
theorem EF{α:Type}{enc:α→Value}{h1:∀ x,(enc x).oneCell'=true}{e:Nat}{w:World}{base:Nat}{ok:Nat→Prop}{v:Value}{xs:List α}(h:(scalar enc h1).R e w base ok v xs):w.ownsRow base e 1 v xs.length (Km enc xs):=by
 obtain⟨_,inner,ho,hr⟩:=h;have:inner=Km enc xs:=by
  apply List.ext_getElem?
  intro j;rcases Nat.lt_or_ge j xs.length with hj |hj
  ·have h2:=hr.2 j _ (List.getElem?_eq_getElem hj);have hl:j<inner.length:=by have:=hr.1;simp[scalar]at this;omega
   have h3:(inner.drop (j*1)).take 1=[enc xs[j]]:=h2;rw[Nat.mul_one,List.drop_eq_getElem_cons hl]at h3;have h4:inner[j]=enc xs[j]:=by
    have h5:=congrArg List.head? h3;rw[List.take_succ_cons]at h5;exact Option.some.inj h5
   rw[List.getElem?_eq_getElem hl,h4];simp[Km,List.getElem?_eq_getElem hj]
  ·have h3:inner.length=xs.length:=by have:=hr.1;simp[scalar]at this;omega
   rw[List.getElem?_eq_none (by omega),List.getElem?_eq_none (by rw[Ji];omega)]
 rw[←this];exact ho
end Kd
namespace Kd
structure Rj {α β:Type} (F:Kd α→Kd β):Prop where
 sz:∀ d d':Kd α,d.sz=d'.sz→(F d).sz=(F d').sz
 K:∀ d d':Kd α,d.sz=d'.sz→(∀ w x cs,d.K w x cs→d'.K w x cs)→∀ w x cs,(F d).K w x cs→(F d').K w x cs
 M:∀ d d':Kd α,d.sz=d'.sz→(∀ w base ok x cs,d.M w base ok x cs→d'.M w base ok x cs)→∀ w base ok x cs,(F d).M w base ok x cs→(F d').M w base ok x cs
end Kd
namespace Kd
end Kd
namespace Kd
section
variable {α β:Type} {d:Kd α} {d':Kd β} {e e':Nat} {w w1 W:World} {base b b':Nat} {ok ok' okv oku:Nat→Prop} {v u:Value} {xs:List α} {ys:List β}
theorem CU(h:d.R e w base ok v xs)(o:Obj):d.R e (w.alloc o) base ok v xs:=F3 h (AA (Below.refl _ _) o)
theorem D6(h:d.R e w base ok v xs):d.R e w.drew base ok v xs:=F3 h (Bd (Below.refl _ _))
theorem CV(h:d.R e w base ok v xs)(m:Nat):d.R e (w.drewN m) base ok v xs:=F3 h (Aq (Below.refl _ _) m)
end
section
variable {P:Program} {ops:Array Oper} {rest:List Oper} {o:Oper} {a:Act} {Q:Exit→Act→World→Prop}
theorem L4{W w1:World}{v:Value}(hgd:o.guard=none)(hrun:(execOp a.eval o).run P W=.ok (.value v) w1)(h:wpList P ops Q rest (a.put o.dst v) w1):wpList P ops Q (o::rest) a W:=by
 refine wpList_plain hgd fun K hK=>?_
 unfold Oper.wp;rw[hrun];exact hK _ _ h
variable {α:Type}
theorem PR(d:Kd α){w0 W:World}(base e:Nat)(hgd:o.guard=none){N:Tmp}(_hd:o.dst=some N){xs:List α}{inner:List Value}{ok okp:Nat→Prop}
  (hrun:(execOp a.eval o).run P W=.ok (.value (.slice (some ⟨W.heap.size,0,none⟩) xs.length xs.length)) (W.alloc (.cells inner.toArray e)))
  (hrep:Bo (d.M W base okp) d.sz xs inner)(hok:∀ k,okp k→ok k)(hfresh:ok W.heap.size)(HB:Below base w0 W)(hbase:base≤W.heap.size)(hm:xs.length≤9223372036854775807)
  (h:∀ v1 w1,d.R e w1 base ok v1 xs→Below base w0 w1→W.grownBy w1 none→(∃ b,v1.ownBlock=some b∧W.heap.size≤b)→wpList P ops Q rest (a.put o.dst v1) w1):wpList P ops Q (o::rest) a W:=by
 refine L4 hgd hrun (h _ _ ⟨fun k hk=>?_,inner,?_,?_⟩ (HB.alloc hbase _) (World.grownBy_alloc W _ none) ⟨W.heap.size,by simp[Value.ownBlock],Nat.le_refl _⟩)
 ·have:W.heap.size=k:=by simpa [Value.ownBlock]using hk
  subst this;exact hfresh
 ·have h2:=World.ownsRow_lit (base:=base) (e:=e) (size:=d.sz) W inner.toArray xs.length hbase (by simpa [maxLen]using hm) (by simpa using hrep.1)
  simpa using h2
 ·refine hrep.Gt (fun p c hp=>d.BV (fun k hk=>⟨hok k hk.1,fun he=>?_⟩) (KM (d.Cb hp) (AA (Below.refl _ _) _)));have h3:k=W.heap.size:=by simpa [Value.ownBlock]using he
  have:=hk.2.2.1;omega
end
end Kd
theorem M1{w:World}{base n m c size:Nat}{e:TypeId}{A:Option Addr}{xs:List Value}(h:w.ownsRow base e size (.slice A n c) n xs)(hm:m≤n):w.ownsRow base e size (.slice A m c) m (xs.take (m*size)):=by
 obtain⟨h1,h2⟩:=h;refine⟨by rw[List.length_take,h1];exact Nat.min_eq_left (Nat.mul_le_mul_right _ hm),?_⟩;rcases h2 with ⟨he,h0⟩ |⟨g,cap,cur,he,hb,hh,hnc,hcm,hcs,ht⟩
 ·injection he with ha _ hc
  subst ha;subst hc;exact .inl ⟨by rw[show m=0 by omega],by omega⟩
 ·injection he with ha _ hc
  subst ha;subst hc;refine .inr ⟨g,c,cur,rfl,hb,hh,by omega,hcm,hcs,?_⟩;rw[←ht,List.take_take,Nat.min_eq_left (Nat.mul_le_mul_right _ hm)]
def PS(w:World)(base:Nat)(e:TypeId)(size:Nat)(v:Value)(n:Nat)(xs:List Value):Prop :=
 xs.length=n*size ∧
 ((n=0∧∃ A,v=.slice A 0 0∧∀ a,A=some a→base≤a.block∧∃ cur,w.heap[a.block]?=some (.cells cur e (0,0))) ∨
  ∃ g off cap cur,v=.slice (some ⟨g,off*size,none⟩) n cap∧base≤g∧w.heap[g]?=some (.cells cur e (0,0))∧n≤cap∧off+cap≤maxLen∧cur.size=(off+cap)*size∧(cur.toList.drop (off*size)).take (n*size)=xs)
section
variable {w w1:World} {base n size:Nat} {e:TypeId} {v:Value} {xs:List Value}
theorem M3(h:w.ownsRow base e size v n xs):PS w base e size v n xs:=by
 obtain⟨h1,h2⟩:=h;refine⟨h1,?_⟩;rcases h2 with ⟨rfl,h0⟩ |⟨g,cap,cur,rfl,hb,hh,hnc,hcm,hcs,ht⟩
 ·exact .inl ⟨h0,none,rfl,fun a ha=>by cases ha⟩
 ·exact .inr ⟨g,0,cap,cur,by rw[Nat.zero_mul],hb,hh,hnc,by rw[Nat.zero_add];exact hcm,by rw[Nat.zero_add];exact hcs,by rw[Nat.zero_mul,List.drop_zero];exact ht⟩
end
namespace Kd
theorem L5{α:Type}{R:α→List Value→Prop}{size m:Nat}{ps:List α}{cs:List Value}(h:Bo R size ps cs)(hm:m≤ps.length):Bo R size (ps.take m) (cs.take (m*size)):=by
 refine⟨by rw[List.length_take,List.length_take,h.1,Nat.min_eq_left hm,Nat.min_eq_left (Nat.mul_le_mul_right _ hm)],fun j p hj=>?_⟩;rw[List.getElem?_take]at hj;split at hj
 ·rename_i hjm
  have:=h.2 j p hj;have hle:j*size+size≤m*size:=by rw[←Nat.succ_mul];exact Nat.mul_le_mul_right _ hjm
  rw[List.drop_take,List.take_take,Nat.min_eq_left (by omega)];exact this
 ·cases hj
theorem Q6{α:Type}{d:Kd α}{e m n c:Nat}{w:World}{base:Nat}{ok:Nat→Prop}{A:Option Addr}{xs:List α}(h:d.R e w base ok (.slice A n c) xs)(hm:m≤xs.length):d.R e w base ok (.slice A m c) (xs.take m):=by
 obtain⟨h0,inner,ho,hr⟩:=h;have hn:n=xs.length:=by
  obtain⟨A',c',he⟩:=AB ho;injection he
 subst hn;have hb:∀ x y:Nat,(Value.slice A x c).ownBlock=(Value.slice A y c).ownBlock:=by
  intro x y;cases A<;>rfl
 refine⟨fun k hk=>h0 k (by rw[hb _ m];exact hk),inner.take (m*d.sz),?_,?_⟩
 ·rw[List.length_take,Nat.min_eq_left hm];exact M1 ho hm
 ·rw[hb m xs.length];exact L5 hr hm
def Q{α:Type}(d:Kd α)(e:Nat)(w:World)(base:Nat)(ok:Nat→Prop)(v:Value)(xs:List α):Prop :=
 (∀ k,v.ownBlock=some k→ok k)∧∃ inner,PS w base e d.sz v xs.length inner∧Bo (d.M w base (fun k=>ok k∧some k≠v.ownBlock)) d.sz xs inner
section
variable {α:Type} {d:Kd α} {e:Nat} {w w1 W:World} {base:Nat} {ok ok':Nat→Prop} {v:Value} {xs:List α}
theorem OX(h:d.R e w base ok v xs):d.Q e w base ok v xs:=by
 obtain⟨h0,inner,ho,hr⟩:=h;exact⟨h0,inner,M3 ho,hr⟩
theorem PT(d:Kd α)(e:Nat)(w:World)(base:Nat)(ok:Nat→Prop):d.Q e w base ok (.slice none 0 0) []:=OX (OC d e w base ok)
end
end Kd
namespace Kd
end Kd
namespace Kd
end Kd
namespace Kd
def fixed{α:Type}(d:Kd α)(w0:World):Kd α where
 sz:=d.sz
 E:=[]
 K:=fun _ x cs=>d.K w0 x cs
 M:=fun _ _ _ x cs=>d.K w0 x cs
 Eb:=d.Eb
 Ez:=d.Ez
 CO:=fun _ h=>h
 CP:=fun h=>h
 BV:=fun _ h=>h
 Cb:=fun h=>h
 Df:=fun _ h=>h
 CS:=fun _ h=>h
def Rn{α:Type}(a b:Kd α)(h:b.sz=a.sz):Kd α where
 sz:=a.sz
 E:=a.E++b.E
 K:=fun w x cs=>a.K w x cs∨b.K w x cs
 M:=fun w base ok x cs=>a.M w base ok x cs∨b.M w base ok x cs
 Eb:=fun hk=>hk.elim a.Eb (fun hk=>(b.Eb hk).trans h)
 Ez:=fun hk=>hk.elim a.Ez b.Ez
 CO:=fun hb hk=>hk.imp (a.CO hb) (b.CO hb)
 CP:=fun hk=>hk.imp a.CP b.CP
 BV:=fun hok hk=>hk.imp (a.BV hok) (b.BV hok)
 Cb:=fun hk=>hk.imp
  (fun hk=>a.BV (fun _ ⟨h1,h2,h3,q,hq,hc⟩=>⟨h1,h2,h3,q,List.mem_append_left _ hq,hc⟩) (a.Cb hk))
  (fun hk=>b.BV (fun _ ⟨h1,h2,h3,q,hq,hc⟩=>⟨h1,h2,h3,q,List.mem_append_right _ hq,hc⟩) (b.Cb hk))
 Df:=fun hm hk=>hk.imp (a.Df hm) (b.Df hm)
 CS:=fun hb hk=>hk.imp (a.CS hb) (b.CS hb)
end Kd
namespace Kd
end Kd
namespace Kd
end Kd
namespace Kd
end Kd
theorem D7{w W:World}(h:Below w.heap.size w W):w.heap.size≤W.heap.size:=h.size
theorem Dg{w W w2:World}(h:Below w.heap.size w W)(k:Below W.heap.size W w2):Below w.heap.size w w2:=GL h h.size k
theorem B9.nil(W:World)(k:IntKind):B9 W k none ([]:List Int).length []:=⟨rfl,by simp,fun h=>absurd h (Nat.lt_irrefl 0)⟩
theorem B9.drewN{W:World}{k:IntKind}{A:Option Addr}{n:Nat}{xs:List Int}(h:B9 W k A n xs)(m:Nat):B9 (W.drewN m) k A n xs:=h
theorem HH{w W:World}{g:Nat}(h:BS w W g none){a:Addr}{v:Value}(hc:w.cell? a=some v)(hne:a.block≠g):W.cell? a=some v:=by
 have:=h.2 a.block (World.block_lt_of_cell? w a hc) hne (by simp)
 simpa [World.cell?,this]using hc
theorem HK(a:Addr)(i:Nat):(a.add i).block=a.block:=by unfold Addr.add;split<;>rfl
theorem CM.nil{α:Type}(enc:α→Value)(d:α)(W:World):CM enc d W none ([]:List α).length []:=⟨rfl,by simp,fun h=>absurd h (Nat.lt_irrefl 0)⟩
theorem CM.drewN{α:Type}{enc:α→Value}{d:α}{W:World}{A:Option Addr}{n:Nat}{xs:List α}(h:CM enc d W A n xs)(m:Nat):CM enc d (W.drewN m) A n xs:=h
theorem B9.keep{w W:World}{k:IntKind}{A:Option Addr}{n g:Nat}{xs:List Int}(h:B9 w k A n xs)(hk:BS w W g none)(hf:∀ ad,A=some ad→0<n→ad.block≠g):B9 W k A n xs :=
 ⟨h.1,h.2.1,fun hn=>by
  obtain⟨ad,e,hc⟩:=h.2.2 hn;exact⟨ad,e,fun j hj=>HH hk (hc j hj) (by rw[HK];exact hf ad e hn)⟩⟩
theorem CM.keep{α:Type}{enc:α→Value}{d:α}{w W:World}{A:Option Addr}{n g:Nat}{xs:List α}(h:CM enc d w A n xs)(hk:BS w W g none)(hf:∀ ad,A=some ad→0<n→ad.block≠g):CM enc d W A n xs :=
 ⟨h.1,h.2.1,fun hn=>by
  obtain⟨ad,e,hc⟩:=h.2.2 hn;exact⟨ad,e,fun j hj=>HH hk (hc j hj) (by rw[HK];exact hf ad e hn)⟩⟩
theorem AG{base:Nat}{w W:World}(h:Below base w W):Below base w W.drew:=h.drew
namespace Kd
end Kd
namespace Kd
end Kd
namespace Kd
end Kd
namespace Kd
end Kd
section
variable {P:Program} {ops:Array Oper} {rest:List Oper} {o:Oper} {a:Act} {Q:Exit→Act→World→Prop} {W:World}
theorem M4{N:Tmp}(_hN:o.dst=some N)(h:wpList P ops Q (o::rest) a W):wpList P ops Q (o::rest) a W:=h
end
section
variable {P:Program} {ops:Array Oper} {o:Oper} {a:Act} {Q:Exit→Act→World→Prop} {Kc:Act→World→Prop}
theorem Ko{W w1:World}{v:Value}(hw:Region.wanted o (yielded ops a.tmps)=true)(hrun:(execOp a.eval o).run P W=.ok (.value v) w1)(h:Kc (a.put o.dst v) w1):if Region.wanted o (yielded ops a.tmps)=true then Oper.wp P o a W Kc Q else Kc (a.put o.dst undef) W:=by
 rw[if_pos hw];unfold Oper.wp;rw[hrun];exact h
namespace Kd
variable {α:Type}
theorem GO(d:Kd α){w0 W:World}(base e:Nat)(hw:Region.wanted o (yielded ops a.tmps)=true){N:Tmp}(_hd:o.dst=some N){xs:List α}{inner:List Value}{ok okp:Nat→Prop}
  (hrun:(execOp a.eval o).run P W=.ok (.value (.slice (some ⟨W.heap.size,0,none⟩) xs.length xs.length)) (W.alloc (.cells inner.toArray e)))
  (hrep:Bo (d.M W base okp) d.sz xs inner)(hok:∀ k,okp k→ok k)(hfresh:ok W.heap.size)(HB:Below base w0 W)(hbase:base≤W.heap.size)(hm:xs.length≤9223372036854775807)
  (h:∀ v1 w1,d.R e w1 base ok v1 xs→Below base w0 w1→W.grownBy w1 none→(∃ b,v1.ownBlock=some b∧W.heap.size≤b)→Kc (a.put o.dst v1) w1):if Region.wanted o (yielded ops a.tmps)=true then Oper.wp P o a W Kc Q else Kc (a.put o.dst undef) W:=by
 refine Ko hw hrun (h _ _ ⟨fun k hk=>?_,inner,?_,?_⟩ (HB.alloc hbase _) (World.grownBy_alloc W _ none) ⟨W.heap.size,by simp[Value.ownBlock],Nat.le_refl _⟩)
 ·have:W.heap.size=k:=by simpa [Value.ownBlock]using hk
  subst this;exact hfresh
 ·have h2:=World.ownsRow_lit (base:=base) (e:=e) (size:=d.sz) W inner.toArray xs.length hbase (by simpa [maxLen]using hm) (by simpa using hrep.1)
  simpa using h2
 ·refine hrep.Gt (fun p c hp=>d.BV (fun k hk=>⟨hok k hk.1,fun he=>?_⟩) (KM (d.Cb hp) (AA (Below.refl _ _) _)));have h3:k=W.heap.size:=by simpa [Value.ownBlock]using he
  have:=hk.2.2.1;omega
end Kd
end
inductive M5 (P:Program) (tmps:Array Value) (w:World):List ResultVar→List Value→Prop where
 |nil:M5 P tmps w [] []
 |tmp {u:Tmp} {rs:List ResultVar} {vs:List Value} (h:M5 P tmps w rs vs):M5 P tmps w (.tmp u::rs) (tmps.getD u undef::vs)
 |cell {p:Tmp} {ty:TypeId} {rs:List ResultVar} {vs:List Value} (g:Nat) (t:TypeId) (cs:Array Value) (fr:Nat×Nat) (d:TypeDesc)
  (hp:tmps.getD p undef=.pointer (some ⟨g,0,none⟩)) (hg:w.heap[g]?=some (.cells cs t fr))
  (hu:P.underlying ty=some d) (hd:(match d with |.struct _ |.array _ _=>true |_=>false)=true) (hi:(P.info? ty).map (·.size)=some cs.size)
  (h:M5 P tmps w rs vs):M5 P tmps w (.cell p ty::rs) (.agg cs::vs)
namespace Kd
end Kd
end
end Go.Proofs.YtjjpiefgdggghaaGreatDoorW.PrintWords

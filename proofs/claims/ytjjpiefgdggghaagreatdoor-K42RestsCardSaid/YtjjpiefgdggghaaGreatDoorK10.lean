/- Parts: AsmPlain, Labels, MachPlain, AsmName, Lines, AsmEval, LockKit. -/
import Derived.Test.YtjjpiefgdggghaaGreatDoorK05
import Derived.Test.YtjjpiefgdggghaaGreatDoorK04
import Derived.Maps.OwnSet
import Derived.Maps.Views
import Derived.Test.YtjjpiefgdggghaaGreatDoorK08
import Derived.Laws.RangeString
import Derived.RangeFuncNested
import Derived.RangeFuncBound
import Derived.RangeFuncCalls
import Derived.RangeFuncLeaves
import Derived.Shelf.Abstract
import Derived.Shelf.RegionOpen
import Derived.WalkKit
import Derived.OwnWalkIn
import Derived.TacticsInMore
import Derived.LoopNIn
import Derived.LoopIn
import Derived.Test.YtjjpiefgdggghaaGreatDoorK09
set_option linter.unusedVariables false
set_option linter.unusedSimpArgs false
set_option maxRecDepth 100000
set_option maxHeartbeats 40000000
namespace Go.Proofs.YtjjpiefgdggghaaGreatDoor
section
open Go Go.Lib
def Bm:List UInt8→List (List UInt8)
 |[]=>[]
 |c::l=>if c=10 then [10]::Bm l else
  match Bm l with
  |[]=>[[c]]
  |w::ws=>(c::w)::ws
def EN(c:UInt8):Bool:=decide (97≤c.toNat∧c.toNat≤122)
def M1(c:UInt8):Bool:=decide (48≤c.toNat∧c.toNat≤57)
def Cp(l:List UInt8):Bool:=decide (1≤l.length∧l.length≤16)&&EN (l.headD 0)&&l.all (fun c=>EN c||M1 c)
def Ee(i:In):Bool:=decide ((8≤i.op∧i.op≤10)∨(i.op=21∧0≤i.q))
def CF(s:List UInt8):List UInt8:=(AR s).getLastD []
def BR(s:List UInt8):List UInt8:=s.take (s.length-(CF s).length)
def Gt(s:List UInt8):In×List UInt8×Bool :=
 let r:=Ei (BR s++[48])
 if r.2=0∧Ee r.1=true then (r.1,CF s,Cp (CF s)) else
 let r:=Ei s
 (r.1,[],decide (r.2=0)&&!Ee r.1)
structure Src where
 l:List In
 names:List (List UInt8)
 rows:List Int
 labels:List (List UInt8×Nat)
def Src.zero:Src:=⟨[],[],[],[]⟩
def Src.at(x:Src)(s:List UInt8):Option Nat:=(x.labels.find? (fun p=>p.1==s)).map (·.2)
def Cv(x:Src)(s:List UInt8)(n:Int):Src×Int :=
 if s.getLast?≠some 10 then (x,8) else
 let s:=s.dropLast
 if s.getLast?=some 58∧Cp s.dropLast=true then
  (if (x.at s.dropLast).isSome then (x,2) else ({x with labels:=(s.dropLast,x.l.length)::x.labels},0))
 else
  let r:=Gt s
  if r.2.2=false then (x,8)
  else if 64≤x.l.length then (x,9)
  else ({x with l:=x.l++[r.1],names:=x.names++[r.2.1],rows:=x.rows++[n]},0)
def Dd:List (List UInt8)→Int→Src→Src×Int×Int
 |[],n,x=>(x,n,0)
 |s::ls,n,x=>if (Cv x s (n+1)).2=0 then Dd ls (n+1) (Cv x s (n+1)).1 else (x,n+1,(Cv x s (n+1)).2)
def Src.place(x:Src)(s:List UInt8):Option Nat:=(x.at s).filter (·<x.l.length)
structure Pg where
 l:List In
 lock:Int
 unlock:Int
deriving DecidableEq
def Pg.zero:Pg:=⟨[],0,0⟩
def fixF(x:Src):List In→List (List UInt8)→List Int→List In ⊕ Int
 |i::l,s::names,r::rows =>
  if s=[] then (match fixF x l names rows with |.inl k=>.inl (i::k) |.inr e=>.inr e)
  else match x.place s with
   |none=>.inr r
   |some p=>match fixF x l names rows with |.inl k=>.inl ({i with q:=p}::k) |.inr e=>.inr e
 |_,_,_=>.inl []
def B2(t:List UInt8):Pg×Int×Int :=
 let r:=Dd (Bm t) 0 Src.zero
 if r.2.2≠0 then (Pg.zero,r.2.1,r.2.2) else
 match fixF r.1 r.1.l r.1.names r.1.rows with
 |.inr e=>(Pg.zero,e,10)
 |.inl k=>match r.1.place [108,111,99,107],r.1.place [117,110,108,111,99,107]with
  |some a,some b=>(⟨k,a,b⟩,0,0)
  |_,_=>(Pg.zero,0,10)
end
section
open Go.RowKit Go.Maps Go.Proofs.YtjjpiefgdggghaaGreatDoorW.PrintWords
def Er(L:List (List UInt8×Nat))(s:List UInt8):Option Nat:=(L.find? (fun p=>p.1==s)).map (·.2)
theorem QG(k:List UInt8)(p:Nat)(L:List (List UInt8×Nat))(s:List UInt8):Er ((k,p)::L) s=if k=s then some p else Er L s:=by
 unfold Er;by_cases h:k=s
 ·rw[if_pos h,List.find?_cons_of_pos (by simpa using h)];rfl
 ·rw[if_neg h,List.find?_cons_of_neg (by simpa using h)]
def FT(W:World)(bm:Nat)(L:List (List UInt8×Nat)):Prop :=
 ∃ (n:Nat) (D:DataW Unit),W.ownsMap Tryz.prog 9 (plainElem Tryz.prog 3) bm n D∧IsMap D∧n≤L.length ∧
  ∀ s:List UInt8,has D (.string s)=(Er L s).isSome∧D.atKey (.string s) (.lit (.int .i64 0))=.lit (.int .i64 ((Er L s).getD 0:Nat))
theorem FT.made(w:World):FT (w.alloc (.map #[] 0)) w.heap.size [] :=
 ⟨0,.map [],World.ownsMap_made w _ _ _,isMap_empty,Nl _,fun s=>⟨rfl,rfl⟩⟩
theorem UI(s:List UInt8)(hs:s.length≤1000000):keyOf Tryz.prog 9 (.string ⟨s.toArray⟩)=some (.string s):=by
 have h:(⟨s.toArray⟩:ByteArray).size≤maxLen:=by simp[ByteArray.size,maxLen];omega
 simp[keyOf,mapKey,Tryz.underlying9,h]
section
variable {ops:Array Oper} {rest:List Oper} {o:Oper} {a:Act} {Q:Exit→Act→World→Prop} {W:World}
theorem Lu(hg:o.guard=none)(m x:Operand)(hop:o.op=.lookup 119 m x true)(bm:Nat)(L:List (List UInt8×Nat))(hm:a.eval m=.map (some bm))(h:FT W bm L)
  (s:List UInt8)(hs:s.length≤1000000)(hx:a.eval x=.string ⟨s.toArray⟩)
  (hK:wpList Tryz.prog ops Q rest (a.put o.dst (.tuple #[.int .i64 ((Er L s).getD 0:Nat),.bool (Er L s).isSome])) W):wpList Tryz.prog ops Q (o::rest) a W:=by
 obtain⟨n,D,ho,hi,hn,hL⟩:=h;refine wpList_lookup_own_ok_int W hg m x 119 hop 9 3 .i64 (string_keyed Tryz.underlying9) Tryz.underlying119 Tryz.underlying3 (Tryz.zeroValue3 _) bm n D hm ho _ (.string s) hx (UI s hs) ?_;intro c hat hw;rw[(hL s).2]at hat;have e:c=(((Er L s).getD 0:Nat):Int):=by
  injection hat with h1
  injection h1 with _ h2
  exact h2.symm
 rw[e,(hL s).1];exact hK
end
end
section
open Go Go.Lib
structure CoreM where
 r:List Nat
 pc:Int
deriving DecidableEq
def CoreM.get(c:CoreM)(i:Int):Nat:=c.r.getD i.toNat 0
def CoreM.set(c:CoreM)(i:Int)(v:Nat):CoreM:={c with r:=c.r.set i.toNat v}
def CoreM.at(c:CoreM)(pc:Int):CoreM:={c with pc:=pc}
def Bj:Nat:=4294967296
def Fz(c:CoreM)(i:In)(self:Nat):CoreM :=
 if i.op≥16∨i.op=13 then c
 else if i.op=1 then (c.set i.d i.k.toNat).at (c.pc+1)
 else if i.op=2 then (c.set i.d (c.get i.s)).at (c.pc+1)
 else if i.op=3 then (c.set i.d ((c.get i.s+i.k.toNat)%Bj)).at (c.pc+1)
 else if i.op=4 then (c.set i.d (Nat.land (c.get i.s) i.k.toNat)).at (c.pc+1)
 else if i.op=5 then (c.set i.d (c.get i.s*2 ^ i.k.toNat%Bj)).at (c.pc+1)
 else if i.op=6 then (c.set i.d (c.get i.s/2 ^ i.k.toNat)).at (c.pc+1)
 else if i.op=7 then (c.set i.d (Nat.lor (c.get i.s) (c.get i.t))).at (c.pc+1)
 else if i.op=8 then c.at (if c.get i.s=c.get i.t then i.q else c.pc+1)
 else if i.op=9 then c.at (if c.get i.s=c.get i.t then c.pc+1 else i.q)
 else if i.op=10 then c.at i.q
 else if i.op=11 then (c.set i.d self).at (c.pc+1)
 else c.at (c.pc+1)
def runM(code:List In)(self:Nat):Nat→CoreM→List Int→CoreM×List Int×Int×Int
 |0,c,ms=>(c,ms,-1,11)
 |n+1,c,ms =>
  if c.pc<0∨c.pc≥code.length then (c,ms,-1,11) else
  if (code.getD c.pc.toNat In.zero).op≥16 then (c,ms,-1,0)
  else if n=0 then (c,ms,-1,11)
  else if (code.getD c.pc.toNat In.zero).op=13 then (c,ms,(code.getD c.pc.toNat In.zero).k,0)
  else runM code self n (Fz c (code.getD c.pc.toNat In.zero) self) (if (code.getD c.pc.toNat In.zero).op=12 then ms++[(code.getD c.pc.toNat In.zero).k] else ms)
structure FP where
 each:Nat
 free:List (List Nat)
 gen:List Nat
 out:List Nat
deriving DecidableEq
def FP.new(n each:Nat):FP:=⟨each,(List.range n).map fun t=>(List.range each).map fun i=>t*each+i+1,List.replicate (n*each) 0,List.replicate (n*each) 0⟩
def FP.handle(p:FP)(n:Nat):Nat:=p.gen.getD (n-1) 0*4096+n
def FP.take(p:FP)(t:Nat):FP×Nat :=
 match p.free.getD t []with
 |[]=>(p,0)
 |n::l=>({p with free:=p.free.set t l,out:=p.out.set (n-1) 1},p.handle n)
def FP.back(p:FP)(h:Nat):Option FP :=
 if h=0 then some p
 else if 1≤h%4096∧h%4096≤p.out.length∧p.out.getD (h%4096-1) 0=1∧p.handle (h%4096)=h then
  some {p with
   out:=p.out.set (h%4096-1) 0
   gen:=p.gen.set (h%4096-1) ((h/4096%262144+1)%262144)
   free:=p.free.set ((h%4096-1)/p.each) (p.free.getD ((h%4096-1)/p.each) []++[h%4096])}
 else none
def FP.many(p:FP)(t:Nat):Int:=if t<p.free.length then (p.each:Int)-(p.free.getD t []).length else 0
structure AG where
 pg:Pg
 cells:List (Nat×Nat)
 words:List Nat
 VI:FP
 AP:List CoreM
structure Ex where
 marks:List Int
 done:Int
 addr:Int
 wrote:Nat
 stay:Nat
 e:Int
deriving DecidableEq
def B9:Nat→List Nat→List (Nat×Nat)
 |_,[]=>[]
 |a,s::r=>(List.range s).map (fun i=>(a,i))++B9 (a+1) r
def AL(sizes:List Nat):List (Nat×Nat):=B9 0 sizes
def CY(a:Int)(p:Nat):Nat→List (Nat×Nat)→Option Nat
 |_,[]=>none
 |k,c::r=>if (c.1:Int)=a∧c.2=p then some k else CY a p (k+1) r
def AG.new(pg:Pg)(sizes init:List Nat)(n each:Nat)(r7:List Nat):AG :=
 ⟨pg,AL sizes,init,FP.new n each,r7.map fun v=>⟨[0,0,0,0,0,0,0,v],0⟩⟩
def AG.core(x:AG)(t:Nat):CoreM:=x.AP.getD t ⟨[],0⟩
def AG.go(x:AG)(t:Nat)(c:CoreM)(addr:Int)(wrote:Nat):AG×Ex :=
 let r:=runM x.pg.l t 257 c []
 ({x with AP:=x.AP.set t r.1},⟨r.2.1,r.2.2.1,addr,wrote,0,r.2.2.2⟩)
def AG.begin(x:AG)(t:Nat)(unlock:Bool):AG×Ex :=
 x.go t ((x.core t).at (if unlock=true then x.pg.unlock else x.pg.lock)) (-1) 0
def HE(i:In)(c:CoreM)(was:Nat)(late:Bool):Option Nat×CoreM×Bool :=
 if i.op=16 then (none,(c.set i.d was).at (c.pc+1),false)
 else if i.op=17 then (some (c.get i.t),c.at (c.pc+1),false)
 else if i.op=18 then (some (c.get i.t),(c.set i.d was).at (c.pc+1),false)
 else if i.op=19 then
  if was=c.get i.t then (some (c.get i.u),(c.set i.d 1).at (c.pc+1),false) else (none,(c.set i.d 0).at (c.pc+1),false)
 else if i.op=20 then (some ((was+i.k.toNat)%Bj),(c.set i.d was).at (c.pc+1),false)
 else if i.op=21 then
  if (if i.k=1 then decide (was≠c.get i.t) else decide (was=c.get i.t))=true then (none,(c.set i.d was).at (c.pc+1),false)
  else if late=false∨i.q<0 then (none,c.set i.d was,true)
  else (none,(c.set i.d was).at i.q,false)
 else (none,c.at (c.pc+1),false)
def E9:Ex:=⟨[],-1,-1,0,0,11⟩
def AG.step(x:AG)(t:Nat)(late:Bool):AG×Ex :=
 let c:=x.core t
 if c.pc<0∨c.pc≥x.pg.l.length then (x,E9) else
 let i:=x.pg.l.getD c.pc.toNat In.zero
 if i.op<16 then (x,E9)
 else if i.op=22 then
  let p:=x.VI.take t
  ({x with VI:=p.1}).go t ((c.set i.d p.2).at (c.pc+1)) (-1) 0
 else if i.op=23 then
  match x.VI.back (c.get i.s) with
  |none=>(x,E9)
  |some p=>({x with VI:=p}).go t (c.at (c.pc+1)) (-1) 0
 else
  match CY i.a (c.get i.s%4096) 0 x.cells with
  |none=>(x,E9)
  |some a =>
   let r:=HE i c (x.words.getD a 0) late
   let x1:=match r.1 with
    |none=>x
    |some v=>{x with words:=x.words.set a v}
   let wrote:=match r.1 with
    |none=>0
    |some _=>1
   if r.2.2=true then ({x1 with AP:=x1.AP.set t r.2.1},⟨[],-1,a,wrote,1,0⟩)
   else x1.go t r.2.1 a wrote
structure AQ where
 x:AG
 act:List Nat
 l:List DZ
 bad:Bool
def FN(k:Int):Nat:=[0,2,3,4,9].getD k.toNat 0
def JI(done:Int):Option (Nat×Nat):=if done=0 then some (6,0) else if done=1 then some (5,2) else if done=2 then some (10,0) else if done=3 then some (7,0) else none
def Kz(act:Nat)(o:Ex):Bool:=decide (o.e≠0)||(decide (o.done≥0)&&(decide (o.done=2) != decide (act=3)))
def AQ.EK(r:AQ)(t:Nat)(o:Ex):AQ :=
 let l:=r.l++o.marks.map (fun k=>(FN k,t))
 if Kz (r.act.getD t 0) o=true then {r with l:=l,bad:=true}
 else match JI o.done with
  |none=>{r with l:=l}
  |some p=>{r with l:=l++[(p.1,t)],act:=r.act.set t p.2}
def AQ.op(r:AQ)(kind t late:Int):AQ :=
 if t<0∨t≥r.act.length∨r.bad=true then r
 else if kind=1∧r.act.getD t.toNat 0=0 then
  let s:=r.x.begin t.toNat false
  ({r with x:=s.1,act:=r.act.set t.toNat 1,l:=r.l++[(1,t.toNat)]}:AQ).EK t.toNat s.2
 else if kind=2∧r.act.getD t.toNat 0=2 then
  let s:=r.x.begin t.toNat true
  ({r with x:=s.1,act:=r.act.set t.toNat 3,l:=r.l++[(8,t.toNat)]}:AQ).EK t.toNat s.2
 else if kind≠1∧kind≠2∧(r.act.getD t.toNat 0=1∨r.act.getD t.toNat 0=3) then
  let s:=r.x.step t.toNat (decide (late≠0))
  ({r with x:=s.1}:AQ).EK t.toNat s.2
 else r
def AQ.new(x:AG)(n:Nat):AQ:=⟨x,List.replicate n 0,[],false⟩
def AQ.ops(r:AQ)(l:List (Int×Int×Int)):AQ:=l.foldl (fun r o=>r.op o.1 o.2.1 o.2.2) r
def AQ.JD(r:AQ)(n:Nat):Bool:=!r.bad&&decide (Cj n r.l=r.l.length)
structure EC where
 r:AQ
 left:List Nat
 EV:Nat
 busy:Bool
def EC.EH(v:EC)(t:Nat):EC :=
 let d:=v.r.act.getD t 0
 let v1:EC:=if d=0∧v.left.getD t 0 > 0 then {v with left:=v.left.set t (v.left.getD t 0-1),r:=v.r.op 1 t 0}
  else if d=2 then {v with EV:=v.EV+1,r:=v.r.op 2 t 0}
  else {v with r:=v.r.op 3 t 0}
 {v1 with busy:=v1.busy||decide (v1.r.act.getD t 0≠0)||decide (v1.left.getD t 0 > 0)}
def EC.round(n:Nat)(v:EC):EC:=(List.range n).foldl EC.EH {v with busy:=false}
def EC.rounds(n:Nat):Nat→EC→EC
 |0,v=>v
 |k+1,v=>let v1:=v.round n;if v1.busy=false∨v1.r.bad=true then v1 else v1.rounds n k
def Dq(x:AG)(n calls:Nat):Bool :=
 let v:=EC.rounds n (100*(n+1)*(calls+1)) ⟨AQ.new x n,List.replicate n calls,0,true⟩
 !v.r.bad&&decide (v.EV=n*calls)&&decide (Cj n v.r.l=v.r.l.length)
def Dw(v:AQ×Bool)(t:Nat):AQ×Bool :=
 let r:=if v.1.act.getD t 0=2 then v.1.op 2 t 0 else v.1.op 3 t 0
 (r,v.2||decide (r.act.getD t 0≠0))
def Gr(r:AQ):AQ×Bool:=(List.range r.act.length).foldl Dw (r,false)
def IY:Nat→AQ→AQ×Bool
 |0,r=>(r,false)
 |k+1,r=>let v:=Gr r;if v.2=false then (v.1,true) else IY k v.1
def BS:Nat→AQ→Nat→AQ
 |0,r,_=>r
 |k+1,r,t=>BS k (r.op 3 t 0) t
def Ci(x:AG)(each n:Nat)(l:List (Int×Int×Int))(t lock unlock:Nat):Bool :=
 let v:=IY 5000 ((AQ.new x n).ops l)
 if v.2=false∨v.1.bad=true then false else
 let none:=decide (each > 0)&&decide (v.1.x.VI.many t=each)
 let r:=BS lock (v.1.op 1 t 0) t
 if none=true then !r.bad&&decide (r.act.getD t 0=0)&&decide ((r.l.getLastD (0,0)).1=7)
 else if r.act.getD t 0≠2 then false
 else
  let q:=BS unlock (r.op 2 t 0) t
  !q.bad&&decide (q.act.getD t 0=0)&&decide (Cj n q.l=q.l.length)
end
section
open Go.RowKit Go.Proofs.YtjjpiefgdggghaaGreatDoorW.PrintWords
theorem Tj(s:ByteArray)(i:Nat)(h:128≤(s.get! i).toNat):128≤(Utf8.decode s i).1:=by
 have e:(s.get! (i+0)).toNat=(s.get! i).toNat:=rfl;unfold Utf8.decode;simp only[e];rw[if_neg (by omega)];split
 ·split
  ·simpa using ‹_›
  ·simp[Utf8.runeError]
 ·split
  ·split
   ·rename_i h2
    simp only[Bool.and_eq_true,decide_eq_true_eq]at h2;have:=h2.1;dsimp only;omega
   ·simp[Utf8.runeError]
  ·split
   ·split
    ·rename_i h2
     simp only[Bool.and_eq_true,decide_eq_true_eq]at h2;have:=h2.1;dsimp only;omega
    ·simp[Utf8.runeError]
   ·simp[Utf8.runeError]
theorem Y5(l:List UInt8)(k:Nat)(h:k<l.length):(⟨l.toArray⟩:ByteArray).get! k=l.getD k 0:=by
 simp[ByteArray.get!,List.getD_eq_getElem?_getD,List.getElem?_eq_getElem h,h]
theorem M0{P:Program}(w:World)(s:ByteArray)(pos:Nat)(ty:TypeId)(h:pos<s.size) :
  (Instr.next (.pointer (some ⟨w.heap.size,0,none⟩)) true ty).run P (w.iter s pos) =
   .ok (.tuple #[.bool true,.int .i64 pos,.int .i32 (Utf8.decode s pos).1]) (w.iter s (pos+(Utf8.decode s pos).2)):=by
 simp only[Instr.next,getObj,setObj,Sem.run_bind,Sem.run,World.iter_heap,Result.andThen,h,if_true,World.iter_set];simp[goInt,Sem.run,World.iter_heap,World.iter_set]
def posOf(g:Nat)(W:World):Nat:=match W.heap[g]? with
 |some (.stringIter _ p)=>p
 |_=>0
theorem GB(w:World)(s:ByteArray)(p:Nat):posOf w.heap.size (w.iter s p)=p:=by
 unfold posOf;rw[World.iter_heap]
def Tk(l:List UInt8)(k:Nat):Prop:=(∀ j,j<k→(EN (l.getD j 0)||M1 (l.getD j 0))=true)∧(0<k→EN (l.getD 0 0)=true)
theorem Pt{l:List UInt8}(h:Tk l l.length)(hn:0<l.length):EN (l.headD 0)=true∧l.all (fun c=>EN c||M1 c)=true:=by
 refine⟨?_,?_⟩
 ·have:=h.2 hn;cases l with
  |nil=>simp at hn
  |cons c r=>exact this
 ·rw[List.all_eq_true];intro c hc;obtain⟨j,hj,rfl⟩:=List.mem_iff_getElem.1 hc;have:=h.1 j hj
  rwa [show l.getD j 0=l[j] by simp[List.getD_eq_getElem?_getD,List.getElem?_eq_getElem hj]]at this
theorem MY{l:List UInt8}{k:Nat}(h:Tk l k)(hk:(EN (l.getD k 0)||M1 (l.getD k 0))=true)(h0:k=0→EN (l.getD 0 0)=true):Tk l (k+1):=by
 refine⟨fun j hj=>?_,fun _=>?_⟩
 ·by_cases e:j=k
  ·rw[e];exact hk
  ·exact h.1 j (by omega)
 ·by_cases e:k=0
  ·exact h0 e
  ·exact h.2 (by omega)
theorem Jw{l:List UInt8}{k:Nat}(hk:k<l.length)(h:(EN (l.getD k 0)||M1 (l.getD k 0))=false):Cp l=false:=by
 have:l.all (fun c=>EN c||M1 c)=false:=by
  rw[List.all_eq_false];exact⟨l.getD k 0,by rw[show l.getD k 0=l[k] by simp[List.getD_eq_getElem?_getD,List.getElem?_eq_getElem hk]];exact List.getElem_mem hk,by simpa using h⟩
 unfold Cp;rw[this];simp
theorem Lt{l:List UInt8}(hk:0<l.length)(h:EN (l.getD 0 0)=false):Cp l=false:=by
 have:EN (l.headD 0)=false:=by
  cases l with
  |nil=>simp at hk
  |cons c r=>exact h
 unfold Cp;rw[this];simp
theorem FA(l:List UInt8)(w:World)(hl:l.length≤1000000) :
  Calls Tryz.prog 97 #[.string ⟨l.toArray⟩] w fun e w'=>e=.returned (.bool (Cp l))∧Below w.heap.size w w':=by
 have hsz:(⟨l.toArray⟩:ByteArray).size=l.length:=by simp[ByteArray.size]
 obtain⟨r,hr⟩:∃ r,Cp l=r:=⟨_,rfl⟩
 rw[hr];replace hr:=Az hr;go_enter Tryz.func97,Tryz.ntmps97;go_wp2;go_loopw [3,4] (fun v3 v4 wr=>∃ pos,pos≤l.length∧wr=w.iter ⟨l.toArray⟩ pos∧Af (Tk l pos)) (fun _ _ wr=>l.length-posOf w.heap.size wr)
 case atStart=>exact⟨0,Nat.zero_le _,rfl,⟨fun j hj=>by omega,fun h=>by omega⟩⟩
 case round =>
  obtain⟨pos,hp,rfl,hok⟩:=hrel;have hB:Below w.heap.size w (w.iter ⟨l.toArray⟩ pos):=(Below.refl _ w).alloc (Nl _) _;by_cases hlt:pos<l.length
  ·have hnx:=fun ty=>M0 (P:=Tryz.prog) w ⟨l.toArray⟩ pos ty (by rw[hsz];exact hlt)
   have hg:=Y5 l pos hlt;have hb:=(l.getD pos 0).toNat_lt;by_cases ha:(l.getD pos 0).toNat<128
   ·have hd:Utf8.decode ⟨l.toArray⟩ pos=((l.getD pos 0).toNat,1):=by
     rw[decode_ascii ⟨l.toArray⟩ pos (by rw[hsz];exact hlt) (by
      have:(⟨l.toArray⟩:ByteArray)[pos]'(by rw[hsz];exact hlt)=l.getD pos 0:=by
       simp[List.getD_eq_getElem?_getD,List.getElem?_eq_getElem hlt];rfl
      rw[this];exact ha)]
     congr 2
     simp[List.getD_eq_getElem?_getD,List.getElem?_eq_getElem hlt];rfl
    simp only[hd]at hnx;have hlow:EN (l.getD pos 0)=decide (97≤(l.getD pos 0).toNat∧(l.getD pos 0).toNat≤122):=rfl;have hdig:M1 (l.getD pos 0)=decide (48≤(l.getD pos 0).toNat∧(l.getD pos 0).toNat≤57):=rfl;have hB2:Below w.heap.size w (w.iter ⟨l.toArray⟩ (pos+1)):=(Below.refl _ w).alloc (Nl _) _;have hstep:=fun h h0=>MY (l:=l) hok.out h h0
    have hbad:=fun h=>Jw (l:=l) hlt h
    have hbad0:pos=0→EN (l.getD pos 0)=false→Cp l=false:=fun e h=>Lt (by omega) (by rw[e]at h;exact h)
    have hz:pos=0→EN (l.getD pos 0)=true→EN (l.getD 0 0)=true:=fun e h=>by rw[e]at h;exact h
    rw[hlow,hdig]at hstep hbad;rw[hlow]at hbad0 hz;clear hg hd hlow hdig;generalize (l.getD pos 0).toNat=b at *;by_cases c1:b<97
    ·have r1:decide ((b:Int)<97)=true:=decide_eq_true (by omega);by_cases h0:pos=0
     ·obtain rfl:r=false:=by rw[←hr.out,hbad0 h0 (decide_eq_false (by omega))]
      subst h0;clear hstep hbad hbad0 hz hok;go_wp2;go_ret;exact⟨rfl,hB2⟩
     ·have q0:((pos:Int)==0)=false:=Bq (by omega);by_cases c3:b<48
      ·have r3:decide ((b:Int)<48)=true:=decide_eq_true (by omega);obtain rfl:r=false:=by rw[←hr.out,hbad (by rw[decide_eq_false (by omega),decide_eq_false (by omega)];rfl)]
       go_wp2;go_ret;exact⟨rfl,hB2⟩
      ·have r3:decide ((b:Int)<48)=false:=decide_eq_false (by omega);by_cases c4:57<b
       ·have r4:decide (57<(b:Int))=true:=decide_eq_true (by omega);obtain rfl:r=false:=by rw[←hr.out,hbad (by rw[decide_eq_false (by omega),decide_eq_false (by omega)];rfl)]
        go_wp2;go_ret;exact⟨rfl,hB2⟩
       ·have r4:decide (57<(b:Int))=false:=decide_eq_false (by omega);have hok':=Az (hstep (by rw[decide_eq_false (by omega),decide_eq_true (by omega)];rfl) (fun e=>absurd e h0));clear hstep hbad hbad0 hz hok;go_wp2;go_roundw
        case rel=>exact⟨pos+1,by omega,rfl,hok'⟩
        case measure=>rw[GB,GB];omega
    ·have r1:decide ((b:Int)<97)=false:=decide_eq_false (by omega);by_cases c2:122<b
     ·have r2:decide (122<(b:Int))=true:=decide_eq_true (by omega);have r3:decide ((b:Int)<48)=false:=decide_eq_false (by omega);have r4:decide (57<(b:Int))=true:=decide_eq_true (by omega);obtain rfl:r=false:=by rw[←hr.out,hbad (by rw[decide_eq_false (by omega),decide_eq_false (by omega)];rfl)]
      by_cases h0:pos=0
      ·subst h0;clear hstep hbad hbad0 hz hok;go_wp2;go_ret;exact⟨rfl,hB2⟩
      ·have q0:((pos:Int)==0)=false:=Bq (by omega);go_wp2;go_ret;exact⟨rfl,hB2⟩
     ·have r2:decide (122<(b:Int))=false:=decide_eq_false (by omega);have hl':decide (97≤b∧b≤122)=true:=decide_eq_true (by omega);have hok':=Az (hstep (by rw[hl'];rfl) (fun e=>hz e hl'));clear hstep hbad hbad0 hz hok;go_wp2;go_roundw
      case rel=>exact⟨pos+1,by omega,rfl,hok'⟩
      case measure=>rw[GB,GB];omega
   ·have hd:=Tj ⟨l.toArray⟩ pos (by rw[hg];omega);have hbad:=Jw hlt (show(EN (l.getD pos 0)||M1 (l.getD pos 0))=false by unfold EN M1;rw[decide_eq_false (by omega),decide_eq_false (by omega)];rfl);generalize (Utf8.decode ⟨l.toArray⟩ pos).1=R at hnx hd;generalize (Utf8.decode ⟨l.toArray⟩ pos).2=sz at hnx;have hB2:Below w.heap.size w (w.iter ⟨l.toArray⟩ (pos+sz)):=(Below.refl _ w).alloc (Nl _) _;have r1:decide ((R:Int)<97)=false:=decide_eq_false (by omega);have r2:decide (122<(R:Int))=true:=decide_eq_true (by omega);have r3:decide ((R:Int)<48)=false:=decide_eq_false (by omega);have r4:decide (57<(R:Int))=true:=decide_eq_true (by omega);obtain rfl:r=false:=by rw[←hr.out,hbad]
    clear hg hb ha hbad hd;by_cases h0:pos=0
    ·subst h0;go_wp2;go_ret;exact⟨rfl,by simpa using hB2⟩
    ·have q0:((pos:Int)==0)=false:=Bq (by omega);go_wp2;go_ret;exact⟨rfl,hB2⟩
  ·obtain rfl:pos=l.length:=by omega
   have hnx:=fun ty=>run_next_end (P:=Tryz.prog) w ⟨l.toArray⟩ l.length ty (by rw[hsz];omega)
   have hr':=hr.out;by_cases h1:1≤l.length
   ·obtain⟨ha,hb⟩:=Pt hok.out (by omega);have g1:decide (1≤(l.length:Int))=true:=decide_eq_true (by omega);by_cases h2:l.length≤16
    ·have g2:decide ((l.length:Int)≤16)=true:=decide_eq_true (by omega);obtain rfl:r=true:=by rw[←hr'];unfold Cp;rw[ha,hb,decide_eq_true ⟨h1,h2⟩];rfl
     clear hr hr' ha hb hok;go_wp2;exact bodyPost_ret (fn:=Tryz.f97) (results_tmp rfl _ _ _) rfl ⟨rfl,hB⟩
    ·have g2:decide ((l.length:Int)≤16)=false:=decide_eq_false (by omega);obtain rfl:r=false:=by rw[←hr'];unfold Cp;rw[decide_eq_false (fun h=>h2 h.2)];rfl
     clear hr hr' ha hb hok;go_wp2;go_ret;exact⟨by first |rfl |(simp;omega),hB⟩
   ·have g1:decide (1≤(l.length:Int))=false:=decide_eq_false (by omega);obtain rfl:r=false:=by rw[←hr'];unfold Cp;rw[decide_eq_false (fun h=>h1 h.1)];rfl
    clear hr hr' hok;go_wp2;go_ret;exact⟨by first |rfl |(simp;omega),hB⟩
end
section
open Go.RowKit Go.Shelf Go.Proofs.YtjjpiefgdggghaaGreatDoorW.PrintWords
attribute [local go_sem] Oper.semAt_some
theorem Lr:Bm []=[]:=rfl
theorem JY:∀ (l:List UInt8),l≠[]→Lib.indexByte l 10 = -1→Bm l=[l]
 |[],h,_=>absurd rfl h
 |b::l,_,h=>by
  unfold Lib.indexByte at h;by_cases hb:b=10
  ·subst hb;simp at h
  ·have hb':(b==10)=false:=Bq hb;rw[hb']at h;simp only[Bool.false_eq_true,if_false]at h;have hge:=Lib.indexByte_ge l 10;by_cases hm:Lib.indexByte l 10 = -1
   ·cases l with
    |nil=>rw[Bm,if_neg hb];rfl
    |cons c r=>rw[Bm,if_neg hb,JY (c::r) (by simp) hm]
   ·rw[if_neg (by rw[beq_iff_eq];exact hm)]at h;omega
theorem Ls:∀ (l:List UInt8) (i:Nat),Lib.indexByte l 10=i→Bm l=l.take (i+1)::Bm (l.drop (i+1))
 |[],i,h=>by simp[Lib.indexByte]at h
 |b::l,i,h=>by
  unfold Lib.indexByte at h;by_cases hb:b=10
  ·subst hb;simp at h;obtain rfl:i=0:=by omega
   rw[Bm,if_pos rfl];rfl
  ·have hb':(b==10)=false:=Bq hb;rw[hb']at h;simp only[Bool.false_eq_true,if_false]at h;have hge:=Lib.indexByte_ge l 10;by_cases hm:Lib.indexByte l 10 = -1
   ·rw[hm]at h;simp at h
   ·rw[if_neg (by rw[beq_iff_eq];exact hm)]at h;obtain⟨j,rfl⟩:∃ j,i=j+1:=⟨i-1,by omega⟩
    rw[Bm,if_neg hb,Ls l j (by omega)];simp
theorem II:∀ (l:List UInt8) (i:Nat),Lib.indexByte l 10=i→i<l.length
 |[],i,h=>by simp[Lib.indexByte]at h
 |b::l,i,h=>by
  unfold Lib.indexByte at h;by_cases hb:(b==10)=true
  ·rw[if_pos hb]at h;simp;omega
  ·rw[if_neg hb]at h;have hge:=Lib.indexByte_ge l 10;by_cases hm:Lib.indexByte l 10 = -1
   ·rw[hm]at h;simp at h
   ·rw[if_neg (by rw[beq_iff_eq];exact hm)]at h;have:=II l (i-1) (by omega);simp;omega
def NR(c:Nat)(W:World):Nat:=match W.cell? ⟨c,0,none⟩ with
 |some (.string s)=>s.size
 |_=>0
theorem GA{c:Nat}{W:World}{l:List UInt8}(h:W.cell? ⟨c,0,none⟩=some (.string ⟨l.toArray⟩)):NR c W=l.length:=by
 unfold NR;rw[h];simp[ByteArray.size]
theorem Qo(n:Nat)(t:List UInt8)(c:Nat)(w:World)(ht:t.length≤1000000)(hc:w.heap[c]?=some (.cells #[.string ⟨t.toArray⟩] 9 (0,0))) :
  OL Fence.wide n Tryz.prog 94 #[.pointer (some ⟨c,0,none⟩)] (fun x:List UInt8=>Value.string ⟨x.toArray⟩) c (fun xs=>xs=Bm t) (fun pre=>∃ rest,Bm t=pre++rest) w:=by
 intro l J Jx W hW hJ hJx hY h0;have hcW:W.heap[c]?=some (.cells #[.string ⟨t.toArray⟩] 9 (0,0)):=Bk hW hc;refine callsIn_of_wp Tryz.func94 rfl trivial ?_ rfl;simp only[Tryz.ntmps94,List.size_toArray,List.length_cons,List.length_nil,Nat.reduceAdd,Nat.reduceSub,Array.replicate_succ,Array.replicate_zero,List.push_toArray,List.append_toArray,List.nil_append,List.cons_append]
 gi_wp2
 gi_loopw [3,4] (fun v3 v4 wr=>∃ (pre:List (List UInt8)) (rest:List UInt8),Bm t=pre++Bm rest∧rest.length≤1000000∧wr.heap[c]?=some (.cells #[.string ⟨rest.toArray⟩] 9 (0,0))∧J pre wr)
  (fun _ _ wr=>NR c wr)
 case atStart=>exact⟨[],t,rfl,ht,hcW,h0⟩
 case round =>
  obtain⟨pre,rest,hp,hr,hcr,hJr⟩:=hrel;have c0:wr.cell? ⟨c,0,none⟩=some (.string ⟨rest.toArray⟩):=(Bc hcr 0).trans rfl;have f0:=Bf hcr 0;have z0:c<wr.heap.size:=Bl hcr;have C:=Az (Tryz.strings_IndexByte ⟨rest.toArray⟩ 10 wr);by_cases hn:rest=[]
  ·subst hn
   gi_wp2
   go_end0
   exact⟨⟨_,rfl⟩,.inl (by simpa [hp,Lr]using hJr)⟩
  ·have hpos:0<rest.length:=List.length_pos_iff.2 hn;have hsz:(⟨rest.toArray⟩:ByteArray).size=rest.length:=by simp[ByteArray.size]
   have hge:=Lib.indexByte_ge rest 10;by_cases hm:Lib.indexByte rest 10 = -1
   ·have hl:=JY rest hn hm;have C':=C.out;rw[show Lib.indexByte (⟨rest.toArray⟩:ByteArray).data.toList (10:Int).toNat.toUInt8 = -1 from hm]at C';replace C':=Az C';clear C;have hs':(wr.setCell ⟨c,0,none⟩ (.string ⟨#[]⟩)).heap[c]?=some (.cells #[.string ⟨#[]⟩] 9 (0,0)):=Bs hcr 0 (.string ⟨#[]⟩);obtain⟨fn,tmps,assign,body,hy,hR⟩:=hY pre rest (wr.setCell ⟨c,0,none⟩ (.string ⟨#[]⟩)) ⟨[],by rw[hp,hl,List.append_nil]⟩ (hJ.cell _ _ _ hJr)
    gi_wp2
    refine⟨trivial,fun h=>by simp[Fence.wide]at h,?_⟩;refine CallsIn.mono (callsIn_wide.2 C'.out) ?_;rintro e w' ⟨rfl,rfl⟩
    gi_wp2
    refine⟨fun h=>by simp[Fence.wide]at h,hR.mono ?_⟩;rintro e W3 (⟨rfl,hJ3,hk3⟩ |⟨rfl,hJx3⟩)
    ·gi_wp2
     go_roundw
     case rel=>exact⟨pre++[rest],[],by rw[hp,hl,Lr,List.append_nil],by simp,hk3.trans hs',hJ3⟩
     case measure=>rw[GA (l:=[]) ((Bc (hk3.trans hs') 0).trans rfl),GA c0];exact hpos
    ·gi_wp2
     refine bodyPost_ret (results_none rfl _ _ _) rfl ?_;exact⟨⟨_,rfl⟩,.inr ⟨pre++[rest],⟨[],by rw[hp,hl,List.append_nil]⟩,hJx3⟩⟩
   ·obtain⟨i,hi⟩:∃ i:Nat,Lib.indexByte rest 10=i:=⟨(Lib.indexByte rest 10).toNat,by omega⟩
    have hl:=Ls rest i hi;have hlt:=II rest i hi;have C':=C.out;rw[show Lib.indexByte (⟨rest.toArray⟩:ByteArray).data.toList (10:Int).toNat.toUInt8=i from hi]at C';replace C':=Az C';clear C;have hw1:IntKind.i64.wrap ((i:Int)+1)=(i:Int)+1:=by rw[IntKind.wrap_i64];omega
    have et:(⟨rest.toArray⟩:ByteArray).extract 0 (i+1)=⟨(rest.take (i+1)).toArray⟩:=by rw[Ea];simp
    have ed:(⟨rest.toArray⟩:ByteArray).extract (i+1) rest.length=⟨(rest.drop (i+1)).toArray⟩:=by rw[Ea,List.take_of_length_le (by rw[List.length_drop];omega)]
    gi_wp2
    refine⟨trivial,fun h=>by simp[Fence.wide]at h,?_⟩;refine CallsIn.mono (callsIn_wide.2 C'.out) ?_;rintro e w' ⟨rfl,rfl⟩
    gi_wp2
    gi_region
    have hs':((w'.setCell ⟨c,0,none⟩ (.string ⟨(rest.drop (i+1)).toArray⟩)).drew).heap[c]?=some (.cells #[.string ⟨(rest.drop (i+1)).toArray⟩] 9 (0,0)):=Be (Bs hcr 0 (.string ⟨(rest.drop (i+1)).toArray⟩));obtain⟨fn,tmps,assign,body,hy,hR⟩:=hY pre (rest.take (i+1)) ((w'.setCell ⟨c,0,none⟩ (.string ⟨(rest.drop (i+1)).toArray⟩)).drew) ⟨Bm (rest.drop (i+1)),by rw[hp,hl];simp⟩ (hJ.below _ _ _ (hJ.cell _ _ _ hJr) (Bd (Below.refl _ _)))
    gi_wp2
    refine⟨fun h=>by simp[Fence.wide]at h,hR.mono ?_⟩;rintro e W3 (⟨rfl,hJ3,hk3⟩ |⟨rfl,hJx3⟩)
    ·gi_wp2
     go_roundw
     case rel=>exact⟨pre++[rest.take (i+1)],rest.drop (i+1),by rw[hp,hl];simp,by rw[List.length_drop];omega,hk3.trans hs',hJ3⟩
     case measure=>rw[GA (l:=rest.drop (i+1)) ((Bc (hk3.trans hs') 0).trans rfl),GA c0,List.length_drop];omega
    ·gi_wp2
     refine bodyPost_ret (results_none rfl _ _ _) rfl ?_;exact⟨⟨_,rfl⟩,.inr ⟨pre++[rest.take (i+1)],⟨Bm (rest.drop (i+1)),by rw[hp,hl];simp⟩,hJx3⟩⟩
end
section
open Go Go.Lib

end
section
def V4(pg:Pg)(words:List Nat)(t:Nat)(c:CoreM)(addr:Int)(wrote:Nat):List Nat×CoreM×Ex :=
 let r:=runM pg.l t 257 c []
 (words,r.1,⟨r.2.1,r.2.2.1,addr,wrote,0,r.2.2.2⟩)
def Jd(pg:Pg)(cells:List (Nat×Nat))(words:List Nat)(t:Nat)(c:CoreM)(late:Bool):Option (List Nat×CoreM×Ex) :=
 if c.pc<0∨c.pc≥pg.l.length then some (words,c,E9) else
 let i:=pg.l.getD c.pc.toNat In.zero
 if i.op<16 then some (words,c,E9)
 else if i.op=22 then none
 else if i.op=23 then none
 else
  match CY i.a (c.get i.s%4096) 0 cells with
  |none=>some (words,c,E9)
  |some a =>
   let r:=HE i c (words.getD a 0) late
   let w1:=match r.1 with
    |none=>words
    |some v=>words.set a v
   let wrote:=match r.1 with
    |none=>0
    |some _=>1
   if r.2.2=true then some (w1,r.2.1,⟨[],-1,a,wrote,1,0⟩)
   else some (V4 pg w1 t r.2.1 a wrote)
theorem V5{α:Type}(l:List α)(t:Nat)(d:α):l.set t (l.getD t d)=l:=by
 apply List.ext_getElem?
 intro i;rw[List.getElem?_set];by_cases h:t=i
 ·subst h;rw[if_pos rfl];by_cases h2:t<l.length
  ·rw[if_pos h2,List.getD_eq_getElem?_getD,List.getElem?_eq_getElem h2];rfl
  ·rw[if_neg h2,List.getElem?_eq_none (by omega)]
 ·rw[if_neg h]
theorem X0{x:AG}{t:Nat}{late:Bool}{w:List Nat}{c:CoreM}{o:Ex}(h:Jd x.pg x.cells x.words t (x.core t) late=some (w,c,o)) :
  x.step t late=({x with words:=w,AP:=x.AP.set t c},o):=by
 have e:x.AP.set t (x.core t)=x.AP:=V5 x.AP t _;unfold Jd at h;unfold AG.step;by_cases h1:(x.core t).pc<0∨(x.core t).pc≥x.pg.l.length
 ·rw[if_pos h1]at h ⊢;cases h;rw[e]
 ·rw[if_neg h1]at h ⊢;dsimp only at h ⊢;by_cases h2:(x.pg.l.getD (x.core t).pc.toNat In.zero).op<16
  ·rw[if_pos h2]at h ⊢;cases h;rw[e]
  ·rw[if_neg h2]at h ⊢;by_cases h3:(x.pg.l.getD (x.core t).pc.toNat In.zero).op=22
   ·rw[if_pos h3]at h;cases h
   ·rw[if_neg h3]at h ⊢;by_cases h4:(x.pg.l.getD (x.core t).pc.toNat In.zero).op=23
    ·rw[if_pos h4]at h;cases h
    ·rw[if_neg h4]at h ⊢;cases h5:CY (x.pg.l.getD (x.core t).pc.toNat In.zero).a ((x.core t).get (x.pg.l.getD (x.core t).pc.toNat In.zero).s%4096) 0 x.cells with
     |none=>rw[h5]at h;dsimp only at h ⊢;cases h;rw[e]
     |some a =>
      rw[h5]at h;dsimp only at h ⊢;generalize HE (x.pg.l.getD (x.core t).pc.toNat In.zero) (x.core t) (x.words.getD a 0) late=r at h ⊢;by_cases h6:r.2.2=true
      ·rw[if_pos h6]at h ⊢;cases h;cases r.1<;>rfl
      ·rw[if_neg h6]at h ⊢;cases hr:r.1<;>rw[hr]at h<;>cases h<;>rfl
theorem PU{x:AG}{t:Nat}{u:Bool}{w:List Nat}{c:CoreM}{o:Ex}(h:V4 x.pg x.words t ((x.core t).at (if u=true then x.pg.unlock else x.pg.lock)) (-1) 0=(w,c,o)) :
  x.begin t u=({x with words:=w,AP:=x.AP.set t c},o):=by
 unfold V4 at h;unfold AG.begin AG.go;cases h;rfl
def TH(i:In)(c:CoreM)(was:Nat)(late b:Bool):Option Nat×CoreM×Bool :=
 if i.op=16 then (none,(c.set i.d was).at (c.pc+1),false)
 else if i.op=17 then (some (c.get i.t),c.at (c.pc+1),false)
 else if i.op=18 then (some (c.get i.t),(c.set i.d was).at (c.pc+1),false)
 else if i.op=19 then (bif b then (some (c.get i.u),(c.set i.d 1).at (c.pc+1),false) else (none,(c.set i.d 0).at (c.pc+1),false))
 else if i.op=20 then (some ((was+i.k.toNat)%Bj),(c.set i.d was).at (c.pc+1),false)
 else if i.op=21 then
  if (bif decide (i.k=1) then !b else b)=true then (none,(c.set i.d was).at (c.pc+1),false)
  else if late=false∨i.q<0 then (none,c.set i.d was,true)
  else (none,(c.set i.d was).at i.q,false)
 else (none,c.at (c.pc+1),false)
theorem V6(i:In)(c:CoreM)(was:Nat)(late:Bool):HE i c was late=TH i c was late (decide (was=c.get i.t)):=by
 unfold HE TH;by_cases h:was=c.get i.t<;>by_cases hk:i.k=1<;>simp[h,hk]
def PR(pg:Pg)(words:List Nat)(t:Nat)(c:CoreM)(late:Bool)(f:Option Nat)(b:Bool):Option (List Nat×CoreM×Ex) :=
 if c.pc<0∨c.pc≥pg.l.length then some (words,c,E9) else
 let i:=pg.l.getD c.pc.toNat In.zero
 if i.op<16 then some (words,c,E9)
 else if i.op=22 then none
 else if i.op=23 then none
 else
  match f with
  |none=>some (words,c,E9)
  |some a =>
   let r:=TH i c (words.getD a 0) late b
   let w1:=match r.1 with
    |none=>words
    |some v=>words.set a v
   let wrote:=match r.1 with
    |none=>0
    |some _=>1
   if r.2.2=true then some (w1,r.2.1,⟨[],-1,a,wrote,1,0⟩)
   else some (V4 pg w1 t r.2.1 a wrote)
theorem HC{pg:Pg}{cells:List (Nat×Nat)}{words:List Nat}{t:Nat}{c:CoreM}{late:Bool}(a:Nat)(b:Bool)
  (hf:CY (pg.l.getD c.pc.toNat In.zero).a (c.get (pg.l.getD c.pc.toNat In.zero).s%4096) 0 cells=some a)(hb:decide (words.getD a 0=c.get (pg.l.getD c.pc.toNat In.zero).t)=b) :
  Jd pg cells words t c late=PR pg words t c late (some a) b:=by
 unfold Jd PR;dsimp only;rw[hf];simp only[V6,hb]
theorem Iz{a:Int}{p:Nat}:∀ (l r:List (Nat×Nat)) (k:Nat),(∀ c∈l,¬((c.1:Int)=a∧c.2=p))→CY a p k (l++r)=CY a p (k+l.length) r
 |[],r,k,_=>rfl
 |c::l,r,k,h=>by
  rw[List.cons_append,CY,if_neg (h c (List.mem_cons_self ..)),Iz l r (k+1) (fun c hc=>h c (List.mem_cons_of_mem _ hc)),List.length_cons]
  congr 1;omega
theorem Iy{A p:Nat}{k:Nat}:∀ (m:Nat) (r:List (Nat×Nat)),p<m→CY (A:Int) p k ((List.range m).map (fun i=>(A,i))++r)=some (k+p)
 |m+1,r,h=>by
  rw[List.range_succ,List.map_append,List.append_assoc];by_cases e:p=m
  ·subst e;rw[Iz _ _ _ (fun c hc=>by
    obtain⟨i,hi,rfl⟩:=List.mem_map.1 hc;have:=List.mem_range.1 hi;dsimp only;omega)]
   simp[CY]
  ·exact Iy m _ (by omega)
theorem Kk{a:Int}{A p:Nat}{r:List (Nat×Nat)}{k m:Nat}(h:(A:Int)≠a):CY a p k ((List.range m).map (fun i=>(A,i))++r)=CY a p (k+m) r:=by
 rw[Iz _ _ _ (fun c hc=>by
  obtain⟨i,hi,rfl⟩:=List.mem_map.1 hc;dsimp only;omega)]
 simp
theorem Jb{l:List Nat}{i j v:Nat}(h:i<l.length):(l.set i v).getD j 0=if i=j then v else l.getD j 0:=by
 rw[List.getD_eq_getElem?_getD,List.getD_eq_getElem?_getD,List.getElem?_set];by_cases e:i=j
 ·rw[if_pos e,if_pos e,if_pos h];rfl
 ·rw[if_neg e,if_neg e]
structure LS where
 words:List Nat
 core:Nat→CoreM
 act:Nat→Nat
 tr:DC
def LS.EK(s:LS)(t:Nat)(o:Ex):LS :=
 match JI o.done with
 |none=>{s with tr:=o.marks.foldl (fun x k=>x.enter (FN k) t) s.tr}
 |some p=>{s with tr:=(o.marks.foldl (fun x k=>x.enter (FN k) t) s.tr).enter p.1 t,act:=Ay s.act t p.2}
structure BF (n:Nat) (pg:Pg) (cells:List (Nat×Nat)) (r:AQ) (s:LS):Prop where
 pg:r.x.pg=pg
 cells:r.x.cells=cells
 words:r.x.words=s.words
 lc:r.x.AP.length=n
 core:∀ t,t<n→r.x.core t=s.core t
 la:r.act.length=n
 act:∀ t,t<n→r.act.getD t 0=s.act t
 bad:r.bad=false
 tr:DC.of n r.l=s.tr
theorem LL(n t:Nat):∀ (ks:List Int) (l:List DZ),DC.of n (l++ks.map (fun k=>(FN k,t)))=ks.foldl (fun x k=>x.enter (FN k) t) (DC.of n l)
 |[],l=>by simp
 |k::ks,l=>by
  rw[List.map_cons,List.append_cons,LL n t ks,DC.FO];rfl
theorem AZ{α:Type}{f:Nat→α}{t:Nat}{v:α}(h:f t=v):Ay f t v=f:=by
 funext s;unfold Ay;split
 ·rename_i e;rw[e,h]
 ·rfl
theorem LM{l:List Nat}{f:Nat→Nat}{n t v:Nat}(hl:l.length=n)(h:∀ s,s<n→l.getD s 0=f s):∀ s,s<n→(l.set t v).getD s 0=Ay f t v s:=by
 intro s hs;have:=h s hs;rw[List.getD_eq_getElem?_getD]at this ⊢;rw[List.getElem?_set];by_cases e:t=s
 ·subst e;rw[if_pos rfl,if_pos (by omega),Ag];rfl
 ·rw[if_neg e,Au _ _ (fun h=>e h.symm)];exact this
theorem JJ{l:List CoreM}{f:Nat→CoreM}{n t:Nat}{v d:CoreM}(hl:l.length=n)(h:∀ s,s<n→l.getD s d=f s):∀ s,s<n→(l.set t v).getD s d=Ay f t v s:=by
 intro s hs;have:=h s hs;rw[List.getD_eq_getElem?_getD]at this ⊢;rw[List.getElem?_set];by_cases e:t=s
 ·subst e;rw[if_pos rfl,if_pos (by omega),Ag];rfl
 ·rw[if_neg e,Au _ _ (fun h=>e h.symm)];exact this
section
variable {n:Nat} {pg:Pg} {cells:List (Nat×Nat)} {r:AQ} {s:LS} {t:Nat} {late:Int}
theorem BF.EK(h:BF n pg cells r s)(ht:t<n){o:Ex}(hb:Kz (s.act t) o=false):BF n pg cells (r.EK t o) (s.EK t o):=by
 unfold AQ.EK LS.EK;rw[h.act t ht,hb];cases he:JI o.done with
 |none=>exact⟨h.pg,h.cells,h.words,h.lc,h.core,h.la,h.act,h.bad,by
  simp only[Bool.false_eq_true,if_false];rw[LL,h.tr]⟩
 |some p=>exact⟨h.pg,h.cells,h.words,h.lc,h.core,by simp[h.la],LM h.la h.act,h.bad,by
  simp only[Bool.false_eq_true,if_false];rw[DC.FO,LL,h.tr]⟩
theorem BF.ZO(h:BF n pg cells r s){w:List Nat}{c:CoreM}:BF n pg cells {r with x:={r.x with words:=w,AP:=r.x.AP.set t c}} {s with words:=w,core:=Ay s.core t c} :=
 ⟨h.pg,h.cells,rfl,by simp[h.lc],JJ h.lc h.core,h.la,h.act,h.bad,h.tr⟩
theorem BF.step(h:BF n pg cells r s)(ht:t<n)(ha:s.act t=1∨s.act t=3){kind:Int}(h1:kind≠1)(h2:kind≠2){w:List Nat}{c:CoreM}{o:Ex}
  (e:Jd pg cells s.words t (s.core t) (decide (late≠0))=some (w,c,o))(hb:Kz (s.act t) o=false) :
  BF n pg cells (r.op kind t late) (({s with words:=w,core:=Ay s.core t c}:LS).EK t o):=by
 have e':=X0 (x:=r.x) (t:=t) (late:=decide (late≠0)) (by rw[h.pg,h.cells,h.words,h.core t ht];exact e);unfold AQ.op;rw[if_neg (by rw[h.la,h.bad];simp;omega),if_neg (fun x=>h1 x.1),if_neg (fun x=>h2 x.1),if_pos ⟨h1,h2,by rw[Int.toNat_natCast,h.act t ht];exact ha⟩];dsimp only;rw[Int.toNat_natCast,e'];exact BF.EK (s:={s with words:=w,core:=Ay s.core t c}) h.ZO ht hb
theorem BF.call(h:BF n pg cells r s)(ht:t<n)(ha:s.act t=0){w:List Nat}{c:CoreM}{o:Ex}
  (e:V4 pg s.words t ((s.core t).at pg.lock) (-1) 0=(w,c,o))(hb:Kz 1 o=false) :
  BF n pg cells (r.op 1 t late) (({words:=w,core:=Ay s.core t c,act:=Ay s.act t 1,tr:=s.tr.enter 1 t}:LS).EK t o):=by
 have e':=PU (x:=r.x) (t:=t) (u:=false) (w:=w) (c:=c) (o:=o) (by rw[h.words,h.core t ht,if_neg (by decide),h.pg];exact e);unfold AQ.op;rw[if_neg (by rw[h.la,h.bad];simp;omega),if_pos ⟨rfl,by rw[Int.toNat_natCast,h.act t ht];exact ha⟩];dsimp only;rw[Int.toNat_natCast,e'];refine BF.EK (s:={words:=w,core:=Ay s.core t c,act:=Ay s.act t 1,tr:=s.tr.enter 1 t}) ?_ ht (by show Kz (Ay s.act t 1 t) o=false;rw[Ag];exact hb);exact⟨h.pg,h.cells,rfl,by simp[h.lc],JJ h.lc h.core,by simp[h.la],LM h.la h.act,h.bad,by rw[DC.FO,h.tr]⟩
theorem BF.unlock(h:BF n pg cells r s)(ht:t<n)(ha:s.act t=2){w:List Nat}{c:CoreM}{o:Ex}
  (e:V4 pg s.words t ((s.core t).at pg.unlock) (-1) 0=(w,c,o))(hb:Kz 3 o=false) :
  BF n pg cells (r.op 2 t late) (({words:=w,core:=Ay s.core t c,act:=Ay s.act t 3,tr:=s.tr.enter 8 t}:LS).EK t o):=by
 have e':=PU (x:=r.x) (t:=t) (u:=true) (w:=w) (c:=c) (o:=o) (by rw[h.words,h.core t ht,if_pos rfl,h.pg];exact e);unfold AQ.op;rw[if_neg (by rw[h.la,h.bad];simp;omega),if_neg (fun x=>by cases x.1),if_pos ⟨rfl,by rw[Int.toNat_natCast,h.act t ht];exact ha⟩];dsimp only;rw[Int.toNat_natCast,e'];refine BF.EK (s:={words:=w,core:=Ay s.core t c,act:=Ay s.act t 3,tr:=s.tr.enter 8 t}) ?_ ht (by show Kz (Ay s.act t 3 t) o=false;rw[Ag];exact hb);exact⟨h.pg,h.cells,rfl,by simp[h.lc],JJ h.lc h.core,by simp[h.la],LM h.la h.act,h.bad,by rw[DC.FO,h.tr]⟩
theorem BF.new(n:Nat)(pg:Pg)(sizes init:List Nat)(each:Nat)(r7:List Nat)(h:r7.length=n) :
  BF n pg (AL sizes) (AQ.new (AG.new pg sizes init n each r7) n) ⟨init,fun t=>⟨[0,0,0,0,0,0,0,r7.getD t 0],0⟩,fun _=>0,DC.new n⟩:=by
 refine⟨rfl,rfl,rfl,by simp[AQ.new,AG.new,h],fun t ht=>?_,by simp[AQ.new],fun t ht=>by simp[AQ.new,ht],rfl,rfl⟩;simp[AQ.new,AG.new,AG.core,List.getD_eq_getElem?_getD,List.getElem?_eq_getElem (show t<r7.length by omega)]
end
theorem V7{n:Nat}{pg:Pg}{cells:List (Nat×Nat)}{I:LS→Prop}
  (hcall:∀ (r:AQ) (s:LS) (t:Nat) (late:Int),BF n pg cells r s→I s→t<n→s.act t=0→∃ s',BF n pg cells (r.op 1 t late) s'∧I s')
  (hunlock:∀ (r:AQ) (s:LS) (t:Nat) (late:Int),BF n pg cells r s→I s→t<n→s.act t=2→∃ s',BF n pg cells (r.op 2 t late) s'∧I s')
  (hstep:∀ (r:AQ) (s:LS) (t:Nat) (kind late:Int),BF n pg cells r s→I s→t<n→s.act t=1∨s.act t=3→kind≠1→kind≠2→∃ s',BF n pg cells (r.op kind t late) s'∧I s')
  (r:AQ)(s:LS)(h:BF n pg cells r s)(hi:I s)(kind t late:Int):∃ s',BF n pg cells (r.op kind t late) s'∧I s':=by
 by_cases ht:t<0∨t≥r.act.length∨r.bad=true
 ·exact⟨s,by unfold AQ.op;rw[if_pos ht];exact h,hi⟩
 ·obtain⟨k,rfl⟩:∃ k:Nat,t=k:=⟨t.toNat,by omega⟩
  have hk:k<n:=by rw[←h.la];omega
  have ea:=h.act k hk;by_cases h1:kind=1∧s.act k=0
  ·rw[h1.1];exact hcall r s k late h hi hk h1.2
  ·by_cases h2:kind=2∧s.act k=2
   ·rw[h2.1];exact hunlock r s k late h hi hk h2.2
   ·by_cases h3:kind≠1∧kind≠2∧(s.act k=1∨s.act k=3)
    ·exact hstep r s k kind late h hi hk h3.2.2 h3.1 h3.2.1
    ·refine⟨s,?_,hi⟩;unfold AQ.op;rw[if_neg ht,Int.toNat_natCast,ea,if_neg h1,if_neg h2,if_neg h3];exact h
theorem Sm{n:Nat}{pg:Pg}{cells:List (Nat×Nat)}{I:LS→Prop}
  (hop:∀ (r:AQ) (s:LS),BF n pg cells r s→I s→∀ kind t late:Int,∃ s',BF n pg cells (r.op kind t late) s'∧I s') :
  ∀ (l:List (Int×Int×Int)) (r:AQ) (s:LS),BF n pg cells r s→I s→∃ s',BF n pg cells (r.ops l) s'∧I s'
 |[],r,s,h,hi=>⟨s,h,hi⟩
 |o::l,r,s,h,hi=>by
  obtain⟨s',h',hi'⟩:=hop r s h hi o.1 o.2.1 o.2.2;exact Sm hop l _ s' h' hi'
theorem BF.JD{n:Nat}{pg:Pg}{cells:List (Nat×Nat)}{r:AQ}{s:LS}(h:BF n pg cells r s)(h1:1≤n)(h2:n≤64)(ho:s.tr.ok=true):r.JD n=true:=by
 unfold AQ.JD;rw[h.bad,decide_eq_true ((Eb n h1 h2 r.l).2 (by rw[h.tr];exact ho))];rfl
end
end Go.Proofs.YtjjpiefgdggghaaGreatDoor

/- Parts: MachPlain, One, WLast. -/
import Derived.Test.YtnmahobjmpdkdaaGreatDoorQ04
import Derived.Test.YtnmahobjmpdkdaaGreatDoorQ05
import Derived.Test.YtnmahobjmpdkdaaGreatDoorQ02
import Derived.Deep.RegionHeld3
import Derived.OrdersHeld
import Derived.Laws.BitsLemmas
import Derived.RowKit
set_option linter.unusedVariables false
set_option linter.unusedSimpArgs false
set_option maxRecDepth 100000
set_option maxHeartbeats 40000000
namespace Go.Proofs.YtnmahobjmpdkdaaGreatDoor
section
open Go Go.Lib
structure CoreM where
 r:List Nat
 pc:Int
deriving DecidableEq
def CoreM.get(c:CoreM)(i:Int):Nat:=c.r.getD i.toNat 0
def CoreM.set(c:CoreM)(i:Int)(v:Nat):CoreM:={c with r:=c.r.set i.toNat v}
def CoreM.at(c:CoreM)(pc:Int):CoreM:={c with pc:=pc}
def Bn:Nat:=4294967296
def G6(c:CoreM)(i:In)(self:Nat):CoreM :=
 if i.op≥16∨i.op=13 then c
 else if i.op=1 then (c.set i.d i.k.toNat).at (c.pc+1)
 else if i.op=2 then (c.set i.d (c.get i.s)).at (c.pc+1)
 else if i.op=3 then (c.set i.d ((c.get i.s+i.k.toNat)%Bn)).at (c.pc+1)
 else if i.op=4 then (c.set i.d (Nat.land (c.get i.s) i.k.toNat)).at (c.pc+1)
 else if i.op=5 then (c.set i.d (c.get i.s*2 ^ i.k.toNat%Bn)).at (c.pc+1)
 else if i.op=6 then (c.set i.d (c.get i.s/2 ^ i.k.toNat)).at (c.pc+1)
 else if i.op=7 then (c.set i.d (Nat.lor (c.get i.s) (c.get i.t))).at (c.pc+1)
 else if i.op=8 then c.at (if c.get i.s=c.get i.t then i.q else c.pc+1)
 else if i.op=9 then c.at (if c.get i.s=c.get i.t then c.pc+1 else i.q)
 else if i.op=10 then c.at i.q
 else if i.op=11 then (c.set i.d self).at (c.pc+1)
 else c.at (c.pc+1)
def runM(code:List In)(self:Nat):Nat→CoreM→List Int→CoreM×List Int×Int×Int
 |0,c,ms=>(c,ms,-1,11)
 |n+1,c,ms =>
  if c.pc<0∨c.pc≥code.length then (c,ms,-1,11) else
  if (code.getD c.pc.toNat In.zero).op≥16 then (c,ms,-1,0)
  else if n=0 then (c,ms,-1,11)
  else if (code.getD c.pc.toNat In.zero).op=13 then (c,ms,(code.getD c.pc.toNat In.zero).k,0)
  else runM code self n (G6 c (code.getD c.pc.toNat In.zero) self) (if (code.getD c.pc.toNat In.zero).op=12 then ms++[(code.getD c.pc.toNat In.zero).k] else ms)
structure F9 where
 each:Nat
 free:List (List Nat)
 gen:List Nat
 out:List Nat
deriving DecidableEq
def F9.new(n each:Nat):F9:=⟨each,(List.range n).map fun t=>(List.range each).map fun i=>t*each+i+1,List.replicate (n*each) 0,List.replicate (n*each) 0⟩
def F9.handle(p:F9)(n:Nat):Nat:=p.gen.getD (n-1) 0*4096+n
def F9.take(p:F9)(t:Nat):F9×Nat :=
 match p.free.getD t []with
 |[]=>(p,0)
 |n::l=>({p with free:=p.free.set t l,out:=p.out.set (n-1) 1},p.handle n)
def F9.back(p:F9)(h:Nat):Option F9 :=
 if h=0 then some p
 else if 1≤h%4096∧h%4096≤p.out.length∧p.out.getD (h%4096-1) 0=1∧p.handle (h%4096)=h then
  some {p with
   out:=p.out.set (h%4096-1) 0
   gen:=p.gen.set (h%4096-1) ((h/4096%262144+1)%262144)
   free:=p.free.set ((h%4096-1)/p.each) (p.free.getD ((h%4096-1)/p.each) []++[h%4096])}
 else none
def F9.many(p:F9)(t:Nat):Int:=if t<p.free.length then (p.each:Int)-(p.free.getD t []).length else 0
structure AM where
 pg:Pg
 cells:List (Nat×Nat)
 words:List Nat
 U9:F9
 AQ:List CoreM
structure Ek where
 marks:List Int
 done:Int
 addr:Int
 wrote:Nat
 stay:Nat
 e:Int
deriving DecidableEq
def B2:Nat→List Nat→List (Nat×Nat)
 |_,[]=>[]
 |a,s::r=>(List.range s).map (fun i=>(a,i))++B2 (a+1) r
def AG(sizes:List Nat):List (Nat×Nat):=B2 0 sizes
def CY(a:Int)(p:Nat):Nat→List (Nat×Nat)→Option Nat
 |_,[]=>none
 |k,c::r=>if (c.1:Int)=a∧c.2=p then some k else CY a p (k+1) r
def AM.new(pg:Pg)(sizes init:List Nat)(n each:Nat)(r7:List Nat):AM :=
 ⟨pg,AG sizes,init,F9.new n each,r7.map fun v=>⟨[0,0,0,0,0,0,0,v],0⟩⟩
def AM.core(x:AM)(t:Nat):CoreM:=x.AQ.getD t ⟨[],0⟩
def AM.go(x:AM)(t:Nat)(c:CoreM)(addr:Int)(wrote:Nat):AM×Ek :=
 let r:=runM x.pg.l t 257 c []
 ({x with AQ:=x.AQ.set t r.1},⟨r.2.1,r.2.2.1,addr,wrote,0,r.2.2.2⟩)
def AM.begin(x:AM)(t:Nat)(unlock:Bool):AM×Ek :=
 x.go t ((x.core t).at (if unlock=true then x.pg.unlock else x.pg.lock)) (-1) 0
def Hw(i:In)(c:CoreM)(was:Nat)(late:Bool):Option Nat×CoreM×Bool :=
 if i.op=16 then (none,(c.set i.d was).at (c.pc+1),false)
 else if i.op=17 then (some (c.get i.t),c.at (c.pc+1),false)
 else if i.op=18 then (some (c.get i.t),(c.set i.d was).at (c.pc+1),false)
 else if i.op=19 then
  if was=c.get i.t then (some (c.get i.u),(c.set i.d 1).at (c.pc+1),false) else (none,(c.set i.d 0).at (c.pc+1),false)
 else if i.op=20 then (some ((was+i.k.toNat)%Bn),(c.set i.d was).at (c.pc+1),false)
 else if i.op=21 then
  if (if i.k=1 then decide (was≠c.get i.t) else decide (was=c.get i.t))=true then (none,(c.set i.d was).at (c.pc+1),false)
  else if late=false∨i.q<0 then (none,c.set i.d was,true)
  else (none,(c.set i.d was).at i.q,false)
 else (none,c.at (c.pc+1),false)
def Ey:Ek:=⟨[],-1,-1,0,0,11⟩
def AM.step(x:AM)(t:Nat)(late:Bool):AM×Ek :=
 let c:=x.core t
 if c.pc<0∨c.pc≥x.pg.l.length then (x,Ey) else
 let i:=x.pg.l.getD c.pc.toNat In.zero
 if i.op<16 then (x,Ey)
 else if i.op=22 then
  let p:=x.U9.take t
  ({x with U9:=p.1}).go t ((c.set i.d p.2).at (c.pc+1)) (-1) 0
 else if i.op=23 then
  match x.U9.back (c.get i.s) with
  |none=>(x,Ey)
  |some p=>({x with U9:=p}).go t (c.at (c.pc+1)) (-1) 0
 else
  match CY i.a (c.get i.s%4096) 0 x.cells with
  |none=>(x,Ey)
  |some a =>
   let r:=Hw i c (x.words.getD a 0) late
   let x1:=match r.1 with
    |none=>x
    |some v=>{x with words:=x.words.set a v}
   let wrote:=match r.1 with
    |none=>0
    |some _=>1
   if r.2.2=true then ({x1 with AQ:=x1.AQ.set t r.2.1},⟨[],-1,a,wrote,1,0⟩)
   else x1.go t r.2.1 a wrote
structure AR where
 x:AM
 act:List Nat
 l:List DQ
 bad:Bool
def Gz(k:Int):Nat:=[0,2,3,4,9].getD k.toNat 0
def Lc(done:Int):Option (Nat×Nat):=if done=0 then some (6,0) else if done=1 then some (5,2) else if done=2 then some (10,0) else if done=3 then some (7,0) else none
def LX(act:Nat)(o:Ek):Bool:=decide (o.e≠0)||(decide (o.done≥0)&&(decide (o.done=2) != decide (act=3)))
def AR.EC(r:AR)(t:Nat)(o:Ek):AR :=
 let l:=r.l++o.marks.map (fun k=>(Gz k,t))
 if LX (r.act.getD t 0) o=true then {r with l:=l,bad:=true}
 else match Lc o.done with
  |none=>{r with l:=l}
  |some p=>{r with l:=l++[(p.1,t)],act:=r.act.set t p.2}
def AR.op(r:AR)(kind t late:Int):AR :=
 if t<0∨t≥r.act.length∨r.bad=true then r
 else if kind=1∧r.act.getD t.toNat 0=0 then
  let s:=r.x.begin t.toNat false
  ({r with x:=s.1,act:=r.act.set t.toNat 1,l:=r.l++[(1,t.toNat)]}:AR).EC t.toNat s.2
 else if kind=2∧r.act.getD t.toNat 0=2 then
  let s:=r.x.begin t.toNat true
  ({r with x:=s.1,act:=r.act.set t.toNat 3,l:=r.l++[(8,t.toNat)]}:AR).EC t.toNat s.2
 else if kind≠1∧kind≠2∧(r.act.getD t.toNat 0=1∨r.act.getD t.toNat 0=3) then
  let s:=r.x.step t.toNat (decide (late≠0))
  ({r with x:=s.1}:AR).EC t.toNat s.2
 else r
def AR.new(x:AM)(n:Nat):AR:=⟨x,List.replicate n 0,[],false⟩
def AR.ops(r:AR)(l:List (Int×Int×Int)):AR:=l.foldl (fun r o=>r.op o.1 o.2.1 o.2.2) r
def AR.Jk(r:AR)(n:Nat):Bool:=!r.bad&&decide (Co n r.l=r.l.length)
def FF(x:AM)(n:Nat)(l:List (Int×Int×Int)):Bool:=((AR.new x n).ops l).Jk n
structure E1 where
 r:AR
 left:List Nat
 EY:Nat
 busy:Bool
def E1.E9(v:E1)(t:Nat):E1 :=
 let d:=v.r.act.getD t 0
 let v1:E1:=if d=0∧v.left.getD t 0 > 0 then {v with left:=v.left.set t (v.left.getD t 0-1),r:=v.r.op 1 t 0}
  else if d=2 then {v with EY:=v.EY+1,r:=v.r.op 2 t 0}
  else {v with r:=v.r.op 3 t 0}
 {v1 with busy:=v1.busy||decide (v1.r.act.getD t 0≠0)||decide (v1.left.getD t 0 > 0)}
def E1.round(n:Nat)(v:E1):E1:=(List.range n).foldl E1.E9 {v with busy:=false}
def E1.rounds(n:Nat):Nat→E1→E1
 |0,v=>v
 |k+1,v=>let v1:=v.round n;if v1.busy=false∨v1.r.bad=true then v1 else v1.rounds n k
def DA(x:AM)(n calls:Nat):Bool :=
 let v:=E1.rounds n (100*(n+1)*(calls+1)) ⟨AR.new x n,List.replicate n calls,0,true⟩
 !v.r.bad&&decide (v.EY=n*calls)&&decide (Co n v.r.l=v.r.l.length)
def Dr(v:AR×Bool)(t:Nat):AR×Bool :=
 let r:=if v.1.act.getD t 0=2 then v.1.op 2 t 0 else v.1.op 3 t 0
 (r,v.2||decide (r.act.getD t 0≠0))
def FX(r:AR):AR×Bool:=(List.range r.act.length).foldl Dr (r,false)
def IB:Nat→AR→AR×Bool
 |0,r=>(r,false)
 |k+1,r=>let v:=FX r;if v.2=false then (v.1,true) else IB k v.1
def Cf:Nat→AR→Nat→AR
 |0,r,_=>r
 |k+1,r,t=>Cf k (r.op 3 t 0) t
def CM(x:AM)(each n:Nat)(l:List (Int×Int×Int))(t lock unlock:Nat):Bool :=
 let v:=IB 5000 ((AR.new x n).ops l)
 if v.2=false∨v.1.bad=true then false else
 let none:=decide (each > 0)&&decide (v.1.x.U9.many t=each)
 let r:=Cf lock (v.1.op 1 t 0) t
 if none=true then !r.bad&&decide (r.act.getD t 0=0)&&decide ((r.l.getLastD (0,0)).1=7)
 else if r.act.getD t 0≠2 then false
 else
  let q:=Cf unlock (r.op 2 t 0) t
  !q.bad&&decide (q.act.getD t 0=0)&&decide (Co n q.l=q.l.length)
end
section
open Go.RowKit Go.Proofs.YtnmahobjmpdkdaaGreatDoorW.PrintWords
def CoreM.arr(c:CoreM):Array Value:=(c.r.map (fun v:Nat=>Value.int .i64 v)++[Value.int .i64 c.pc]).toArray
theorem O7(c:CoreM)(h:c.r.length=8):c.arr.size=9:=by simp[CoreM.arr,h]
theorem HD{c:CoreM}(h:c.r.length=8)(i:Nat)(hi:i<8):c.arr[i]?=some (.int .i64 (c.r.getD i 0:Nat)):=by
 simp[CoreM.arr,List.getElem?_append_left,h,hi,List.getD_eq_getElem?_getD]
theorem IK{c:CoreM}(h:c.r.length=8):c.arr[8]?=some (.int .i64 c.pc):=by
 simp[CoreM.arr,h]
theorem QR{c:CoreM}(h:c.r.length=8)(d:Nat)(hd:d<8)(v:Nat):c.arr.setIfInBounds d (.int .i64 v)=(c.set d v).arr:=by
 apply Array.ext';simp[CoreM.arr,CoreM.set,List.set_append,h,hd]
theorem PS{c:CoreM}(h:c.r.length=8)(pc:Int):c.arr.setIfInBounds 8 (.int .i64 pc)=(c.at pc).arr:=by
 apply Array.ext';simp[CoreM.arr,CoreM.at,List.set_append,h]
theorem I3(c:CoreM)(d:Int)(v:Nat):(c.set d v).r.length=c.r.length:=by simp[CoreM.set]
theorem Cn{c:CoreM}(h:c.r.length=8):∃ y0 y1 y2 y3 y4 y5 y6 y7 y8:Int,c.arr=#[.int .i64 y0,.int .i64 y1,.int .i64 y2,.int .i64 y3,.int .i64 y4,.int .i64 y5,.int .i64 y6,.int .i64 y7,.int .i64 y8]:=by
 obtain⟨l,pc⟩:=c
 match l,h with
 |[y0,y1,y2,y3,y4,y5,y6,y7],_=>exact⟨y0,y1,y2,y3,y4,y5,y6,y7,pc,rfl⟩
theorem KP(w:World)(o o' o'':Obj):(((w.alloc o).alloc o').alloc o'').heap[w.heap.size+2]?=some o'':=by
 have h:=Df (w.alloc o) o' o'';have e:(w.alloc o).heap.size=w.heap.size+1:=by simp
 rw[e]at h;exact h
theorem GU{w:World}{g:Nat}{t:TypeId}{a0 a1 a2 a3 a4 a5 a6 a7 a8:Value}(h:w.heap[g]?=some (.cells #[a0,a1,a2,a3,a4,a5,a6,a7,a8] t (0,0)))(v0 v1 v2 v3 v4 v5 v6 v7 v8:Value) :
  (((((((((w.setCell ⟨g,0,none⟩ v0).setCell ⟨g,1,none⟩ v1).setCell ⟨g,2,none⟩ v2).setCell ⟨g,3,none⟩ v3).setCell ⟨g,4,none⟩ v4).setCell ⟨g,5,none⟩ v5).setCell ⟨g,6,none⟩ v6).setCell ⟨g,7,none⟩ v7).setCell ⟨g,8,none⟩ v8).heap[g]?=some (.cells #[v0,v1,v2,v3,v4,v5,v6,v7,v8] t (0,0)):=by
 have h1:(w.setCell ⟨g,0,none⟩ v0).heap[g]?=some (.cells #[v0,a1,a2,a3,a4,a5,a6,a7,a8] t (0,0)):=Bs h 0 v0;have h2:((w.setCell ⟨g,0,none⟩ v0).setCell ⟨g,1,none⟩ v1).heap[g]?=some (.cells #[v0,v1,a2,a3,a4,a5,a6,a7,a8] t (0,0)):=Bs h1 1 v1;have h3:(((w.setCell ⟨g,0,none⟩ v0).setCell ⟨g,1,none⟩ v1).setCell ⟨g,2,none⟩ v2).heap[g]?=some (.cells #[v0,v1,v2,a3,a4,a5,a6,a7,a8] t (0,0)):=Bs h2 2 v2;have h4:((((w.setCell ⟨g,0,none⟩ v0).setCell ⟨g,1,none⟩ v1).setCell ⟨g,2,none⟩ v2).setCell ⟨g,3,none⟩ v3).heap[g]?=some (.cells #[v0,v1,v2,v3,a4,a5,a6,a7,a8] t (0,0)):=Bs h3 3 v3;have h5:(((((w.setCell ⟨g,0,none⟩ v0).setCell ⟨g,1,none⟩ v1).setCell ⟨g,2,none⟩ v2).setCell ⟨g,3,none⟩ v3).setCell ⟨g,4,none⟩ v4).heap[g]?=some (.cells #[v0,v1,v2,v3,v4,a5,a6,a7,a8] t (0,0)):=Bs h4 4 v4;have h6:((((((w.setCell ⟨g,0,none⟩ v0).setCell ⟨g,1,none⟩ v1).setCell ⟨g,2,none⟩ v2).setCell ⟨g,3,none⟩ v3).setCell ⟨g,4,none⟩ v4).setCell ⟨g,5,none⟩ v5).heap[g]?=some (.cells #[v0,v1,v2,v3,v4,v5,a6,a7,a8] t (0,0)):=Bs h5 5 v5;have h7:(((((((w.setCell ⟨g,0,none⟩ v0).setCell ⟨g,1,none⟩ v1).setCell ⟨g,2,none⟩ v2).setCell ⟨g,3,none⟩ v3).setCell ⟨g,4,none⟩ v4).setCell ⟨g,5,none⟩ v5).setCell ⟨g,6,none⟩ v6).heap[g]?=some (.cells #[v0,v1,v2,v3,v4,v5,v6,a7,a8] t (0,0)):=Bs h6 6 v6;have h8:((((((((w.setCell ⟨g,0,none⟩ v0).setCell ⟨g,1,none⟩ v1).setCell ⟨g,2,none⟩ v2).setCell ⟨g,3,none⟩ v3).setCell ⟨g,4,none⟩ v4).setCell ⟨g,5,none⟩ v5).setCell ⟨g,6,none⟩ v6).setCell ⟨g,7,none⟩ v7).heap[g]?=some (.cells #[v0,v1,v2,v3,v4,v5,v6,v7,a8] t (0,0)):=Bs h7 7 v7;have h9:(((((((((w.setCell ⟨g,0,none⟩ v0).setCell ⟨g,1,none⟩ v1).setCell ⟨g,2,none⟩ v2).setCell ⟨g,3,none⟩ v3).setCell ⟨g,4,none⟩ v4).setCell ⟨g,5,none⟩ v5).setCell ⟨g,6,none⟩ v6).setCell ⟨g,7,none⟩ v7).setCell ⟨g,8,none⟩ v8).heap[g]?=some (.cells #[v0,v1,v2,v3,v4,v5,v6,v7,v8] t (0,0)):=Bs h8 8 v8;exact h9
theorem Fc{N g:Nat}{w W:World}(h:Below N w W)(hg:N≤g)(v0 v1 v2 v3 v4 v5 v6 v7 v8:Value):Below N w (((((((((W.setCell ⟨g,0,none⟩ v0).setCell ⟨g,1,none⟩ v1).setCell ⟨g,2,none⟩ v2).setCell ⟨g,3,none⟩ v3).setCell ⟨g,4,none⟩ v4).setCell ⟨g,5,none⟩ v5).setCell ⟨g,6,none⟩ v6).setCell ⟨g,7,none⟩ v7).setCell ⟨g,8,none⟩ v8):=by
 have h1:Below N w (W.setCell ⟨g,0,none⟩ v0):=h.setCell (p:=⟨g,0,none⟩) hg v0;have h2:Below N w ((W.setCell ⟨g,0,none⟩ v0).setCell ⟨g,1,none⟩ v1):=h1.setCell (p:=⟨g,1,none⟩) hg v1;have h3:Below N w (((W.setCell ⟨g,0,none⟩ v0).setCell ⟨g,1,none⟩ v1).setCell ⟨g,2,none⟩ v2):=h2.setCell (p:=⟨g,2,none⟩) hg v2;have h4:Below N w ((((W.setCell ⟨g,0,none⟩ v0).setCell ⟨g,1,none⟩ v1).setCell ⟨g,2,none⟩ v2).setCell ⟨g,3,none⟩ v3):=h3.setCell (p:=⟨g,3,none⟩) hg v3;have h5:Below N w (((((W.setCell ⟨g,0,none⟩ v0).setCell ⟨g,1,none⟩ v1).setCell ⟨g,2,none⟩ v2).setCell ⟨g,3,none⟩ v3).setCell ⟨g,4,none⟩ v4):=h4.setCell (p:=⟨g,4,none⟩) hg v4;have h6:Below N w ((((((W.setCell ⟨g,0,none⟩ v0).setCell ⟨g,1,none⟩ v1).setCell ⟨g,2,none⟩ v2).setCell ⟨g,3,none⟩ v3).setCell ⟨g,4,none⟩ v4).setCell ⟨g,5,none⟩ v5):=h5.setCell (p:=⟨g,5,none⟩) hg v5;have h7:Below N w (((((((W.setCell ⟨g,0,none⟩ v0).setCell ⟨g,1,none⟩ v1).setCell ⟨g,2,none⟩ v2).setCell ⟨g,3,none⟩ v3).setCell ⟨g,4,none⟩ v4).setCell ⟨g,5,none⟩ v5).setCell ⟨g,6,none⟩ v6):=h6.setCell (p:=⟨g,6,none⟩) hg v6;have h8:Below N w ((((((((W.setCell ⟨g,0,none⟩ v0).setCell ⟨g,1,none⟩ v1).setCell ⟨g,2,none⟩ v2).setCell ⟨g,3,none⟩ v3).setCell ⟨g,4,none⟩ v4).setCell ⟨g,5,none⟩ v5).setCell ⟨g,6,none⟩ v6).setCell ⟨g,7,none⟩ v7):=h7.setCell (p:=⟨g,7,none⟩) hg v7;have h9:Below N w (((((((((W.setCell ⟨g,0,none⟩ v0).setCell ⟨g,1,none⟩ v1).setCell ⟨g,2,none⟩ v2).setCell ⟨g,3,none⟩ v3).setCell ⟨g,4,none⟩ v4).setCell ⟨g,5,none⟩ v5).setCell ⟨g,6,none⟩ v6).setCell ⟨g,7,none⟩ v7).setCell ⟨g,8,none⟩ v8):=h8.setCell (p:=⟨g,8,none⟩) hg v8;exact h9
def CoreM.v(c:CoreM):Value:=.agg c.arr
def K1:Array Value:=#[.int .i64 0,.int .i64 0,.int .i64 0,.int .i64 0,.int .i64 0,.int .i64 0,.int .i64 0,.int .i64 0,.int .i64 0]
theorem VK{w W:World}{N d:Nat}{c:CoreM}{cs z:Array Value}{t t':TypeId}(b3:W.heap[N]?=some (.cells cs t (0,0)))(b6:W.heap[N+1+1]?=some (.cells z t' (0,0)))(hB:Below N w W)(he:c.arr=cs)
  (hs:∀ v:Nat,c.arr.setIfInBounds d (.int .i64 v)=(c.set d v).arr)(v:Nat) :
  (W.setCell ⟨N,d,none⟩ (.int .i64 v)).heap[N]?=some (.cells (c.set d v).arr t (0,0))∧(W.setCell ⟨N,d,none⟩ (.int .i64 v)).heap[N+1+1]?=some (.cells z t' (0,0))∧Below N w (W.setCell ⟨N,d,none⟩ (.int .i64 v)):=by
 have h:=Bs b3 d (.int .i64 v);rw[←he,hs]at h;exact⟨h,Ba (p:=⟨N,d,none⟩) b6 (show N+1+1≠N by omega) _,hB.setCell (p:=⟨N,d,none⟩) (Nl _) _⟩
theorem O5(c:CoreM)(d s t k:Nat)(op u a q:Int)(self:Nat)(w:World)(hc:c.r.length=8)(hop:op=1∨op=2∨op=3∨op=8∨op=9∨op=10∨op=11∨op=12)(hd:d<8)(hs:s<8)(ht:t<8)(hk:k<4294967296)(hreg:∀ j,c.r.getD j 0<4294967296)(hself:self<4294967296)(hp0:0≤c.pc)(hp1:c.pc≤100000) :
  Calls Tryz.prog 117 #[c.v,(In.mk op d s t u a k q).v,.int .i64 self] w fun e W'=>e=.returned (G6 c ⟨op,d,s,t,u,a,k,q⟩ self).v∧Below w.heap.size w W':=by
 obtain⟨a0,a1,a2,a3,a4,a5,a6,a7,a8,he⟩:=Cn hc;have b0:=Az (Below.refl w.heap.size w);have hcs:=HD hc s hs;have hct:=HD hc t ht;have hcp:=IK hc;have hset:=fun v=>QR hc d hd v
 unfold CoreM.v;rw[he]at hcs hct hcp ⊢;simp only[In.v];obtain⟨fin,hfin⟩:∃ r,G6 c ⟨op,d,s,t,u,a,k,q⟩ self=r:=⟨_,rfl⟩
 rw[hfin];obtain⟨S,hS9⟩:∃ S,c.r.getD s 0=S:=⟨_,rfl⟩
 obtain⟨T,hT9⟩:∃ S,c.r.getD t 0=S:=⟨_,rfl⟩
 simp only[G6,CoreM.get,Int.toNat_natCast,hS9,hT9]at hfin;have hS1:=hreg s;have hT1:=hreg t;rw[hS9]at hcs hS1;rw[hT9]at hct hT1;clear hS9 hT9;have hcd:=HD hc d hd;rw[he]at hcd;have hpw:IntKind.i64.wrap (c.pc+1)=c.pc+1:=by rw[IntKind.wrap_i64];omega
 obtain⟨D,hD9⟩:∃ S,c.r.getD d 0=S:=⟨_,rfl⟩
 rw[hD9]at hcd;clear hD9;replace hfin:=Az hfin;replace hset:=Az hset;have hkw:IntKind.i64.wrap (k:Int)=(k:Int):=by rw[IntKind.wrap_i64];omega
 have o1:¬op≥16:=by omega
 have o2:¬op=13:=by omega
 have o3:(op==13)=false:=Bq o2;go_enter Tryz.func117,Tryz.ntmps117;go_wp2_with fail
 obtain⟨W1,hW1⟩:∃ x,(((w.alloc (.cells #[.int .i64 a0,.int .i64 a1,.int .i64 a2,.int .i64 a3,.int .i64 a4,.int .i64 a5,.int .i64 a6,.int .i64 a7,.int .i64 a8] 133)).alloc (.cells (In.cs ⟨op,d,s,t,u,a,k,q⟩) 90)).alloc (.cells #[.int .i64 0,.int .i64 0,.int .i64 0,.int .i64 0,.int .i64 0,.int .i64 0,.int .i64 0,.int .i64 0,.int .i64 0] 133))=x:=⟨_,rfl⟩
 simp only[In.cs]at hW1;have b3:W1.heap[w.heap.size]?=some (.cells #[.int .i64 a0,.int .i64 a1,.int .i64 a2,.int .i64 a3,.int .i64 a4,.int .i64 a5,.int .i64 a6,.int .i64 a7,.int .i64 a8] 133 (0,0)):=by rw[←hW1];exact AJ (AJ (Bv w _) _) _
 have b4:W1.heap[w.heap.size+1]?=some (.cells (In.cs ⟨op,d,s,t,u,a,k,q⟩) 90 (0,0)):=by rw[←hW1];exact AJ (Df w _ _) _
 have b6:W1.heap[w.heap.size+1+1]?=some (.cells #[.int .i64 0,.int .i64 0,.int .i64 0,.int .i64 0,.int .i64 0,.int .i64 0,.int .i64 0,.int .i64 0,.int .i64 0] 133 (0,0)):=by rw[←hW1];exact KP w _ _ _
 rw[hW1];have s0:(0:Int)≤(s:Int):=by omega
 have s1:(s:Int)<8:=by omega
 have t0:(0:Int)≤(t:Int):=by omega
 have t1:(t:Int)<8:=by omega
 have d0:(0:Int)≤(d:Int):=by omega
 have d1:(d:Int)<8:=by omega
 have hS:W1.drew.cell? ⟨w.heap.size+1,2,none⟩=some (.int .i64 s)∧W1.drew.cell? ⟨w.heap.size+1,3,none⟩=some (.int .i64 t)∧W1.drew.cell? ⟨w.heap.size+1,6,none⟩=some (.int .u32 k)∧W1.drew.cell? ⟨w.heap.size,s,none⟩=some (.int .i64 (S:Int))∧W1.drew.cell? ⟨w.heap.size,t,none⟩=some (.int .i64 (T:Int)) :=
  ⟨(Bc b4 2).trans rfl,(Bc b4 3).trans rfl,(Bc b4 6).trans rfl,(Bc b3 s).trans hcs,(Bc b3 t).trans hct⟩
 go_region_held3 (fun W=>W.cell? ⟨w.heap.size+1,2,none⟩=some (.int .i64 s)∧W.cell? ⟨w.heap.size+1,3,none⟩=some (.int .i64 t)∧W.cell? ⟨w.heap.size+1,6,none⟩=some (.int .u32 k)∧W.cell? ⟨w.heap.size,s,none⟩=some (.int .i64 (S:Int))∧W.cell? ⟨w.heap.size,t,none⟩=some (.int .i64 (T:Int))) (first |exact hS) (first |fail)
 replace b3:=Be b3;replace b4:=Be b4;replace b6:=Be b6;have hB:Below w.heap.size w W1.drew:=by rw[←hW1];exact Bd ((((b0.out.alloc (Nl _) _).alloc (by simp) _).alloc (by simp;omega) _))
 obtain⟨W2,hW2⟩:∃ x,W1.drew=x:=⟨_,rfl⟩
 rw[hW2]at b3 b4 b6 hB ⊢;clear hS hW1 hW2;replace hB:=Az hB;have p8:=(Bc b3 8).trans hcp;have f8:=Bf b3 8;have c3:W2.cell? ⟨w.heap.size,d,none⟩=some (.int .i64 (D:Int)):=(Bc b3 d).trans hcd;have f3:=Bf b3 d;have y0:W2.cell? ⟨w.heap.size+1,0,none⟩=some (.int .i64 op):=(Bc b4 0).trans rfl;have y1:W2.cell? ⟨w.heap.size+1,1,none⟩=some (.int .i64 d):=(Bc b4 1).trans rfl;have y7:W2.cell? ⟨w.heap.size+1,7,none⟩=some (.int .i64 q):=(Bc b4 7).trans rfl;have hput:=fun v=>(VK b3 b6 hB.out he hset.out v)
 replace hput:=Az hput;replace b3:=Az b3;replace b6:=Az b6;go_upto_region 4 with fail
 go_cut [10] (fun v10 wx=>v10=.int .i64 (c.pc+1)∧wx=W2)
 case first =>
  go_wp2_with fail
  go_meet
  exact⟨rfl,rfl⟩
 case rest =>
 obtain⟨rfl,rfl⟩:=hcut;go_step
 go_step
 go_cut [10] (fun v10 wx=>∃ (c1:CoreM) (p:Int),v10=.int .i64 p∧Af (c1.at p=fin)∧c1.r.length=8∧Af (wx.heap[w.heap.size]?=some (.cells c1.arr 133 (0,0)))∧Af (wx.heap[w.heap.size+1+1]?=some (.cells K1 133 (0,0)))∧Af (Below w.heap.size w wx))
 case first =>
  rcases hop with rfl |rfl |rfl |rfl |rfl |rfl |rfl |rfl
  ·go_wp2_with fail
   go_meet
   obtain⟨h1,h2,h3⟩:=hput.out k;exact⟨_,_,rfl,⟨by rw[←hfin.out];simp⟩,by rw[I3];exact hc,⟨h1⟩,⟨h2⟩,⟨h3⟩⟩
  ·go_wp2_with fail
   go_meet
   obtain⟨h1,h2,h3⟩:=hput.out S;exact⟨_,_,rfl,⟨by rw[←hfin.out];simp⟩,by rw[I3];exact hc,⟨h1⟩,⟨h2⟩,⟨h3⟩⟩
  ·go_wp2_with fail
   go_meet
   obtain⟨h1,h2,h3⟩:=hput.out ((S+k)%Bn);have e3:(((S+k)%Bn:Nat):Int)=((S:Int)+k)%4294967296:=by simp[Bn]
   rw[e3]at h1 h2 h3;exact⟨_,_,rfl,⟨by rw[←hfin.out];simp⟩,by rw[I3];exact hc,⟨h1⟩,⟨h2⟩,⟨h3⟩⟩
  ·by_cases hST:S=T
   ·subst hST;have e1:((S:Int)==(S:Int))=true:=beq_self_eq_true _;go_wp2_with fail
    go_meet
    exact⟨c,_,rfl,⟨by rw[←hfin.out];simp⟩,hc,⟨by rw[he];exact b3.out⟩,b6,hB⟩
   ·have e1:((S:Int)==(T:Int))=false:=Bq (by omega);go_wp2_with fail
    go_meet
    exact⟨c,_,rfl,⟨by rw[←hfin.out];simp[hST]⟩,hc,⟨by rw[he];exact b3.out⟩,b6,hB⟩
  ·by_cases hST:S=T
   ·subst hST;have e1:((S:Int)==(S:Int))=true:=beq_self_eq_true _;have e2:((S:Int) != (S:Int))=false:=bne_self_eq_false _;go_wp2_with fail
    go_meet
    exact⟨c,_,rfl,⟨by rw[←hfin.out];simp⟩,hc,⟨by rw[he];exact b3.out⟩,b6,hB⟩
   ·have e1:((S:Int)==(T:Int))=false:=Bq (by omega);have e2:((S:Int) != (T:Int))=true:=bne_iff_ne.2 (by omega);go_wp2_with fail
    go_meet
    exact⟨c,_,rfl,⟨by rw[←hfin.out];simp[hST]⟩,hc,⟨by rw[he];exact b3.out⟩,b6,hB⟩
  ·go_wp2_with fail
   go_meet
   exact⟨c,_,rfl,⟨by rw[←hfin.out];simp⟩,hc,⟨by rw[he];exact b3.out⟩,b6,hB⟩
  ·go_wp2_with fail
   go_meet
   obtain⟨h1,h2,h3⟩:=hput.out self;exact⟨_,_,rfl,⟨by rw[←hfin.out];simp⟩,by rw[I3];exact hc,⟨h1⟩,⟨h2⟩,⟨h3⟩⟩
  ·go_wp2_with fail
   go_meet
   exact⟨c,_,rfl,⟨by rw[←hfin.out];simp⟩,hc,⟨by rw[he];exact b3.out⟩,b6,hB⟩
 case rest =>
  obtain⟨c1,p,rfl,hf,hl,b3,b6,hB⟩:=hcut;have p8:=(Bc b3.out 8).trans (IK hl);have f8:=Bf b3.out 8;have b3':=Bs b3.out 8 (.int .i64 p);have b6':=Ba (p:=⟨w.heap.size,8,none⟩) b6.out (show w.heap.size+1+1≠w.heap.size by omega) (.int .i64 p);have hB':=hB.out.setCell (p:=⟨w.heap.size,8,none⟩) (Nl _) (.int .i64 p);rw[PS hl,hf.out]at b3';have hl':fin.r.length=8:=by rw[←hf.out];exact hl
  generalize hW4:wc.setCell ⟨w.heap.size,8,none⟩ (.int .i64 p)=W4 at *;go_upto_region 31 with fail
  try rw[hW4]
  obtain⟨z0,z1,z2,z3,z4,z5,z6,z7,z8,hz⟩:=Cn (c:=fin) hl';rw[hz]at b3';have g0:W4.cell? ⟨w.heap.size,0,none⟩=some (.int .i64 z0):=(Bc b3' 0).trans rfl;have g1:W4.cell? ⟨w.heap.size,1,none⟩=some (.int .i64 z1):=(Bc b3' 1).trans rfl;have g2:W4.cell? ⟨w.heap.size,2,none⟩=some (.int .i64 z2):=(Bc b3' 2).trans rfl;have g3:W4.cell? ⟨w.heap.size,3,none⟩=some (.int .i64 z3):=(Bc b3' 3).trans rfl;have g4:W4.cell? ⟨w.heap.size,4,none⟩=some (.int .i64 z4):=(Bc b3' 4).trans rfl;have g5:W4.cell? ⟨w.heap.size,5,none⟩=some (.int .i64 z5):=(Bc b3' 5).trans rfl;have g6:W4.cell? ⟨w.heap.size,6,none⟩=some (.int .i64 z6):=(Bc b3' 6).trans rfl;have g7:W4.cell? ⟨w.heap.size,7,none⟩=some (.int .i64 z7):=(Bc b3' 7).trans rfl;have g8:W4.cell? ⟨w.heap.size,8,none⟩=some (.int .i64 z8):=(Bc b3' 8).trans rfl;have x0:W4.cell? ⟨w.heap.size+1+1,0,none⟩=some (.int .i64 0):=(Bc b6' 0).trans rfl;have y0:=Bf b6' 0;have x1:W4.cell? ⟨w.heap.size+1+1,1,none⟩=some (.int .i64 0):=(Bc b6' 1).trans rfl;have y1:=Bf b6' 1;have x2:W4.cell? ⟨w.heap.size+1+1,2,none⟩=some (.int .i64 0):=(Bc b6' 2).trans rfl;have y2:=Bf b6' 2;have x3:W4.cell? ⟨w.heap.size+1+1,3,none⟩=some (.int .i64 0):=(Bc b6' 3).trans rfl;have y3:=Bf b6' 3;have x4:W4.cell? ⟨w.heap.size+1+1,4,none⟩=some (.int .i64 0):=(Bc b6' 4).trans rfl;have y4:=Bf b6' 4;have x5:W4.cell? ⟨w.heap.size+1+1,5,none⟩=some (.int .i64 0):=(Bc b6' 5).trans rfl;have y5:=Bf b6' 5;have x6:W4.cell? ⟨w.heap.size+1+1,6,none⟩=some (.int .i64 0):=(Bc b6' 6).trans rfl;have y6:=Bf b6' 6;have x7:W4.cell? ⟨w.heap.size+1+1,7,none⟩=some (.int .i64 0):=(Bc b6' 7).trans rfl;have y7:=Bf b6' 7;have x8:W4.cell? ⟨w.heap.size+1+1,8,none⟩=some (.int .i64 0):=(Bc b6' 8).trans rfl;have y8:=Bf b6' 8;have hG2:w.heap.size≤w.heap.size+1+1:=by omega
  clear hW4 b3 b6 hB p8 f8;generalize w.heap.size+1+1=G at *;go_wp2;refine bodyPost_ret (fn:=Tryz.f117) (results_cell_row rfl _ _ G 133 #[.int .i64 z0,.int .i64 z1,.int .i64 z2,.int .i64 z3,.int .i64 z4,.int .i64 z5,.int .i64 z6,.int .i64 z7,.int .i64 z8] (0,0) _ rfl ?_ Tryz.underlying133 rfl (by kernel_rfl)) rfl ⟨by rw[hz],?_⟩
  ·exact GU b6' _ _ _ _ _ _ _ _ _
  ·exact Fc hB' hG2 _ _ _ _ _ _ _ _ _
end
end Go.Proofs.YtnmahobjmpdkdaaGreatDoor
section
/-
 PRINTED WORDS, second file: A REGION THAT DRAWS ITS ORDER, WALKED BY HAND, where its last store writes what its own loads read ('x.f = append(x.f, f(i))'). Plain theorems; no macro, no elab. A claim may hold it (turn the namespace's name).
 A load may be taken first in every world that meets S; behind the operations of ds nothing is shown; sound because each of ds waits for what is taken (Region.lastB). The kernel checks it.
 By an AI agent of Go's test side, Mon Nov 16 2026. No person has read it.
-/
end
namespace Go.Proofs.YtnmahobjmpdkdaaGreatDoorW.PrintLast
section
section
variable {P:Program} {ops:Array Oper} {Q:Exit→Act→World→Prop} {md:Region.Mode} {S:World→Prop} {ds:List Nat}
def Region.MP(md:Region.Mode)(ops:Array Oper)(i:Nat):Nat→Nat→Bool
 |0,_=>false
 |fuel+1,d=>match ops[d]? with
  |some o=>o.after.any fun e=>Region.binds md e&&(e.on==i||Region.MP md ops i fuel e.on)
  |none=>false
def Region.Ww(md:Region.Mode)(ops:Array Oper)(listed:Array Bool)(ds:List Nat)(i:Nat):Bool :=
 ds.all fun d=>listed.getD d true||Region.MP md ops i ops.size d
def Gg(md:Region.Mode)(ops:Array Oper)(listed:Array Bool):Prop :=
 ∀ j oj,ops[j]?=some oj→listed.getD j false=true→∀ e∈oj.after,Region.binds md e=true→listed.getD e.on false=true
theorem Gg.set{listed:Array Bool}{i:Nat}(h:Gg md ops listed)(hi:i∈Region.ready md ops listed):Gg md ops (listed.setIfInBounds i true):=by
 obtain⟨_,oi,hoi,hall⟩:=mem_ready.1 hi;intro j oj hj hl e he hb;by_cases hij:i=j
 ·subst hij;have:oj=oi:=Option.some.inj (hj.symm.trans hoi);subst this;exact getD_set_true (hall e he hb)
 ·rw[getD_set_ne false hij]at hl;exact getD_set_true (h j oj hj hl e he hb)
def AY(P:Program)(md:Region.Mode)(ops:Array Oper)(Q:Exit→Act→World→Prop)(S:World→Prop)(ds:List Nat):Nat→Array Bool→Act→World→Prop
 |0,listed,a,w=>Region.ready md ops listed=[]∧Q .normal a w
 |fuel+1,listed,a,w =>
  (Region.ready md ops listed=[]→Q .normal a w) ∧
  ∀ i∈Region.ready md ops listed,wpOp P ops Q i (fun a' w'=>(i∉ds→S w→S w')∧AY P md ops Q S ds fuel (listed.setIfInBounds i true) a' w') a w
theorem Hz:∀ (fuel:Nat) (listed:Array Bool) (a:Act) (w:World),AY P md ops Q S ds fuel listed a w→wpAny P md ops Q fuel listed a w
 |0,_,_,_,h=>h
 |fuel+1,_,_,_,h=>⟨h.1,fun i hi=>wpOp_mono (fun a' w' h'=>Hz fuel _ a' w' h'.2) (h.2 i hi)⟩
theorem LB{i:Nat}{oi:Oper}{v:Value}(hi:ops[i]?=some oi)(hsel:∀ (j:Nat) (o:Oper) cs b,ops[j]?=some o→o.op≠.select cs b)
  (hQ:∀ c a w,Q (.panic c) (a.put oi.dst v) w→Q (.panic c) a w) :
  ∀ (fuel:Nat) (listed:Array Bool) (a:Act) (w:World),
   (∀ j oj,ops[j]?=some oj→j≠i→listed.getD j true=false→(∀ e∈oj.after,Region.binds md e=true→e.on≠i)→oi.apart ops oj=true) →
   i∈Region.ready md ops listed→Yields P ops oi v a →
   AY P md ops Q S ds fuel (listed.setIfInBounds i true) (a.put oi.dst v) w→AY P md ops Q S ds (fuel+1) listed a w:=by
 intro fuel;induction fuel with
 |zero =>
  intro listed a w _ hr hy H;refine⟨fun h=>(by rw[h]at hr;cases hr),fun j hj=>?_⟩;by_cases hji:j=i
  ·subst hji;exact(hy.yieldsIf (S:=fun _=>True)).wpOp hi trivial ⟨fun _ h=>h,H⟩
  ·have:=ready_mono hj hji;rw[H.1]at this;cases this
 |succ fuel ih =>
  intro listed a w hfree hr hy H;refine⟨fun h=>(by rw[h]at hr;cases hr),fun j hj=>?_⟩;by_cases hji:j=i
  ·subst hji;exact(hy.yieldsIf (S:=fun _=>True)).wpOp hi trivial ⟨fun _ h=>h,H⟩
  ·have h1:=H.2 j (ready_mono hj hji);obtain⟨hjun,oj,hoj,hall⟩:=mem_ready.1 hj;have hiun:=(mem_ready.1 hr).1;have hnot:∀ e∈oj.after,Region.binds md e=true→e.on≠i:=fun e he hb heq=>by
    have h1:=hall e he hb;rw[heq]at h1;rcases Nat.lt_or_ge i listed.size with h' |h'
    ·simp[h']at hiun h1;rw[hiun]at h1;cases h1
    ·simp[Array.getElem?_eq_none h']at h1
   have h2:=wpOp_put hoj (hfree j oj hoj hji hjun hnot) (fun cs b=>hsel i oi cs b hi) (fun cs b=>hsel j oj cs b hoj) hQ hy h1;have hfree':∀ k ok,ops[k]?=some ok→k≠i→(listed.setIfInBounds j true).getD k true=false →
     (∀ e∈ok.after,Region.binds md e=true→e.on≠i)→oi.apart ops ok=true:=fun k ok hk hki hun hno=>by
    refine hfree k ok hk hki ?_ hno;by_cases hjk:j=k
    ·subst hjk;exact hjun
    ·rw[getD_set_ne true hjk]at hun;exact hun
   refine wpOp_mono (fun a' w' h3=>⟨h3.2.1,ih (listed.setIfInBounds j true) a' w' hfree' (ready_mono hr (Ne.symm hji)) h3.1 ?_⟩) h2;rw[Array.setIfInBounds_comm _ _ hji];exact h3.2.2
theorem LC{rs:List Nat}{fuel:Nat}{listed:Array Bool}{a:Act}{w:World}(hr:Region.ready md ops listed=rs)(hne:rs≠[])
  (h:∀ i∈rs,wpOp P ops Q i (fun a' w'=>(i∉ds→S w→S w')∧AY P md ops Q S ds fuel (listed.setIfInBounds i true) a' w') a w):AY P md ops Q S ds (fuel+1) listed a w :=
 ⟨fun h0=>absurd (hr▸h0) hne,hr▸h⟩
theorem K2{listed:Array Bool}{a:Act}{w:World}(hr:Region.ready md ops listed=[])(h:Q .normal a w) :
  ∀ fuel,AY P md ops Q S ds fuel listed a w
 |0=>⟨hr,h⟩
 |_+1=>⟨fun _=>h,by rw[hr];simp⟩
theorem K3{id:Nat}{a:Act}{w:World}(hm:P.follows .mixedOrders=true)
  (h:AY P .any ops Q S ds ops.size (Array.replicate ops.size false) a {w with drawn:=w.drawn+1}):(Code.region id ops true).wp P Q a w :=
 wp_region_any hm (Hz _ _ _ _ h)
end
section
variable {P:Program} {ops:Array Oper} {Q:Exit→Act→World→Prop} {md:Region.Mode} {S:World→Prop} {ds:List Nat}
def Aa(P:Program)(md:Region.Mode)(ops:Array Oper)(Q:Exit→Act→World→Prop)(S:World→Prop)(ds:List Nat)(fuel:Nat)(listed:Array Bool)(a:Act)(w:World)(rs:List Nat):Prop :=
 ∀ i∈rs,wpOp P ops Q i (fun a' w'=>(i∉ds→S w→S w')∧AY P md ops Q S ds fuel (listed.setIfInBounds i true) a' w') a w
theorem Aa.nil{fuel:Nat}{listed:Array Bool}{a:Act}{w:World}:Aa P md ops Q S ds fuel listed a w []:=fun _ h=>by cases h
theorem Aa.cons{fuel:Nat}{listed:Array Bool}{a:Act}{w:World}{i:Nat}{o:Oper}{rs:List Nat}(ho:ops[i]?=some o)(hd:i∉ds)
  (h:∀ K':Act→World→Prop,Shut (∀ a w,S w→(S w→AY P md ops Q S ds fuel (listed.setIfInBounds i true) a w)→K' a w)→if Region.wanted o (yielded ops a.tmps)=true then Oper.wp P o a w K' Q else K' (a.put o.dst undef) w)
  (hs:Aa P md ops Q S ds fuel listed a w rs):Aa P md ops Q S ds fuel listed a w (i::rs):=fun j hj=>by
 rcases List.mem_cons.1 hj with rfl |hj
 ·exact wpOp_step ho (fun K' hK=>h K' (fun a w hS hW=>hK a w ⟨fun _ _=>hS,hW hS⟩))
 ·exact hs j hj
theorem E8{rs:List Nat}{fuel:Nat}{listed:Array Bool}{a:Act}{w:World}(hr:Region.ready md ops listed=rs)(hne:rs≠[])
 (h:Aa P md ops Q S ds fuel listed a w rs):AY P md ops Q S ds (fuel+1) listed a w:=LC hr hne h
theorem Xh{id n:Nat}{a:Act}{w:World}(l:Array Bool)(hm:P.follows .mixedOrders=true)(hn:ops.size=n)(hl:Array.replicate n false=l)(hS:S w.drew)
  (h:S w.drew→AY P .any ops Q S ds n l a w.drew):(Code.region id ops true).wp P Q a w:=by
 subst hn;subst hl;exact K3 hm (h hS)
def Vu(md:Region.Mode)(ops:Array Oper)(l l':Array Bool)(i:Nat):Bool :=
 Region.noSelect ops&&Region.free md ops l i&&(Region.ready md ops l).contains i&&(l.setIfInBounds i true==l')
theorem Ju{i:Nat}{N:Option Tmp}{oi:Oper}{v:Value}{fuel:Nat}{l:Array Bool}{a:Act}{w:World}(l':Array Bool)(hi:ops[i]?=some oi)(hN:oi.dst=N)(hc:Vu md ops l l' i=true)
  (hQ:∀ c a w,Q (.panic c) (a.put oi.dst v) w→Q (.panic c) a w)(hy:Yields P ops oi v a){a':Act}(ha:a.put N v=a')
  (h:AY P md ops Q S ds fuel l' a' w):AY P md ops Q S ds (fuel+1) l a w:=by
 subst ha;subst hN;simp only[Vu,Bool.and_eq_true,beq_iff_eq]at hc;obtain⟨⟨⟨h1,h2⟩,h3⟩,h6⟩:=hc;subst h6;exact LB hi (Region.noSelect_spec h1) hQ fuel l a w (Region.free_spec hi h2) (by simpa using h3) hy h
def MQ(md:Region.Mode)(ops:Array Oper)(l l':Array Bool)(i:Nat):Bool:=(Region.ready md ops l==[i])&&(l.setIfInBounds i true==l')
theorem Vq{i:Nat}{N:Option Tmp}{oi:Oper}{fuel:Nat}{l:Array Bool}{a:Act}{w:World}(l':Array Bool)(hi:ops[i]?=some oi)(hN:oi.dst=N)(hc:MQ md ops l l' i=true)(hd:i∉ds)
  (h:∀ K:Act→World→Prop,Shut (∀ a' w',S w'→(S w'→AY P md ops Q S ds fuel l' a' w')→K a' w')→if Region.wanted oi (yielded ops a.tmps)=true then Oper.wp P oi a w K Q else K (a.put N undef) w) :
  AY P md ops Q S ds (fuel+1) l a w:=by
 subst hN;simp only[MQ,Bool.and_eq_true,beq_iff_eq]at hc;obtain⟨h1,h2⟩:=hc;subst h2;exact E8 h1 (by simp) (Aa.cons hi hd (fun K hK=>h K hK) Aa.nil)
theorem XX{l:Array Bool}{a:Act}{w:World}{n:Nat}(hr:(Region.ready md ops l==[])=true)(h:Q .normal a w):AY P md ops Q S ds n l a w:=K2 (by simpa using hr) h n
theorem XW{i j:Nat}{Ni Nj:Option Tmp}{oi oj:Oper}{fuel:Nat}{l:Array Bool}{a:Act}{w:World}(li lj:Array Bool)(hi:ops[i]?=some oi)(hj:ops[j]?=some oj)(hNi:oi.dst=Ni)(hNj:oj.dst=Nj)
  (hc:(Region.ready md ops l==[i,j]&&l.setIfInBounds i true==li&&l.setIfInBounds j true==lj)=true)(hdi:i∉ds)(hdj:j∉ds)
  (h1:∀ K:Act→World→Prop,Shut (∀ a' w',S w'→(S w'→AY P md ops Q S ds fuel li a' w')→K a' w')→if Region.wanted oi (yielded ops a.tmps)=true then Oper.wp P oi a w K Q else K (a.put Ni undef) w)
  (h2:∀ K:Act→World→Prop,Shut (∀ a' w',S w'→(S w'→AY P md ops Q S ds fuel lj a' w')→K a' w')→if Region.wanted oj (yielded ops a.tmps)=true then Oper.wp P oj a w K Q else K (a.put Nj undef) w) :
  AY P md ops Q S ds (fuel+1) l a w:=by
 subst hNi;subst hNj;simp only[Bool.and_eq_true,beq_iff_eq]at hc;obtain⟨⟨h3,h4⟩,h5⟩:=hc;subst h4;subst h5;exact E8 h3 (by simp) (Aa.cons hi hdi (fun K hK=>h1 K hK) (Aa.cons hj hdj (fun K hK=>h2 K hK) Aa.nil))
theorem Za{i j k:Nat}{Ni Nj Nk:Option Tmp}{oi oj ok:Oper}{fuel:Nat}{l:Array Bool}{a:Act}{w:World}(li lj lk:Array Bool)(hi:ops[i]?=some oi)(hj:ops[j]?=some oj)(hk:ops[k]?=some ok)(hNi:oi.dst=Ni)(hNj:oj.dst=Nj)(hNk:ok.dst=Nk)
  (hc:(Region.ready md ops l==[i,j,k]&&l.setIfInBounds i true==li&&l.setIfInBounds j true==lj&&l.setIfInBounds k true==lk)=true)(hdi:i∉ds)(hdj:j∉ds)(hdk:k∉ds)
  (h1:∀ K:Act→World→Prop,Shut (∀ a' w',S w'→(S w'→AY P md ops Q S ds fuel li a' w')→K a' w')→if Region.wanted oi (yielded ops a.tmps)=true then Oper.wp P oi a w K Q else K (a.put Ni undef) w)
  (h2:∀ K:Act→World→Prop,Shut (∀ a' w',S w'→(S w'→AY P md ops Q S ds fuel lj a' w')→K a' w')→if Region.wanted oj (yielded ops a.tmps)=true then Oper.wp P oj a w K Q else K (a.put Nj undef) w)
  (h3:∀ K:Act→World→Prop,Shut (∀ a' w',S w'→(S w'→AY P md ops Q S ds fuel lk a' w')→K a' w')→if Region.wanted ok (yielded ops a.tmps)=true then Oper.wp P ok a w K Q else K (a.put Nk undef) w) :
  AY P md ops Q S ds (fuel+1) l a w:=by
 subst hNi;subst hNj;subst hNk;simp only[Bool.and_eq_true,beq_iff_eq]at hc;obtain⟨⟨⟨h4,h5⟩,h6⟩,h7⟩:=hc;subst h5;subst h6;subst h7;exact E8 h4 (by simp) (Aa.cons hi hdi (fun K hK=>h1 K hK) (Aa.cons hj hdj (fun K hK=>h2 K hK) (Aa.cons hk hdk (fun K hK=>h3 K hK) Aa.nil)))
def HE:Act→List (Tmp×Value)→Act
 |a,[]=>a
 |a,(n,v)::r=>HE (a.put (some n) v) r
theorem XV{σ:Type}{fuel:Nat}{l:Array Bool}{a:Act}{w:World}(fuel':Nat)(l':Array Bool)(ns:σ→List (Tmp×Value))(F:σ→World→Prop)
 (hcont:∀ s w',F s w'→AY P md ops Q S ds fuel' l' (HE a (ns s)) w')
 (h:(∀ s w',F s w'→AY P md ops Q S ds fuel' l' (HE a (ns s)) w')→AY P md ops Q S ds fuel l a w):AY P md ops Q S ds fuel l a w:=h hcont
theorem Gx{fuel:Nat}{l:Array Bool}{a a':Act}{w:World}(ha:a=a')(h:AY P md ops Q S ds fuel l a' w):AY P md ops Q S ds fuel l a w:=by
 subst ha;exact h
theorem XZ{oi:Oper}{N:Option Tmp}{a:Act}{w:World}{K:Act→World→Prop}(f:FuncId)(args:Array Value)(hw:Region.wanted oi (yielded ops a.tmps)=true)(hN:oi.dst=N)(hrun:(execOp a.eval oi).run P w=.ok (.enter f args) w)
  (h:Calls P f args w fun e w'=>∃ v,e=.returned v∧K (a.put N v) w'):if Region.wanted oi (yielded ops a.tmps)=true then Oper.wp P oi a w K Q else K (a.put N undef) w:=by
 rw[if_pos hw];subst hN;unfold Oper.wp;rw[hrun,Oper.upon_enter];refine h.mono fun e w'' hh=>?_
 obtain⟨v,rfl,hk⟩:=hh;exact hk
theorem Q9{f:FuncId}{fn:Func}(hf:P.funcs[f]?=some fn)(hname:(fn.name == "runtime.NumGoroutine")=false)(hb:fn.body.isSome=true)(args:Array Value)(w:World):(callFunc f args).run P w=.ok (.enter f args) w:=by
 have h1:fn.name ≠ "runtime.NumGoroutine" :=by simpa using hname
 obtain⟨c,hc⟩:=Option.isSome_iff_exists.1 hb;simp[callFunc,hf,h1,hc]
theorem Te{oi:Oper}{N:Option Tmp}{a:Act}{w:World}{K:Act→World→Prop}{f:FuncId}{fn:Func}{az:Array Operand}{ts:Array TypeId}(hf:P.funcs[f]?=some fn)(hname:(fn.name == "runtime.NumGoroutine")=false)(hb:fn.body.isSome=true)(args:Array Value)
  (hw:Region.wanted oi (yielded ops a.tmps)=true)(hN:oi.dst=N)(hop:oi.op=.call {callee:=.value (.func f),args:=az,argTypes:=ts})(hargs:az.map a.eval=args)
  (h:Calls P f args w fun e w'=>∃ v,e=.returned v∧K (a.put N v) w'):if Region.wanted oi (yielded ops a.tmps)=true then Oper.wp P oi a w K Q else K (a.put N undef) w:=by
 refine XZ f args hw hN ?_ h;have he:=Q9 hf hname hb args w;unfold execOp;simp[hop,resolve,Deferred.ofValue,invoke,Act.eval,hargs,he]
theorem MR{rest:List Oper}{oi:Oper}{a:Act}{w:World}(N:Option Tmp)(hd:oi.dst=N)(hg:oi.guard=none){f:FuncId}{fn:Func}{az:Array Operand}{ts:Array TypeId}(hf:P.funcs[f]?=some fn)(hname:(fn.name == "runtime.NumGoroutine")=false)(hb:fn.body.isSome=true)(args:Array Value)
  (hop:oi.op=.call {callee:=.value (.func f),args:=az,argTypes:=ts})(hargs:az.map a.eval=args)
  (h:Calls P f args w fun e w'=>∃ v,e=.returned v∧wpList P ops Q rest (a.put N v) w'):wpList P ops Q (oi::rest) a w:=by
 refine wpList_plain hg fun K hK=>?_
 have he:=Q9 hf hname hb args w;have hrun:(execOp a.eval oi).run P w=.ok (.enter f args) w:=by
  unfold execOp;simp[hop,resolve,Deferred.ofValue,invoke,Act.eval,hargs,he]
 unfold Oper.wp;rw[hrun,Oper.upon_enter];refine h.mono fun e w'' hh=>?_
 obtain⟨v,rfl,hk⟩:=hh;subst hd;exact hK _ _ hk
theorem P6{oi:Oper}{N:Option Tmp}{a:Act}{w w1:World}{v:Value}{K:Act→World→Prop}(hw:Region.wanted oi (yielded ops a.tmps)=true)(hN:oi.dst=N)(hrun:(execOp a.eval oi).run P w=.ok (.value v) w1)
  (h:K (a.put N v) w1):if Region.wanted oi (yielded ops a.tmps)=true then Oper.wp P oi a w K Q else K (a.put N undef) w:=by
 rw[if_pos hw];subst hN;unfold Oper.wp;rw[hrun];exact h
theorem DI(n:Int):IntKind.i64.wrap n=Go.RowKit.wrap64 n:=by unfold Go.RowKit.wrap64;exact IntKind.wrap_i64 n
theorem DX(n:Int):IntKind.i32.wrap n=Go.RowKit.wrap32 n:=by unfold Go.RowKit.wrap32;exact IntKind.wrap_i32 n
end
end
end Go.Proofs.YtnmahobjmpdkdaaGreatDoorW.PrintLast

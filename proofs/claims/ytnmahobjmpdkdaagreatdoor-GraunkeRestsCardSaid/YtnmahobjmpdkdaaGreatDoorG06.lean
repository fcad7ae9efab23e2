/- Parts: MachPlain, LockKit, Fair, FairS. -/
import Derived.Test.YtnmahobjmpdkdaaGreatDoorG05
import Derived.Test.YtnmahobjmpdkdaaGreatDoorG03
import Derived.Test.YtnmahobjmpdkdaaGreatDoorG02
set_option linter.unusedVariables false
set_option linter.unusedSimpArgs false
set_option maxRecDepth 100000
set_option maxHeartbeats 40000000
namespace Go.Proofs.YtnmahobjmpdkdaaGreatDoor
section
open Go Go.Lib
structure CoreM where
 r:List Nat
 pc:Int
deriving DecidableEq
def CoreM.get(c:CoreM)(i:Int):Nat:=c.r.getD i.toNat 0
def CoreM.set(c:CoreM)(i:Int)(v:Nat):CoreM:={c with r:=c.r.set i.toNat v}
def CoreM.at(c:CoreM)(pc:Int):CoreM:={c with pc:=pc}
def Bj:Nat:=4294967296
def Fz(c:CoreM)(i:In)(self:Nat):CoreM :=
 if i.op≥16∨i.op=13 then c
 else if i.op=1 then (c.set i.d i.k.toNat).at (c.pc+1)
 else if i.op=2 then (c.set i.d (c.get i.s)).at (c.pc+1)
 else if i.op=3 then (c.set i.d ((c.get i.s+i.k.toNat)%Bj)).at (c.pc+1)
 else if i.op=4 then (c.set i.d (Nat.land (c.get i.s) i.k.toNat)).at (c.pc+1)
 else if i.op=5 then (c.set i.d (c.get i.s*2 ^ i.k.toNat%Bj)).at (c.pc+1)
 else if i.op=6 then (c.set i.d (c.get i.s/2 ^ i.k.toNat)).at (c.pc+1)
 else if i.op=7 then (c.set i.d (Nat.lor (c.get i.s) (c.get i.t))).at (c.pc+1)
 else if i.op=8 then c.at (if c.get i.s=c.get i.t then i.q else c.pc+1)
 else if i.op=9 then c.at (if c.get i.s=c.get i.t then c.pc+1 else i.q)
 else if i.op=10 then c.at i.q
 else if i.op=11 then (c.set i.d self).at (c.pc+1)
 else c.at (c.pc+1)
def runM(code:List In)(self:Nat):Nat→CoreM→List Int→CoreM×List Int×Int×Int
 |0,c,ms=>(c,ms,-1,11)
 |n+1,c,ms =>
  if c.pc<0∨c.pc≥code.length then (c,ms,-1,11) else
  if (code.getD c.pc.toNat In.zero).op≥16 then (c,ms,-1,0)
  else if n=0 then (c,ms,-1,11)
  else if (code.getD c.pc.toNat In.zero).op=13 then (c,ms,(code.getD c.pc.toNat In.zero).k,0)
  else runM code self n (Fz c (code.getD c.pc.toNat In.zero) self) (if (code.getD c.pc.toNat In.zero).op=12 then ms++[(code.getD c.pc.toNat In.zero).k] else ms)
structure FP where
 each:Nat
 free:List (List Nat)
 gen:List Nat
 out:List Nat
deriving DecidableEq
def FP.new(n each:Nat):FP:=⟨each,(List.range n).map fun t=>(List.range each).map fun i=>t*each+i+1,List.replicate (n*each) 0,List.replicate (n*each) 0⟩
def FP.handle(p:FP)(n:Nat):Nat:=p.gen.getD (n-1) 0*4096+n
def FP.take(p:FP)(t:Nat):FP×Nat :=
 match p.free.getD t []with
 |[]=>(p,0)
 |n::l=>({p with free:=p.free.set t l,out:=p.out.set (n-1) 1},p.handle n)
def FP.back(p:FP)(h:Nat):Option FP :=
 if h=0 then some p
 else if 1≤h%4096∧h%4096≤p.out.length∧p.out.getD (h%4096-1) 0=1∧p.handle (h%4096)=h then
  some {p with
   out:=p.out.set (h%4096-1) 0
   gen:=p.gen.set (h%4096-1) ((h/4096%262144+1)%262144)
   free:=p.free.set ((h%4096-1)/p.each) (p.free.getD ((h%4096-1)/p.each) []++[h%4096])}
 else none
def FP.many(p:FP)(t:Nat):Int:=if t<p.free.length then (p.each:Int)-(p.free.getD t []).length else 0
structure AG where
 pg:Pg
 cells:List (Nat×Nat)
 words:List Nat
 VI:FP
 AP:List CoreM
structure Ex where
 marks:List Int
 done:Int
 addr:Int
 wrote:Nat
 stay:Nat
 e:Int
deriving DecidableEq
def B9:Nat→List Nat→List (Nat×Nat)
 |_,[]=>[]
 |a,s::r=>(List.range s).map (fun i=>(a,i))++B9 (a+1) r
def AL(sizes:List Nat):List (Nat×Nat):=B9 0 sizes
def CY(a:Int)(p:Nat):Nat→List (Nat×Nat)→Option Nat
 |_,[]=>none
 |k,c::r=>if (c.1:Int)=a∧c.2=p then some k else CY a p (k+1) r
def AG.new(pg:Pg)(sizes init:List Nat)(n each:Nat)(r7:List Nat):AG :=
 ⟨pg,AL sizes,init,FP.new n each,r7.map fun v=>⟨[0,0,0,0,0,0,0,v],0⟩⟩
def AG.core(x:AG)(t:Nat):CoreM:=x.AP.getD t ⟨[],0⟩
def AG.go(x:AG)(t:Nat)(c:CoreM)(addr:Int)(wrote:Nat):AG×Ex :=
 let r:=runM x.pg.l t 257 c []
 ({x with AP:=x.AP.set t r.1},⟨r.2.1,r.2.2.1,addr,wrote,0,r.2.2.2⟩)
def AG.begin(x:AG)(t:Nat)(unlock:Bool):AG×Ex :=
 x.go t ((x.core t).at (if unlock=true then x.pg.unlock else x.pg.lock)) (-1) 0
def HE(i:In)(c:CoreM)(was:Nat)(late:Bool):Option Nat×CoreM×Bool :=
 if i.op=16 then (none,(c.set i.d was).at (c.pc+1),false)
 else if i.op=17 then (some (c.get i.t),c.at (c.pc+1),false)
 else if i.op=18 then (some (c.get i.t),(c.set i.d was).at (c.pc+1),false)
 else if i.op=19 then
  if was=c.get i.t then (some (c.get i.u),(c.set i.d 1).at (c.pc+1),false) else (none,(c.set i.d 0).at (c.pc+1),false)
 else if i.op=20 then (some ((was+i.k.toNat)%Bj),(c.set i.d was).at (c.pc+1),false)
 else if i.op=21 then
  if (if i.k=1 then decide (was≠c.get i.t) else decide (was=c.get i.t))=true then (none,(c.set i.d was).at (c.pc+1),false)
  else if late=false∨i.q<0 then (none,c.set i.d was,true)
  else (none,(c.set i.d was).at i.q,false)
 else (none,c.at (c.pc+1),false)
def E9:Ex:=⟨[],-1,-1,0,0,11⟩
def AG.step(x:AG)(t:Nat)(late:Bool):AG×Ex :=
 let c:=x.core t
 if c.pc<0∨c.pc≥x.pg.l.length then (x,E9) else
 let i:=x.pg.l.getD c.pc.toNat In.zero
 if i.op<16 then (x,E9)
 else if i.op=22 then
  let p:=x.VI.take t
  ({x with VI:=p.1}).go t ((c.set i.d p.2).at (c.pc+1)) (-1) 0
 else if i.op=23 then
  match x.VI.back (c.get i.s) with
  |none=>(x,E9)
  |some p=>({x with VI:=p}).go t (c.at (c.pc+1)) (-1) 0
 else
  match CY i.a (c.get i.s%4096) 0 x.cells with
  |none=>(x,E9)
  |some a =>
   let r:=HE i c (x.words.getD a 0) late
   let x1:=match r.1 with
    |none=>x
    |some v=>{x with words:=x.words.set a v}
   let wrote:=match r.1 with
    |none=>0
    |some _=>1
   if r.2.2=true then ({x1 with AP:=x1.AP.set t r.2.1},⟨[],-1,a,wrote,1,0⟩)
   else x1.go t r.2.1 a wrote
structure AQ where
 x:AG
 act:List Nat
 l:List DZ
 bad:Bool
def FN(k:Int):Nat:=[0,2,3,4,9].getD k.toNat 0
def JI(done:Int):Option (Nat×Nat):=if done=0 then some (6,0) else if done=1 then some (5,2) else if done=2 then some (10,0) else if done=3 then some (7,0) else none
def Kz(act:Nat)(o:Ex):Bool:=decide (o.e≠0)||(decide (o.done≥0)&&(decide (o.done=2) != decide (act=3)))
def AQ.EK(r:AQ)(t:Nat)(o:Ex):AQ :=
 let l:=r.l++o.marks.map (fun k=>(FN k,t))
 if Kz (r.act.getD t 0) o=true then {r with l:=l,bad:=true}
 else match JI o.done with
  |none=>{r with l:=l}
  |some p=>{r with l:=l++[(p.1,t)],act:=r.act.set t p.2}
def AQ.op(r:AQ)(kind t late:Int):AQ :=
 if t<0∨t≥r.act.length∨r.bad=true then r
 else if kind=1∧r.act.getD t.toNat 0=0 then
  let s:=r.x.begin t.toNat false
  ({r with x:=s.1,act:=r.act.set t.toNat 1,l:=r.l++[(1,t.toNat)]}:AQ).EK t.toNat s.2
 else if kind=2∧r.act.getD t.toNat 0=2 then
  let s:=r.x.begin t.toNat true
  ({r with x:=s.1,act:=r.act.set t.toNat 3,l:=r.l++[(8,t.toNat)]}:AQ).EK t.toNat s.2
 else if kind≠1∧kind≠2∧(r.act.getD t.toNat 0=1∨r.act.getD t.toNat 0=3) then
  let s:=r.x.step t.toNat (decide (late≠0))
  ({r with x:=s.1}:AQ).EK t.toNat s.2
 else r
def AQ.new(x:AG)(n:Nat):AQ:=⟨x,List.replicate n 0,[],false⟩
def AQ.ops(r:AQ)(l:List (Int×Int×Int)):AQ:=l.foldl (fun r o=>r.op o.1 o.2.1 o.2.2) r
def AQ.JD(r:AQ)(n:Nat):Bool:=!r.bad&&decide (Cj n r.l=r.l.length)
def EG(x:AG)(n:Nat)(l:List (Int×Int×Int)):Bool:=((AQ.new x n).ops l).JD n
structure EC where
 r:AQ
 left:List Nat
 EV:Nat
 busy:Bool
def EC.EH(v:EC)(t:Nat):EC :=
 let d:=v.r.act.getD t 0
 let v1:EC:=if d=0∧v.left.getD t 0 > 0 then {v with left:=v.left.set t (v.left.getD t 0-1),r:=v.r.op 1 t 0}
  else if d=2 then {v with EV:=v.EV+1,r:=v.r.op 2 t 0}
  else {v with r:=v.r.op 3 t 0}
 {v1 with busy:=v1.busy||decide (v1.r.act.getD t 0≠0)||decide (v1.left.getD t 0 > 0)}
def EC.round(n:Nat)(v:EC):EC:=(List.range n).foldl EC.EH {v with busy:=false}
def EC.rounds(n:Nat):Nat→EC→EC
 |0,v=>v
 |k+1,v=>let v1:=v.round n;if v1.busy=false∨v1.r.bad=true then v1 else v1.rounds n k
def Dq(x:AG)(n calls:Nat):Bool :=
 let v:=EC.rounds n (100*(n+1)*(calls+1)) ⟨AQ.new x n,List.replicate n calls,0,true⟩
 !v.r.bad&&decide (v.EV=n*calls)&&decide (Cj n v.r.l=v.r.l.length)
def Dw(v:AQ×Bool)(t:Nat):AQ×Bool :=
 let r:=if v.1.act.getD t 0=2 then v.1.op 2 t 0 else v.1.op 3 t 0
 (r,v.2||decide (r.act.getD t 0≠0))
def Gr(r:AQ):AQ×Bool:=(List.range r.act.length).foldl Dw (r,false)
def IY:Nat→AQ→AQ×Bool
 |0,r=>(r,false)
 |k+1,r=>let v:=Gr r;if v.2=false then (v.1,true) else IY k v.1
def BS:Nat→AQ→Nat→AQ
 |0,r,_=>r
 |k+1,r,t=>BS k (r.op 3 t 0) t
def Ci(x:AG)(each n:Nat)(l:List (Int×Int×Int))(t lock unlock:Nat):Bool :=
 let v:=IY 5000 ((AQ.new x n).ops l)
 if v.2=false∨v.1.bad=true then false else
 let none:=decide (each > 0)&&decide (v.1.x.VI.many t=each)
 let r:=BS lock (v.1.op 1 t 0) t
 if none=true then !r.bad&&decide (r.act.getD t 0=0)&&decide ((r.l.getLastD (0,0)).1=7)
 else if r.act.getD t 0≠2 then false
 else
  let q:=BS unlock (r.op 2 t 0) t
  !q.bad&&decide (q.act.getD t 0=0)&&decide (Cj n q.l=q.l.length)
end
section
def V4(pg:Pg)(words:List Nat)(t:Nat)(c:CoreM)(addr:Int)(wrote:Nat):List Nat×CoreM×Ex :=
 let r:=runM pg.l t 257 c []
 (words,r.1,⟨r.2.1,r.2.2.1,addr,wrote,0,r.2.2.2⟩)
def Jd(pg:Pg)(cells:List (Nat×Nat))(words:List Nat)(t:Nat)(c:CoreM)(late:Bool):Option (List Nat×CoreM×Ex) :=
 if c.pc<0∨c.pc≥pg.l.length then some (words,c,E9) else
 let i:=pg.l.getD c.pc.toNat In.zero
 if i.op<16 then some (words,c,E9)
 else if i.op=22 then none
 else if i.op=23 then none
 else
  match CY i.a (c.get i.s%4096) 0 cells with
  |none=>some (words,c,E9)
  |some a =>
   let r:=HE i c (words.getD a 0) late
   let w1:=match r.1 with
    |none=>words
    |some v=>words.set a v
   let wrote:=match r.1 with
    |none=>0
    |some _=>1
   if r.2.2=true then some (w1,r.2.1,⟨[],-1,a,wrote,1,0⟩)
   else some (V4 pg w1 t r.2.1 a wrote)
theorem V5{α:Type}(l:List α)(t:Nat)(d:α):l.set t (l.getD t d)=l:=by
 apply List.ext_getElem?
 intro i;rw[List.getElem?_set];by_cases h:t=i
 ·subst h;rw[if_pos rfl];by_cases h2:t<l.length
  ·rw[if_pos h2,List.getD_eq_getElem?_getD,List.getElem?_eq_getElem h2];rfl
  ·rw[if_neg h2,List.getElem?_eq_none (by omega)]
 ·rw[if_neg h]
theorem X0{x:AG}{t:Nat}{late:Bool}{w:List Nat}{c:CoreM}{o:Ex}(h:Jd x.pg x.cells x.words t (x.core t) late=some (w,c,o)) :
  x.step t late=({x with words:=w,AP:=x.AP.set t c},o):=by
 have e:x.AP.set t (x.core t)=x.AP:=V5 x.AP t _;unfold Jd at h;unfold AG.step;by_cases h1:(x.core t).pc<0∨(x.core t).pc≥x.pg.l.length
 ·rw[if_pos h1]at h ⊢;cases h;rw[e]
 ·rw[if_neg h1]at h ⊢;dsimp only at h ⊢;by_cases h2:(x.pg.l.getD (x.core t).pc.toNat In.zero).op<16
  ·rw[if_pos h2]at h ⊢;cases h;rw[e]
  ·rw[if_neg h2]at h ⊢;by_cases h3:(x.pg.l.getD (x.core t).pc.toNat In.zero).op=22
   ·rw[if_pos h3]at h;cases h
   ·rw[if_neg h3]at h ⊢;by_cases h4:(x.pg.l.getD (x.core t).pc.toNat In.zero).op=23
    ·rw[if_pos h4]at h;cases h
    ·rw[if_neg h4]at h ⊢;cases h5:CY (x.pg.l.getD (x.core t).pc.toNat In.zero).a ((x.core t).get (x.pg.l.getD (x.core t).pc.toNat In.zero).s%4096) 0 x.cells with
     |none=>rw[h5]at h;dsimp only at h ⊢;cases h;rw[e]
     |some a =>
      rw[h5]at h;dsimp only at h ⊢;generalize HE (x.pg.l.getD (x.core t).pc.toNat In.zero) (x.core t) (x.words.getD a 0) late=r at h ⊢;by_cases h6:r.2.2=true
      ·rw[if_pos h6]at h ⊢;cases h;cases r.1<;>rfl
      ·rw[if_neg h6]at h ⊢;cases hr:r.1<;>rw[hr]at h<;>cases h<;>rfl
theorem PU{x:AG}{t:Nat}{u:Bool}{w:List Nat}{c:CoreM}{o:Ex}(h:V4 x.pg x.words t ((x.core t).at (if u=true then x.pg.unlock else x.pg.lock)) (-1) 0=(w,c,o)) :
  x.begin t u=({x with words:=w,AP:=x.AP.set t c},o):=by
 unfold V4 at h;unfold AG.begin AG.go;cases h;rfl
def TH(i:In)(c:CoreM)(was:Nat)(late b:Bool):Option Nat×CoreM×Bool :=
 if i.op=16 then (none,(c.set i.d was).at (c.pc+1),false)
 else if i.op=17 then (some (c.get i.t),c.at (c.pc+1),false)
 else if i.op=18 then (some (c.get i.t),(c.set i.d was).at (c.pc+1),false)
 else if i.op=19 then (bif b then (some (c.get i.u),(c.set i.d 1).at (c.pc+1),false) else (none,(c.set i.d 0).at (c.pc+1),false))
 else if i.op=20 then (some ((was+i.k.toNat)%Bj),(c.set i.d was).at (c.pc+1),false)
 else if i.op=21 then
  if (bif decide (i.k=1) then !b else b)=true then (none,(c.set i.d was).at (c.pc+1),false)
  else if late=false∨i.q<0 then (none,c.set i.d was,true)
  else (none,(c.set i.d was).at i.q,false)
 else (none,c.at (c.pc+1),false)
theorem V6(i:In)(c:CoreM)(was:Nat)(late:Bool):HE i c was late=TH i c was late (decide (was=c.get i.t)):=by
 unfold HE TH;by_cases h:was=c.get i.t<;>by_cases hk:i.k=1<;>simp[h,hk]
def Ye(pg:Pg)(cells:List (Nat×Nat))(words:List Nat)(t:Nat)(c:CoreM)(late b:Bool):Option (List Nat×CoreM×Ex) :=
 if c.pc<0∨c.pc≥pg.l.length then some (words,c,E9) else
 let i:=pg.l.getD c.pc.toNat In.zero
 if i.op<16 then some (words,c,E9)
 else if i.op=22 then none
 else if i.op=23 then none
 else
  match CY i.a (c.get i.s%4096) 0 cells with
  |none=>some (words,c,E9)
  |some a =>
   let r:=TH i c (words.getD a 0) late b
   let w1:=match r.1 with
    |none=>words
    |some v=>words.set a v
   let wrote:=match r.1 with
    |none=>0
    |some _=>1
   if r.2.2=true then some (w1,r.2.1,⟨[],-1,a,wrote,1,0⟩)
   else some (V4 pg w1 t r.2.1 a wrote)
def cmpL(pg:Pg)(cells:List (Nat×Nat))(words:List Nat)(c:CoreM):Bool :=
 decide (words.getD ((CY (pg.l.getD c.pc.toNat In.zero).a (c.get (pg.l.getD c.pc.toNat In.zero).s%4096) 0 cells).getD 0) 0=c.get (pg.l.getD c.pc.toNat In.zero).t)
theorem Sl(pg:Pg)(cells:List (Nat×Nat))(words:List Nat)(t:Nat)(c:CoreM)(late:Bool):Jd pg cells words t c late=Ye pg cells words t c late (cmpL pg cells words c):=by
 unfold Jd Ye cmpL;dsimp only;cases h:CY (pg.l.getD c.pc.toNat In.zero).a (c.get (pg.l.getD c.pc.toNat In.zero).s%4096) 0 cells with
 |none=>rfl
 |some a=>simp only[V6,Option.getD_some]
def PR(pg:Pg)(words:List Nat)(t:Nat)(c:CoreM)(late:Bool)(f:Option Nat)(b:Bool):Option (List Nat×CoreM×Ex) :=
 if c.pc<0∨c.pc≥pg.l.length then some (words,c,E9) else
 let i:=pg.l.getD c.pc.toNat In.zero
 if i.op<16 then some (words,c,E9)
 else if i.op=22 then none
 else if i.op=23 then none
 else
  match f with
  |none=>some (words,c,E9)
  |some a =>
   let r:=TH i c (words.getD a 0) late b
   let w1:=match r.1 with
    |none=>words
    |some v=>words.set a v
   let wrote:=match r.1 with
    |none=>0
    |some _=>1
   if r.2.2=true then some (w1,r.2.1,⟨[],-1,a,wrote,1,0⟩)
   else some (V4 pg w1 t r.2.1 a wrote)
theorem HC{pg:Pg}{cells:List (Nat×Nat)}{words:List Nat}{t:Nat}{c:CoreM}{late:Bool}(a:Nat)(b:Bool)
  (hf:CY (pg.l.getD c.pc.toNat In.zero).a (c.get (pg.l.getD c.pc.toNat In.zero).s%4096) 0 cells=some a)(hb:decide (words.getD a 0=c.get (pg.l.getD c.pc.toNat In.zero).t)=b) :
  Jd pg cells words t c late=PR pg words t c late (some a) b:=by
 unfold Jd PR;dsimp only;rw[hf];simp only[V6,hb]
theorem Iz{a:Int}{p:Nat}:∀ (l r:List (Nat×Nat)) (k:Nat),(∀ c∈l,¬((c.1:Int)=a∧c.2=p))→CY a p k (l++r)=CY a p (k+l.length) r
 |[],r,k,_=>rfl
 |c::l,r,k,h=>by
  rw[List.cons_append,CY,if_neg (h c (List.mem_cons_self ..)),Iz l r (k+1) (fun c hc=>h c (List.mem_cons_of_mem _ hc)),List.length_cons]
  congr 1;omega
theorem Iy{A p:Nat}{k:Nat}:∀ (m:Nat) (r:List (Nat×Nat)),p<m→CY (A:Int) p k ((List.range m).map (fun i=>(A,i))++r)=some (k+p)
 |m+1,r,h=>by
  rw[List.range_succ,List.map_append,List.append_assoc];by_cases e:p=m
  ·subst e;rw[Iz _ _ _ (fun c hc=>by
    obtain⟨i,hi,rfl⟩:=List.mem_map.1 hc;have:=List.mem_range.1 hi;dsimp only;omega)]
   simp[CY]
  ·exact Iy m _ (by omega)
theorem Kk{a:Int}{A p:Nat}{r:List (Nat×Nat)}{k m:Nat}(h:(A:Int)≠a):CY a p k ((List.range m).map (fun i=>(A,i))++r)=CY a p (k+m) r:=by
 rw[Iz _ _ _ (fun c hc=>by
  obtain⟨i,hi,rfl⟩:=List.mem_map.1 hc;dsimp only;omega)]
 simp
theorem Jb{l:List Nat}{i j v:Nat}(h:i<l.length):(l.set i v).getD j 0=if i=j then v else l.getD j 0:=by
 rw[List.getD_eq_getElem?_getD,List.getD_eq_getElem?_getD,List.getElem?_set];by_cases e:i=j
 ·rw[if_pos e,if_pos e,if_pos h];rfl
 ·rw[if_neg e,if_neg e]
structure LS where
 words:List Nat
 core:Nat→CoreM
 act:Nat→Nat
 tr:DC
def LS.EK(s:LS)(t:Nat)(o:Ex):LS :=
 match JI o.done with
 |none=>{s with tr:=o.marks.foldl (fun x k=>x.enter (FN k) t) s.tr}
 |some p=>{s with tr:=(o.marks.foldl (fun x k=>x.enter (FN k) t) s.tr).enter p.1 t,act:=Ay s.act t p.2}
structure BF (n:Nat) (pg:Pg) (cells:List (Nat×Nat)) (r:AQ) (s:LS):Prop where
 pg:r.x.pg=pg
 cells:r.x.cells=cells
 words:r.x.words=s.words
 lc:r.x.AP.length=n
 core:∀ t,t<n→r.x.core t=s.core t
 la:r.act.length=n
 act:∀ t,t<n→r.act.getD t 0=s.act t
 bad:r.bad=false
 tr:DC.of n r.l=s.tr
theorem LL(n t:Nat):∀ (ks:List Int) (l:List DZ),DC.of n (l++ks.map (fun k=>(FN k,t)))=ks.foldl (fun x k=>x.enter (FN k) t) (DC.of n l)
 |[],l=>by simp
 |k::ks,l=>by
  rw[List.map_cons,List.append_cons,LL n t ks,DC.FO];rfl
theorem AZ{α:Type}{f:Nat→α}{t:Nat}{v:α}(h:f t=v):Ay f t v=f:=by
 funext s;unfold Ay;split
 ·rename_i e;rw[e,h]
 ·rfl
theorem LM{l:List Nat}{f:Nat→Nat}{n t v:Nat}(hl:l.length=n)(h:∀ s,s<n→l.getD s 0=f s):∀ s,s<n→(l.set t v).getD s 0=Ay f t v s:=by
 intro s hs;have:=h s hs;rw[List.getD_eq_getElem?_getD]at this ⊢;rw[List.getElem?_set];by_cases e:t=s
 ·subst e;rw[if_pos rfl,if_pos (by omega),Ag];rfl
 ·rw[if_neg e,Au _ _ (fun h=>e h.symm)];exact this
theorem JJ{l:List CoreM}{f:Nat→CoreM}{n t:Nat}{v d:CoreM}(hl:l.length=n)(h:∀ s,s<n→l.getD s d=f s):∀ s,s<n→(l.set t v).getD s d=Ay f t v s:=by
 intro s hs;have:=h s hs;rw[List.getD_eq_getElem?_getD]at this ⊢;rw[List.getElem?_set];by_cases e:t=s
 ·subst e;rw[if_pos rfl,if_pos (by omega),Ag];rfl
 ·rw[if_neg e,Au _ _ (fun h=>e h.symm)];exact this
section
variable {n:Nat} {pg:Pg} {cells:List (Nat×Nat)} {r:AQ} {s:LS} {t:Nat} {late:Int}
theorem BF.EK(h:BF n pg cells r s)(ht:t<n){o:Ex}(hb:Kz (s.act t) o=false):BF n pg cells (r.EK t o) (s.EK t o):=by
 unfold AQ.EK LS.EK;rw[h.act t ht,hb];cases he:JI o.done with
 |none=>exact⟨h.pg,h.cells,h.words,h.lc,h.core,h.la,h.act,h.bad,by
  simp only[Bool.false_eq_true,if_false];rw[LL,h.tr]⟩
 |some p=>exact⟨h.pg,h.cells,h.words,h.lc,h.core,by simp[h.la],LM h.la h.act,h.bad,by
  simp only[Bool.false_eq_true,if_false];rw[DC.FO,LL,h.tr]⟩
theorem BF.ZO(h:BF n pg cells r s){w:List Nat}{c:CoreM}:BF n pg cells {r with x:={r.x with words:=w,AP:=r.x.AP.set t c}} {s with words:=w,core:=Ay s.core t c} :=
 ⟨h.pg,h.cells,rfl,by simp[h.lc],JJ h.lc h.core,h.la,h.act,h.bad,h.tr⟩
theorem BF.step(h:BF n pg cells r s)(ht:t<n)(ha:s.act t=1∨s.act t=3){kind:Int}(h1:kind≠1)(h2:kind≠2){w:List Nat}{c:CoreM}{o:Ex}
  (e:Jd pg cells s.words t (s.core t) (decide (late≠0))=some (w,c,o))(hb:Kz (s.act t) o=false) :
  BF n pg cells (r.op kind t late) (({s with words:=w,core:=Ay s.core t c}:LS).EK t o):=by
 have e':=X0 (x:=r.x) (t:=t) (late:=decide (late≠0)) (by rw[h.pg,h.cells,h.words,h.core t ht];exact e);unfold AQ.op;rw[if_neg (by rw[h.la,h.bad];simp;omega),if_neg (fun x=>h1 x.1),if_neg (fun x=>h2 x.1),if_pos ⟨h1,h2,by rw[Int.toNat_natCast,h.act t ht];exact ha⟩];dsimp only;rw[Int.toNat_natCast,e'];exact BF.EK (s:={s with words:=w,core:=Ay s.core t c}) h.ZO ht hb
theorem BF.call(h:BF n pg cells r s)(ht:t<n)(ha:s.act t=0){w:List Nat}{c:CoreM}{o:Ex}
  (e:V4 pg s.words t ((s.core t).at pg.lock) (-1) 0=(w,c,o))(hb:Kz 1 o=false) :
  BF n pg cells (r.op 1 t late) (({words:=w,core:=Ay s.core t c,act:=Ay s.act t 1,tr:=s.tr.enter 1 t}:LS).EK t o):=by
 have e':=PU (x:=r.x) (t:=t) (u:=false) (w:=w) (c:=c) (o:=o) (by rw[h.words,h.core t ht,if_neg (by decide),h.pg];exact e);unfold AQ.op;rw[if_neg (by rw[h.la,h.bad];simp;omega),if_pos ⟨rfl,by rw[Int.toNat_natCast,h.act t ht];exact ha⟩];dsimp only;rw[Int.toNat_natCast,e'];refine BF.EK (s:={words:=w,core:=Ay s.core t c,act:=Ay s.act t 1,tr:=s.tr.enter 1 t}) ?_ ht (by show Kz (Ay s.act t 1 t) o=false;rw[Ag];exact hb);exact⟨h.pg,h.cells,rfl,by simp[h.lc],JJ h.lc h.core,by simp[h.la],LM h.la h.act,h.bad,by rw[DC.FO,h.tr]⟩
theorem BF.unlock(h:BF n pg cells r s)(ht:t<n)(ha:s.act t=2){w:List Nat}{c:CoreM}{o:Ex}
  (e:V4 pg s.words t ((s.core t).at pg.unlock) (-1) 0=(w,c,o))(hb:Kz 3 o=false) :
  BF n pg cells (r.op 2 t late) (({words:=w,core:=Ay s.core t c,act:=Ay s.act t 3,tr:=s.tr.enter 8 t}:LS).EK t o):=by
 have e':=PU (x:=r.x) (t:=t) (u:=true) (w:=w) (c:=c) (o:=o) (by rw[h.words,h.core t ht,if_pos rfl,h.pg];exact e);unfold AQ.op;rw[if_neg (by rw[h.la,h.bad];simp;omega),if_neg (fun x=>by cases x.1),if_pos ⟨rfl,by rw[Int.toNat_natCast,h.act t ht];exact ha⟩];dsimp only;rw[Int.toNat_natCast,e'];refine BF.EK (s:={words:=w,core:=Ay s.core t c,act:=Ay s.act t 3,tr:=s.tr.enter 8 t}) ?_ ht (by show Kz (Ay s.act t 3 t) o=false;rw[Ag];exact hb);exact⟨h.pg,h.cells,rfl,by simp[h.lc],JJ h.lc h.core,by simp[h.la],LM h.la h.act,h.bad,by rw[DC.FO,h.tr]⟩
theorem BF.new(n:Nat)(pg:Pg)(sizes init:List Nat)(each:Nat)(r7:List Nat)(h:r7.length=n) :
  BF n pg (AL sizes) (AQ.new (AG.new pg sizes init n each r7) n) ⟨init,fun t=>⟨[0,0,0,0,0,0,0,r7.getD t 0],0⟩,fun _=>0,DC.new n⟩:=by
 refine⟨rfl,rfl,rfl,by simp[AQ.new,AG.new,h],fun t ht=>?_,by simp[AQ.new],fun t ht=>by simp[AQ.new,ht],rfl,rfl⟩;simp[AQ.new,AG.new,AG.core,List.getD_eq_getElem?_getD,List.getElem?_eq_getElem (show t<r7.length by omega)]
end
theorem V7{n:Nat}{pg:Pg}{cells:List (Nat×Nat)}{I:LS→Prop}
  (hcall:∀ (r:AQ) (s:LS) (t:Nat) (late:Int),BF n pg cells r s→I s→t<n→s.act t=0→∃ s',BF n pg cells (r.op 1 t late) s'∧I s')
  (hunlock:∀ (r:AQ) (s:LS) (t:Nat) (late:Int),BF n pg cells r s→I s→t<n→s.act t=2→∃ s',BF n pg cells (r.op 2 t late) s'∧I s')
  (hstep:∀ (r:AQ) (s:LS) (t:Nat) (kind late:Int),BF n pg cells r s→I s→t<n→s.act t=1∨s.act t=3→kind≠1→kind≠2→∃ s',BF n pg cells (r.op kind t late) s'∧I s')
  (r:AQ)(s:LS)(h:BF n pg cells r s)(hi:I s)(kind t late:Int):∃ s',BF n pg cells (r.op kind t late) s'∧I s':=by
 by_cases ht:t<0∨t≥r.act.length∨r.bad=true
 ·exact⟨s,by unfold AQ.op;rw[if_pos ht];exact h,hi⟩
 ·obtain⟨k,rfl⟩:∃ k:Nat,t=k:=⟨t.toNat,by omega⟩
  have hk:k<n:=by rw[←h.la];omega
  have ea:=h.act k hk;by_cases h1:kind=1∧s.act k=0
  ·rw[h1.1];exact hcall r s k late h hi hk h1.2
  ·by_cases h2:kind=2∧s.act k=2
   ·rw[h2.1];exact hunlock r s k late h hi hk h2.2
   ·by_cases h3:kind≠1∧kind≠2∧(s.act k=1∨s.act k=3)
    ·exact hstep r s k kind late h hi hk h3.2.2 h3.1 h3.2.1
    ·refine⟨s,?_,hi⟩;unfold AQ.op;rw[if_neg ht,Int.toNat_natCast,ea,if_neg h1,if_neg h2,if_neg h3];exact h
theorem Sm{n:Nat}{pg:Pg}{cells:List (Nat×Nat)}{I:LS→Prop}
  (hop:∀ (r:AQ) (s:LS),BF n pg cells r s→I s→∀ kind t late:Int,∃ s',BF n pg cells (r.op kind t late) s'∧I s') :
  ∀ (l:List (Int×Int×Int)) (r:AQ) (s:LS),BF n pg cells r s→I s→∃ s',BF n pg cells (r.ops l) s'∧I s'
 |[],r,s,h,hi=>⟨s,h,hi⟩
 |o::l,r,s,h,hi=>by
  obtain⟨s',h',hi'⟩:=hop r s h hi o.1 o.2.1 o.2.2;exact Sm hop l _ s' h' hi'
theorem BF.JD{n:Nat}{pg:Pg}{cells:List (Nat×Nat)}{r:AQ}{s:LS}(h:BF n pg cells r s)(h1:1≤n)(h2:n≤64)(ho:s.tr.ok=true):r.JD n=true:=by
 unfold AQ.JD;rw[h.bad,decide_eq_true ((Eb n h1 h2 r.l).2 (by rw[h.tr];exact ho))];rfl
def B0:Nat→(Nat→Nat)→Nat
 |0,_=>0
 |n+1,f=>B0 n f+f n
theorem Hy{f g:Nat→Nat}:∀ n:Nat,(∀ t,t<n→f t=g t)→B0 n f=B0 n g
 |0,_=>rfl
 |n+1,h=>by rw[B0,B0,Hy n (fun t ht=>h t (by omega)),h n (by omega)]
theorem D0{f g:Nat→Nat}{t:Nat}:∀ n:Nat,t<n→(∀ u,u≠t→g u=f u)→B0 n g+f t=B0 n f+g t
 |n+1,ht,h=>by
  by_cases e:t=n
  ·subst e;rw[B0,B0,Hy t (fun u hu=>h u (by omega))];omega
  ·have:=D0 n (by omega) h;rw[B0,B0,h n (fun e'=>e e'.symm)];omega
theorem Ds{f:Nat→Nat}:∀ n:Nat,(∀ t,t<n→f t=0)→B0 n f=0
 |0,_=>rfl
 |n+1,h=>by rw[B0,Ds n (fun t ht=>h t (by omega)),h n (by omega)]
theorem Gk{f g:Nat→Nat}:∀ n:Nat,(∀ t,t<n→f t≤g t)→B0 n f≤B0 n g
 |0,_=>Nl _
 |n+1,h=>by
  have:=Gk n (fun t ht=>h t (by omega));have:=h n (by omega);rw[B0,B0];omega
theorem D8(c:Nat):∀ n:Nat,B0 n (fun _=>c)=n*c
 |0=>by simp[B0]
 |n+1=>by rw[B0,D8 c n,Nat.succ_mul]
structure Fair (n R:Nat) (pg:Pg) (cells:List (Nat×Nat)) {σ:Type} (I:σ→LS→Prop) (rank:σ→Nat) (stuck:σ→Nat→Prop):Prop where
 call:∀ (r:AQ) (s:LS) (g:σ) (t:Nat) (late:Int),BF n pg cells r s→I g s→t<n→s.act t=0→∃ s' g',BF n pg cells (r.op 1 t late) s'∧I g' s'∧s'.act=Ay s.act t 1∧rank g'≤rank g+R
 unlock:∀ (r:AQ) (s:LS) (g:σ) (t:Nat) (late:Int),BF n pg cells r s→I g s→t<n→s.act t=2→∃ s' g',BF n pg cells (r.op 2 t late) s'∧I g' s'∧s'.act=Ay s.act t 3∧rank g'<rank g
 step:∀ (r:AQ) (s:LS) (g:σ) (t:Nat) (kind late:Int),BF n pg cells r s→I g s→t<n→s.act t=1∨s.act t=3→kind≠1→kind≠2→∃ s' g',BF n pg cells (r.op kind t late) s'∧I g' s' ∧
  ((∃ a,s'.act=Ay s.act t a∧(s.act t=1∧(a=1∨a=2)∨s.act t=3∧(a=3∨a=0))∧rank g'<rank g)∨(g'=g∧s'.act=s.act∧stuck g t))
 prog:∀ (s:LS) (g:σ),I g s→(∀ t,t<n→s.act t=0∨stuck g t)→∀ t,t<n→s.act t=0
 act:∀ (s:LS) (g:σ),I g s→∀ t,t<n→s.act t≤3
 ok:∀ (s:LS) (g:σ),I g s→s.tr.ok=true
section
variable {n R:Nat} {pg:Pg} {cells:List (Nat×Nat)} {σ:Type} {I:σ→LS→Prop} {rank:σ→Nat} {stuck:σ→Nat→Prop}
theorem Fair.op(F:Fair n R pg cells I rank stuck)(r:AQ)(s:LS)(h:BF n pg cells r s)(hi:∃ g,I g s)(kind t late:Int):∃ s',BF n pg cells (r.op kind t late) s'∧∃ g,I g s' :=
 V7 (I:=fun s=>∃ g,I g s) (fun r s t late h ⟨g,hi⟩ ht ha=>by obtain⟨s',g',h1,h2,_⟩:=F.call r s g t late h hi ht ha;exact⟨s',h1,g',h2⟩)
  (fun r s t late h ⟨g,hi⟩ ht ha=>by obtain⟨s',g',h1,h2,_⟩:=F.unlock r s g t late h hi ht ha;exact⟨s',h1,g',h2⟩)
  (fun r s t kind late h ⟨g,hi⟩ ht ha k1 k2=>by obtain⟨s',g',h1,h2,_⟩:=F.step r s g t kind late h hi ht ha k1 k2;exact⟨s',h1,g',h2⟩) r s h hi kind t late
theorem Fair.ops(F:Fair n R pg cells I rank stuck)(l:List (Int×Int×Int))(r:AQ)(s:LS)(g:σ)(h:BF n pg cells r s)(hi:I g s):∃ s' g',BF n pg cells (r.ops l) s'∧I g' s':=by
 obtain⟨s',h1,g',h2⟩:=Sm (I:=fun s=>∃ g,I g s) F.op l r s h ⟨g,hi⟩;exact⟨s',g',h1,h2⟩
theorem Fair.JD(F:Fair n R pg cells I rank stuck)(h1:1≤n)(h2:n≤64){r:AQ}{s:LS}{g:σ}(h:BF n pg cells r s)(hi:I g s):r.JD n=true:=h.JD h1 h2 (F.ok s g hi)
theorem Fair.trace(F:Fair n R pg cells I rank stuck)(h1:1≤n)(h2:n≤64)(l:List (Int×Int×Int)){r:AQ}{s:LS}{g:σ}(h:BF n pg cells r s)(hi:I g s):(r.ops l).JD n=true:=by
 obtain⟨s',g',h3,h4⟩:=F.ops l r s g h hi;exact F.JD h1 h2 h3 h4
theorem Fair.EH(F:Fair n R pg cells I rank stuck){r:AQ}{s:LS}{g:σ}{t:Nat}(h:BF n pg cells r s)(hi:I g s)(ht:t<n) :
  ∃ s' g',BF n pg cells (if s.act t=2 then r.op 2 t 0 else r.op 3 t 0) s'∧I g' s' ∧
   ((∃ a,s'.act=Ay s.act t a∧(s.act t=1∧(a=1∨a=2)∨s.act t=2∧a=3∨s.act t=3∧(a=3∨a=0))∧rank g'<rank g)∨(g'=g∧s'.act=s.act∧(s.act t=0∨s.act t≠0∧s.act t≠2∧stuck g t))):=by
 have h3:=F.act s g hi t ht;by_cases e2:s.act t=2
 ·rw[if_pos e2];obtain⟨s',g',a1,a2,a3,a4⟩:=F.unlock r s g t 0 h hi ht e2;exact⟨s',g',a1,a2,.inl ⟨3,a3,.inr (.inl ⟨e2,rfl⟩),a4⟩⟩
 ·rw[if_neg e2];by_cases e0:s.act t=0
  ·refine⟨s,g,?_,hi,.inr ⟨rfl,rfl,.inl e0⟩⟩;have ea:=h.act t ht;unfold AQ.op;rw[if_neg (by rw[h.la,h.bad];simp;omega),if_neg (fun x=>by cases x.1),if_neg (fun x=>by cases x.1),if_neg (fun x=>by rw[Int.toNat_natCast,ea]at x;omega)];exact h
  ·obtain⟨s',g',a1,a2,a3⟩:=F.step r s g t 3 0 h hi ht (by omega) (by decide) (by decide);refine⟨s',g',a1,a2,?_⟩;rcases a3 with ⟨a,b1,b2,b3⟩ |⟨b1,b2,b3⟩
   ·exact .inl ⟨a,b1,by rcases b2 with b |b;exact .inl b;exact .inr (.inr b),b3⟩
   ·exact .inr ⟨b1,b2,.inr ⟨e0,e2,b3⟩⟩
theorem Fair.Nq(F:Fair n R pg cells I rank stuck){r:AQ}{s:LS}{g:σ}(h:BF n pg cells r s)(hi:I g s):∀ k:Nat,k≤n →
  ∃ s' g',BF n pg cells ((List.range k).foldl Dw (r,false)).1 s'∧I g' s'∧(((List.range k).foldl Dw (r,false)).2=true↔∃ t,t<k∧s'.act t≠0) ∧
   (rank g'<rank g∨(g'=g∧s'.act=s.act∧∀ t,t<k→s.act t=0∨stuck g t))
 |0,_=>⟨s,g,h,hi,by simp,.inr ⟨rfl,rfl,fun t ht=>by omega⟩⟩
 |k+1,hk=>by
  obtain⟨s1,g1,a1,a2,a3,a4⟩:=F.Nq h hi k (by omega);rw[List.range_succ,List.foldl_append,List.foldl_cons,List.foldl_nil];generalize (List.range k).foldl Dw (r,false)=v at a1 a3;obtain⟨r1,b1⟩:=v;dsimp only at a1 a3;obtain⟨s2,g2,c1,c2,c3⟩:=F.EH (t:=k) a1 a2 (by omega);have e1:(Dw (r1,b1) k).1=if s1.act k=2 then r1.op 2 k 0 else r1.op 3 k 0:=by
   unfold Dw;dsimp only;rw[a1.act k (by omega)]
  have e2:(Dw (r1,b1) k).2=(b1||decide (s2.act k≠0)):=by
   rw[←c1.act k (by omega),←e1];rfl
  have hk2:∀ t,t<k→s2.act t=s1.act t:=fun t ht=>by
   rcases c3 with ⟨a,d1,_⟩ |⟨_,d1,_⟩
   ·rw[d1];exact Au _ _ (by omega)
   ·rw[d1]
  refine⟨s2,g2,by rw[e1];exact c1,c2,?_,?_⟩
  ·rw[e2];simp only[Bool.or_eq_true,decide_eq_true_eq,a3];constructor
   ·rintro(⟨t,ht,hn⟩ |hn)
    ·exact⟨t,by omega,by rw[hk2 t ht];exact hn⟩
    ·exact⟨k,by omega,hn⟩
   ·rintro⟨t,ht,hn⟩;by_cases e:t=k
    ·exact .inr (e▸hn)
    ·exact .inl ⟨t,by omega,by rw[←hk2 t (by omega)];exact hn⟩
  ·rcases c3 with ⟨a,_,_,d3⟩ |⟨d1,d2,d3⟩
   ·rcases a4 with a4 |⟨rfl,_⟩
    ·exact .inl (by omega)
    ·exact .inl d3
   ·subst d1;rcases a4 with a4 |⟨rfl,a5,a6⟩
    ·exact .inl a4
    ·refine .inr ⟨rfl,by rw[d2,a5],fun t ht=>?_⟩;by_cases e:t=k
     ·subst e;rw[a5]at d3;rcases d3 with d3 |⟨_,_,d3⟩
      ·exact .inl d3
      ·exact .inr d3
     ·exact a6 t (by omega)
theorem Fair.fin(F:Fair n R pg cells I rank stuck):∀ (K:Nat) (r:AQ) (s:LS) (g:σ),BF n pg cells r s→I g s→rank g<K →
  ∃ r' s' g',IY K r=(r',true)∧BF n pg cells r' s'∧I g' s'∧∀ t,t<n→s'.act t=0
 |K+1,r,s,g,h,hi,hk=>by
  obtain⟨s1,g1,a1,a2,a3,a4⟩:=F.Nq h hi n (Nl n);unfold IY Gr;rw[h.la];dsimp only;by_cases hb:((List.range n).foldl Dw (r,false)).2=false
  ·rw[if_pos hb];refine⟨_,s1,g1,rfl,a1,a2,fun t ht=>Classical.byContradiction fun hn=>?_⟩;rw[a3.2 ⟨t,ht,hn⟩]at hb;cases hb
  ·rw[if_neg hb];refine F.fin K _ s1 g1 a1 a2 ?_;rcases a4 with a4 |⟨rfl,a5,a6⟩
   ·omega
   ·exfalso;obtain⟨t,ht,hn⟩:=a3.1 (by simpa using hb);exact hn (by rw[a5];exact F.prog s g1 hi a6 t ht)
end
def EI(a:Nat→Nat)(t:Nat):Nat:=if a t=1∨a t=2 then 1 else 0
def lf(l:List Nat)(t:Nat):Nat:=l.getD t 0
theorem VH{l:List Nat}{t u v:Nat}(h:u≠t):lf (l.set t v) u=lf l u:=by
 unfold lf;rw[List.getD_eq_getElem?_getD,List.getD_eq_getElem?_getD,List.getElem?_set,if_neg (fun e=>h e.symm)]
theorem Yf{l:List Nat}{t v:Nat}(h:t<l.length):lf (l.set t v) t=v:=by
 unfold lf;rw[List.getD_eq_getElem?_getD,List.getElem?_set,if_pos rfl,if_pos h];rfl
theorem Mc{n t a:Nat}{A:Nat→Nat}(ht:t<n):B0 n (EI (Ay A t a))+EI A t=B0 n (EI A)+(if a=1∨a=2 then 1 else 0):=by
 have:=D0 (f:=EI A) (g:=EI (Ay A t a)) n ht (fun u hu=>by unfold EI;rw[Au _ _ hu]);rw[this];simp only[EI,Ag]
section
variable {n R:Nat} {pg:Pg} {cells:List (Nat×Nat)} {σ:Type} {I:σ→LS→Prop} {rank:σ→Nat} {stuck:σ→Nat→Prop}
structure YR (n R:Nat) (pg:Pg) (cells:List (Nat×Nat)) (I:σ→LS→Prop) (rank:σ→Nat) (stuck:σ→Nat→Prop) (v v':EC) (s s':LS) (g g':σ) (t:Nat):Prop where
 abs:BF n pg cells v'.r s'
 i:I g' s'
 len:v'.left.length=n
 sum:v'.EV+B0 n (lf v'.left)+B0 n (EI s'.act)=v.EV+B0 n (lf v.left)+B0 n (EI s.act)
 busy:v'.busy=(v.busy||decide (s'.act t≠0)||decide (lf v'.left t > 0))
 oth:∀ u,u≠t→s'.act u=s.act u∧lf v'.left u=lf v.left u
 dec:rank g'+(R+1)*B0 n (lf v'.left)<rank g+(R+1)*B0 n (lf v.left)∨(g'=g∧s'.act=s.act∧v'.left=v.left∧(s.act t=0∧lf v.left t=0∨s.act t≠0∧stuck g t))
theorem Fair.XJ(F:Fair n R pg cells I rank stuck){v:EC}{s:LS}{g:σ}{t:Nat}(h:BF n pg cells v.r s)(hi:I g s)(ht:t<n)(hl:v.left.length=n) :
  ∃ s' g',YR n R pg cells I rank stuck v (v.EH t) s s' g g' t:=by
 have ea:=h.act t ht;by_cases h0:s.act t=0∧lf v.left t > 0
 ·obtain⟨s',g',a1,a2,a3,a4⟩:=F.call v.r s g t 0 h hi ht h0.1;have e:v.EH t=⟨v.r.op 1 t 0,v.left.set t (lf v.left t-1),v.EV,v.busy||decide (s'.act t≠0)||decide (lf (v.left.set t (lf v.left t-1)) t > 0)⟩:=by
   rw[←a1.act t ht];unfold EC.EH;rw[ea];simp only[if_pos (show s.act t=0∧v.left.getD t 0 > 0 from h0)];rfl
  have hs:=D0 (f:=lf v.left) (g:=lf (v.left.set t (lf v.left t-1))) n ht (fun u hu=>VH hu);rw[Yf (by omega)]at hs;have hp:=Mc (a:=1) (A:=s.act) ht;have hp0:EI s.act t=0:=by unfold EI;rw[if_neg (by omega)]
  rw[hp0,if_pos (.inl rfl)]at hp;refine⟨s',g',by rw[e];exact a1,a2,by rw[e];simpa using hl,?_,by rw[e],?_,?_⟩
  ·rw[e,a3];show v.EV+B0 n (lf (v.left.set t (lf v.left t-1)))+B0 n (EI (Ay s.act t 1))=_;omega
  ·intro u hu;rw[e,a3];exact⟨Au _ _ hu,VH hu⟩
  ·left
   rw[e]
   show rank g'+(R+1)*B0 n (lf (v.left.set t (lf v.left t-1)))<_
   have h1:B0 n (lf v.left)=B0 n (lf (v.left.set t (lf v.left t-1)))+1:=by omega
   rw[h1,Nat.mul_add];omega
 ·by_cases h2:s.act t=2
  ·obtain⟨s',g',a1,a2,a3,a4⟩:=F.unlock v.r s g t 0 h hi ht h2;have e:v.EH t=⟨v.r.op 2 t 0,v.left,v.EV+1,v.busy||decide (s'.act t≠0)||decide (lf v.left t > 0)⟩:=by
    rw[←a1.act t ht];unfold EC.EH;rw[ea];simp only[if_neg (show ¬(s.act t=0∧v.left.getD t 0 > 0) from h0),if_pos h2];rfl
   have hp:=Mc (a:=3) (A:=s.act) ht;have hp0:EI s.act t=1:=by unfold EI;rw[if_pos (.inr h2)]
   rw[hp0,if_neg (by decide)]at hp;refine⟨s',g',by rw[e];exact a1,a2,by rw[e];exact hl,?_,by rw[e],?_,?_⟩
   ·rw[e,a3];show v.EV+1+B0 n (lf v.left)+B0 n (EI (Ay s.act t 3))=_;omega
   ·intro u hu;rw[e,a3];exact⟨Au _ _ hu,rfl⟩
   ·left
    rw[e]
    show rank g'+(R+1)*B0 n (lf v.left)<_
    omega
  ·obtain⟨s',g',a1,a2,a3⟩:=F.EH h hi ht;rw[if_neg h2]at a1;have e:v.EH t=⟨v.r.op 3 t 0,v.left,v.EV,v.busy||decide (s'.act t≠0)||decide (lf v.left t > 0)⟩:=by
    rw[←a1.act t ht];unfold EC.EH;rw[ea];simp only[if_neg (show ¬(s.act t=0∧v.left.getD t 0 > 0) from h0),if_neg h2];rfl
   refine⟨s',g',by rw[e];exact a1,a2,by rw[e];exact hl,?_,by rw[e],?_,?_⟩
   ·rw[e]
    show v.EV+B0 n (lf v.left)+B0 n (EI s'.act)=_
    rcases a3 with ⟨a,b1,b2,_⟩ |⟨_,b2,_⟩
    ·have hp:=Mc (a:=a) (A:=s.act) ht;rw[b1];have:EI s.act t=(if a=1∨a=2 then 1 else 0):=by
      unfold EI;rcases b2 with ⟨c1,c2⟩ |⟨c1,c2⟩ |⟨c1,c2⟩
      ·rw[if_pos (.inl c1),if_pos c2]
      ·exact absurd c1 h2
      ·rw[if_neg (by omega),if_neg (by omega)]
     omega
    ·rw[b2]
   ·intro u hu;rw[e];refine⟨?_,rfl⟩;rcases a3 with ⟨a,b1,_⟩ |⟨_,b2,_⟩
    ·rw[b1];exact Au _ _ hu
    ·rw[b2]
   ·rw[e];rcases a3 with ⟨a,b1,b2,b3⟩ |⟨b1,b2,b3⟩
    ·left
     show rank g'+(R+1)*B0 n (lf v.left)<_
     omega
    ·right
     refine⟨b1,b2,rfl,?_⟩;rcases b3 with b3 |⟨b3,_,b4⟩
     ·exact .inl ⟨b3,by have:¬lf v.left t > 0:=fun h=>h0 ⟨b3,h⟩;omega⟩
     ·exact .inr ⟨b3,b4⟩
theorem Fair.Qc(F:Fair n R pg cells I rank stuck){v:EC}{s:LS}{g:σ}(h:BF n pg cells v.r s)(hi:I g s)(hl:v.left.length=n)(hb:v.busy=false):∀ k:Nat,k≤n →
  ∃ v' s' g',v'=(List.range k).foldl EC.EH v∧BF n pg cells v'.r s'∧I g' s'∧v'.left.length=n ∧
   v'.EV+B0 n (lf v'.left)+B0 n (EI s'.act)=v.EV+B0 n (lf v.left)+B0 n (EI s.act) ∧
   (v'.busy=true↔∃ t,t<k∧(s'.act t≠0∨lf v'.left t > 0)) ∧
   (rank g'+(R+1)*B0 n (lf v'.left)<rank g+(R+1)*B0 n (lf v.left)∨(g'=g∧s'.act=s.act∧v'.left=v.left∧∀ t,t<k→s.act t=0∧lf v.left t=0∨s.act t≠0∧stuck g t))
 |0,_=>⟨v,s,g,rfl,h,hi,hl,rfl,by rw[hb];simp,.inr ⟨rfl,rfl,rfl,fun t ht=>by omega⟩⟩
 |k+1,hk=>by
  obtain⟨v1,s1,g1,e1,a1,a2,a3,a4,a5,a6⟩:=F.Qc h hi hl hb k (by omega);obtain⟨s2,g2,S⟩:=F.XJ (t:=k) a1 a2 (by omega) a3;rw[List.range_succ,List.foldl_append,List.foldl_cons,List.foldl_nil,←e1];refine⟨_,s2,g2,rfl,S.abs,S.i,S.len,S.sum.trans a4,?_,?_⟩
  ·rw[S.busy];simp only[Bool.or_eq_true,decide_eq_true_eq,a5];constructor
   ·rintro((⟨t,ht,hn⟩ |hn) |hn)
    ·have:=S.oth t (by omega);exact⟨t,by omega,by rw[this.1,this.2];exact hn⟩
    ·exact⟨k,by omega,.inl hn⟩
    ·exact⟨k,by omega,.inr hn⟩
   ·rintro⟨t,ht,hn⟩;by_cases e:t=k
    ·subst e;rcases hn with hn |hn
     ·exact .inl (.inr hn)
     ·exact .inr hn
    ·have:=S.oth t e;rw[this.1,this.2]at hn;exact .inl (.inl ⟨t,by omega,hn⟩)
  ·rcases S.dec with d |⟨rfl,d2,d3,d4⟩
   ·rcases a6 with a6 |⟨rfl,_,a7,_⟩
    ·exact .inl (by omega)
    ·rw[a7]at d;exact .inl d
   ·rcases a6 with a6 |⟨rfl,a7,a8,a9⟩
    ·rw[d3];exact .inl a6
    ·refine .inr ⟨rfl,by rw[d2,a7],by rw[d3,a8],fun t ht=>?_⟩;by_cases e:t=k
     ·subst e;rw[a7,a8]at d4;exact d4
     ·exact a9 t (by omega)
theorem Fair.Ns(F:Fair n R pg cells I rank stuck):∀ (K:Nat) (v:EC) (s:LS) (g:σ),BF n pg cells v.r s→I g s→v.left.length=n→rank g+(R+1)*B0 n (lf v.left)<K →
  ∃ s' g',BF n pg cells (v.rounds n K).r s'∧I g' s'∧(v.rounds n K).EV=v.EV+B0 n (lf v.left)+B0 n (EI s.act)
 |K+1,v,s,g,h,hi,hl,hk=>by
  obtain⟨v1,s1,g1,e1,a1,a2,a3,a4,a5,a6⟩:=F.Qc (v:={v with busy:=false}) h hi hl rfl n (Nl n);have e:v.round n=v1:=e1.symm;unfold EC.rounds;rw[e];dsimp only;by_cases hb:v1.busy=false
  ·rw[if_pos (.inl hb)];refine⟨s1,g1,a1,a2,?_⟩;have hz:∀ t,t<n→s1.act t=0∧lf v1.left t=0:=fun t ht=>Classical.byContradiction fun hn=>by
    rw[a5.2 ⟨t,ht,by omega⟩]at hb;cases hb
   have z1:=Ds (f:=lf v1.left) n (fun t ht=>(hz t ht).2);have z2:=Ds (f:=EI s1.act) n (fun t ht=>by unfold EI;rw[if_neg (by have:=(hz t ht).1;omega)]);rw[z1,z2]at a4;exact a4
  ·rw[if_neg (fun x=>by rcases x with x |x;exact hb x;rw[a1.bad]at x;cases x)];rcases a6 with a6 |⟨rfl,a7,a8,a9⟩
   ·obtain⟨s2,g2,c1,c2,c3⟩:=F.Ns K v1 s1 g1 a1 a2 a3 (by dsimp only at a6;omega);exact⟨s2,g2,c1,c2,c3.trans a4⟩
   ·exfalso;obtain⟨t,ht,hn⟩:=a5.1 (by simpa using hb);have hp:=F.prog s g1 hi (fun t ht=>by rcases a9 t ht with b |b;exact .inl b.1;exact .inr b.2) t ht;rw[a7,a8]at hn;rcases a9 t ht with b |b
    ·dsimp only at b hn;omega
    ·exact b.1 hp
theorem YS(n c t:Nat)(ht:t<n):lf (List.replicate n c) t=c:=by simp[lf,ht]
theorem Fair.Ss(F:Fair n R pg cells I rank stuck)(h1:1≤n)(h2:n≤64)(calls:Nat)(hm:(R+1)*(n*calls)<100*(n+1)*(calls+1)){x:AG}{s:LS}{g:σ}(h:BF n pg cells (AQ.new x n) s)(hi:I g s)(ha:∀ t,t<n→s.act t=0)(hg:rank g=0):Dq x n calls=true:=by
 have hs:B0 n (lf (List.replicate n calls))=n*calls:=by
  rw[Hy (g:=fun _=>calls) n (fun t ht=>YS n calls t ht),D8]
 have hz:=Ds (f:=EI s.act) n (fun t ht=>by unfold EI;rw[if_neg (by have:=ha t ht;omega)]);obtain⟨s1,g1,a1,a2,a3⟩:=F.Ns (100*(n+1)*(calls+1)) ⟨AQ.new x n,List.replicate n calls,0,true⟩ s g h hi (by simp) (by rw[hs,hg];omega);unfold Dq;dsimp only;rw[a1.bad,a3,decide_eq_true ((Eb n h1 h2 _).2 (by rw[a1.tr];exact F.ok s1 g1 a2))];simp[hs,hz]
theorem Fair.served(F:Fair n R pg cells I rank stuck)(h1:1≤n)(h2:n≤64)(hR:R+1≤100)(calls:Nat){x:AG}{s:LS}{g:σ}(h:BF n pg cells (AQ.new x n) s)(hi:I g s)(ha:∀ t,t<n→s.act t=0)(hg:rank g=0):Dq x n calls=true:=by
 have hm:(R+1)*(n*calls)<100*(n+1)*(calls+1):=by
  have m1:(R+1)*(n*calls)≤100*(n*calls):=Nat.mul_le_mul_right _ hR;have m2:100*(n+1)*(calls+1)=100*(n*calls)+100*n+100*calls+100:=by
   simp only[Nat.mul_add,Nat.add_mul,Nat.mul_one,Nat.mul_assoc];omega
  omega
 exact F.Ss h1 h2 calls hm h hi ha hg
end
end
end Go.Proofs.YtnmahobjmpdkdaaGreatDoor

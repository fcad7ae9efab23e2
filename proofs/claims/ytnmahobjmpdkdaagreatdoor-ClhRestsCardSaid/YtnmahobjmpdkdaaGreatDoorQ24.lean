/- Parts: LockKit, Fair, FairS, ServP. -/
import Derived.Test.YtnmahobjmpdkdaaGreatDoorQ06
import Derived.Test.YtnmahobjmpdkdaaGreatDoorQ23
import Derived.Test.YtnmahobjmpdkdaaGreatDoorQ02
set_option linter.unusedVariables false
set_option linter.unusedSimpArgs false
set_option maxRecDepth 100000
set_option maxHeartbeats 40000000
namespace Go.Proofs.YtnmahobjmpdkdaaGreatDoor
section
def Uu(pg:Pg)(words:List Nat)(t:Nat)(c:CoreM)(addr:Int)(wrote:Nat):List Nat×CoreM×Ek :=
 let r:=runM pg.l t 257 c []
 (words,r.1,⟨r.2.1,r.2.2.1,addr,wrote,0,r.2.2.2⟩)
def IE(pg:Pg)(cells:List (Nat×Nat))(words:List Nat)(t:Nat)(c:CoreM)(late:Bool):Option (List Nat×CoreM×Ek) :=
 if c.pc<0∨c.pc≥pg.l.length then some (words,c,Ey) else
 let i:=pg.l.getD c.pc.toNat In.zero
 if i.op<16 then some (words,c,Ey)
 else if i.op=22 then none
 else if i.op=23 then none
 else
  match CY i.a (c.get i.s%4096) 0 cells with
  |none=>some (words,c,Ey)
  |some a =>
   let r:=Hw i c (words.getD a 0) late
   let w1:=match r.1 with
    |none=>words
    |some v=>words.set a v
   let wrote:=match r.1 with
    |none=>0
    |some _=>1
   if r.2.2=true then some (w1,r.2.1,⟨[],-1,a,wrote,1,0⟩)
   else some (Uu pg w1 t r.2.1 a wrote)
theorem Uv{α:Type}(l:List α)(t:Nat)(d:α):l.set t (l.getD t d)=l:=by
 apply List.ext_getElem?
 intro i;rw[List.getElem?_set];by_cases h:t=i
 ·subst h;rw[if_pos rfl];by_cases h2:t<l.length
  ·rw[if_pos h2,List.getD_eq_getElem?_getD,List.getElem?_eq_getElem h2];rfl
  ·rw[if_neg h2,List.getElem?_eq_none (by omega)]
 ·rw[if_neg h]
theorem VX{x:AM}{t:Nat}{late:Bool}{w:List Nat}{c:CoreM}{o:Ek}(h:IE x.pg x.cells x.words t (x.core t) late=some (w,c,o)) :
  x.step t late=({x with words:=w,AQ:=x.AQ.set t c},o):=by
 have e:x.AQ.set t (x.core t)=x.AQ:=Uv x.AQ t _;unfold IE at h;unfold AM.step;by_cases h1:(x.core t).pc<0∨(x.core t).pc≥x.pg.l.length
 ·rw[if_pos h1]at h ⊢;cases h;rw[e]
 ·rw[if_neg h1]at h ⊢;dsimp only at h ⊢;by_cases h2:(x.pg.l.getD (x.core t).pc.toNat In.zero).op<16
  ·rw[if_pos h2]at h ⊢;cases h;rw[e]
  ·rw[if_neg h2]at h ⊢;by_cases h3:(x.pg.l.getD (x.core t).pc.toNat In.zero).op=22
   ·rw[if_pos h3]at h;cases h
   ·rw[if_neg h3]at h ⊢;by_cases h4:(x.pg.l.getD (x.core t).pc.toNat In.zero).op=23
    ·rw[if_pos h4]at h;cases h
    ·rw[if_neg h4]at h ⊢;cases h5:CY (x.pg.l.getD (x.core t).pc.toNat In.zero).a ((x.core t).get (x.pg.l.getD (x.core t).pc.toNat In.zero).s%4096) 0 x.cells with
     |none=>rw[h5]at h;dsimp only at h ⊢;cases h;rw[e]
     |some a =>
      rw[h5]at h;dsimp only at h ⊢;generalize Hw (x.pg.l.getD (x.core t).pc.toNat In.zero) (x.core t) (x.words.getD a 0) late=r at h ⊢;by_cases h6:r.2.2=true
      ·rw[if_pos h6]at h ⊢;cases h;cases r.1<;>rfl
      ·rw[if_neg h6]at h ⊢;cases hr:r.1<;>rw[hr]at h<;>cases h<;>rfl
theorem Pb{x:AM}{t:Nat}{u:Bool}{w:List Nat}{c:CoreM}{o:Ek}(h:Uu x.pg x.words t ((x.core t).at (if u=true then x.pg.unlock else x.pg.lock)) (-1) 0=(w,c,o)) :
  x.begin t u=({x with words:=w,AQ:=x.AQ.set t c},o):=by
 unfold Uu at h;unfold AM.begin AM.go;cases h;rfl
def S9(i:In)(c:CoreM)(was:Nat)(late b:Bool):Option Nat×CoreM×Bool :=
 if i.op=16 then (none,(c.set i.d was).at (c.pc+1),false)
 else if i.op=17 then (some (c.get i.t),c.at (c.pc+1),false)
 else if i.op=18 then (some (c.get i.t),(c.set i.d was).at (c.pc+1),false)
 else if i.op=19 then (bif b then (some (c.get i.u),(c.set i.d 1).at (c.pc+1),false) else (none,(c.set i.d 0).at (c.pc+1),false))
 else if i.op=20 then (some ((was+i.k.toNat)%Bn),(c.set i.d was).at (c.pc+1),false)
 else if i.op=21 then
  if (bif decide (i.k=1) then !b else b)=true then (none,(c.set i.d was).at (c.pc+1),false)
  else if late=false∨i.q<0 then (none,c.set i.d was,true)
  else (none,(c.set i.d was).at i.q,false)
 else (none,c.at (c.pc+1),false)
theorem Uw(i:In)(c:CoreM)(was:Nat)(late:Bool):Hw i c was late=S9 i c was late (decide (was=c.get i.t)):=by
 unfold Hw S9;by_cases h:was=c.get i.t<;>by_cases hk:i.k=1<;>simp[h,hk]
def WL(pg:Pg)(cells:List (Nat×Nat))(words:List Nat)(t:Nat)(c:CoreM)(late b:Bool):Option (List Nat×CoreM×Ek) :=
 if c.pc<0∨c.pc≥pg.l.length then some (words,c,Ey) else
 let i:=pg.l.getD c.pc.toNat In.zero
 if i.op<16 then some (words,c,Ey)
 else if i.op=22 then none
 else if i.op=23 then none
 else
  match CY i.a (c.get i.s%4096) 0 cells with
  |none=>some (words,c,Ey)
  |some a =>
   let r:=S9 i c (words.getD a 0) late b
   let w1:=match r.1 with
    |none=>words
    |some v=>words.set a v
   let wrote:=match r.1 with
    |none=>0
    |some _=>1
   if r.2.2=true then some (w1,r.2.1,⟨[],-1,a,wrote,1,0⟩)
   else some (Uu pg w1 t r.2.1 a wrote)
def cmpL(pg:Pg)(cells:List (Nat×Nat))(words:List Nat)(c:CoreM):Bool :=
 decide (words.getD ((CY (pg.l.getD c.pc.toNat In.zero).a (c.get (pg.l.getD c.pc.toNat In.zero).s%4096) 0 cells).getD 0) 0=c.get (pg.l.getD c.pc.toNat In.zero).t)
theorem Rc(pg:Pg)(cells:List (Nat×Nat))(words:List Nat)(t:Nat)(c:CoreM)(late:Bool):IE pg cells words t c late=WL pg cells words t c late (cmpL pg cells words c):=by
 unfold IE WL cmpL;dsimp only;cases h:CY (pg.l.getD c.pc.toNat In.zero).a (c.get (pg.l.getD c.pc.toNat In.zero).s%4096) 0 cells with
 |none=>rfl
 |some a=>simp only[Uw,Option.getD_some]
def OY(pg:Pg)(words:List Nat)(t:Nat)(c:CoreM)(late:Bool)(f:Option Nat)(b:Bool):Option (List Nat×CoreM×Ek) :=
 if c.pc<0∨c.pc≥pg.l.length then some (words,c,Ey) else
 let i:=pg.l.getD c.pc.toNat In.zero
 if i.op<16 then some (words,c,Ey)
 else if i.op=22 then none
 else if i.op=23 then none
 else
  match f with
  |none=>some (words,c,Ey)
  |some a =>
   let r:=S9 i c (words.getD a 0) late b
   let w1:=match r.1 with
    |none=>words
    |some v=>words.set a v
   let wrote:=match r.1 with
    |none=>0
    |some _=>1
   if r.2.2=true then some (w1,r.2.1,⟨[],-1,a,wrote,1,0⟩)
   else some (Uu pg w1 t r.2.1 a wrote)
theorem Hu{pg:Pg}{cells:List (Nat×Nat)}{words:List Nat}{t:Nat}{c:CoreM}{late:Bool}(a:Nat)(b:Bool)
  (hf:CY (pg.l.getD c.pc.toNat In.zero).a (c.get (pg.l.getD c.pc.toNat In.zero).s%4096) 0 cells=some a)(hb:decide (words.getD a 0=c.get (pg.l.getD c.pc.toNat In.zero).t)=b) :
  IE pg cells words t c late=OY pg words t c late (some a) b:=by
 unfold IE OY;dsimp only;rw[hf];simp only[Uw,hb]
theorem Ic{a:Int}{p:Nat}:∀ (l r:List (Nat×Nat)) (k:Nat),(∀ c∈l,¬((c.1:Int)=a∧c.2=p))→CY a p k (l++r)=CY a p (k+l.length) r
 |[],r,k,_=>rfl
 |c::l,r,k,h=>by
  rw[List.cons_append,CY,if_neg (h c (List.mem_cons_self ..)),Ic l r (k+1) (fun c hc=>h c (List.mem_cons_of_mem _ hc)),List.length_cons]
  congr 1;omega
theorem Ib{A p:Nat}{k:Nat}:∀ (m:Nat) (r:List (Nat×Nat)),p<m→CY (A:Int) p k ((List.range m).map (fun i=>(A,i))++r)=some (k+p)
 |m+1,r,h=>by
  rw[List.range_succ,List.map_append,List.append_assoc];by_cases e:p=m
  ·subst e;rw[Ic _ _ _ (fun c hc=>by
    obtain⟨i,hi,rfl⟩:=List.mem_map.1 hc;have:=List.mem_range.1 hi;dsimp only;omega)]
   simp[CY]
  ·exact Ib m _ (by omega)
theorem JD{a:Int}{A p:Nat}{r:List (Nat×Nat)}{k m:Nat}(h:(A:Int)≠a):CY a p k ((List.range m).map (fun i=>(A,i))++r)=CY a p (k+m) r:=by
 rw[Ic _ _ _ (fun c hc=>by
  obtain⟨i,hi,rfl⟩:=List.mem_map.1 hc;dsimp only;omega)]
 simp
theorem ID{l:List Nat}{i j v:Nat}(h:i<l.length):(l.set i v).getD j 0=if i=j then v else l.getD j 0:=by
 rw[List.getD_eq_getElem?_getD,List.getD_eq_getElem?_getD,List.getElem?_set];by_cases e:i=j
 ·rw[if_pos e,if_pos e,if_pos h];rfl
 ·rw[if_neg e,if_neg e]
structure LS where
 words:List Nat
 core:Nat→CoreM
 act:Nat→Nat
 tr:D8
def LS.EC(s:LS)(t:Nat)(o:Ek):LS :=
 match Lc o.done with
 |none=>{s with tr:=o.marks.foldl (fun x k=>x.enter (Gz k) t) s.tr}
 |some p=>{s with tr:=(o.marks.foldl (fun x k=>x.enter (Gz k) t) s.tr).enter p.1 t,act:=A4 s.act t p.2}
structure B9 (n:Nat) (pg:Pg) (cells:List (Nat×Nat)) (r:AR) (s:LS):Prop where
 pg:r.x.pg=pg
 cells:r.x.cells=cells
 words:r.x.words=s.words
 lc:r.x.AQ.length=n
 core:∀ t,t<n→r.x.core t=s.core t
 la:r.act.length=n
 act:∀ t,t<n→r.act.getD t 0=s.act t
 bad:r.bad=false
 tr:D8.of n r.l=s.tr
theorem Ld(n t:Nat):∀ (ks:List Int) (l:List DQ),D8.of n (l++ks.map (fun k=>(Gz k,t)))=ks.foldl (fun x k=>x.enter (Gz k) t) (D8.of n l)
 |[],l=>by simp
 |k::ks,l=>by
  rw[List.map_cons,List.append_cons,Ld n t ks,D8.F7];rfl
theorem AP{α:Type}{f:Nat→α}{t:Nat}{v:α}(h:f t=v):A4 f t v=f:=by
 funext s;unfold A4;split
 ·rename_i e;rw[e,h]
 ·rfl
theorem Le{l:List Nat}{f:Nat→Nat}{n t v:Nat}(hl:l.length=n)(h:∀ s,s<n→l.getD s 0=f s):∀ s,s<n→(l.set t v).getD s 0=A4 f t v s:=by
 intro s hs;have:=h s hs;rw[List.getD_eq_getElem?_getD]at this ⊢;rw[List.getElem?_set];by_cases e:t=s
 ·subst e;rw[if_pos rfl,if_pos (by omega),Ak];rfl
 ·rw[if_neg e,Ax _ _ (fun h=>e h.symm)];exact this
theorem Jn{l:List CoreM}{f:Nat→CoreM}{n t:Nat}{v d:CoreM}(hl:l.length=n)(h:∀ s,s<n→l.getD s d=f s):∀ s,s<n→(l.set t v).getD s d=A4 f t v s:=by
 intro s hs;have:=h s hs;rw[List.getD_eq_getElem?_getD]at this ⊢;rw[List.getElem?_set];by_cases e:t=s
 ·subst e;rw[if_pos rfl,if_pos (by omega),Ak];rfl
 ·rw[if_neg e,Ax _ _ (fun h=>e h.symm)];exact this
section
variable {n:Nat} {pg:Pg} {cells:List (Nat×Nat)} {r:AR} {s:LS} {t:Nat} {late:Int}
theorem B9.EC(h:B9 n pg cells r s)(ht:t<n){o:Ek}(hb:LX (s.act t) o=false):B9 n pg cells (r.EC t o) (s.EC t o):=by
 unfold AR.EC LS.EC;rw[h.act t ht,hb];cases he:Lc o.done with
 |none=>exact⟨h.pg,h.cells,h.words,h.lc,h.core,h.la,h.act,h.bad,by
  simp only[Bool.false_eq_true,if_false];rw[Ld,h.tr]⟩
 |some p=>exact⟨h.pg,h.cells,h.words,h.lc,h.core,by simp[h.la],Le h.la h.act,h.bad,by
  simp only[Bool.false_eq_true,if_false];rw[D8.F7,Ld,h.tr]⟩
theorem B9.Y5(h:B9 n pg cells r s){w:List Nat}{c:CoreM}:B9 n pg cells {r with x:={r.x with words:=w,AQ:=r.x.AQ.set t c}} {s with words:=w,core:=A4 s.core t c} :=
 ⟨h.pg,h.cells,rfl,by simp[h.lc],Jn h.lc h.core,h.la,h.act,h.bad,h.tr⟩
theorem B9.step(h:B9 n pg cells r s)(ht:t<n)(ha:s.act t=1∨s.act t=3){kind:Int}(h1:kind≠1)(h2:kind≠2){w:List Nat}{c:CoreM}{o:Ek}
  (e:IE pg cells s.words t (s.core t) (decide (late≠0))=some (w,c,o))(hb:LX (s.act t) o=false) :
  B9 n pg cells (r.op kind t late) (({s with words:=w,core:=A4 s.core t c}:LS).EC t o):=by
 have e':=VX (x:=r.x) (t:=t) (late:=decide (late≠0)) (by rw[h.pg,h.cells,h.words,h.core t ht];exact e);unfold AR.op;rw[if_neg (by rw[h.la,h.bad];simp;omega),if_neg (fun x=>h1 x.1),if_neg (fun x=>h2 x.1),if_pos ⟨h1,h2,by rw[Int.toNat_natCast,h.act t ht];exact ha⟩];dsimp only;rw[Int.toNat_natCast,e'];exact B9.EC (s:={s with words:=w,core:=A4 s.core t c}) h.Y5 ht hb
theorem B9.call(h:B9 n pg cells r s)(ht:t<n)(ha:s.act t=0){w:List Nat}{c:CoreM}{o:Ek}
  (e:Uu pg s.words t ((s.core t).at pg.lock) (-1) 0=(w,c,o))(hb:LX 1 o=false) :
  B9 n pg cells (r.op 1 t late) (({words:=w,core:=A4 s.core t c,act:=A4 s.act t 1,tr:=s.tr.enter 1 t}:LS).EC t o):=by
 have e':=Pb (x:=r.x) (t:=t) (u:=false) (w:=w) (c:=c) (o:=o) (by rw[h.words,h.core t ht,if_neg (by decide),h.pg];exact e);unfold AR.op;rw[if_neg (by rw[h.la,h.bad];simp;omega),if_pos ⟨rfl,by rw[Int.toNat_natCast,h.act t ht];exact ha⟩];dsimp only;rw[Int.toNat_natCast,e'];refine B9.EC (s:={words:=w,core:=A4 s.core t c,act:=A4 s.act t 1,tr:=s.tr.enter 1 t}) ?_ ht (by show LX (A4 s.act t 1 t) o=false;rw[Ak];exact hb);exact⟨h.pg,h.cells,rfl,by simp[h.lc],Jn h.lc h.core,by simp[h.la],Le h.la h.act,h.bad,by rw[D8.F7,h.tr]⟩
theorem B9.unlock(h:B9 n pg cells r s)(ht:t<n)(ha:s.act t=2){w:List Nat}{c:CoreM}{o:Ek}
  (e:Uu pg s.words t ((s.core t).at pg.unlock) (-1) 0=(w,c,o))(hb:LX 3 o=false) :
  B9 n pg cells (r.op 2 t late) (({words:=w,core:=A4 s.core t c,act:=A4 s.act t 3,tr:=s.tr.enter 8 t}:LS).EC t o):=by
 have e':=Pb (x:=r.x) (t:=t) (u:=true) (w:=w) (c:=c) (o:=o) (by rw[h.words,h.core t ht,if_pos rfl,h.pg];exact e);unfold AR.op;rw[if_neg (by rw[h.la,h.bad];simp;omega),if_neg (fun x=>by cases x.1),if_pos ⟨rfl,by rw[Int.toNat_natCast,h.act t ht];exact ha⟩];dsimp only;rw[Int.toNat_natCast,e'];refine B9.EC (s:={words:=w,core:=A4 s.core t c,act:=A4 s.act t 3,tr:=s.tr.enter 8 t}) ?_ ht (by show LX (A4 s.act t 3 t) o=false;rw[Ak];exact hb);exact⟨h.pg,h.cells,rfl,by simp[h.lc],Jn h.lc h.core,by simp[h.la],Le h.la h.act,h.bad,by rw[D8.F7,h.tr]⟩
theorem B9.new(n:Nat)(pg:Pg)(sizes init:List Nat)(each:Nat)(r7:List Nat)(h:r7.length=n) :
  B9 n pg (AG sizes) (AR.new (AM.new pg sizes init n each r7) n) ⟨init,fun t=>⟨[0,0,0,0,0,0,0,r7.getD t 0],0⟩,fun _=>0,D8.new n⟩:=by
 refine⟨rfl,rfl,rfl,by simp[AR.new,AM.new,h],fun t ht=>?_,by simp[AR.new],fun t ht=>by simp[AR.new,ht],rfl,rfl⟩;simp[AR.new,AM.new,AM.core,List.getD_eq_getElem?_getD,List.getElem?_eq_getElem (show t<r7.length by omega)]
end
theorem Ux{n:Nat}{pg:Pg}{cells:List (Nat×Nat)}{I:LS→Prop}
  (hcall:∀ (r:AR) (s:LS) (t:Nat) (late:Int),B9 n pg cells r s→I s→t<n→s.act t=0→∃ s',B9 n pg cells (r.op 1 t late) s'∧I s')
  (hunlock:∀ (r:AR) (s:LS) (t:Nat) (late:Int),B9 n pg cells r s→I s→t<n→s.act t=2→∃ s',B9 n pg cells (r.op 2 t late) s'∧I s')
  (hstep:∀ (r:AR) (s:LS) (t:Nat) (kind late:Int),B9 n pg cells r s→I s→t<n→s.act t=1∨s.act t=3→kind≠1→kind≠2→∃ s',B9 n pg cells (r.op kind t late) s'∧I s')
  (r:AR)(s:LS)(h:B9 n pg cells r s)(hi:I s)(kind t late:Int):∃ s',B9 n pg cells (r.op kind t late) s'∧I s':=by
 by_cases ht:t<0∨t≥r.act.length∨r.bad=true
 ·exact⟨s,by unfold AR.op;rw[if_pos ht];exact h,hi⟩
 ·obtain⟨k,rfl⟩:∃ k:Nat,t=k:=⟨t.toNat,by omega⟩
  have hk:k<n:=by rw[←h.la];omega
  have ea:=h.act k hk;by_cases h1:kind=1∧s.act k=0
  ·rw[h1.1];exact hcall r s k late h hi hk h1.2
  ·by_cases h2:kind=2∧s.act k=2
   ·rw[h2.1];exact hunlock r s k late h hi hk h2.2
   ·by_cases h3:kind≠1∧kind≠2∧(s.act k=1∨s.act k=3)
    ·exact hstep r s k kind late h hi hk h3.2.2 h3.1 h3.2.1
    ·refine⟨s,?_,hi⟩;unfold AR.op;rw[if_neg ht,Int.toNat_natCast,ea,if_neg h1,if_neg h2,if_neg h3];exact h
theorem Rd{n:Nat}{pg:Pg}{cells:List (Nat×Nat)}{I:LS→Prop}
  (hop:∀ (r:AR) (s:LS),B9 n pg cells r s→I s→∀ kind t late:Int,∃ s',B9 n pg cells (r.op kind t late) s'∧I s') :
  ∀ (l:List (Int×Int×Int)) (r:AR) (s:LS),B9 n pg cells r s→I s→∃ s',B9 n pg cells (r.ops l) s'∧I s'
 |[],r,s,h,hi=>⟨s,h,hi⟩
 |o::l,r,s,h,hi=>by
  obtain⟨s',h',hi'⟩:=hop r s h hi o.1 o.2.1 o.2.2;exact Rd hop l _ s' h' hi'
theorem B9.Jk{n:Nat}{pg:Pg}{cells:List (Nat×Nat)}{r:AR}{s:LS}(h:B9 n pg cells r s)(h1:1≤n)(h2:n≤64)(ho:s.tr.ok=true):r.Jk n=true:=by
 unfold AR.Jk;rw[h.bad,decide_eq_true ((Em n h1 h2 r.l).2 (by rw[h.tr];exact ho))];rfl
def Bz:Nat→(Nat→Nat)→Nat
 |0,_=>0
 |n+1,f=>Bz n f+f n
theorem Hh{f g:Nat→Nat}:∀ n:Nat,(∀ t,t<n→f t=g t)→Bz n f=Bz n g
 |0,_=>rfl
 |n+1,h=>by rw[Bz,Bz,Hh n (fun t ht=>h t (by omega)),h n (by omega)]
theorem DB{f g:Nat→Nat}{t:Nat}:∀ n:Nat,t<n→(∀ u,u≠t→g u=f u)→Bz n g+f t=Bz n f+g t
 |n+1,ht,h=>by
  by_cases e:t=n
  ·subst e;rw[Bz,Bz,Hh t (fun u hu=>h u (by omega))];omega
  ·have:=DB n (by omega) h;rw[Bz,Bz,h n (fun e'=>e e'.symm)];omega
theorem D4{f:Nat→Nat}:∀ n:Nat,(∀ t,t<n→f t=0)→Bz n f=0
 |0,_=>rfl
 |n+1,h=>by rw[Bz,D4 n (fun t ht=>h t (by omega)),h n (by omega)]
theorem GK{f g:Nat→Nat}:∀ n:Nat,(∀ t,t<n→f t≤g t)→Bz n f≤Bz n g
 |0,_=>Nl _
 |n+1,h=>by
  have:=GK n (fun t ht=>h t (by omega));have:=h n (by omega);rw[Bz,Bz];omega
theorem DY(c:Nat):∀ n:Nat,Bz n (fun _=>c)=n*c
 |0=>by simp[Bz]
 |n+1=>by rw[Bz,DY c n,Nat.succ_mul]
structure Fair (n R:Nat) (pg:Pg) (cells:List (Nat×Nat)) {σ:Type} (I:σ→LS→Prop) (rank:σ→Nat) (stuck:σ→Nat→Prop):Prop where
 call:∀ (r:AR) (s:LS) (g:σ) (t:Nat) (late:Int),B9 n pg cells r s→I g s→t<n→s.act t=0→∃ s' g',B9 n pg cells (r.op 1 t late) s'∧I g' s'∧s'.act=A4 s.act t 1∧rank g'≤rank g+R
 unlock:∀ (r:AR) (s:LS) (g:σ) (t:Nat) (late:Int),B9 n pg cells r s→I g s→t<n→s.act t=2→∃ s' g',B9 n pg cells (r.op 2 t late) s'∧I g' s'∧s'.act=A4 s.act t 3∧rank g'<rank g
 step:∀ (r:AR) (s:LS) (g:σ) (t:Nat) (kind late:Int),B9 n pg cells r s→I g s→t<n→s.act t=1∨s.act t=3→kind≠1→kind≠2→∃ s' g',B9 n pg cells (r.op kind t late) s'∧I g' s' ∧
  ((∃ a,s'.act=A4 s.act t a∧(s.act t=1∧(a=1∨a=2)∨s.act t=3∧(a=3∨a=0))∧rank g'<rank g)∨(g'=g∧s'.act=s.act∧stuck g t))
 prog:∀ (s:LS) (g:σ),I g s→(∀ t,t<n→s.act t=0∨stuck g t)→∀ t,t<n→s.act t=0
 act:∀ (s:LS) (g:σ),I g s→∀ t,t<n→s.act t≤3
 ok:∀ (s:LS) (g:σ),I g s→s.tr.ok=true
section
variable {n R:Nat} {pg:Pg} {cells:List (Nat×Nat)} {σ:Type} {I:σ→LS→Prop} {rank:σ→Nat} {stuck:σ→Nat→Prop}
theorem Fair.op(F:Fair n R pg cells I rank stuck)(r:AR)(s:LS)(h:B9 n pg cells r s)(hi:∃ g,I g s)(kind t late:Int):∃ s',B9 n pg cells (r.op kind t late) s'∧∃ g,I g s' :=
 Ux (I:=fun s=>∃ g,I g s) (fun r s t late h ⟨g,hi⟩ ht ha=>by obtain⟨s',g',h1,h2,_⟩:=F.call r s g t late h hi ht ha;exact⟨s',h1,g',h2⟩)
  (fun r s t late h ⟨g,hi⟩ ht ha=>by obtain⟨s',g',h1,h2,_⟩:=F.unlock r s g t late h hi ht ha;exact⟨s',h1,g',h2⟩)
  (fun r s t kind late h ⟨g,hi⟩ ht ha k1 k2=>by obtain⟨s',g',h1,h2,_⟩:=F.step r s g t kind late h hi ht ha k1 k2;exact⟨s',h1,g',h2⟩) r s h hi kind t late
theorem Fair.ops(F:Fair n R pg cells I rank stuck)(l:List (Int×Int×Int))(r:AR)(s:LS)(g:σ)(h:B9 n pg cells r s)(hi:I g s):∃ s' g',B9 n pg cells (r.ops l) s'∧I g' s':=by
 obtain⟨s',h1,g',h2⟩:=Rd (I:=fun s=>∃ g,I g s) F.op l r s h ⟨g,hi⟩;exact⟨s',g',h1,h2⟩
theorem Fair.Jk(F:Fair n R pg cells I rank stuck)(h1:1≤n)(h2:n≤64){r:AR}{s:LS}{g:σ}(h:B9 n pg cells r s)(hi:I g s):r.Jk n=true:=h.Jk h1 h2 (F.ok s g hi)
theorem Fair.trace(F:Fair n R pg cells I rank stuck)(h1:1≤n)(h2:n≤64)(l:List (Int×Int×Int)){r:AR}{s:LS}{g:σ}(h:B9 n pg cells r s)(hi:I g s):(r.ops l).Jk n=true:=by
 obtain⟨s',g',h3,h4⟩:=F.ops l r s g h hi;exact F.Jk h1 h2 h3 h4
theorem Fair.E9(F:Fair n R pg cells I rank stuck){r:AR}{s:LS}{g:σ}{t:Nat}(h:B9 n pg cells r s)(hi:I g s)(ht:t<n) :
  ∃ s' g',B9 n pg cells (if s.act t=2 then r.op 2 t 0 else r.op 3 t 0) s'∧I g' s' ∧
   ((∃ a,s'.act=A4 s.act t a∧(s.act t=1∧(a=1∨a=2)∨s.act t=2∧a=3∨s.act t=3∧(a=3∨a=0))∧rank g'<rank g)∨(g'=g∧s'.act=s.act∧(s.act t=0∨s.act t≠0∧s.act t≠2∧stuck g t))):=by
 have h3:=F.act s g hi t ht;by_cases e2:s.act t=2
 ·rw[if_pos e2];obtain⟨s',g',a1,a2,a3,a4⟩:=F.unlock r s g t 0 h hi ht e2;exact⟨s',g',a1,a2,.inl ⟨3,a3,.inr (.inl ⟨e2,rfl⟩),a4⟩⟩
 ·rw[if_neg e2];by_cases e0:s.act t=0
  ·refine⟨s,g,?_,hi,.inr ⟨rfl,rfl,.inl e0⟩⟩;have ea:=h.act t ht;unfold AR.op;rw[if_neg (by rw[h.la,h.bad];simp;omega),if_neg (fun x=>by cases x.1),if_neg (fun x=>by cases x.1),if_neg (fun x=>by rw[Int.toNat_natCast,ea]at x;omega)];exact h
  ·obtain⟨s',g',a1,a2,a3⟩:=F.step r s g t 3 0 h hi ht (by omega) (by decide) (by decide);refine⟨s',g',a1,a2,?_⟩;rcases a3 with ⟨a,b1,b2,b3⟩ |⟨b1,b2,b3⟩
   ·exact .inl ⟨a,b1,by rcases b2 with b |b;exact .inl b;exact .inr (.inr b),b3⟩
   ·exact .inr ⟨b1,b2,.inr ⟨e0,e2,b3⟩⟩
theorem Fair.M5(F:Fair n R pg cells I rank stuck){r:AR}{s:LS}{g:σ}(h:B9 n pg cells r s)(hi:I g s):∀ k:Nat,k≤n →
  ∃ s' g',B9 n pg cells ((List.range k).foldl Dr (r,false)).1 s'∧I g' s'∧(((List.range k).foldl Dr (r,false)).2=true↔∃ t,t<k∧s'.act t≠0) ∧
   (rank g'<rank g∨(g'=g∧s'.act=s.act∧∀ t,t<k→s.act t=0∨stuck g t))
 |0,_=>⟨s,g,h,hi,by simp,.inr ⟨rfl,rfl,fun t ht=>by omega⟩⟩
 |k+1,hk=>by
  obtain⟨s1,g1,a1,a2,a3,a4⟩:=F.M5 h hi k (by omega);rw[List.range_succ,List.foldl_append,List.foldl_cons,List.foldl_nil];generalize (List.range k).foldl Dr (r,false)=v at a1 a3;obtain⟨r1,b1⟩:=v;dsimp only at a1 a3;obtain⟨s2,g2,c1,c2,c3⟩:=F.E9 (t:=k) a1 a2 (by omega);have e1:(Dr (r1,b1) k).1=if s1.act k=2 then r1.op 2 k 0 else r1.op 3 k 0:=by
   unfold Dr;dsimp only;rw[a1.act k (by omega)]
  have e2:(Dr (r1,b1) k).2=(b1||decide (s2.act k≠0)):=by
   rw[←c1.act k (by omega),←e1];rfl
  have hk2:∀ t,t<k→s2.act t=s1.act t:=fun t ht=>by
   rcases c3 with ⟨a,d1,_⟩ |⟨_,d1,_⟩
   ·rw[d1];exact Ax _ _ (by omega)
   ·rw[d1]
  refine⟨s2,g2,by rw[e1];exact c1,c2,?_,?_⟩
  ·rw[e2];simp only[Bool.or_eq_true,decide_eq_true_eq,a3];constructor
   ·rintro(⟨t,ht,hn⟩ |hn)
    ·exact⟨t,by omega,by rw[hk2 t ht];exact hn⟩
    ·exact⟨k,by omega,hn⟩
   ·rintro⟨t,ht,hn⟩;by_cases e:t=k
    ·exact .inr (e▸hn)
    ·exact .inl ⟨t,by omega,by rw[←hk2 t (by omega)];exact hn⟩
  ·rcases c3 with ⟨a,_,_,d3⟩ |⟨d1,d2,d3⟩
   ·rcases a4 with a4 |⟨rfl,_⟩
    ·exact .inl (by omega)
    ·exact .inl d3
   ·subst d1;rcases a4 with a4 |⟨rfl,a5,a6⟩
    ·exact .inl a4
    ·refine .inr ⟨rfl,by rw[d2,a5],fun t ht=>?_⟩;by_cases e:t=k
     ·subst e;rw[a5]at d3;rcases d3 with d3 |⟨_,_,d3⟩
      ·exact .inl d3
      ·exact .inr d3
     ·exact a6 t (by omega)
theorem Fair.fin(F:Fair n R pg cells I rank stuck):∀ (K:Nat) (r:AR) (s:LS) (g:σ),B9 n pg cells r s→I g s→rank g<K →
  ∃ r' s' g',IB K r=(r',true)∧B9 n pg cells r' s'∧I g' s'∧∀ t,t<n→s'.act t=0
 |K+1,r,s,g,h,hi,hk=>by
  obtain⟨s1,g1,a1,a2,a3,a4⟩:=F.M5 h hi n (Nl n);unfold IB FX;rw[h.la];dsimp only;by_cases hb:((List.range n).foldl Dr (r,false)).2=false
  ·rw[if_pos hb];refine⟨_,s1,g1,rfl,a1,a2,fun t ht=>Classical.byContradiction fun hn=>?_⟩;rw[a3.2 ⟨t,ht,hn⟩]at hb;cases hb
  ·rw[if_neg hb];refine F.fin K _ s1 g1 a1 a2 ?_;rcases a4 with a4 |⟨rfl,a5,a6⟩
   ·omega
   ·exfalso;obtain⟨t,ht,hn⟩:=a3.1 (by simpa using hb);exact hn (by rw[a5];exact F.prog s g1 hi a6 t ht)
end
def EA(a:Nat→Nat)(t:Nat):Nat:=if a t=1∨a t=2 then 1 else 0
def lf(l:List Nat)(t:Nat):Nat:=l.getD t 0
theorem U8{l:List Nat}{t u v:Nat}(h:u≠t):lf (l.set t v) u=lf l u:=by
 unfold lf;rw[List.getD_eq_getElem?_getD,List.getD_eq_getElem?_getD,List.getElem?_set,if_neg (fun e=>h e.symm)]
theorem WM{l:List Nat}{t v:Nat}(h:t<l.length):lf (l.set t v) t=v:=by
 unfold lf;rw[List.getD_eq_getElem?_getD,List.getElem?_set,if_pos rfl,if_pos h];rfl
theorem Ls{n t a:Nat}{A:Nat→Nat}(ht:t<n):Bz n (EA (A4 A t a))+EA A t=Bz n (EA A)+(if a=1∨a=2 then 1 else 0):=by
 have:=DB (f:=EA A) (g:=EA (A4 A t a)) n ht (fun u hu=>by unfold EA;rw[Ax _ _ hu]);rw[this];simp only[EA,Ak]
section
variable {n R:Nat} {pg:Pg} {cells:List (Nat×Nat)} {σ:Type} {I:σ→LS→Prop} {rank:σ→Nat} {stuck:σ→Nat→Prop}
structure XB (n R:Nat) (pg:Pg) (cells:List (Nat×Nat)) (I:σ→LS→Prop) (rank:σ→Nat) (stuck:σ→Nat→Prop) (v v':E1) (s s':LS) (g g':σ) (t:Nat):Prop where
 abs:B9 n pg cells v'.r s'
 i:I g' s'
 len:v'.left.length=n
 sum:v'.EY+Bz n (lf v'.left)+Bz n (EA s'.act)=v.EY+Bz n (lf v.left)+Bz n (EA s.act)
 busy:v'.busy=(v.busy||decide (s'.act t≠0)||decide (lf v'.left t > 0))
 ZB:∀ u,u≠t→s'.act u=s.act u∧lf v'.left u=lf v.left u
 dec:rank g'+(R+1)*Bz n (lf v'.left)<rank g+(R+1)*Bz n (lf v.left)∨(g'=g∧s'.act=s.act∧v'.left=v.left∧(s.act t=0∧lf v.left t=0∨s.act t≠0∧stuck g t))
theorem Fair.Ws(F:Fair n R pg cells I rank stuck){v:E1}{s:LS}{g:σ}{t:Nat}(h:B9 n pg cells v.r s)(hi:I g s)(ht:t<n)(hl:v.left.length=n) :
  ∃ s' g',XB n R pg cells I rank stuck v (v.E9 t) s s' g g' t:=by
 have ea:=h.act t ht;by_cases h0:s.act t=0∧lf v.left t > 0
 ·obtain⟨s',g',a1,a2,a3,a4⟩:=F.call v.r s g t 0 h hi ht h0.1;have e:v.E9 t=⟨v.r.op 1 t 0,v.left.set t (lf v.left t-1),v.EY,v.busy||decide (s'.act t≠0)||decide (lf (v.left.set t (lf v.left t-1)) t > 0)⟩:=by
   rw[←a1.act t ht];unfold E1.E9;rw[ea];simp only[if_pos (show s.act t=0∧v.left.getD t 0 > 0 from h0)];rfl
  have hs:=DB (f:=lf v.left) (g:=lf (v.left.set t (lf v.left t-1))) n ht (fun u hu=>U8 hu);rw[WM (by omega)]at hs;have hp:=Ls (a:=1) (A:=s.act) ht;have hp0:EA s.act t=0:=by unfold EA;rw[if_neg (by omega)]
  rw[hp0,if_pos (.inl rfl)]at hp;refine⟨s',g',by rw[e];exact a1,a2,by rw[e];simpa using hl,?_,by rw[e],?_,?_⟩
  ·rw[e,a3];show v.EY+Bz n (lf (v.left.set t (lf v.left t-1)))+Bz n (EA (A4 s.act t 1))=_;omega
  ·intro u hu;rw[e,a3];exact⟨Ax _ _ hu,U8 hu⟩
  ·left
   rw[e]
   show rank g'+(R+1)*Bz n (lf (v.left.set t (lf v.left t-1)))<_
   have h1:Bz n (lf v.left)=Bz n (lf (v.left.set t (lf v.left t-1)))+1:=by omega
   rw[h1,Nat.mul_add];omega
 ·by_cases h2:s.act t=2
  ·obtain⟨s',g',a1,a2,a3,a4⟩:=F.unlock v.r s g t 0 h hi ht h2;have e:v.E9 t=⟨v.r.op 2 t 0,v.left,v.EY+1,v.busy||decide (s'.act t≠0)||decide (lf v.left t > 0)⟩:=by
    rw[←a1.act t ht];unfold E1.E9;rw[ea];simp only[if_neg (show ¬(s.act t=0∧v.left.getD t 0 > 0) from h0),if_pos h2];rfl
   have hp:=Ls (a:=3) (A:=s.act) ht;have hp0:EA s.act t=1:=by unfold EA;rw[if_pos (.inr h2)]
   rw[hp0,if_neg (by decide)]at hp;refine⟨s',g',by rw[e];exact a1,a2,by rw[e];exact hl,?_,by rw[e],?_,?_⟩
   ·rw[e,a3];show v.EY+1+Bz n (lf v.left)+Bz n (EA (A4 s.act t 3))=_;omega
   ·intro u hu;rw[e,a3];exact⟨Ax _ _ hu,rfl⟩
   ·left
    rw[e]
    show rank g'+(R+1)*Bz n (lf v.left)<_
    omega
  ·obtain⟨s',g',a1,a2,a3⟩:=F.E9 h hi ht;rw[if_neg h2]at a1;have e:v.E9 t=⟨v.r.op 3 t 0,v.left,v.EY,v.busy||decide (s'.act t≠0)||decide (lf v.left t > 0)⟩:=by
    rw[←a1.act t ht];unfold E1.E9;rw[ea];simp only[if_neg (show ¬(s.act t=0∧v.left.getD t 0 > 0) from h0),if_neg h2];rfl
   refine⟨s',g',by rw[e];exact a1,a2,by rw[e];exact hl,?_,by rw[e],?_,?_⟩
   ·rw[e]
    show v.EY+Bz n (lf v.left)+Bz n (EA s'.act)=_
    rcases a3 with ⟨a,b1,b2,_⟩ |⟨_,b2,_⟩
    ·have hp:=Ls (a:=a) (A:=s.act) ht;rw[b1];have:EA s.act t=(if a=1∨a=2 then 1 else 0):=by
      unfold EA;rcases b2 with ⟨c1,c2⟩ |⟨c1,c2⟩ |⟨c1,c2⟩
      ·rw[if_pos (.inl c1),if_pos c2]
      ·exact absurd c1 h2
      ·rw[if_neg (by omega),if_neg (by omega)]
     omega
    ·rw[b2]
   ·intro u hu;rw[e];refine⟨?_,rfl⟩;rcases a3 with ⟨a,b1,_⟩ |⟨_,b2,_⟩
    ·rw[b1];exact Ax _ _ hu
    ·rw[b2]
   ·rw[e];rcases a3 with ⟨a,b1,b2,b3⟩ |⟨b1,b2,b3⟩
    ·left
     show rank g'+(R+1)*Bz n (lf v.left)<_
     omega
    ·right
     refine⟨b1,b2,rfl,?_⟩;rcases b3 with b3 |⟨b3,_,b4⟩
     ·exact .inl ⟨b3,by have:¬lf v.left t > 0:=fun h=>h0 ⟨b3,h⟩;omega⟩
     ·exact .inr ⟨b3,b4⟩
theorem Fair.Pk(F:Fair n R pg cells I rank stuck){v:E1}{s:LS}{g:σ}(h:B9 n pg cells v.r s)(hi:I g s)(hl:v.left.length=n)(hb:v.busy=false):∀ k:Nat,k≤n →
  ∃ v' s' g',v'=(List.range k).foldl E1.E9 v∧B9 n pg cells v'.r s'∧I g' s'∧v'.left.length=n ∧
   v'.EY+Bz n (lf v'.left)+Bz n (EA s'.act)=v.EY+Bz n (lf v.left)+Bz n (EA s.act) ∧
   (v'.busy=true↔∃ t,t<k∧(s'.act t≠0∨lf v'.left t > 0)) ∧
   (rank g'+(R+1)*Bz n (lf v'.left)<rank g+(R+1)*Bz n (lf v.left)∨(g'=g∧s'.act=s.act∧v'.left=v.left∧∀ t,t<k→s.act t=0∧lf v.left t=0∨s.act t≠0∧stuck g t))
 |0,_=>⟨v,s,g,rfl,h,hi,hl,rfl,by rw[hb];simp,.inr ⟨rfl,rfl,rfl,fun t ht=>by omega⟩⟩
 |k+1,hk=>by
  obtain⟨v1,s1,g1,e1,a1,a2,a3,a4,a5,a6⟩:=F.Pk h hi hl hb k (by omega);obtain⟨s2,g2,S⟩:=F.Ws (t:=k) a1 a2 (by omega) a3;rw[List.range_succ,List.foldl_append,List.foldl_cons,List.foldl_nil,←e1];refine⟨_,s2,g2,rfl,S.abs,S.i,S.len,S.sum.trans a4,?_,?_⟩
  ·rw[S.busy];simp only[Bool.or_eq_true,decide_eq_true_eq,a5];constructor
   ·rintro((⟨t,ht,hn⟩ |hn) |hn)
    ·have:=S.ZB t (by omega);exact⟨t,by omega,by rw[this.1,this.2];exact hn⟩
    ·exact⟨k,by omega,.inl hn⟩
    ·exact⟨k,by omega,.inr hn⟩
   ·rintro⟨t,ht,hn⟩;by_cases e:t=k
    ·subst e;rcases hn with hn |hn
     ·exact .inl (.inr hn)
     ·exact .inr hn
    ·have:=S.ZB t e;rw[this.1,this.2]at hn;exact .inl (.inl ⟨t,by omega,hn⟩)
  ·rcases S.dec with d |⟨rfl,d2,d3,d4⟩
   ·rcases a6 with a6 |⟨rfl,_,a7,_⟩
    ·exact .inl (by omega)
    ·rw[a7]at d;exact .inl d
   ·rcases a6 with a6 |⟨rfl,a7,a8,a9⟩
    ·rw[d3];exact .inl a6
    ·refine .inr ⟨rfl,by rw[d2,a7],by rw[d3,a8],fun t ht=>?_⟩;by_cases e:t=k
     ·subst e;rw[a7,a8]at d4;exact d4
     ·exact a9 t (by omega)
theorem Fair.M7(F:Fair n R pg cells I rank stuck):∀ (K:Nat) (v:E1) (s:LS) (g:σ),B9 n pg cells v.r s→I g s→v.left.length=n→rank g+(R+1)*Bz n (lf v.left)<K →
  ∃ s' g',B9 n pg cells (v.rounds n K).r s'∧I g' s'∧(v.rounds n K).EY=v.EY+Bz n (lf v.left)+Bz n (EA s.act)
 |K+1,v,s,g,h,hi,hl,hk=>by
  obtain⟨v1,s1,g1,e1,a1,a2,a3,a4,a5,a6⟩:=F.Pk (v:={v with busy:=false}) h hi hl rfl n (Nl n);have e:v.round n=v1:=e1.symm;unfold E1.rounds;rw[e];dsimp only;by_cases hb:v1.busy=false
  ·rw[if_pos (.inl hb)];refine⟨s1,g1,a1,a2,?_⟩;have hz:∀ t,t<n→s1.act t=0∧lf v1.left t=0:=fun t ht=>Classical.byContradiction fun hn=>by
    rw[a5.2 ⟨t,ht,by omega⟩]at hb;cases hb
   have z1:=D4 (f:=lf v1.left) n (fun t ht=>(hz t ht).2);have z2:=D4 (f:=EA s1.act) n (fun t ht=>by unfold EA;rw[if_neg (by have:=(hz t ht).1;omega)]);rw[z1,z2]at a4;exact a4
  ·rw[if_neg (fun x=>by rcases x with x |x;exact hb x;rw[a1.bad]at x;cases x)];rcases a6 with a6 |⟨rfl,a7,a8,a9⟩
   ·obtain⟨s2,g2,c1,c2,c3⟩:=F.M7 K v1 s1 g1 a1 a2 a3 (by dsimp only at a6;omega);exact⟨s2,g2,c1,c2,c3.trans a4⟩
   ·exfalso;obtain⟨t,ht,hn⟩:=a5.1 (by simpa using hb);have hp:=F.prog s g1 hi (fun t ht=>by rcases a9 t ht with b |b;exact .inl b.1;exact .inr b.2) t ht;rw[a7,a8]at hn;rcases a9 t ht with b |b
    ·dsimp only at b hn;omega
    ·exact b.1 hp
theorem XC(n c t:Nat)(ht:t<n):lf (List.replicate n c) t=c:=by simp[lf,ht]
theorem Fair.Rj(F:Fair n R pg cells I rank stuck)(h1:1≤n)(h2:n≤64)(calls:Nat)(hm:(R+1)*(n*calls)<100*(n+1)*(calls+1)){x:AM}{s:LS}{g:σ}(h:B9 n pg cells (AR.new x n) s)(hi:I g s)(ha:∀ t,t<n→s.act t=0)(hg:rank g=0):DA x n calls=true:=by
 have hs:Bz n (lf (List.replicate n calls))=n*calls:=by
  rw[Hh (g:=fun _=>calls) n (fun t ht=>XC n calls t ht),DY]
 have hz:=D4 (f:=EA s.act) n (fun t ht=>by unfold EA;rw[if_neg (by have:=ha t ht;omega)]);obtain⟨s1,g1,a1,a2,a3⟩:=F.M7 (100*(n+1)*(calls+1)) ⟨AR.new x n,List.replicate n calls,0,true⟩ s g h hi (by simp) (by rw[hs,hg];omega);unfold DA;dsimp only;rw[a1.bad,a3,decide_eq_true ((Em n h1 h2 _).2 (by rw[a1.tr];exact F.ok s1 g1 a2))];simp[hs,hz]
theorem Fair.served(F:Fair n R pg cells I rank stuck)(h1:1≤n)(h2:n≤64)(hR:R+1≤100)(calls:Nat){x:AM}{s:LS}{g:σ}(h:B9 n pg cells (AR.new x n) s)(hi:I g s)(ha:∀ t,t<n→s.act t=0)(hg:rank g=0):DA x n calls=true:=by
 have hm:(R+1)*(n*calls)<100*(n+1)*(calls+1):=by
  have m1:(R+1)*(n*calls)≤100*(n*calls):=Nat.mul_le_mul_right _ hR;have m2:100*(n+1)*(calls+1)=100*(n*calls)+100*n+100*calls+100:=by
   simp only[Nat.mul_add,Nat.add_mul,Nat.mul_one,Nat.mul_assoc];omega
  omega
 exact F.Rj h1 h2 calls hm h hi ha hg
end
end
section
open Go.RowKit Go.Proofs.YtnmahobjmpdkdaaGreatDoorW.PrintWords
def E1.SH(v:E1)(t:Nat):E1 :=
 if v.r.act.getD t 0=0∧v.left.getD t 0 > 0 then {v with left:=v.left.set t (v.left.getD t 0-1),r:=v.r.op 1 t 0}
 else if v.r.act.getD t 0=2 then {v with EY:=v.EY+1,r:=v.r.op 2 t 0}
 else {v with r:=v.r.op 3 t 0}
theorem E1.U7(v:E1)(t:Nat):v.E9 t={v.SH t with busy:=(v.SH t).busy||decide ((v.SH t).r.act.getD t 0≠0)||decide ((v.SH t).left.getD t 0 > 0)}:=rfl
structure Hx (v:E1) (n m:Nat):Prop where
 fit:DG v.r
 act:v.r.act.length=n
 left:v.left.length=n
 l:v.r.l.length≤302*m
 EY:v.EY≤m
 lb:∀ t,v.left.getD t 0≤1000
theorem X1(n c t:Nat):(List.replicate n c).getD t 0≤c:=by
 rw[List.getD_eq_getElem?_getD,List.getElem?_replicate];split<;>simp
theorem Hx.SH{v:E1}{n m:Nat}(h:Hx v n m)(t:Nat):Hx (v.SH t) n (m+1):=by
 have hg:=h.EY;have hl:=h.l;unfold E1.SH;split
 ·have s:=FY v.r 1 t 0 h.fit.marks;have:=s.l;exact⟨h.fit.same s,s.act.trans h.act,by simpa using h.left,by dsimp only;omega,by dsimp only;omega,fun u=>by
   have h1:=h.lb u;have h2:=h.lb t;by_cases e:u=t
   ·subst e;by_cases hu:u<v.left.length
    ·show lf (v.left.set u (v.left.getD u 0-1)) u≤1000
     rw[WM hu];omega
    ·show(v.left.set u (v.left.getD u 0-1)).getD u 0≤1000
     rw[List.getD_eq_getElem?_getD,List.getElem?_eq_none (by simp;omega)];simp
   ·show lf (v.left.set t (v.left.getD t 0-1)) u≤1000
    rw[U8 e];exact h1⟩
 ·split
  ·have s:=FY v.r 2 t 0 h.fit.marks;have:=s.l;exact⟨h.fit.same s,s.act.trans h.act,h.left,by dsimp only;omega,by dsimp only;omega,h.lb⟩
  ·have s:=FY v.r 3 t 0 h.fit.marks;have:=s.l;exact⟨h.fit.same s,s.act.trans h.act,h.left,by dsimp only;omega,by dsimp only;omega,h.lb⟩
theorem Hx.E9{v:E1}{n m:Nat}(h:Hx v n m)(t:Nat):Hx (v.E9 t) n (m+1):=by
 have:=h.SH t;rw[E1.U7];exact⟨this.fit,this.act,this.left,this.l,this.EY,this.lb⟩
theorem E1.fold_succ(v:E1)(j:Nat):(List.range (j+1)).foldl E1.E9 v=((List.range j).foldl E1.E9 v).E9 j:=by
 rw[List.range_succ,List.foldl_append];rfl
theorem E1.rounds_succ(n k:Nat)(v:E1):v.rounds n (k+1)=if (v.round n).busy=false∨(v.round n).r.bad=true then v.round n else (v.round n).rounds n k:=rfl
section
variable {w W W1:World} {pr px:Nat} {vl vc vw vr vd ve:Value} {pl:Option Addr} {r:AR}
theorem CZ.far(h:CZ w W pr px vl vc vw vr pl vd ve r){gl j:Nat}{cs:Array Value}(hl:W.heap[gl]?=some (.cells cs 3 (0,0)))(hw:w.heap.size≤gl)(hne:¬KS vd gl)(v:Value):CZ w (W.setCell ⟨gl,j,none⟩ v) pr px vl vc vw vr pl vd ve r:=by
 obtain⟨acc,hbx⟩:=h.x.bx;have far:∀ k,k≠gl→(W.setCell ⟨gl,j,none⟩ v).heap[k]?=W.heap[k]?:=fun k hk=>Below.heap_setCell W ⟨gl,j,none⟩ v k hk
 refine⟨⟨h.x.b.setCell (p:=⟨gl,j,none⟩) hw v,h.x.LA,⟨acc,(far _ (CU hbx hl (by decide))).trans hbx⟩,h.x.code,Rs h.x.cells hl (by decide) j v,Rs h.x.words hl (by decide) j v,Rs h.x.AQ hl (by decide) j v,h.x.ok,h.x.UT⟩,
  h.IH,(far _ (CU h.br hl (by decide))).trans h.br,Om h.act (fun k hk=>far k (fun e=>hne (by rw[←e];exact hk))),Rs h.l hl (by decide) j v⟩
theorem QQ{N g n c k v:Nat}{L:List Nat}(h:Ce W N (.slice (some ⟨g,0,none⟩) n c) L)(hL:L.length=n)(hk:k<n):Ce (W.setCell ⟨g,k,none⟩ (.int .i64 (v:Int))) N (.slice (some ⟨g,0,none⟩) n c) (L.set k v):=by
 subst hL;have:=DD h k (by omega) (.int .i64 (v:Int));unfold Ce;simp only[List.length_set,List.map_set];exact this
theorem FI{N g n c k:Nat}{L:List Nat}(h:Ce W N (.slice (some ⟨g,0,none⟩) n c) L)(hL:L.length=n)(hk:k<n) :
  N≤g∧(∃ cs,W.heap[g]?=some (.cells cs 3 (0,0)))∧W.cell? ⟨g,k,none⟩=some (.int .i64 ((L.getD k 0:Nat):Int)):=by
 subst hL;obtain⟨g',c',hv,_,hg,⟨cs,hcs,_⟩,hc⟩:=CJ h (by omega);have e:g=g':=by injection hv with h1 _ _;injection h1 with h1;injection h1
 subst e;exact⟨hg,⟨cs,hcs⟩,hc k _ (by simp[List.getD_eq_getElem?_getD,List.getElem?_eq_getElem hk])⟩
theorem Ce.keep{N:Nat}{v:Value}{L:List Nat}(h:Ce W N v L)(hb:Below W.heap.size W W1):Ce W1 N v L:=Om h (fun k hk=>hb.block k (Ol h k hk))
end
end
end Go.Proofs.YtnmahobjmpdkdaaGreatDoor

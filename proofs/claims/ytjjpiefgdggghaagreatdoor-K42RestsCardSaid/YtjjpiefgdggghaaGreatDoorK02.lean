/- Parts: Kit. -/
import Derived.Test.YtjjpiefgdggghaaGreatDoorProg
import Derived.WalkKit
import Derived.Below
import Derived.Outline
import Derived.WalkLawsBesides
import Derived.Test.YtjjpiefgdggghaaGreatDoorK01
import Derived.Lib.Hide
import Derived.Laws.ResultCell
import Derived.Laws.Rows
set_option linter.unusedVariables false
set_option linter.unusedSimpArgs false
set_option maxRecDepth 100000
set_option maxHeartbeats 40000000
namespace Go.Proofs.YtjjpiefgdggghaaGreatDoor
section
open Go.RowKit Go.Proofs.YtjjpiefgdggghaaGreatDoorW.PrintWords
theorem Bv(w:World)(o:Obj):(w.alloc o).heap[w.heap.size]?=some o:=(MapKept.heap_alloc w o).1
theorem AF{w:World}{g:Nat}{x:Obj}(h:w.heap[g]?=some x)(o:Obj):(w.alloc o).heap[g]?=some x:=(Below.heap_alloc _ _ _ (Bl h)).trans h
theorem Bk{w w':World}{g:Nat}{x:Obj}(hb:Below w.heap.size w w')(h:w.heap[g]?=some x):w'.heap[g]?=some x:=(hb.block _ (Bl h)).trans h
theorem Be{w:World}{g:Nat}{x:Obj}(h:w.heap[g]?=some x):w.drew.heap[g]?=some x:=h
theorem L0{w:World}{g:Nat}{l:List UInt8}(h:Cr w .u8 (some ⟨g,0,none⟩) l.length (bytesOf ⟨l.toArray⟩))(k:Nat)(hk:k<l.length) :
  w.cell? ⟨g,k,none⟩=some (.int .u8 ((l.getD k 0).toNat:Int)):=by
 obtain⟨ad,e,hc⟩:=h.2.2 (by omega);cases e;have:=hc k hk;rw[add_plain]at this;rw[this];simp[bytesOf,List.getD_eq_getElem?_getD,List.getElem?_eq_getElem hk]
theorem Dh(w:World)(o o':Obj):((w.alloc o).alloc o').heap[w.heap.size+1]?=some o':=by
 have h:=Bv (w.alloc o) o';have e:(w.alloc o).heap.size=w.heap.size+1:=by simp
 rw[e]at h;exact h
theorem IL(W:World)(e:TypeId)(l:List UInt8)(g:Nat)(hg:W.heap.size=g)(hs:l.length≤9223372036854775807) :
  Cr (Lib.bytesWorld W e ⟨l.toArray⟩) .u8 (some ⟨g,0,none⟩) l.length (bytesOf ⟨l.toArray⟩):=by
 subst hg;have h:=Pu W e ⟨l.toArray⟩ (by simpa [ByteArray.size]using hs)
 simpa [ByteArray.size]using h
theorem EY{W:World}{g:Nat}{x:Obj}(h:W.heap[g]?=some x)(e:TypeId)(s:ByteArray):(Lib.bytesWorld W e s).heap[g]?=some x :=
 (Lib.bytesWorld_at_old W e s g (Bl h)).trans h
theorem DG{w:World}{k:IntKind}{g n:Nat}{xs:List Int}(h:Cr w k (some ⟨g,0,none⟩) n xs){p:Addr}(hp:p.block≠g)(v:Value):Cr (w.setCell p v) k (some ⟨g,0,none⟩) n xs :=
 ⟨h.1,h.2.1,fun hn=>by
  obtain⟨ad,e,hc⟩:=h.2.2 hn;refine⟨ad,e,fun j hj=>?_⟩;cases e;have:=hc j hj;rw[add_plain]at this ⊢;rw[←this];exact World.cell?_of_block (w:=w) (a:=⟨g,j,none⟩) (Below.heap_setCell w p v g (fun e=>hp e.symm))⟩
theorem AD{P:Program}{fn:Func}{p u:Tmp}{ty:TypeId}(h:fn.results=#[.cell p ty,.tmp u])(tmps:Array Value)(w:World)(g:Nat)(t:TypeId)(cs:Array Value)(fr:Nat×Nat)(d:TypeDesc)
  (hp:tmps.getD p undef=.pointer (some ⟨g,0,none⟩))(hg:w.heap[g]?=some (.cells cs t fr))
  (hu:P.underlying ty=some d)(hd:(match d with |.struct _ |.array _ _=>true |_=>false)=true)(hi:(P.info? ty).map (·.size)=some cs.size) :
  (results fn tmps).run P w=.ok (.tuple #[.agg cs,tmps.getD u undef]) w:=by
 have hp':tmps[p]?.getD undef=.pointer (some ⟨g,0,none⟩):=by simpa using hp
 rw[results_cell_tmp h];simp[hp',asAddr,run_loadVar_row w g t ty cs fr d hg hu hd hi,Result.andThen]
theorem C9{w:World}{g:Nat}{t:TypeId}{a0 a1 a2 a3 a4 a5 a6 a7:Value}(h:w.heap[g]?=some (.cells #[a0,a1,a2,a3,a4,a5,a6,a7] t (0,0)))(v0 v1 v2 v3 v4 v5 v6 v7:Value) :
  ((((((((w.setCell ⟨g,0,none⟩ v0).setCell ⟨g,1,none⟩ v1).setCell ⟨g,2,none⟩ v2).setCell ⟨g,3,none⟩ v3).setCell ⟨g,4,none⟩ v4).setCell ⟨g,5,none⟩ v5).setCell ⟨g,6,none⟩ v6).setCell ⟨g,7,none⟩ v7).heap[g]?=some (.cells #[v0,v1,v2,v3,v4,v5,v6,v7] t (0,0)):=by
 have h0:(w.setCell ⟨g,0,none⟩ v0).heap[g]?=some (.cells #[v0,a1,a2,a3,a4,a5,a6,a7] t (0,0)):=Bs h 0 v0;have h1:((w.setCell ⟨g,0,none⟩ v0).setCell ⟨g,1,none⟩ v1).heap[g]?=some (.cells #[v0,v1,a2,a3,a4,a5,a6,a7] t (0,0)):=Bs h0 1 v1;have h2:(((w.setCell ⟨g,0,none⟩ v0).setCell ⟨g,1,none⟩ v1).setCell ⟨g,2,none⟩ v2).heap[g]?=some (.cells #[v0,v1,v2,a3,a4,a5,a6,a7] t (0,0)):=Bs h1 2 v2;have h3:((((w.setCell ⟨g,0,none⟩ v0).setCell ⟨g,1,none⟩ v1).setCell ⟨g,2,none⟩ v2).setCell ⟨g,3,none⟩ v3).heap[g]?=some (.cells #[v0,v1,v2,v3,a4,a5,a6,a7] t (0,0)):=Bs h2 3 v3;have h4:(((((w.setCell ⟨g,0,none⟩ v0).setCell ⟨g,1,none⟩ v1).setCell ⟨g,2,none⟩ v2).setCell ⟨g,3,none⟩ v3).setCell ⟨g,4,none⟩ v4).heap[g]?=some (.cells #[v0,v1,v2,v3,v4,a5,a6,a7] t (0,0)):=Bs h3 4 v4;have h5:((((((w.setCell ⟨g,0,none⟩ v0).setCell ⟨g,1,none⟩ v1).setCell ⟨g,2,none⟩ v2).setCell ⟨g,3,none⟩ v3).setCell ⟨g,4,none⟩ v4).setCell ⟨g,5,none⟩ v5).heap[g]?=some (.cells #[v0,v1,v2,v3,v4,v5,a6,a7] t (0,0)):=Bs h4 5 v5;have h6:(((((((w.setCell ⟨g,0,none⟩ v0).setCell ⟨g,1,none⟩ v1).setCell ⟨g,2,none⟩ v2).setCell ⟨g,3,none⟩ v3).setCell ⟨g,4,none⟩ v4).setCell ⟨g,5,none⟩ v5).setCell ⟨g,6,none⟩ v6).heap[g]?=some (.cells #[v0,v1,v2,v3,v4,v5,v6,a7] t (0,0)):=Bs h5 6 v6;have h7:((((((((w.setCell ⟨g,0,none⟩ v0).setCell ⟨g,1,none⟩ v1).setCell ⟨g,2,none⟩ v2).setCell ⟨g,3,none⟩ v3).setCell ⟨g,4,none⟩ v4).setCell ⟨g,5,none⟩ v5).setCell ⟨g,6,none⟩ v6).setCell ⟨g,7,none⟩ v7).heap[g]?=some (.cells #[v0,v1,v2,v3,v4,v5,v6,v7] t (0,0)):=Bs h6 7 v7;exact h7
end
end Go.Proofs.YtjjpiefgdggghaaGreatDoor

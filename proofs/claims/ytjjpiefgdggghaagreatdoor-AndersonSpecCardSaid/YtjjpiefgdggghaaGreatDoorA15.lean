/- Parts: Parse. -/
import Derived.Test.YtjjpiefgdggghaaGreatDoorA03
import Derived.Test.YtjjpiefgdggghaaGreatDoorA12
import Derived.Test.YtjjpiefgdggghaaGreatDoorA10
import Derived.Test.YtjjpiefgdggghaaGreatDoorA14
import Derived.Test.YtjjpiefgdggghaaGreatDoorA04
set_option linter.unusedVariables false
set_option linter.unusedSimpArgs false
set_option maxRecDepth 100000
set_option maxHeartbeats 40000000
namespace Go.Proofs.YtjjpiefgdggghaaGreatDoor
section
open Go.RowKit Go.Proofs.YtjjpiefgdggghaaGreatDoorW.PrintWords
theorem OB(g o n:Nat)(hn:1≤n):∃ A':Option Addr,(∀ W:World,(Instr.slice 108 (.slice (some ⟨g,o,none⟩) n n) (some (.int .i64 1)) none none).run Tryz.prog W=.ok (.slice A' (n-1) (n-1)) W)∧(1<n→A'=some ⟨g,o+1,none⟩):=by
 refine⟨if n=1 then some ⟨g,o,none⟩ else some ⟨g,o+1,none⟩,fun W=>?_,fun h=>if_neg (by omega)⟩;obtain⟨i9,hi,hz0,hz1,hz2⟩:=info_parts FI;have hel:Tryz.prog.elem 108=9:=by simp[Program.elem,Tryz.underlying108]
 have hu:Tryz.prog.underlying 108=some (.slice (Tryz.prog.elem 108)):=by rw[hel];exact Tryz.underlying108
 rw[run_slice_l W 108 (some ⟨g,o,none⟩) n n hu .i64 1 (by omega) (by omega),hel];by_cases h1:n=1
 ·subst h1;simp[sizeOf,typeInfo,hi,hz1,sliced,Result.andThen]
 ·rw[if_neg h1];simp[sizeOf,typeInfo,hi,hz1,sliced,Result.andThen,h1,Addr.add]
theorem NQ(a b:ByteArray)(W:World):(Instr.field 198 (.agg #[.string a,.string b]) 1).run Tryz.prog W=.ok (.string b) W:=by kernel_rfl
theorem Gz(s:List UInt8)(i:In)(rest:List (List UInt8)):Mw s (some (i,rest))=if rest≠[]∨(DF i).2≠0∨(DF i).1≠s then (In.zero,8) else (i,0):=rfl
theorem CO.keep{w w':World}{v:Value}{ss:List (List UInt8)}(h:CO w v ss)(hb:Below w.heap.size w w'):CO w' v ss:=by
 rcases h with h |⟨g,o,hv,cs,hg,hc⟩
 ·exact .inl h
 ·exact .inr ⟨g,o,hv,cs,Bk hb hg,hc⟩
theorem CO.set{w:World}{v:Value}{ss:List (List UInt8)}(h:CO w v ss){p:Addr}{cs:Array Value}{t:TypeId}(hp:w.heap[p.block]?=some (.cells cs t (0,0)))(ht:t≠9)(u:Value):CO (w.setCell p u) v ss:=by
 rcases h with h |⟨g,o,hv,ds,hg,hc⟩
 ·exact .inl h
 ·exact .inr ⟨g,o,hv,ds,Ba hg (C0 hg hp (fun e=>ht e.symm)) _,hc⟩
theorem CO.cut{w:World}{g o:Nat}{s:List UInt8}{ss:List (List UInt8)}{cs:Array Value}(hg:w.heap[g]?=some (.cells cs 9 (0,0)))(hc:∀ j,j<(s::ss).length→cs[o+j]?=some (.string ⟨((s::ss).getD j []).toArray⟩))
  {A:Option Addr}(hA:1<ss.length+1→A=some ⟨g,o+1,none⟩):CO w (.slice A ss.length ss.length) ss:=by
 cases ss with
 |nil=>exact .inl ⟨rfl,A,rfl⟩
 |cons s' ss =>
  refine .inr ⟨g,o+1,by rw[hA (by simp)],cs,hg,fun j hj=>?_⟩;have:=hc (j+1) (by simp at hj ⊢;omega);rw[show o+1+j=o+(j+1) by omega]
  simpa using this
theorem IE(l:List UInt8)(w:World)(he:Env w)(hl:l.length≤100000) :
  Calls Tryz.prog 122 #[.string ⟨l.toArray⟩] w fun e w'=>e=.returned (.tuple #[(DB l).1.v,.int .i64 (DB l).2])∧Below w.heap.size w w':=by
 have he0:=he.below ((Below.refl w.heap.size w).alloc (Nl _) (.cells In.zero.cs 126));have hS:=Tryz.strings_Split_shaped ⟨l.toArray⟩ ⟨#[32]⟩ (w.alloc (.cells In.zero.cs 126)) he0.shaped (by simp[ByteArray.size];omega) (by simp[ByteArray.size]);rw[Pm,Pn]at hS;have hsh:=Hs l;have hln:(AJ l).length≤l.length+1:=by rw[Dx];have:=List.count_le_length (a:=(32:UInt8)) (l:=l);omega
 have hP:DB l=(match Cz (AU (Ij ((AJ l).headD []))) {In.zero with op:=Ij ((AJ l).headD [])} ((AJ l).drop 1) with
  |none=>(In.zero,8)
  |some (i,rest)=>if rest≠[]∨(DF i).2≠0∨(DF i).1≠l then (In.zero,8) else (i,0)):=rfl
 cases hs:AJ l with
 |nil=>exact absurd hs (Ej l)
 |cons s0 rest =>
  rw[hs]at hS hsh hln hP;simp only[List.headD_cons,List.drop_succ_cons,List.drop_zero,List.length_cons]at hS hP hln;generalize DB l=fin at hP ⊢;generalize hop:Ij s0=op at hP;replace hop:=Az hop;replace hP:=Az hP;replace hS:=Az hS;clear hs he0;obtain⟨A',hcut,hA'⟩:=OB (w.heap.size+1) 0 (rest.length+1) (by omega);replace hA':=Az hA';go_enter Tryz.func122,Tryz.ntmps122;go_wp2_with fail
  refine hS.out.mono ?_;rintro e w' ⟨rfl,rfl⟩;have hsz0:(w.alloc (.cells In.zero.cs 126)).heap.size=w.heap.size+1:=by simp
  generalize hcs:(List.map Value.string (List.map (fun x=>(⟨x.toArray⟩:ByteArray)) (s0::rest))).toArray=cs;have hgc:∀ j,j<(s0::rest).length→cs[0+j]?=some (.string ⟨((s0::rest).getD j []).toArray⟩):=fun j hj=>by
   rw[←hcs,Nat.zero_add,List.getElem?_toArray,List.getElem?_map,List.getElem?_map,List.getElem?_eq_getElem hj];simp[List.getD_eq_getElem?_getD,List.getElem?_eq_getElem hj]
  generalize hw1:((w.alloc (.cells In.zero.cs 126)).alloc (.cells cs 9))=w1;have hgb:w1.heap[w.heap.size+1]?=some (.cells cs 9 (0,0)):=by rw[←hw1];exact Cv _ _ _
  have hZ:w1.heap[w.heap.size]?=some (.cells In.zero.cs 126 (0,0)):=by rw[←hw1];exact AZ (Bv _ _) _
  have hB:Below w.heap.size w w1:=by rw[←hw1];exact((Below.refl w.heap.size w).alloc (Nl _) _).alloc (by simp) _
  have hz1:w1.heap.size=w.heap.size+1+1:=by rw[←hw1];simp
  clear hcs hw1;rw[hsz0];have c0:w1.cell? ⟨w.heap.size+1,0,none⟩=some (.string ⟨s0.toArray⟩):=(Bc hgb 0).trans (hgc 0 (by simp));have hz1':w.heap.size+1<w1.heap.size:=by omega
  replace hgc:=Az hgc;replace hgb:=Az hgb;replace hZ:=Az hZ;replace hz1:=Az hz1;clear hsz0;go_wp2_with fail
  refine(MD s0 _).mono ?_;rintro e w2 ⟨rfl,hb2⟩;rw[hop.out];have hz2:=hb2.size;go_wp2_with fail
  refine(FR _ _).mono ?_;rintro e w3 ⟨rfl,hb3⟩;have hz3:=hb3.size;simp at hz3;have hl5:=Gu op;have kf:=NQ ⟨(Aj op).toArray⟩ ⟨(AU op).toArray⟩;have kb:=fun W=>FQ (P:=Tryz.prog) 9 142 5 Tryz.underlying9 Tryz.underlying142 Tryz.underlying5 ⟨(AU op).toArray⟩ W
  go_wp2_with fail
  generalize grownCap _ _ _ _=cap;have hBa:=Az ((hB.trans (hb2.mono (by omega))).alloc (by omega) (.cells (In.cs ⟨op,0,0,0,0,0,0,0⟩) 126));have hBb:=Az (EB (hBa.out.trans (hb3.mono (by simp;omega))) (by omega) 5 ⟨(AU op).toArray⟩);have hIa:=Az (Ei (Bk hb3 (Bv w2 (.cells (In.cs ⟨op,0,0,0,0,0,0,0⟩) 126))) 5 ⟨(AU op).toArray⟩);have hZa:=Az (Ei (Bk hb3 (AZ (Bk hb2 hZ.out) (.cells (In.cs ⟨op,0,0,0,0,0,0,0⟩) 126))) 5 ⟨(AU op).toArray⟩);have hga:=Az (Ei (Bk hb3 (AZ (Bk hb2 hgb.out) (.cells (In.cs ⟨op,0,0,0,0,0,0,0⟩) 126))) 5 ⟨(AU op).toArray⟩);have hBya:=Az (BJ.new w3 5 (AU op) w3.heap.size rfl (by omega));have hSa:=Az (CO.cut hga.out hgc.out (fun h=>by have:=hA'.out h;simpa using this));have hsh':=Az (fun s h=>Nat.le_trans (hsh s (List.mem_cons_of_mem _ h)) hl:∀ s∈rest,s.length≤100000);have hgb3:w2.heap.size<w3.heap.size:=by omega
  have hP0:=Az (show Mw l (Cz ((AU op).drop 0) ⟨op,0,0,0,0,0,0,0⟩ rest)=fin by rw[List.drop_zero,hP.out];rfl);clear hcut kb kf c0 hP hS;go_loopw [4,28] (fun v4 v28 wr=>∃ (kk:Nat) (i:In) (ls:List (List UInt8)),v28=.int .i64 kk∧kk≤(AU op).length∧i.wk∧(∀ s∈ls,s.length≤100000)∧ls.length≤100001∧Ag (CO wr v4 ls) ∧
   Ag (wr.heap[w2.heap.size]?=some (.cells i.cs 126 (0,0)))∧Ag (wr.heap[w.heap.size]?=some (.cells In.zero.cs 126 (0,0)))∧Ag (BJ wr w3.heap.size 5 (AU op)) ∧
   Ag (Below w.heap.size w wr)∧Ag (Mw l (Cz ((AU op).drop kk) i ls)=fin)∧Ag (w3.heap.size<wr.heap.size)) (fun _ v28 wr=>(AU op).length-(intOf v28).toNat)
  case atStart =>
   exact⟨0,⟨op,0,0,0,0,0,0,0⟩,rest,rfl,Nat.zero_le _,⟨by simp,by simp⟩,hsh'.out,by omega,hSa,hIa,hZa,hBya,hBb,hP0,⟨by rw[Lib.bytesWorld_size];omega⟩⟩
  case round =>
   clear hBa hBb hIa hZa hga hBya hSa hP0 hZ hgb hgc hA' hsh hsh';obtain⟨kk,i,ls,rfl,hkk,hwk,hsh,hln,hSl,hI,hZ,hBy,hB',hF,hsz⟩:=hrel;have hzr:=hB'.out.size;by_cases hlt:kk<(AU op).length
   ·have hby:=hBy.out.byte kk hlt;cases ls with
    |nil =>
     have hv:∃ A,u4=.slice A 0 0:=by
      rcases hSl.out with ⟨_,h⟩ |⟨g,o,h,_⟩
      ·exact h
      ·exact⟨_,h⟩
     obtain⟨A,rfl⟩:=hv;have hfin:(In.zero,(8:Int))=fin:=by rw[←hF.out,Mx _ _ _ hlt];rfl
     replace hfin:=Az hfin;have z0:w.heap.size<wr.heap.size:=Bl hZ.out;have zc0:wr.cell? ⟨w.heap.size,0,none⟩=some (.int .i64 0):=(Bc hZ.out 0).trans rfl;have zc1:wr.cell? ⟨w.heap.size,1,none⟩=some (.int .i64 0):=(Bc hZ.out 1).trans rfl;have zc2:wr.cell? ⟨w.heap.size,2,none⟩=some (.int .i64 0):=(Bc hZ.out 2).trans rfl;have zc3:wr.cell? ⟨w.heap.size,3,none⟩=some (.int .i64 0):=(Bc hZ.out 3).trans rfl;have zc4:wr.cell? ⟨w.heap.size,4,none⟩=some (.int .i64 0):=(Bc hZ.out 4).trans rfl;have zc5:wr.cell? ⟨w.heap.size,5,none⟩=some (.int .i64 0):=(Bc hZ.out 5).trans rfl;have zc6:wr.cell? ⟨w.heap.size,6,none⟩=some (.int .u32 0):=(Bc hZ.out 6).trans rfl;have zc7:wr.cell? ⟨w.heap.size,7,none⟩=some (.int .i64 0):=(Bc hZ.out 7).trans rfl;have zf0:=Bf hZ.out 0;have zf1:=Bf hZ.out 1;have zf2:=Bf hZ.out 2;have zf3:=Bf hZ.out 3;have zf4:=Bf hZ.out 4;have zf5:=Bf hZ.out 5;have zf6:=Bf hZ.out 6;have zf7:=Bf hZ.out 7;go_wp2;refine bodyPost_ret (Bi rfl _ _ w.heap.size 126 In.zero.cs (0,0) _ rfl (Ci hZ.out (.int .i64 0) (.int .i64 0) (.int .i64 0) (.int .i64 0) (.int .i64 0) (.int .i64 0) (.int .u32 0) (.int .i64 0)) Tryz.underlying126 rfl (by kernel_rfl)) rfl ⟨?_,((((((((hB'.out).setCell (p:=⟨w.heap.size,0,none⟩) (Nl _) _).setCell (p:=⟨w.heap.size,1,none⟩) (Nl _) _).setCell (p:=⟨w.heap.size,2,none⟩) (Nl _) _).setCell (p:=⟨w.heap.size,3,none⟩) (Nl _) _).setCell (p:=⟨w.heap.size,4,none⟩) (Nl _) _).setCell (p:=⟨w.heap.size,5,none⟩) (Nl _) _).setCell (p:=⟨w.heap.size,6,none⟩) (Nl _) _).setCell (p:=⟨w.heap.size,7,none⟩) (Nl _) _⟩;rw[←hfin.out];rfl
    |cons wd ls =>
     obtain⟨g,o,rfl,cs',hg',hc'⟩:∃ g o,u4=.slice (some ⟨g,o,none⟩) (ls.length+1) (ls.length+1)∧∃ cs',wr.heap[g]?=some (.cells cs' 9 (0,0))∧∀ j,j<(wd::ls).length→cs'[o+j]?=some (.string ⟨((wd::ls).getD j []).toArray⟩):=by
      rcases hSl.out with ⟨h,_⟩ |h
      ·cases h
      ·exact h
     have cw:wr.cell? ⟨g,o,none⟩=some (.string ⟨wd.toArray⟩):=(Bc hg' o).trans (hc' 0 (by simp));generalize hs0':(((AU op).getD kk 0).toNat:Int)=sg at hby;have hat:=Az (NA (AU op) kk i wd ls hlt sg hs0');clear hs0';have he':=he.below hB'.out;obtain⟨A2,hcut,hA2⟩:=OB g o (ls.length+1) (by omega);replace hA2:=Az hA2;replace hg':=Az hg';replace hc':=Az hc';have hwl:=hsh wd (List.mem_cons_self ..);cases hfo:Ay sg with
     |some j =>
      have hj:=FH hfo;have hF':=Az (show Mw l (Cz ((AU op).drop (kk+1)) (i.put (BV wd) j) ls)=fin by rw[←hF.out,hat.out,hfo]);replace hfo:=Az hfo;go_wp2_with fail
      refine(Bp wd _ (by omega) he').mono ?_;rintro e w4 ⟨rfl,hb4⟩;have hz4:=hb4.size;have hI4:=Az (Bk hb4 hI.out);have hZ4:=Az (Bk hb4 hZ.out);have hg4:=Az (Bk hb4 hg'.out);have hBy4:=Az (hBy.out.keep hb4);have hB4:=Az (hB'.out.trans (hb4.mono hzr));have cj:w4.cell? ⟨w2.heap.size,j,none⟩=some (.int .i64 (i.get j)):=(Bc hI4.out j).trans (i.c j hj.1 hj.2);have fj:=Bf hI4.out j;go_wp2_with fail
      refine(Cf _ _ _ _ hfo.out).mono ?_;rintro e w' ⟨rfl,rfl⟩;go_wp2;go_roundw
      case rel =>
       exact⟨kk+1,i.put (BV wd) j,ls,by go_num,by omega,In.Qz hwk _ _,fun s h=>hsh s (List.mem_cons_of_mem _ h),by simp at hln ⊢;omega,⟨(CO.cut hg4.out hc'.out hA2.out).set (p:=⟨w2.heap.size,j,none⟩) hI4.out (by decide) _⟩,⟨by have:=Bs hI4.out j (.int .i64 (BV wd));rw[In.N3 _ _ _ hj.1 hj.2]at this;exact this⟩,⟨Ba hZ4.out (by simp;omega) _⟩,⟨hBy4.out.set (by simp;omega) _⟩,⟨hB4.out.setCell (by simp;omega) _⟩,hF',⟨by have:=hsz.out;simp;omega⟩⟩
      case measure=>simp[intOf];omega
     |none =>
      replace hfo:=Az hfo;by_cases h80:sg=80
      ·subst h80;have hF':=Az (show Mw l (Cz ((AU op).drop (kk+1)) {i with q:=BV wd} ls)=fin by rw[←hF.out,hat.out];rfl);go_wp2_with fail
       refine(Bp wd _ (by omega) he').mono ?_;rintro e w4 ⟨rfl,hb4⟩;have hz4:=hb4.size;have hI4:=Az (Bk hb4 hI.out);have hZ4:=Az (Bk hb4 hZ.out);have hg4:=Az (Bk hb4 hg'.out);have hBy4:=Az (hBy.out.keep hb4);have hB4:=Az (hB'.out.trans (hb4.mono hzr));have c7:w4.cell? ⟨w2.heap.size,7,none⟩=some (.int .i64 i.q):=(Bc hI4.out 7).trans rfl;have f7:=Bf hI4.out 7;go_wp2_with fail
       refine(Bj _ _ _ hfo.out).mono ?_;rintro e w' ⟨rfl,rfl⟩;go_wp2;go_roundw
       case rel =>
        exact⟨kk+1,{i with q:=BV wd},ls,by go_num,by omega,hwk,fun s h=>hsh s (List.mem_cons_of_mem _ h),by simp at hln ⊢;omega,⟨(CO.cut hg4.out hc'.out hA2.out).set (p:=⟨w2.heap.size,7,none⟩) hI4.out (by decide) _⟩,⟨Bs hI4.out 7 (.int .i64 (BV wd))⟩,⟨Ba hZ4.out (by simp;omega) _⟩,⟨hBy4.out.set (by simp;omega) _⟩,⟨hB4.out.setCell (by simp;omega) _⟩,hF',⟨by have:=hsz.out;simp;omega⟩⟩
       case measure=>simp[intOf];omega
      ·by_cases h87:sg=87
       ·subst h87;obtain⟨nd,hnd⟩:=Po i (wd::ls);have hF':=Az (show Mw l (Cz ((AU op).drop (kk+1)) (AY i (wd::ls)).1 (AY i (wd::ls)).2)=fin by rw[←hF.out,hat.out];rfl);have hwk2:=Q9 hwk (wd::ls);have hsh2:∀ s∈(AY i (wd::ls)).2,s.length≤100000:=fun s h=>by
         rw[hnd]at h;exact hsh s (List.mem_of_mem_drop h)
        have hln2:(AY i (wd::ls)).2.length≤100001:=by
         rw[hnd,List.length_drop];omega
        clear hnd;replace hsh2:=Az hsh2;go_wp2_with fail
        refine(Bp wd _ (by omega) he').mono ?_;rintro e w4 ⟨rfl,hb4⟩;have hz4:=hb4.size;have hI4:=Az (Bk hb4 hI.out);have hZ4:=Az (Bk hb4 hZ.out);have hg4:=Az (Bk hb4 hg'.out);have hBy4:=Az (hBy.out.keep hb4);have hB4:=Az (hB'.out.trans (hb4.mono hzr));go_wp2_with fail
        refine(Bj _ _ _ hfo.out).mono ?_;rintro e w' ⟨rfl,rfl⟩;go_wp2_with fail
        refine(NR w2.heap.size g o i (wd::ls) cs' w w4 he hB4.out (by omega) ?ne hI4.out (by simp) (fun s h=>Nat.le_trans (hsh s h) (by omega)) (by omega) hg4.out hc'.out).mono ?_;case ne=>exact C0 hI4.out hg4.out (by decide)
        rintro e w5 ⟨v,rfl,hsl,hI5,hgr5⟩;have hz5:=hgr5.size;generalize hwi:AY i (wd::ls)=wi at hF' hwk2 hsh2 hln2 hsl hI5;clear hwi;have hZ5:=Az (Bg hZ4.out hgr5 (by simp;omega));have hBy5:=Az (hBy4.out.grown hgr5 (by simp;omega));have hB5:=Az (hB4.out.grown hgr5 (by omega) (fun k hk=>by cases hk;omega));replace hsl:=Az hsl;replace hI5:=Az hI5;clear hgr5;go_wp2;go_roundw
        case rel=>exact⟨kk+1,wi.1,wi.2,by go_num,by omega,hwk2,hsh2.out,hln2,hsl,hI5,hZ5,hBy5,hB5,hF',⟨by have:=hsz.out;omega⟩⟩
        case measure=>simp[intOf];omega
       ·have g80:(sg==80)=false:=Bq h80;have g87:(sg==87)=false:=Bq h87;have hF':=Az (show Mw l (Cz ((AU op).drop (kk+1)) {i with k:=BV wd%4294967296} ls)=fin by rw[←hF.out,hat.out,hfo.out];dsimp only;rw[if_neg h80,if_neg h87]);have hwr:IntKind.u32.wrap (BV wd)=BV wd%4294967296:=IntKind.wrap_u32 _;go_wp2_with fail
        refine(Bp wd _ (by omega) he').mono ?_;rintro e w4 ⟨rfl,hb4⟩;have hz4:=hb4.size;have hI4:=Az (Bk hb4 hI.out);have hZ4:=Az (Bk hb4 hZ.out);have hg4:=Az (Bk hb4 hg'.out);have hBy4:=Az (hBy.out.keep hb4);have hB4:=Az (hB'.out.trans (hb4.mono hzr));have c6:w4.cell? ⟨w2.heap.size,6,none⟩=some (.int .u32 i.k):=(Bc hI4.out 6).trans rfl;have f6:=Bf hI4.out 6;go_wp2_with fail
        refine(Bj _ _ _ hfo.out).mono ?_;rintro e w' ⟨rfl,rfl⟩;go_wp2;go_roundw
        case rel =>
         exact⟨kk+1,{i with k:=BV wd%4294967296},ls,by go_num,by omega,⟨by simp only;omega,by simp only;omega⟩,fun s h=>hsh s (List.mem_cons_of_mem _ h),by simp at hln ⊢;omega,⟨(CO.cut hg4.out hc'.out hA2.out).set (p:=⟨w2.heap.size,6,none⟩) hI4.out (by decide) _⟩,⟨Bs hI4.out 6 (.int .u32 (BV wd%4294967296))⟩,⟨Ba hZ4.out (by simp;omega) _⟩,⟨hBy4.out.set (by simp;omega) _⟩,⟨hB4.out.setCell (by simp;omega) _⟩,hF',⟨by have:=hsz.out;simp;omega⟩⟩
        case measure=>simp[intOf];omega
   ·have hkl:kk=(AU op).length:=by omega
    have he':=he.below hB'.out;have hF0:Mw l (some (i,ls))=fin:=by rw[←hF.out,hkl,List.drop_length];rfl
    have hsl':∃ A,u4=.slice A ls.length ls.length:=by
     rcases hSl.out with ⟨h,A,hv⟩ |⟨g,o,hv,_⟩
     ·exact⟨A,by rw[hv,h];rfl⟩
     ·exact⟨_,hv⟩
    obtain⟨A,rfl⟩:=hsl';have ic0:wr.cell? ⟨w2.heap.size,0,none⟩=some (.int .i64 i.op):=(Bc hI.out 0).trans rfl;have ic1:wr.cell? ⟨w2.heap.size,1,none⟩=some (.int .i64 i.d):=(Bc hI.out 1).trans rfl;have ic2:wr.cell? ⟨w2.heap.size,2,none⟩=some (.int .i64 i.s):=(Bc hI.out 2).trans rfl;have ic3:wr.cell? ⟨w2.heap.size,3,none⟩=some (.int .i64 i.t):=(Bc hI.out 3).trans rfl;have ic4:wr.cell? ⟨w2.heap.size,4,none⟩=some (.int .i64 i.u):=(Bc hI.out 4).trans rfl;have ic5:wr.cell? ⟨w2.heap.size,5,none⟩=some (.int .i64 i.a):=(Bc hI.out 5).trans rfl;have ic6:wr.cell? ⟨w2.heap.size,6,none⟩=some (.int .u32 i.k):=(Bc hI.out 6).trans rfl;have ic7:wr.cell? ⟨w2.heap.size,7,none⟩=some (.int .i64 i.q):=(Bc hI.out 7).trans rfl;by_cases h1:ls=[]
    ·subst h1;by_cases h2:(DF i).2=0
     ·by_cases h3:(DF i).1=l
      ·have hfin:(i,(0:Int))=fin:=by
        rw[←hF0,Gz,if_neg (by simp[h2,h3])]
       have h2b:((DF i).2 != 0)=false:=bne_eq_false_iff_eq.2 h2;have h3b:((DF i).1 != l)=false:=bne_eq_false_iff_eq.2 h3;replace hfin:=Az hfin;clear hF0 hkl;go_wp2_with fail
       refine(Fq i hwk _ he').mono ?_;rintro e w5 ⟨rfl,hb5⟩;have hz5:=hb5.size;have hI5:=Az (Bk hb5 hI.out);have hZ5:=Az (Bk hb5 hZ.out);have hB5:=Az (hB'.out.trans (hb5.mono hzr));have z0:w.heap.size<w5.heap.size:=Bl hZ5.out;have zc0:w5.cell? ⟨w.heap.size,0,none⟩=some (.int .i64 0):=(Bc hZ5.out 0).trans rfl;have zf0:=Bf hZ5.out 0;have zc1:w5.cell? ⟨w.heap.size,1,none⟩=some (.int .i64 0):=(Bc hZ5.out 1).trans rfl;have zf1:=Bf hZ5.out 1;have zc2:w5.cell? ⟨w.heap.size,2,none⟩=some (.int .i64 0):=(Bc hZ5.out 2).trans rfl;have zf2:=Bf hZ5.out 2;have zc3:w5.cell? ⟨w.heap.size,3,none⟩=some (.int .i64 0):=(Bc hZ5.out 3).trans rfl;have zf3:=Bf hZ5.out 3;have zc4:w5.cell? ⟨w.heap.size,4,none⟩=some (.int .i64 0):=(Bc hZ5.out 4).trans rfl;have zf4:=Bf hZ5.out 4;have zc5:w5.cell? ⟨w.heap.size,5,none⟩=some (.int .i64 0):=(Bc hZ5.out 5).trans rfl;have zf5:=Bf hZ5.out 5;have zc6:w5.cell? ⟨w.heap.size,6,none⟩=some (.int .u32 0):=(Bc hZ5.out 6).trans rfl;have zf6:=Bf hZ5.out 6;have zc7:w5.cell? ⟨w.heap.size,7,none⟩=some (.int .i64 0):=(Bc hZ5.out 7).trans rfl;have zf7:=Bf hZ5.out 7;have jc0:w5.cell? ⟨w2.heap.size,0,none⟩=some (.int .i64 i.op):=(Bc hI5.out 0).trans rfl;have jc1:w5.cell? ⟨w2.heap.size,1,none⟩=some (.int .i64 i.d):=(Bc hI5.out 1).trans rfl;have jc2:w5.cell? ⟨w2.heap.size,2,none⟩=some (.int .i64 i.s):=(Bc hI5.out 2).trans rfl;have jc3:w5.cell? ⟨w2.heap.size,3,none⟩=some (.int .i64 i.t):=(Bc hI5.out 3).trans rfl;have jc4:w5.cell? ⟨w2.heap.size,4,none⟩=some (.int .i64 i.u):=(Bc hI5.out 4).trans rfl;have jc5:w5.cell? ⟨w2.heap.size,5,none⟩=some (.int .i64 i.a):=(Bc hI5.out 5).trans rfl;have jc6:w5.cell? ⟨w2.heap.size,6,none⟩=some (.int .u32 i.k):=(Bc hI5.out 6).trans rfl;have jc7:w5.cell? ⟨w2.heap.size,7,none⟩=some (.int .i64 i.q):=(Bc hI5.out 7).trans rfl;go_wp2;refine bodyPost_ret (Bi rfl _ _ w.heap.size 126 i.cs (0,0) _ rfl (Ci hZ5.out (.int .i64 i.op) (.int .i64 i.d) (.int .i64 i.s) (.int .i64 i.t) (.int .i64 i.u) (.int .i64 i.a) (.int .u32 i.k) (.int .i64 i.q)) Tryz.underlying126 rfl (by kernel_rfl)) rfl ⟨?_,((((((((hB5.out).setCell (p:=⟨w.heap.size,0,none⟩) (Nl _) _).setCell (p:=⟨w.heap.size,1,none⟩) (Nl _) _).setCell (p:=⟨w.heap.size,2,none⟩) (Nl _) _).setCell (p:=⟨w.heap.size,3,none⟩) (Nl _) _).setCell (p:=⟨w.heap.size,4,none⟩) (Nl _) _).setCell (p:=⟨w.heap.size,5,none⟩) (Nl _) _).setCell (p:=⟨w.heap.size,6,none⟩) (Nl _) _).setCell (p:=⟨w.heap.size,7,none⟩) (Nl _) _⟩;rw[←hfin.out];rfl
      ·have hfin:(In.zero,(8:Int))=fin:=by
        rw[←hF0,Gz,if_pos (.inr (.inr h3))]
       have h2b:((DF i).2 != 0)=false:=bne_eq_false_iff_eq.2 h2;have h3b:((DF i).1==l)=false:=Bq h3;replace hfin:=Az hfin;clear hF0 hkl;go_wp2_with fail
       refine(Fq i hwk _ he').mono ?_;rintro e w5 ⟨rfl,hb5⟩;have hz5:=hb5.size;have hI5:=Az (Bk hb5 hI.out);have hZ5:=Az (Bk hb5 hZ.out);have hB5:=Az (hB'.out.trans (hb5.mono hzr));have z0:w.heap.size<w5.heap.size:=Bl hZ5.out;have zc0:w5.cell? ⟨w.heap.size,0,none⟩=some (.int .i64 0):=(Bc hZ5.out 0).trans rfl;have zf0:=Bf hZ5.out 0;have zc1:w5.cell? ⟨w.heap.size,1,none⟩=some (.int .i64 0):=(Bc hZ5.out 1).trans rfl;have zf1:=Bf hZ5.out 1;have zc2:w5.cell? ⟨w.heap.size,2,none⟩=some (.int .i64 0):=(Bc hZ5.out 2).trans rfl;have zf2:=Bf hZ5.out 2;have zc3:w5.cell? ⟨w.heap.size,3,none⟩=some (.int .i64 0):=(Bc hZ5.out 3).trans rfl;have zf3:=Bf hZ5.out 3;have zc4:w5.cell? ⟨w.heap.size,4,none⟩=some (.int .i64 0):=(Bc hZ5.out 4).trans rfl;have zf4:=Bf hZ5.out 4;have zc5:w5.cell? ⟨w.heap.size,5,none⟩=some (.int .i64 0):=(Bc hZ5.out 5).trans rfl;have zf5:=Bf hZ5.out 5;have zc6:w5.cell? ⟨w.heap.size,6,none⟩=some (.int .u32 0):=(Bc hZ5.out 6).trans rfl;have zf6:=Bf hZ5.out 6;have zc7:w5.cell? ⟨w.heap.size,7,none⟩=some (.int .i64 0):=(Bc hZ5.out 7).trans rfl;have zf7:=Bf hZ5.out 7;have jc0:w5.cell? ⟨w2.heap.size,0,none⟩=some (.int .i64 i.op):=(Bc hI5.out 0).trans rfl;have jc1:w5.cell? ⟨w2.heap.size,1,none⟩=some (.int .i64 i.d):=(Bc hI5.out 1).trans rfl;have jc2:w5.cell? ⟨w2.heap.size,2,none⟩=some (.int .i64 i.s):=(Bc hI5.out 2).trans rfl;have jc3:w5.cell? ⟨w2.heap.size,3,none⟩=some (.int .i64 i.t):=(Bc hI5.out 3).trans rfl;have jc4:w5.cell? ⟨w2.heap.size,4,none⟩=some (.int .i64 i.u):=(Bc hI5.out 4).trans rfl;have jc5:w5.cell? ⟨w2.heap.size,5,none⟩=some (.int .i64 i.a):=(Bc hI5.out 5).trans rfl;have jc6:w5.cell? ⟨w2.heap.size,6,none⟩=some (.int .u32 i.k):=(Bc hI5.out 6).trans rfl;have jc7:w5.cell? ⟨w2.heap.size,7,none⟩=some (.int .i64 i.q):=(Bc hI5.out 7).trans rfl;go_wp2;refine bodyPost_ret (Bi rfl _ _ w.heap.size 126 In.zero.cs (0,0) _ rfl (Ci hZ5.out (.int .i64 0) (.int .i64 0) (.int .i64 0) (.int .i64 0) (.int .i64 0) (.int .i64 0) (.int .u32 0) (.int .i64 0)) Tryz.underlying126 rfl (by kernel_rfl)) rfl ⟨?_,((((((((hB5.out).setCell (p:=⟨w.heap.size,0,none⟩) (Nl _) _).setCell (p:=⟨w.heap.size,1,none⟩) (Nl _) _).setCell (p:=⟨w.heap.size,2,none⟩) (Nl _) _).setCell (p:=⟨w.heap.size,3,none⟩) (Nl _) _).setCell (p:=⟨w.heap.size,4,none⟩) (Nl _) _).setCell (p:=⟨w.heap.size,5,none⟩) (Nl _) _).setCell (p:=⟨w.heap.size,6,none⟩) (Nl _) _).setCell (p:=⟨w.heap.size,7,none⟩) (Nl _) _⟩;rw[←hfin.out];rfl
     ·have hfin:(In.zero,(8:Int))=fin:=by
       rw[←hF0,Gz,if_pos (.inr (.inl h2))]
      have h2b:((DF i).2 != 0)=true:=bne_iff_ne.2 h2;replace hfin:=Az hfin;clear hF0 hkl;go_wp2_with fail
      refine(Fq i hwk _ he').mono ?_;rintro e w5 ⟨rfl,hb5⟩;have hz5:=hb5.size;have hI5:=Az (Bk hb5 hI.out);have hZ5:=Az (Bk hb5 hZ.out);have hB5:=Az (hB'.out.trans (hb5.mono hzr));have z0:w.heap.size<w5.heap.size:=Bl hZ5.out;have zc0:w5.cell? ⟨w.heap.size,0,none⟩=some (.int .i64 0):=(Bc hZ5.out 0).trans rfl;have zf0:=Bf hZ5.out 0;have zc1:w5.cell? ⟨w.heap.size,1,none⟩=some (.int .i64 0):=(Bc hZ5.out 1).trans rfl;have zf1:=Bf hZ5.out 1;have zc2:w5.cell? ⟨w.heap.size,2,none⟩=some (.int .i64 0):=(Bc hZ5.out 2).trans rfl;have zf2:=Bf hZ5.out 2;have zc3:w5.cell? ⟨w.heap.size,3,none⟩=some (.int .i64 0):=(Bc hZ5.out 3).trans rfl;have zf3:=Bf hZ5.out 3;have zc4:w5.cell? ⟨w.heap.size,4,none⟩=some (.int .i64 0):=(Bc hZ5.out 4).trans rfl;have zf4:=Bf hZ5.out 4;have zc5:w5.cell? ⟨w.heap.size,5,none⟩=some (.int .i64 0):=(Bc hZ5.out 5).trans rfl;have zf5:=Bf hZ5.out 5;have zc6:w5.cell? ⟨w.heap.size,6,none⟩=some (.int .u32 0):=(Bc hZ5.out 6).trans rfl;have zf6:=Bf hZ5.out 6;have zc7:w5.cell? ⟨w.heap.size,7,none⟩=some (.int .i64 0):=(Bc hZ5.out 7).trans rfl;have zf7:=Bf hZ5.out 7;have jc0:w5.cell? ⟨w2.heap.size,0,none⟩=some (.int .i64 i.op):=(Bc hI5.out 0).trans rfl;have jc1:w5.cell? ⟨w2.heap.size,1,none⟩=some (.int .i64 i.d):=(Bc hI5.out 1).trans rfl;have jc2:w5.cell? ⟨w2.heap.size,2,none⟩=some (.int .i64 i.s):=(Bc hI5.out 2).trans rfl;have jc3:w5.cell? ⟨w2.heap.size,3,none⟩=some (.int .i64 i.t):=(Bc hI5.out 3).trans rfl;have jc4:w5.cell? ⟨w2.heap.size,4,none⟩=some (.int .i64 i.u):=(Bc hI5.out 4).trans rfl;have jc5:w5.cell? ⟨w2.heap.size,5,none⟩=some (.int .i64 i.a):=(Bc hI5.out 5).trans rfl;have jc6:w5.cell? ⟨w2.heap.size,6,none⟩=some (.int .u32 i.k):=(Bc hI5.out 6).trans rfl;have jc7:w5.cell? ⟨w2.heap.size,7,none⟩=some (.int .i64 i.q):=(Bc hI5.out 7).trans rfl;go_wp2;refine bodyPost_ret (Bi rfl _ _ w.heap.size 126 In.zero.cs (0,0) _ rfl (Ci hZ5.out (.int .i64 0) (.int .i64 0) (.int .i64 0) (.int .i64 0) (.int .i64 0) (.int .i64 0) (.int .u32 0) (.int .i64 0)) Tryz.underlying126 rfl (by kernel_rfl)) rfl ⟨?_,((((((((hB5.out).setCell (p:=⟨w.heap.size,0,none⟩) (Nl _) _).setCell (p:=⟨w.heap.size,1,none⟩) (Nl _) _).setCell (p:=⟨w.heap.size,2,none⟩) (Nl _) _).setCell (p:=⟨w.heap.size,3,none⟩) (Nl _) _).setCell (p:=⟨w.heap.size,4,none⟩) (Nl _) _).setCell (p:=⟨w.heap.size,5,none⟩) (Nl _) _).setCell (p:=⟨w.heap.size,6,none⟩) (Nl _) _).setCell (p:=⟨w.heap.size,7,none⟩) (Nl _) _⟩;rw[←hfin.out];rfl
    ·have hfin:(In.zero,(8:Int))=fin:=by
      rw[←hF0,Gz,if_pos (.inl h1)]
     have hpos:0<ls.length:=List.length_pos_iff.2 h1;have hposi:(0:Int)<(ls.length:Int):=by omega
     replace hfin:=Az hfin;clear hF0 hkl;go_wp2_with fail
     refine(Fq i hwk _ he').mono ?_;rintro e w5 ⟨rfl,hb5⟩;have hz5:=hb5.size;have hI5:=Az (Bk hb5 hI.out);have hZ5:=Az (Bk hb5 hZ.out);have hB5:=Az (hB'.out.trans (hb5.mono hzr));have z0:w.heap.size<w5.heap.size:=Bl hZ5.out;have zc0:w5.cell? ⟨w.heap.size,0,none⟩=some (.int .i64 0):=(Bc hZ5.out 0).trans rfl;have zf0:=Bf hZ5.out 0;have zc1:w5.cell? ⟨w.heap.size,1,none⟩=some (.int .i64 0):=(Bc hZ5.out 1).trans rfl;have zf1:=Bf hZ5.out 1;have zc2:w5.cell? ⟨w.heap.size,2,none⟩=some (.int .i64 0):=(Bc hZ5.out 2).trans rfl;have zf2:=Bf hZ5.out 2;have zc3:w5.cell? ⟨w.heap.size,3,none⟩=some (.int .i64 0):=(Bc hZ5.out 3).trans rfl;have zf3:=Bf hZ5.out 3;have zc4:w5.cell? ⟨w.heap.size,4,none⟩=some (.int .i64 0):=(Bc hZ5.out 4).trans rfl;have zf4:=Bf hZ5.out 4;have zc5:w5.cell? ⟨w.heap.size,5,none⟩=some (.int .i64 0):=(Bc hZ5.out 5).trans rfl;have zf5:=Bf hZ5.out 5;have zc6:w5.cell? ⟨w.heap.size,6,none⟩=some (.int .u32 0):=(Bc hZ5.out 6).trans rfl;have zf6:=Bf hZ5.out 6;have zc7:w5.cell? ⟨w.heap.size,7,none⟩=some (.int .i64 0):=(Bc hZ5.out 7).trans rfl;have zf7:=Bf hZ5.out 7;have jc0:w5.cell? ⟨w2.heap.size,0,none⟩=some (.int .i64 i.op):=(Bc hI5.out 0).trans rfl;have jc1:w5.cell? ⟨w2.heap.size,1,none⟩=some (.int .i64 i.d):=(Bc hI5.out 1).trans rfl;have jc2:w5.cell? ⟨w2.heap.size,2,none⟩=some (.int .i64 i.s):=(Bc hI5.out 2).trans rfl;have jc3:w5.cell? ⟨w2.heap.size,3,none⟩=some (.int .i64 i.t):=(Bc hI5.out 3).trans rfl;have jc4:w5.cell? ⟨w2.heap.size,4,none⟩=some (.int .i64 i.u):=(Bc hI5.out 4).trans rfl;have jc5:w5.cell? ⟨w2.heap.size,5,none⟩=some (.int .i64 i.a):=(Bc hI5.out 5).trans rfl;have jc6:w5.cell? ⟨w2.heap.size,6,none⟩=some (.int .u32 i.k):=(Bc hI5.out 6).trans rfl;have jc7:w5.cell? ⟨w2.heap.size,7,none⟩=some (.int .i64 i.q):=(Bc hI5.out 7).trans rfl;go_wp2;refine bodyPost_ret (Bi rfl _ _ w.heap.size 126 In.zero.cs (0,0) _ rfl (Ci hZ5.out (.int .i64 0) (.int .i64 0) (.int .i64 0) (.int .i64 0) (.int .i64 0) (.int .i64 0) (.int .u32 0) (.int .i64 0)) Tryz.underlying126 rfl (by kernel_rfl)) rfl ⟨?_,((((((((hB5.out).setCell (p:=⟨w.heap.size,0,none⟩) (Nl _) _).setCell (p:=⟨w.heap.size,1,none⟩) (Nl _) _).setCell (p:=⟨w.heap.size,2,none⟩) (Nl _) _).setCell (p:=⟨w.heap.size,3,none⟩) (Nl _) _).setCell (p:=⟨w.heap.size,4,none⟩) (Nl _) _).setCell (p:=⟨w.heap.size,5,none⟩) (Nl _) _).setCell (p:=⟨w.heap.size,6,none⟩) (Nl _) _).setCell (p:=⟨w.heap.size,7,none⟩) (Nl _) _⟩;rw[←hfin.out];rfl
end
end Go.Proofs.YtjjpiefgdggghaaGreatDoor

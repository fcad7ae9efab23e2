/- Parts: RefAsmKit, RefName7. -/
import Derived.Test.YtnmahobjmpdkdaaGreatDoorQ02
import Derived.Test.YtnmahobjmpdkdaaGreatDoorQ15
import Derived.Test.YtnmahobjmpdkdaaGreatDoorQ25
import Derived.Test.YtnmahobjmpdkdaaGreatDoorQ07
set_option linter.unusedVariables false
set_option linter.unusedSimpArgs false
set_option maxRecDepth 100000
set_option maxHeartbeats 40000000
namespace Go.Proofs.YtnmahobjmpdkdaaGreatDoor
section
open Go.RowKit Go.Proofs.YtnmahobjmpdkdaaGreatDoorW.PrintWords
theorem JG:∀ (a rest:List UInt8),(10:UInt8)∉a→Bh (a++10::rest)=(a++[10])::Bh rest
 |[],rest,_=>by rw[List.nil_append,Bh,if_pos rfl];rfl
 |c::a,rest,h=>by
  have hc:¬c=10:=fun e=>h (by rw[e];exact List.mem_cons_self ..)
  rw[List.cons_append,Bh,if_neg hc,JG a rest (fun hm=>h (List.mem_cons_of_mem _ hm))];rfl
theorem Lt:∀ (a:List UInt8),(10:UInt8)∉a→a≠[]→Bh a=[a]
 |[],_,h=>absurd rfl h
 |[c],h,_=>by
  have hc:¬c=10:=fun e=>h (by rw[e];exact List.mem_cons_self ..)
  rw[Bh,if_neg hc];rfl
 |c::d::a,h,_=>by
  have hc:¬c=10:=fun e=>h (by rw[e];exact List.mem_cons_self ..)
  rw[Bh,if_neg hc,Lt (d::a) (fun hm=>h (List.mem_cons_of_mem _ hm)) (by simp)]
theorem getD_eq{α:Type}{l:List α}{i:Nat}(h:i<l.length)(d:α):l.getD i d=l[i]:=by simp[List.getD_eq_getElem?_getD,List.getElem?_eq_getElem h]
theorem S0{t:List UInt8}{f i:Nat}{n:Int}{x:Src}(hi:i<t.length)(hf:f≤i)(h10:t.getD i 0=10)(hno:(10:UInt8)∉(t.drop f).take (i-f)) :
  Fu (Bh (t.drop f)) n x=if (Ed x ((t.drop f).take (i-f)) (n+1)).2=0 then Fu (Bh (t.drop (i+1))) (n+1) (Ed x ((t.drop f).take (i-f)) (n+1)).1 else (x,n+1,(Ed x ((t.drop f).take (i-f)) (n+1)).2):=by
 have e:t.drop f=(t.drop f).take (i-f)++10::t.drop (i+1):=by
  conv=>lhs;rw[←List.take_append_drop (i-f) (t.drop f)]
  rw[List.drop_drop,show f+(i-f)=i by omega,List.drop_eq_getElem_cons hi,←getD_eq hi 0,h10]
 have e2:Bh (t.drop f)=((t.drop f).take (i-f)++[10])::Bh (t.drop (i+1)):=by
  conv=>lhs;rw[e]
  rw[JG _ _ hno]
 rw[e2,Fu,if_neg (by simp),List.dropLast_concat]
theorem Uj{t:List UInt8}{f:Nat}{n:Int}{x:Src}(hno:(10:UInt8)∉t.drop f):Fu (Bh (t.drop f)) n x=if f<t.length then (x,n+1,8) else (x,n,0):=by
 by_cases h:f<t.length
 ·have hne:t.drop f≠[]:=fun e=>by have:=congrArg List.length e;simp at this;omega
  rw[if_pos h,Lt _ hno hne,Fu,if_pos];intro e;exact hno (List.mem_of_getLast? e)
 ·rw[if_neg h,List.drop_eq_nil_of_le (by omega)];rfl
theorem S2{t:List UInt8}{f i:Nat}(hi:i<t.length)(hf:f≤i)(h10:t.getD i 0≠10)(hno:(10:UInt8)∉(t.drop f).take (i-f)):(10:UInt8)∉(t.drop f).take (i+1-f):=by
 have hd:(t.drop f)[i-f]?=some (t.getD i 0):=by rw[List.getElem?_drop,show f+(i-f)=i by omega,List.getElem?_eq_getElem hi,getD_eq hi]
 rw[show i+1-f=(i-f)+1 by omega,List.take_add_one,hd];intro h;rcases List.mem_append.1 h with h |h
 ·exact hno h
 ·have h':(10:UInt8)=t.getD i 0:=by simpa using h
  exact h10 h'.symm
theorem Pp(s:List UInt8)(h:(DJ s).2.2=true):(DJ s).2.1.length≤16:=by
 unfold DJ at h ⊢;dsimp only at h ⊢;split
 ·rename_i hc
  have:=hc.2.2;simp only[Cq,Bool.and_eq_true,decide_eq_true_eq]at this;exact this.1.1.2
 ·split<;>simp
theorem Uf{x:Src}{m:Nat}(h:Ik x m)(s:List UInt8)(n:Int):Ik (Ed x s n).1 (m+1):=by
 obtain⟨h1,h2,h3,h4,h5⟩:=h;unfold Ed;by_cases c1:s.getLast?=some 58∧Cq s.dropLast=true
 ·rw[if_pos c1];by_cases c2:KC x.labels s.dropLast=true
  ·rw[if_pos c2];exact⟨h1,h2,h3,Nat.le_succ_of_le h4,h5⟩
  ·rw[if_neg c2];exact⟨h1,h2,h3,by simp;omega,h5⟩
 ·rw[if_neg c1];by_cases c3:(DJ s).2.2=false
  ·rw[if_pos c3];exact⟨h1,h2,h3,Nat.le_succ_of_le h4,h5⟩
  ·rw[if_neg c3];by_cases c4:64≤x.l.length
   ·rw[if_pos c4];exact⟨h1,h2,h3,Nat.le_succ_of_le h4,h5⟩
   ·rw[if_neg c4];refine⟨by simp[h1],by simp[h2],by simp;omega,Nat.le_succ_of_le h4,fun y hy=>?_⟩;rcases List.mem_append.1 hy with hy |hy
    ·exact h5 y hy
    ·rw[List.mem_singleton.1 hy];exact Pp _ (by simpa using c3)
structure RX (w W:World) (N:Nat) (v0 vl vn vr:Value) (l:List In) (names:List (List UInt8)) (rows:List Int) (labels:List (List UInt8×Nat)):Prop where
 b:Below N w W
 c2:W.heap[N]?=some (.cells #[.slice none 0 0,.int .i64 0,.int .i64 0] 26 (0,0))
 c5:W.heap[N+1]?=some (.cells #[v0,.int .i64 0,.int .i64 0] 26 (0,0))
 q0:BM W N v0 l
 q1:Ex W N vn names
 q2:Bj W N vr rows
 q3:Gy W N vl labels
section
variable {w W W1:World} {N:Nat} {v0 vl vn vr u:Value} {l:List In} {names:List (List UInt8)} {rows:List Int} {labels:List (List UInt8×Nat)} {i:In} {z:List UInt8} {n:Int} {p:List UInt8×Nat}
theorem RX.hz(h:RX w W N v0 vl vn vr l names rows labels):N≤W.heap.size:=Nat.le_of_lt (Bl h.c2)
theorem RX.keep(h:RX w W N v0 vl vn vr l names rows labels)(hb:Below W.heap.size W W1):RX w W1 N v0 vl vn vr l names rows labels :=
 ⟨h.b.trans (hb.mono h.hz),Bk hb h.c2,Bk hb h.c5,Om h.q0 (fun k hk=>hb.block k (Ol h.q0 k hk)),Om h.q1 (fun k hk=>hb.block k (Ol h.q1 k hk)),h.q2.keep hb,h.q3.keep hb⟩
theorem RX.a3(h:RX w W N v0 vl vn vr l names rows labels)(hr:Gy W1 N u (labels++[p]))(hg:W.grownBy W1 vl.ownBlock):RX w W1 N v0 u vn vr l names rows (labels++[p]) :=
 ⟨h.b.grown hg h.hz (fun k hk=>Ob h.q3 k hk),Bg h.c2 hg (Oa h.q3 h.c2 (by decide)),Bg h.c5 hg (Oa h.q3 h.c5 (by decide)),Cm h.q0 h.q3 (by decide) hg,Cm h.q1 h.q3 (by decide) hg,Cm h.q2 h.q3 (by decide) hg,hr⟩
theorem RX.a1(h:RX w W N v0 vl vn vr l names rows labels)(hr:Ex W1 N u (names++[z]))(hg:W.grownBy W1 vn.ownBlock):RX w W1 N v0 vl u vr l (names++[z]) rows labels :=
 ⟨h.b.grown hg h.hz (fun k hk=>Ob h.q1 k hk),Bg h.c2 hg (Oa h.q1 h.c2 (by decide)),Bg h.c5 hg (Oa h.q1 h.c5 (by decide)),Cm h.q0 h.q1 (by decide) hg,hr,Cm h.q2 h.q1 (by decide) hg,Cm h.q3 h.q1 (by decide) hg⟩
theorem RX.a2(h:RX w W N v0 vl vn vr l names rows labels)(hr:Bj W1 N u (rows++[n]))(hg:W.grownBy W1 vr.ownBlock):RX w W1 N v0 vl vn u l names (rows++[n]) labels :=
 ⟨h.b.grown hg h.hz (fun k hk=>Ob h.q2 k hk),Bg h.c2 hg (Oa h.q2 h.c2 (by decide)),Bg h.c5 hg (Oa h.q2 h.c5 (by decide)),Cm h.q0 h.q2 (by decide) hg,Cm h.q1 h.q2 (by decide) hg,hr,Cm h.q3 h.q2 (by decide) hg⟩
theorem RX.a0(h:RX w W N v0 vl vn vr l names rows labels)(hr:BM W1 N u (l++[i]))(hg:W.grownBy W1 v0.ownBlock):RX w (W1.setCell ⟨N+1,0,none⟩ u) N u vl vn vr (l++[i]) names rows labels:=by
 have hc5:=Bg h.c5 hg (Oa h.q0 h.c5 (by decide));have hc2:=Bg h.c2 hg (Oa h.q0 h.c2 (by decide));exact⟨(h.b.grown hg h.hz (fun k hk=>Ob h.q0 k hk)).setCell (show N≤N+1 by omega) u,Ba hc2 (show N≠N+1 by omega) u,Bs hc5 0 u,Rs hr hc5 (by decide) 0 u,Rs (Cm h.q1 h.q0 (by decide) hg) hc5 (by decide) 0 u,Rs (Cm h.q2 h.q0 (by decide) hg) hc5 (by decide) 0 u,Rs (Cm h.q3 h.q0 (by decide) hg) hc5 (by decide) 0 u⟩
end
theorem RX.start(w:World):RX w ((w.alloc (.cells #[.slice none 0 0,.int .i64 0,.int .i64 0] 26)).alloc (.cells #[.slice none 0 0,.int .i64 0,.int .i64 0] 26)) w.heap.size (.slice none 0 0) (.slice none 0 0) (.slice none 0 0) (.slice none 0 0) [] [] [] [] :=
 ⟨((Below.refl w.heap.size w).alloc (Nl _) _).alloc (by simp) _,AJ (Bv w _) _,Df w _ _,.nil _ _,.nil _ _,.nil _ _,.nil _ _⟩
theorem Dj{W:World}{base n size:Nat}{e:TypeId}{v:Value}{xs:List Value}(h:W.ownsRow base e size v n xs):∃ A c,v=.slice A n c:=by
 rcases h.2 with ⟨rfl,h0⟩ |⟨g,cap,cur,rfl,_⟩
 ·exact⟨none,0,by rw[h0]⟩
 ·exact⟨_,_,rfl⟩
section
variable {w W W1:World} {N:Nat} {v0 vl vn vr u:Value} {l:List In} {names:List (List UInt8)} {rows:List Int} {labels:List (List UInt8×Nat)} {i:In} {s:List UInt8} {n:Int} {p:List UInt8×Nat}
theorem RX.facts(h:RX w W N v0 vl vn vr l names rows labels):W.cell? ⟨N,0,none⟩=some (.slice none 0 0)∧W.cell? ⟨N,1,none⟩=some (.int .i64 0)∧W.cell? ⟨N,2,none⟩=some (.int .i64 0)∧W.frozen? ⟨N,0,none⟩=false∧W.frozen? ⟨N,1,none⟩=false∧W.frozen? ⟨N,2,none⟩=false∧N<W.heap.size :=
 ⟨(Bc h.c2 0).trans rfl,(Bc h.c2 1).trans rfl,(Bc h.c2 2).trans rfl,Bf h.c2 0,Bf h.c2 1,Bf h.c2 2,Bl h.c2⟩
theorem RX.Jj(h:RX w W N v0 vl vn vr l names rows labels):W.cell? ⟨N+1,0,none⟩=some v0∧W.cell? ⟨N+1,1,none⟩=some (.int .i64 0)∧W.cell? ⟨N+1,2,none⟩=some (.int .i64 0)∧W.frozen? ⟨N+1,0,none⟩=false∧W.frozen? ⟨N+1,1,none⟩=false∧W.frozen? ⟨N+1,2,none⟩=false∧N+1<W.heap.size :=
 ⟨(Bc h.c5 0).trans rfl,(Bc h.c5 1).trans rfl,(Bc h.c5 2).trans rfl,Bf h.c5 0,Bf h.c5 1,Bf h.c5 2,Bl h.c5⟩
theorem RX.Ug(h:RX w W N v0 vl vn vr l names rows labels)(a b c:Value):∀ W',W'=((W.setCell ⟨N,0,none⟩ a).setCell ⟨N,1,none⟩ b).setCell ⟨N,2,none⟩ c →
  W'.heap[N]?=some (.cells #[a,b,c] 26 (0,0))∧Below N w W':=by
 rintro W' rfl;exact⟨Bs (Bs (Bs h.c2 0 a) 1 b) 2 c,((h.b.setCell (Nl _) _).setCell (Nl _) _).setCell (Nl _) _⟩
end
theorem Sz{t:List UInt8}{x:Src}{n e:Int}(h:Fu (Bh t) 0 Src.zero=(x,n,e))(he:e≠0):AS t=(Pg.zero,n,e):=by
 unfold AS;rw[h];dsimp only;rw[if_pos he]
theorem QU(l:List UInt8)(q:Nat)(hq:l.length=q+1)(W:World):(Instr.slice 9 (.string ⟨l.toArray⟩) none (some (.int .i64 (q:Int))) none).run Tryz.prog W=.ok (.string ⟨l.dropLast.toArray⟩) W:=by
 have hz:(⟨l.toArray⟩:ByteArray).size=l.length:=by simp[ByteArray.size]
 rw[run_slice_string_h W 9 ⟨l.toArray⟩ Tryz.underlying9 .i64 (q:Int) (by omega) (by rw[hz];omega),DR,List.dropLast_eq_take,hq];simp
theorem OO(l:List UInt8)(q:Nat)(hq:l.length=q+1):(⟨l.toArray⟩:ByteArray).extract 0 q=⟨l.dropLast.toArray⟩:=by
 rw[DR,List.dropLast_eq_take,hq];simp
theorem VO(l:List UInt8)(q:Nat)(hq:l.length=q+1):l.getLast?=some (l.getD q 0):=by
 rw[List.getLast?_eq_getElem?,hq,List.getElem?_eq_getElem (by omega),getD_eq (by omega)];rfl
section
variable {ops:Array Oper} {o:Oper} {a:Act} {K:Act→World→Prop} {Q:Exit→Act→World→Prop} {E:Prop} {W:World}
theorem Uh(hgd:o.guard=none)(x:Operand)(ho:o.op=.buildSlice 84 1 #[(0,x)])(s:List UInt8)(k:Nat)(hx:a.eval x=.agg #[.string ⟨s.toArray⟩,.int .i64 (k:Int)])
  (h:∀ g W1,Below W.heap.size W W1→W1.heap[g]?=some (.cells #[.string ⟨s.toArray⟩,.int .i64 (k:Int)] 88 (0,0))→K (a.put o.dst (.slice (some ⟨g,0,none⟩) 1 1)) W1) :
  if Region.wanted o (yielded ops a.tmps)=true then Oper.wp Tryz.prog o a W K Q else E:=by
 rw[if_pos (by simp[Region.wanted,hgd])];obtain⟨i9,hi,hz0,hz1,hz2⟩:=info_parts QP;refine wp_buildSlice 84 88 1 _ ho #[.string ⟨s.toArray⟩,.int .i64 (k:Int)] i9 (.agg #[.string ⟨#[]⟩,.int .i64 0]) Tryz.underlying84 hi hz0 (by rw[hz1];decide) (by rw[hz1];decide) ?_ (h _ _ (Bw W _) (Bv _ _));rw[hz1];simp only[List.map_toArray,List.map_cons,List.map_nil,hx]
 kernel_rfl
theorem Ui(hgd:o.guard=none)(s x:Operand)(ho:o.op=.call {callee:=.builtin .append,args:=#[s,x],argTypes:=#[84,84]})
  (base g:Nat)(y:List UInt8×Nat)(v:Value)(xs:List (List UInt8×Nat))(hs:a.eval s=v)(hr:Gy W base v xs)(hx:a.eval x=.slice (some ⟨g,0,none⟩) 1 1)
  (hy:W.heap[g]?=some (.cells #[.string ⟨y.1.toArray⟩,.int .i64 (y.2:Int)] 88 (0,0)))(hl:xs.length≤1000000)(hb:base≤W.heap.size)
  (h:∀ v' W1,Gy W1 base v' (xs++[y])→W.grownBy W1 v.ownBlock→(v'.ownBlock=v.ownBlock∨v'.ownBlock=some W.heap.size)→K (a.put o.dst v') W1) :
  if Region.wanted o (yielded ops a.tmps)=true then Oper.wp Tryz.prog o a W K Q else E:=by
 obtain⟨i9,hi,hz0,hz1,hz2⟩:=info_parts QP;refine FO hgd s x 84 ho base 88 i9 (.agg #[.string ⟨#[]⟩,.int .i64 0]) 2 24 Tryz.underlying84 hi hz0 hz1 hz2 rfl (by decide) v xs.length (EH xs) hs hr g #[.string ⟨y.1.toArray⟩,.int .i64 (y.2:Int)] (0,0) hx hy rfl ?_ hl (by decide) hb ?_
 ·simp[Value.oneCell']
 ·intro v' W1 h1 h2 h4;refine h v' W1 ?_ h2 h4;unfold Gy;rw[I7,List.length_append];exact h1
end
def Ha(x:Src)(k:Nat)(done:List In):List In ⊕ Int :=
 match GP x.labels x.l.length (x.l.drop k) (x.names.drop k) (x.rows.drop k) with
 |.inl r=>.inl (done++r)
 |.inr e=>.inr e
theorem Qw(x:Src):Ha x 0 []=GP x.labels x.l.length x.l x.names x.rows:=by
 unfold Ha;simp only[List.drop_zero,List.nil_append];cases GP x.labels x.l.length x.l x.names x.rows<;>rfl
theorem S3(x:Src)(k:Nat)(done:List In)(h:x.l.length≤k):Ha x k done=.inl done:=by
 unfold Ha;rw[List.drop_eq_nil_of_le h];simp[GP]
theorem Qn{x:Src}{k:Nat}{done:List In}(h:k<x.l.length)(h1:x.names.length=x.l.length)(h2:x.rows.length=x.l.length) :
  Ha x k done=if x.names.getD k []=[] then Ha x (k+1) (done++[x.l.getD k In.zero]) else
   if Cz x.labels (x.names.getD k []) x.l.length<0 then .inr (x.rows.getD k 0) else Ha x (k+1) (done++[{x.l.getD k In.zero with q:=Cz x.labels (x.names.getD k []) x.l.length}]):=by
 unfold Ha;rw[Dw x.l k In.zero h,Dw x.names k [] (by omega),Dw x.rows k 0 (by omega)];simp only[GP];by_cases hs:x.names.getD k []=[]
 ·rw[if_pos hs,if_pos hs];cases GP x.labels x.l.length (x.l.drop (k+1)) (x.names.drop (k+1)) (x.rows.drop (k+1))<;>simp
 ·rw[if_neg hs,if_neg hs];by_cases hf:Cz x.labels (x.names.getD k []) x.l.length<0
  ·rw[if_pos hf,if_pos hf]
  ·rw[if_neg hf,if_neg hf];cases GP x.labels x.l.length (x.l.drop (k+1)) (x.names.drop (k+1)) (x.rows.drop (k+1))<;>simp
theorem VP{t:List UInt8}{x:Src}{n:Int}(h:Fu (Bh t) 0 Src.zero=(x,n,0)):AS t=match Ha x 0 []with
  |.inr e=>(Pg.zero,e,10)
  |.inl k=>if Cz x.labels [108,111,99,107] x.l.length<0∨Cz x.labels [117,110,108,111,99,107] x.l.length<0 then (Pg.zero,0,10)
   else (⟨k,Cz x.labels [108,111,99,107] x.l.length,Cz x.labels [117,110,108,111,99,107] x.l.length⟩,0,0):=by
 unfold AS;rw[h,Qw];dsimp only;rw[if_neg (by simp)];cases GP x.labels x.l.length x.l x.names x.rows<;>rfl
theorem BM.WU{W:World}{base k n c g:Nat}{xs:List In}(h:BM W base (.slice (some ⟨g,0,none⟩) n c) xs)(hk:k<xs.length)(q:Int) :
  BM (W.setCell ⟨g,k*8+7,none⟩ (.int .i64 q)) base (.slice (some ⟨g,0,none⟩) n c) (xs.set k {xs.getD k In.zero with q:=q}):=by
 obtain⟨h1,h2⟩:=h;rcases h2 with ⟨h0,_⟩ |⟨g',cap,cur,h0,hb,hg,hc,hm,hs,ht⟩
 ·cases h0
 ·cases h0;refine⟨by rw[Jr,List.length_set],.inr ⟨g,c,_,by rw[List.length_set],hb,Bs hg (k*8+7) _,by rw[List.length_set];exact hc,hm,by simpa using hs,?_⟩⟩;rw[List.length_set,←GA xs k q hk,←ht];simp[List.take_set]
section
variable {w W W1:World} {N:Nat} {v0 vl vn vr u:Value} {l:List In} {names:List (List UInt8)} {rows:List Int} {labels:List (List UInt8×Nat)} {i:In} {s:List UInt8} {n:Int} {p:List UInt8×Nat}
theorem RX.Ro{g m c k:Nat}(h:RX w W N (.slice (some ⟨g,0,none⟩) m c) vl vn vr l names rows labels)(hk:k<l.length)(q:Int) :
  RX w (W.setCell ⟨g,k*8+7,none⟩ (.int .i64 q)) N (.slice (some ⟨g,0,none⟩) m c) vl vn vr (l.set k {l.getD k In.zero with q:=q}) names rows labels:=by
 obtain⟨cells,hc⟩:=Dv h.q0 g rfl;have hg:N≤g:=Ob h.q0 g rfl;have hn2:N≠g:=fun e=>by have:=h.c2;rw[e,hc]at this;cases this
 have hn5:N+1≠g:=fun e=>by have:=h.c5;rw[e,hc]at this;cases this
 have off:∀ {e:TypeId} {size m:Nat} {v:Value} {xs:List Value},W.ownsRow N e size v m xs→e≠90→(W.setCell ⟨g,k*8+7,none⟩ (.int .i64 q)).ownsRow N e size v m xs:=fun hr hne =>
  Om hr fun j hj=>Below.heap_setCell W ⟨g,k*8+7,none⟩ _ _ (fun e=>Oa hr hc hne (by rw[hj,←show j=g from e]))
 exact⟨h.b.setCell (show N≤g from hg) _,Ba h.c2 (show N≠g from hn2) _,Ba h.c5 (show N+1≠g from hn5) _,h.q0.WU hk q,off h.q1 (by decide),off h.q2 (by decide),off h.q3 (by decide)⟩
theorem RX.S(h:RX w W N v0 vl vn vr l names rows labels):Af (RX w W N v0 vl vn vr l names rows labels)∧W.cell? ⟨N+1,0,none⟩=some v0:=⟨⟨h⟩,h.Jj.1⟩
end
theorem VQ{w W W1:World}{N:Nat}{v0 vl vn vr:Value}{l:List In}{names:List (List UInt8)}{rows:List Int}{labels:List (List UInt8×Nat)}{a b:Addr}{y z:Value}(hb:Below W.heap.size W W1)(h:Af (RX w W N v0 vl vn vr l names rows labels)∧W.cell? a=some y∧W.cell? b=some z) :
 Af (RX w W1 N v0 vl vn vr l names rows labels)∧W1.cell? a=some y∧W1.cell? b=some z:=⟨⟨h.1.out.keep hb⟩,Ck hb h.2.1,Ck hb h.2.2⟩
theorem OQ{w W W1:World}{N:Nat}{v0 vl vn vr:Value}{l:List In}{names:List (List UInt8)}{rows:List Int}{labels:List (List UInt8×Nat)}{a:Addr}{y:Value}(hb:Below W.heap.size W W1)(h:Af (RX w W N v0 vl vn vr l names rows labels)∧W.cell? a=some y) :
 Af (RX w W1 N v0 vl vn vr l names rows labels)∧W1.cell? a=some y:=⟨⟨h.1.out.keep hb⟩,Ck hb h.2⟩
theorem RX.lu{w W:World}{N:Nat}{v0 vl vn vr:Value}{l:List In}{names:List (List UInt8)}{rows:List Int}{labels:List (List UInt8×Nat)}(h:RX w W N v0 vl vn vr l names rows labels)(a b:Value):∀ W',W'=(W.setCell ⟨N+1,1,none⟩ a).setCell ⟨N+1,2,none⟩ b →
  Below N w W'∧W'.heap[N]?=some (.cells #[.slice none 0 0,.int .i64 0,.int .i64 0] 26 (0,0))∧W'.heap[N+1]?=some (.cells #[v0,a,b] 26 (0,0))∧BM W' N v0 l:=by
 rintro W' rfl;exact⟨(h.b.setCell (show N≤N+1 by omega) _).setCell (show N≤N+1 by omega) _,Ba (Ba h.c2 (show N≠N+1 by omega) _) (show N≠N+1 by omega) _,Bs (Bs h.c5 1 a) 2 b,Rs (Rs h.q0 h.c5 (by decide) 1 a) (Bs h.c5 1 a) (by decide) 2 b⟩
theorem Zu{W:World}{N g k:Nat}{y:Value}(hn:N≠g)(a b c:Value)(h:W.cell? ⟨g,k,none⟩=some y):(((W.setCell ⟨N,0,none⟩ a).setCell ⟨N,1,none⟩ b).setCell ⟨N,2,none⟩ c).cell? ⟨g,k,none⟩=some y :=
 (World.cell?_setCell_far _ ⟨N,2,none⟩ ⟨g,k,none⟩ c hn).trans ((World.cell?_setCell_far _ ⟨N,1,none⟩ ⟨g,k,none⟩ b hn).trans ((World.cell?_setCell_far W ⟨N,0,none⟩ ⟨g,k,none⟩ a hn).trans h))
theorem Uk{w W:World}{N:Nat}{x y z v0:Value}{l:List In}(hb:Below N w W)(hc:W.heap[N]?=some (.cells #[x,y,z] 26 (0,0)))(hr:BM W N v0 l)(a b c:Value):∀ W',W'=((W.setCell ⟨N,0,none⟩ a).setCell ⟨N,1,none⟩ b).setCell ⟨N,2,none⟩ c →
  W'.heap[N]?=some (.cells #[a,b,c] 26 (0,0))∧BM W' N v0 l∧Below N w W':=by
 rintro W' rfl;exact⟨Bs (Bs (Bs hc 0 a) 1 b) 2 c,Rs (Rs (Rs hr hc (by decide) 0 a) (Bs hc 0 a) (by decide) 1 b) (Bs (Bs hc 0 a) 1 b) (by decide) 2 c,((hb.setCell (Nl _) _).setCell (Nl _) _).setCell (Nl _) _⟩
theorem Re(l:List UInt8)(i:Nat)(hi:i<l.length)(W:World):(Instr.index 9 (.string ⟨l.toArray⟩) (.int .i64 (i:Int))).run Tryz.prog W=.ok (.int .u8 ((l.getD i 0).toNat:Int)) W:=by
 rw[run_index_string W 9 _ .i64 i Tryz.underlying9,dif_pos ⟨by omega,by simp[ByteArray.size];omega⟩];have:(⟨l.toArray⟩:ByteArray)[(i:Int).toNat]'(by simp[ByteArray.size];omega)=l.getD i 0:=by
  simp[List.getD_eq_getElem?_getD,List.getElem?_eq_getElem hi];rfl
 rw[this]
theorem JC(l:List UInt8)(w:World)(hl:l.length≤1000000):Calls Tryz.prog 58 #[.string ⟨l.toArray⟩] w fun e w'=>e=.returned (.bool (Cq l))∧Below w.heap.size w w':=by
 obtain⟨r,hr⟩:∃ r,Cq l=r:=⟨_,rfl⟩
 rw[hr];have hsz:(⟨l.toArray⟩:ByteArray).size=l.length:=by simp[ByteArray.size]
 replace hr:=Az hr;go_enter Tryz.func58,Tryz.ntmps58;by_cases h1:l.length<1
 ·obtain rfl:r=false:=by rw[←hr.out,Cq,decide_eq_false (by omega)];rfl
  have i1:(l.length:Int)<1:=by omega
  clear h1;go_wp2;go_ret;exact⟨rfl,Below.refl _ _⟩
 have i1:¬(l.length:Int)<1:=by omega
 by_cases h2:16<l.length
 ·obtain rfl:r=false:=by rw[←hr.out,Cq,decide_eq_false (by omega)];rfl
  have i2:(16:Int)<(l.length:Int):=by omega
  clear h1 h2;go_wp2;go_ret;exact⟨rfl,Below.refl _ _⟩
 have i2:¬(16:Int)<(l.length:Int):=by omega
 have hx0:∀ W,(Instr.index 9 (.string ⟨l.toArray⟩) (.int .i64 0)).run Tryz.prog W=.ok (.int .u8 ((l.getD 0 0).toNat:Int)) W:=fun W=>Re l 0 (by omega) W
 have hlow0:EF (l.getD 0 0)=decide (97≤(l.getD 0 0).toNat∧(l.getD 0 0).toNat≤122):=rfl;have hbad0:EF (l.getD 0 0)=false→r=false:=fun h=>by rw[←hr.out];exact KF (by omega) h
 have hgood0:EF (l.getD 0 0)=true→Sg l 0∧EF (l.getD 0 0)=true:=fun h=>⟨⟨fun j hj=>by omega,fun h=>by omega⟩,h⟩
 rw[hlow0]at hbad0;obtain⟨b0,hb0⟩:∃ b,(l.getD 0 0).toNat=b:=⟨_,rfl⟩
 rw[hb0]at hx0 hbad0;by_cases c1:b0<97
 ·obtain rfl:r=false:=hbad0 (decide_eq_false (by omega));have r1:decide ((b0:Int)<97)=true:=decide_eq_true (by omega);clear hbad0 hgood0 hlow0 hb0;go_wp2;go_ret;exact⟨rfl,Below.refl _ _⟩
 have r1:decide ((b0:Int)<97)=false:=decide_eq_false (by omega);by_cases c2:122<b0
 ·obtain rfl:r=false:=hbad0 (decide_eq_false (by omega));have r2:decide (122<(b0:Int))=true:=decide_eq_true (by omega);clear hbad0 hgood0 hlow0 hb0;go_wp2;go_ret;exact⟨rfl,Below.refl _ _⟩
 have r2:decide (122<(b0:Int))=false:=decide_eq_false (by omega);have hl0:EF (l.getD 0 0)=true:=by rw[hlow0,hb0,decide_eq_true (by omega)]
 clear hbad0 hgood0 hlow0 hb0;replace hl0:=Az hl0;replace h1:=Az h1;replace h2:=Az h2;go_wp2_with fail
 go_loopw [3] (fun v3 wr=>∃ pos:Nat,v3=.int .i64 (pos:Int)∧pos≤l.length∧wr=w∧Af (Sg l pos)) (fun v3 _=>l.length-(intOf v3).toNat)
 case atStart=>exact⟨0,rfl,Nat.zero_le _,rfl,⟨fun j hj=>by omega,fun h=>by omega⟩⟩
 case round =>
  obtain⟨pos,rfl,hp,rfl,hok⟩:=hrel;clear hx0 r1 r2 i1 i2 c1 c2;by_cases hlt:pos<l.length
  ·have hx:=fun W=>Re l pos hlt W
   have k0:(0:Int)≤(pos:Int):=by omega
   have k1:(pos:Int)<(l.length:Int):=by omega
   have kw:IntKind.i64.wrap ((pos:Int)+1)=(pos:Int)+1:=by rw[IntKind.wrap_i64];omega
   have hlow:EF (l.getD pos 0)=decide (97≤(l.getD pos 0).toNat∧(l.getD pos 0).toNat≤122):=rfl;have hdig:LK (l.getD pos 0)=decide (48≤(l.getD pos 0).toNat∧(l.getD pos 0).toNat≤57):=rfl;have hstep:=fun h=>Ms (l:=l) hok.out h (fun _=>hl0.out)
   have hbad:=fun h=>hr.out.symm.trans (IX (l:=l) hlt h)
   rw[hlow,hdig]at hstep hbad;generalize (l.getD pos 0).toNat=b at hx hstep hbad;clear hlow hdig hok;by_cases c1:97≤b∧b≤122
   ·have r1:decide ((97:Int)≤(b:Int))=true:=decide_eq_true (by omega);have r2:decide ((b:Int)≤122)=true:=decide_eq_true (by omega);have hok':=Az (hstep (by rw[decide_eq_true c1];rfl));clear hstep hbad c1;go_wp2;go_roundw
    case rel=>exact⟨pos+1,by go_num,by omega,trivial,hok'⟩
    case measure=>simp[intOf];omega
   by_cases c2:48≤b∧b≤57
   ·have r1:decide ((97:Int)≤(b:Int))=false:=decide_eq_false (by omega);have r3:decide ((48:Int)≤(b:Int))=true:=decide_eq_true (by omega);have r4:decide ((b:Int)≤57)=true:=decide_eq_true (by omega);have hok':=Az (hstep (by rw[decide_eq_true c2];simp));clear hstep hbad c1 c2;go_wp2;go_roundw
    case rel=>exact⟨pos+1,by go_num,by omega,trivial,hok'⟩
    case measure=>simp[intOf];omega
   obtain rfl:r=false:=hbad (by rw[decide_eq_false c1,decide_eq_false c2];rfl);clear hstep hbad;by_cases d1:97≤b
   ·have r1:decide ((97:Int)≤(b:Int))=true:=decide_eq_true (by omega);have r2:decide ((b:Int)≤122)=false:=decide_eq_false (by omega);have r3:decide ((48:Int)≤(b:Int))=true:=decide_eq_true (by omega);have r4:decide ((b:Int)≤57)=false:=decide_eq_false (by omega);clear c1 c2 d1;go_wp2;go_ret;exact⟨rfl,Below.refl _ _⟩
   have r1:decide ((97:Int)≤(b:Int))=false:=decide_eq_false (by omega);by_cases d2:48≤b
   ·have r3:decide ((48:Int)≤(b:Int))=true:=decide_eq_true (by omega);have r4:decide ((b:Int)≤57)=false:=decide_eq_false (by omega);clear c1 c2 d1 d2;go_wp2;go_ret;exact⟨rfl,Below.refl _ _⟩
   have r3:decide ((48:Int)≤(b:Int))=false:=decide_eq_false (by omega);clear c1 c2 d1 d2;go_wp2;go_ret;exact⟨rfl,Below.refl _ _⟩
  ·obtain rfl:pos=l.length:=by omega
   have n1:¬(l.length:Int)<(l.length:Int):=by omega
   obtain⟨g1,g2⟩:=O2 hok.out (by have:=h1.out;omega);obtain rfl:r=true:=by rw[←hr.out,Cq,decide_eq_true ⟨by have:=h1.out;omega,by have:=h2.out;omega⟩,g1,g2];rfl
   go_wp2;go_ret;exact⟨rfl,Below.refl _ _⟩
end
end Go.Proofs.YtnmahobjmpdkdaaGreatDoor

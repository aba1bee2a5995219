/- Walks of package frame. No condition. -/
import Derived.Test.YtbhcjgobapnajaaSlot
import Derived.Test.YtbhcjgobapnajaaDa
section
namespace Go.Proofs.Ytbhcjgobapnajaa
open Go Go.Sy
set_option maxRecDepth 4000
set_option linter.unusedSimpArgs false
set_option linter.unusedVariables false
attribute [local irreducible] Reg RegD Later Out CallV Tri Side EqV
def madeS (o : List Slt) : Fr := ⟨((o[0]?).map (·.p.time)).getD 0, ((o[0]?).map (·.p.key)).getD false, o.map (·.p.text)⟩
def fr0 : Fr := ⟨0, false, []⟩
def openS (o : List Slt) (x : Slt) : List Slt := if x.p.first = true then [x] else match o.getLast? with
  | some a => if followsB a x = true then o ++ [x] else []
  | none => []
def addS (o : List Slt) (x : Slt) : List Slt × Fr × Bool := if openS o x ≠ [] ∧ x.p.fin = true then ([], madeS (openS o x), true) else if (openS o x).length = 4 then ([], fr0, false) else (openS o x, fr0, false)
theorem map_texts {o : List Slt} {i : Nat} {x : Slt} (h : o[i]? = some x) : (o.take (i + 1)).map (·.p.text) = (o.take i).map (·.p.text) ++ [x.p.text] := by
  rw [take_at h, List.map_append]; rfl
set_option maxHeartbeats 1000000 in
theorem c_made (o : List Slt) (h0 : o ≠ []) (hl : o.length ≤ 2000) : CSpec Try.prog 166 [.ptr 0 0] [.box [slts o]] (.agg (frC (madeS o))) [.box [slts o]] := by
  obtain ⟨x, hx⟩ : ∃ x, o[0]? = some x := ⟨o[0]'(List.length_pos_iff.2 h0), by simp⟩
  have hx0 : o[Int.toNat 0]? = some x := hx
  have hm : madeS o = ⟨x.p.time, x.p.key, o.map (·.p.text)⟩ := by simp [madeS, hx]
  have hp := List.length_pos_iff.2 h0
  refine v_cspec Try.func166 rfl Try.ntmps166 Try.results166 (by simp) (k := 1) rfl ?_
  repeat' (first
 | ((with_reducible apply w_ownCell 321 2 9 1); (case hb => rfl); (case hj => rfl); (case hsz => decide); (case hm => (try simp only [Nat.reduceAdd, Nat.reduceMul]); exact rfl))
 | (with_reducible first | apply qz0 | (refine h0 _ _ ?_; clear h0 hw) | (refine hw _ _ _ ?_; clear h0 hw) | apply qz3 )
 | (with_reducible first | refine w_reg (by decide +kernel) fun K1 hK => ?_ )
 | ((with_reducible first | apply d_reg Try.mix (by decide +kernel) ); (case hm => simp only [List.length_cons, List.length_nil, Nat.reduceAdd, Nat.reduceMul]; rfl); (case' h => intro K1 hK))
 | with_reducible refine go_seq ?_
 | ((with_reducible first | apply v_op Try.tab | apply d_op Try.tab | apply d_op0 Try.tab) <;> first | (intro K' h0 hw; conv => whnf) | (simp only [Nat.reduceAdd, Nat.reduceMul]; rfl))
 | ((with_reducible apply v_nil); (case hm => (simp only [Nat.reduceAdd, Nat.reduceMul]; rfl)); (case' h => with_reducible refine hK _ ?_; clear hK))
 | ((with_reducible apply d_nil); (refine hK _ _ _ _ (by first | (simp only [List.map_cons, List.map_nil, List.nil_append, List.cons_append]; decide +kernel) ) ?_; clear hK))
 | ((with_reducible apply And.intro); (case' right => try (conv => whnf)); (case' left => try first | rfl | decide | (simp; done) ))
 | ((with_reducible apply Side.mk); (try simp (disch := omega) only [wrp]); (try simp); (try simp (disch := omega) only [wrp]); (try omega))
 | ((with_reducible apply all_rk); (case hx => with_reducible assumption); (conv => whnf))
 )
  refine w_loop (X := Nat) [5, 31, 32, 33, 34, 35, 36, 37, 38, 39, 40, 41, 42, 43] (fun i => [(31, I i)]) (fun i => [(321, .box [I x.p.time, B x.p.key, .osl 353 1 (rowS ((o.take i).map (·.p.text)))]), (353, .perm 9 1 i)]) (fun i => i ≤ o.length) (fun i => o.length - i) 0 (by simp) ?_ ?_
  · refine ⟨kt_refl, ko_refl, ?_, ?_, ?_, ?_, Nat.le_refl _⟩ <;> simp
  intro i h1
  have hlen : min i o.length = i := by omega
  repeat' (first
 | (with_reducible first | apply qz0 | (refine h0 _ _ ?_; clear h0 hw) | (refine hw _ _ _ ?_; clear h0 hw) | apply qz1 | apply qz2 | apply qz3 | apply qz4 | apply qz6 | apply qz7 | apply qz9 | apply qza | apply qzc )
 | (with_reducible first | refine w_reg (by decide +kernel) fun K1 hK => ?_ | refine w_reg_end (by decide +kernel) fun K1 hK => ?_)
 | with_reducible refine go_seq ?_
 | ((with_reducible first | apply v_op Try.tab | apply v_op0 Try.tab ) <;> first | (intro K' h0 hw; conv => whnf) | (simp only [Nat.reduceAdd, Nat.reduceMul]; rfl))
 | ((with_reducible apply v_nil); (case hm => (simp only [Nat.reduceAdd, Nat.reduceMul]; rfl)); (case' h => with_reducible refine hK _ ?_; clear hK))
 | ((with_reducible apply go_cond); (case hb => rfl))
 | ((with_reducible apply And.intro); (case' right => try (conv => whnf)); (case' left => try first | rfl | decide | (simp [hlen]; done) ))
 | ((with_reducible apply Side.mk); (try simp (disch := omega) only [wrp]); (try simp); (try simp (disch := omega) only [wrp]); (try omega))
 | ((with_reducible refine all_row ?_); (first | intro x1 hx1); conv => whnf)
 | (first  | intro g1; try simp at g1))
  · have hx1' : o[i]? = some x1 := by simpa using hx1
    have ht := map_texts hx1'
    ((refine w_nx ((i + 1)) ?_ ?_ ?_ ?_ ?_ ?_); (case refine_1 => simp [ht, hlen]); (case refine_2 => simp [ht, hlen]); (case refine_3 => simp (disch := omega) [ht, hlen, wrp]); (case refine_4 => simp [ht, hlen]); (case refine_5 => first | (simp; omega) | (simp; done) | omega | (simp only; omega)); (case' refine_6 => (try simp only); (try exact trivial)))
    omega
  · have e : o.take i = o := List.take_of_length_le (by omega)
    rw [hm]
    ((first | refine w_retO Try.tab [] (by rfl) (by simp) (by simp) (fun K' hL => ?_) ?_ ?_ ?_ | refine w_retO_end Try.tab [] (by rfl) (by simp) (by simp) (fun K' hL => ?_) ?_ ?_ ?_); (conv => whnf); (refine hL _ ?_; clear hL); all_goals simp [e])
def addT (o : List Slt) (x : Slt) : AV := .tup [.agg (frC (addS o x).2.1), B (addS o x).2.2]
theorem last_slt {o : List Slt} {x : Slt} (hl : o.length ≤ 1000000) (h : o[(IntKind.i64.wrap ((o.length : Int) - 1)).toNat]? = some x) (h0 : 0 < o.length) : o.getLast? = some x := by
  rw [wrp (by omega) (by omega), show ((o.length : Int) - 1).toNat = o.length - 1 by omega] at h
  rw [List.getLast?_eq_getElem?, h]
def RightO (o : List Slt) : Prop := o.length ≤ 1000 ∧ ∀ a ∈ o, -1000000000000 ≤ a.n ∧ a.n ≤ 1000000000000
set_option maxHeartbeats 2000000 in
theorem c_add (o : List Slt) (x : Slt) (ho : RightO o) : CSpec Try.prog 139 [.ptr 0 0, .agg (sltC x)] [.box [slts o]] (addT o x) [.box [slts (addS o x).1]] := by
  have hl := ho.1
  have hbd : ∀ {y : Slt} {i : Nat}, o[i]? = some y → -1000000000000 ≤ y.n ∧ y.n ≤ 1000000000000 := fun h => ho.2 _ (List.mem_of_getElem? h)
  have hol : (openS o x).length ≤ 1001 := by unfold openS; (repeat' split) <;> simp <;> omega
  refine v_cspec Try.func139 rfl Try.ntmps139 Try.results139 (by simp) (k := 1) rfl ?_
  repeat' (first
 | (with_reducible refine w_cut (x := .block 0 _) (X := Unit) [14, 15, 16, 17, 18, 19, 20, 21, 22, 23, 24, 25, 26, 27, 28, 29, 30, 31, 32, 33, 34, 35, 36, 37, 38, 39, 40, 41, 42, 43, 44, 45, 46, 47, 48, 49, 50, 51, 52, 53, 54, 55, 56] (fun _ => []) (fun _ => [(0, .box [slts (openS o x)])]) (fun _ => True) ?_ ?_; (try (rintro z hz; simp only at hz)))
 | (with_reducible first | apply qz0 | (refine h0 _ _ ?_; clear h0 hw) | (refine hw _ _ _ ?_; clear h0 hw) | apply qz1 | apply qz2 | apply qz3 | apply qz5 | apply qz6 | apply qz9 )
 | (with_reducible first | refine w_reg (by decide +kernel) fun K1 hK => ?_ | refine w_reg_end (by decide +kernel) fun K1 hK => ?_)
 | ((with_reducible first | apply d_reg Try.mix (by decide +kernel) | apply d_reg_end Try.mix (by decide +kernel)); (case hm => simp only [List.length_cons, List.length_nil, Nat.reduceAdd, Nat.reduceMul]; rfl); (case' h => intro K1 hK))
 | with_reducible refine go_seq ?_
 | ((with_reducible first | apply v_op Try.tab | apply v_op0 Try.tab | apply d_op Try.tab | apply d_op0 Try.tab) <;> first | (intro K' h0 hw; conv => whnf) | (simp only [Nat.reduceAdd, Nat.reduceMul]; rfl))
 | ((with_reducible apply v_nil); (case hm => (simp only [Nat.reduceAdd, Nat.reduceMul]; rfl)); (case' h => with_reducible refine hK _ ?_; clear hK))
 | ((with_reducible apply d_nil); (refine hK _ _ _ _ (by first | decide +kernel | (simp only [List.map_cons, List.map_nil, List.nil_append, List.cons_append]; decide +kernel) ) ?_; clear hK))
 | (first | refine d_grd_yes (by rfl) (by rfl) ?_ | refine v_grd_yes (by rfl) (by rfl) ?_)
 | ((first | (apply d_grd_no; (case hg => rfl); (case hb => rfl)) | (apply d_grd; (case hg => rfl); (case hb => rfl)) | (apply v_grd_no; (case hg => rfl); (case hb => rfl)) | (apply v_grd; (case hg => rfl); (case hb => rfl))); (case hi => (simp only [Nat.reduceAdd, Nat.reduceMul]; rfl)))
 | ((with_reducible refine callV_id (f := 137) ?_); have hcs_ := c_follows x1 x (hbd (by simpa using hx1)); (with_reducible apply callV_f own137 (hcs_)); (case hx => rfl); (case he => rfl); (case hle => first | ((repeat constructor); done) ); (case hpu => repeat constructor); (case' hK => (try clear hcs_); conv => whnf))
 | ((with_reducible refine callV_id (f := 127) ?_); have hcs_ := c_cloneSlt o (by omega); (with_reducible apply w_callO [] own127 (hcs_)); (case hx => rfl); (case he => rfl); (case hle => first | ((repeat constructor); done) ); (case hm => rfl); (case hnd => decide); (case' hK => (try clear hcs_); conv => whnf); (any_goals (simp; done)))
 | ((with_reducible refine callV_id (f := 166) ?_); have hcs_ := c_made (openS o x) (List.length_pos_iff.1 g3) (by omega); (with_reducible apply w_callO [0] own166 (hcs_)); (case hx => rfl); (case he => rfl); (case hle => first | ((repeat constructor); done) ); (case hm => rfl); (case hnd => decide); (case' hK => (try clear hcs_); conv => whnf); (any_goals (simp; done)))
 | ((with_reducible apply go_cond); (case hb => rfl))
 | ((with_reducible apply And.intro); (case' right => try (conv => whnf)); (case' left => try first | rfl | decide | (simp; done) ))
 | ((with_reducible apply Side.mk); (try simp (disch := omega) only [wrp]); (try simp); (try simp (disch := omega) only [wrp]); (try omega))
 | ((with_reducible refine all_row ?_); (first | intro x1 hx1); conv => whnf)
 | (first | (guard_hyp g5; intro g6; try simp at g6) | (guard_hyp g4; intro g5; try simp at g5) | (guard_hyp g3; intro g4; try simp at g4) | (guard_hyp g2; intro g3; try simp at g3) | (guard_hyp g1; intro g2; try simp at g2) | intro g1; try simp at g1))
  · have e : openS o x = [x] := if_pos g1
    ((refine w_nx (()) ?_ ?_ ?_ ?_ ?_ ?_); (case refine_1 => simp [e]); (case refine_2 => simp [e]); (case refine_3 => simp (disch := omega) [e, wrp]); (case refine_4 => simp [e]); (case refine_5 => first | (simp; omega) | (simp; done) | omega | (simp only; omega)); (case' refine_6 => (try simp only); (try exact trivial)))
  · have hx := last_slt (by omega) (by simpa using hx1) g2
    have e : openS o x = o ++ [x] := by unfold openS; rw [if_neg (by simp [g1]), hx]; simp [g3]
    ((refine w_nx (()) ?_ ?_ ?_ ?_ ?_ ?_); (case refine_1 => simp [e]); (case refine_2 => simp [e]); (case refine_3 => simp (disch := omega) [e, wrp]); (case refine_4 => simp [e]); (case refine_5 => first | (simp; omega) | (simp; done) | omega | (simp only; omega)); (case' refine_6 => (try simp only); (try exact trivial)))
  · have hx := last_slt (by omega) (by simpa using hx1) g2
    have e : openS o x = [] := by unfold openS; rw [if_neg (by simp [g1]), hx]; simp [g3]
    ((refine w_nx (()) ?_ ?_ ?_ ?_ ?_ ?_); (case refine_1 => simp [e]); (case refine_2 => simp [e]); (case refine_3 => simp (disch := omega) [e, wrp]); (case refine_4 => simp [e]); (case refine_5 => first | (simp; omega) | (simp; done) | omega | (simp only; omega)); (case' refine_6 => (try simp only); (try exact trivial)))
  · have e : openS o x = [] := by unfold openS; rw [if_neg (by simp [g1]), g2]; simp
    ((refine w_nx (()) ?_ ?_ ?_ ?_ ?_ ?_); (case refine_1 => simp [e]); (case refine_2 => simp [e]); (case refine_3 => simp (disch := omega) [e, wrp]); (case refine_4 => simp [e]); (case refine_5 => first | (simp; omega) | (simp; done) | omega | (simp only; omega)); (case' refine_6 => (try simp only); (try exact trivial)))
  · have e : addS o x = ([], madeS (openS o x), true) := if_pos ⟨List.length_pos_iff.1 g3, g4⟩
    rw [e]
    ((first | refine w_retO Try.tab [] (by rfl) (by simp) (by simp) (fun K' hL => ?_) ?_ ?_ ?_ | refine w_retO_end Try.tab [] (by rfl) (by simp) (by simp) (fun K' hL => ?_) ?_ ?_ ?_); (conv => whnf); (refine hL _ ?_; clear hL); all_goals simp [addT, e])
  · have e : addS o x = ([], fr0, false) := by unfold addS; rw [if_neg (by simp [g4]), if_pos (by omega)]
    rw [e]
    ((first | refine w_retO Try.tab [] (by rfl) (by simp) (by simp) (fun K' hL => ?_) ?_ ?_ ?_ | refine w_retO_end Try.tab [] (by rfl) (by simp) (by simp) (fun K' hL => ?_) ?_ ?_ ?_); (conv => whnf); (refine hL _ ?_; clear hL); all_goals simp [addT, e, fr0])
  · have e : addS o x = (openS o x, fr0, false) := by unfold addS; rw [if_neg (by simp [g4]), if_neg (by omega)]
    rw [e]
    ((first | refine w_retO Try.tab [] (by rfl) (by simp) (by simp) (fun K' hL => ?_) ?_ ?_ ?_ | refine w_retO_end Try.tab [] (by rfl) (by simp) (by simp) (fun K' hL => ?_) ?_ ?_ ?_); (conv => whnf); (refine hL _ ?_; clear hL); all_goals simp [addT, e, fr0])
  · rw [g3] at g5; simp at g5
  · have e : addS o x = (openS o x, fr0, false) := by unfold addS; rw [if_neg (by simp [g3]), if_neg (by omega)]
    rw [e]
    ((first | refine w_retO Try.tab [] (by rfl) (by simp) (by simp) (fun K' hL => ?_) ?_ ?_ ?_ | refine w_retO_end Try.tab [] (by rfl) (by simp) (by simp) (fun K' hL => ?_) ?_ ?_ ?_); (conv => whnf); (refine hL _ ?_; clear hL); all_goals simp [addT, e, fr0])
def rawT (o : List Slt) (x : Slt) : AV := .tup [.agg [slts (addS o x).1], .agg (frC (addS o x).2.1), B (addS o x).2.2]
set_option maxHeartbeats 1000000 in
theorem c_frameRaw (o : List Slt) (x : Slt) (ho : RightO o) : PSpec Try.prog 131 [.agg [slts o], .agg (sltC x)] (rawT o x) := by
  refine v_pspec Try.func131 rfl Try.ntmps131 Try.results131 (by simp) (by repeat constructor) ?_
  have h1 := ho.1
  have hc := pspec_of_cspec (c_cloneSlt o (by omega)) (.osl _ _ _) (.sl _ _)
  repeat' (first
 | (with_reducible first | apply qz0 | (refine h0 _ _ ?_; clear h0 hw) | (refine hw _ _ _ ?_; clear h0 hw) | apply qz1 | (refine hL _ ?_; clear hL))
 | (with_reducible first | refine w_reg (by decide +kernel) fun K1 hK => ?_ )
 | ((with_reducible first | apply d_reg Try.mix (by decide +kernel) ); (case hm => simp only [List.length_cons, List.length_nil, Nat.reduceAdd, Nat.reduceMul]; rfl); (case' h => intro K1 hK))
 | ((with_reducible first | apply v_op Try.tab | apply v_op0 Try.tab | apply d_op Try.tab | apply d_op0 Try.tab) <;> first | (intro K' h0 hw; conv => whnf) | (simp only [Nat.reduceAdd, Nat.reduceMul]; rfl))
 | ((with_reducible apply v_nil); (case hm => (simp only [Nat.reduceAdd, Nat.reduceMul]; rfl)); (case' h => with_reducible refine hK _ ?_; clear hK))
 | ((with_reducible apply d_nil); (refine hK _ _ _ _ (by first | (simp only [List.map_cons, List.map_nil, List.nil_append, List.cons_append]; decide +kernel) ) ?_; clear hK))
 | ((with_reducible refine callV_id (f := 127) ?_); (with_reducible apply callV_f own127 (hc)); (case hx => rfl); (case he => rfl); (case hle => first | ((repeat constructor); done) ); (case hpu => repeat constructor); (case' hK => conv => whnf))
 | ((with_reducible refine callV_id (f := 139) ?_); have hcs_ := c_add o x ho; (with_reducible apply w_callO [160] own139 (hcs_)); (case hx => rfl); (case he => rfl); (case hle => first | ((repeat constructor); done) ); (case hm => rfl); (case hnd => decide); (case' hK => (try clear hcs_); conv => whnf); (any_goals (simp [addT]; done)))
 | ((with_reducible first | refine w_ret Try.tab fun K' hL => ?_ ); (conv => whnf))
 | ((with_reducible apply And.intro); (case' right => try (conv => whnf)); (case' left => try first | rfl | decide | (simp [addT]; done) ))
 )
  simp [rawT]
def badS (p : Option Slt) (x : Slt) : Bool := match p with
  | none => !x.p.first || x.p.fin
  | some a => x.p.fin || !followsB a x
def goB : Option Slt → List Slt → Int
  | _, [] => 0
  | p, x :: l => if sltE x ≠ 0 then sltE x else if badS p x = true then 4 else goB (some x) l
def buildE (o : List Slt) : Int := if 4 ≤ o.length then 2 else goB none o
def prevS (o : List Slt) (i : Nat) : Option Slt := if i = 0 then none else o[i - 1]?
section
variable {o : List Slt} {i : Nat} {x : Slt}
theorem prevS_succ (h : o[i]? = some x) : prevS o (i + 1) = some x := by simp [prevS, h]
theorem goB_end (h : goB (prevS o i) (o.drop i) = goB none o) (hi : o.length ≤ i) : goB none o = 0 := by rw [← h, List.drop_eq_nil_of_le hi]; rfl
theorem goB_bad (h : goB (prevS o i) (o.drop i) = goB none o) (hx : o[i]? = some x) (hf : ¬ sltE x = 0) : goB none o = sltE x := by rw [← h, drop_at hx, goB, if_pos hf]
theorem goB_four (h : goB (prevS o i) (o.drop i) = goB none o) (hx : o[i]? = some x) (hf : sltE x = 0) (hb : badS (prevS o i) x = true) : goB none o = 4 := by rw [← h, drop_at hx, goB, if_neg (by simp [hf]), if_pos hb]
theorem goB_next (h : goB (prevS o i) (o.drop i) = goB none o) (hx : o[i]? = some x) (hf : sltE x = 0) (hb : badS (prevS o i) x = false) : goB (prevS o (i + 1)) (o.drop (i + 1)) = goB none o := by
  rw [← h, drop_at hx, goB, if_neg (by simp [hf]), if_neg (by simp [hb]), prevS_succ hx]
theorem badS_zero (h : i = 0) : badS (prevS o i) x = (!x.p.first || x.p.fin) := by rw [prevS, if_pos h]; rfl
theorem badS_fin (hi : i < o.length) (hk : x.p.fin = true) : badS (prevS o i) x = true := by
  unfold prevS
  split
  · simp [badS, hk]
  · obtain ⟨y, hy⟩ : ∃ y, o[i - 1]? = some y := ⟨o[i - 1]'(by omega), by simp⟩
    rw [hy]; simp [badS, hk]
end
set_option maxHeartbeats 1000000 in
theorem c_frameRight (o : List Slt) (ho : o.length ≤ 4000000000000) : PSpec Try.prog 92 [.agg [slts o]] (I (buildE o)) := by
  refine v_pspec Try.func92 rfl Try.ntmps92 Try.results92 (by simp) (by first | exact .s _ | repeat constructor) ?_
  repeat' (first
 | (with_reducible first | apply qz0 | (refine h0 _ _ ?_; clear h0 hw) | (refine hw _ _ _ ?_; clear h0 hw) | apply qz1 | apply qz2 | apply qz3 | apply qz5 | apply qz6 | (refine hL _ ?_; clear hL))
 | (with_reducible first | refine w_reg (by decide +kernel) fun K1 hK => ?_ )
 | with_reducible refine go_seq ?_
 | ((with_reducible first | apply v_op Try.tab ) <;> first | (intro K' h0 hw; conv => whnf) | (simp only [Nat.reduceAdd, Nat.reduceMul]; rfl))
 | ((with_reducible apply v_nil); (case hm => (simp only [Nat.reduceAdd, Nat.reduceMul]; rfl)); (case' h => with_reducible refine hK _ ?_; clear hK))
 | ((with_reducible apply go_cond); (case hb => rfl))
 | ((with_reducible first | refine w_ret Try.tab fun K' hL => ?_ ); (conv => whnf))
 | ((with_reducible apply And.intro); (case' right => try (conv => whnf)); (case' left => try first | rfl | decide | (simp; done) ))
 | (first | (guard_hyp g7; intro g8; try simp at g8) | (guard_hyp g6; intro g7; try simp at g7) | (guard_hyp g5; intro g6; try simp at g6) | (guard_hyp g4; intro g5; try simp at g5) | (guard_hyp g3; intro g4; try simp at g4) | (guard_hyp g2; intro g3; try simp at g3) | (guard_hyp g1; intro g2; try simp at g2) | intro g1; try simp at g1))
  · have : 4 ≤ o.length := by omega
    simp [buildE, this]
  have he : buildE o = goB none o := if_neg (by omega)
  refine w_loop (X := Nat) [2, 3, 4, 5, 13, 14, 15, 16, 17, 18, 19, 20, 21, 22, 23, 24, 25, 26, 27, 28, 29, 30, 31, 32, 33, 34, 35, 36, 37, 38, 39, 40, 41, 42, 43, 44, 45, 46, 47, 48, 49, 50, 51] (fun i => [(13, I i)]) (fun _ => []) (fun i => i ≤ o.length ∧ goB (prevS o i) (o.drop i) = goB none o ∧ ∀ j x, j < i → o[j]? = some x → sltE x = 0) (fun i => o.length - i) 0 (by simp [prevS]) ?_ ?_
  · refine ⟨kt_refl, ko_refl, ?_, ?_, ?_, ?_, Nat.le_refl _⟩ <;> simp
  rintro i ⟨h1, h2, h3⟩
  have hb : ∀ {x : Slt}, 0 < i → o[(IntKind.i64.wrap ((i : Int) - 1)).toNat]? = some x → (-1000000000000 ≤ x.n ∧ x.n ≤ 1000000000000) ∧ prevS o i = some x := fun h0 hx => by
    rw [wrp (by omega) (by omega), show ((i : Int) - 1).toNat = i - 1 by omega] at hx
    have := (sltE_ok (h3 (i - 1) _ (by omega) hx)).1
    exact ⟨by omega, by rw [prevS, if_neg (by omega), hx]⟩
  have hok : ∀ x1 : Slt, o[i]? = some x1 → sltE x1 = 0 → ∀ j x, j < i + 1 → o[j]? = some x → sltE x = 0 := fun x1 hx1 g j x hj hx => by
    by_cases e : j = i
    · subst e; rw [hx1] at hx; cases hx; exact g
    · exact h3 j x (by omega) hx
  repeat' (first
 | (with_reducible first | apply qz0 | (refine h0 _ _ ?_; clear h0 hw) | (refine hw _ _ _ ?_; clear h0 hw) | apply qz1 | apply qz2 | apply qz3 | apply qz4 | apply qz5 | apply qz6 | apply qz7 | apply qz8 | apply qz9 | apply qza | apply qzb | apply qzc | (refine hL _ ?_; clear hL))
 | (with_reducible first | refine w_reg (by decide +kernel) fun K1 hK => ?_ | refine w_reg_end (by decide +kernel) fun K1 hK => ?_)
 | ((with_reducible first | apply d_reg Try.mix (by decide +kernel) ); (case hm => simp only [List.length_cons, List.length_nil, Nat.reduceAdd, Nat.reduceMul]; rfl); (case' h => intro K1 hK))
 | with_reducible refine go_seq ?_
 | ((with_reducible first | apply v_op Try.tab | apply v_op0 Try.tab | apply d_op Try.tab ) <;> first | (intro K' h0 hw; conv => whnf) | (simp only [Nat.reduceAdd, Nat.reduceMul]; rfl))
 | ((with_reducible apply v_nil); (case hm => (simp only [Nat.reduceAdd, Nat.reduceMul]; rfl)); (case' h => with_reducible refine hK _ ?_; clear hK))
 | ((with_reducible apply d_nil); (refine hK _ _ _ _ (by first | decide +kernel ) ?_; clear hK))
 | (first | refine d_grd_yes (by rfl) (by rfl) ?_ )
 | ((first | (apply d_grd_no; (case hg => rfl); (case hb => rfl)) | (apply d_grd_undef; (case hg => rfl); (case hb => rfl)) | (apply d_grd; (case hg => rfl); (case hb => rfl)) ); (case hi => (simp only [Nat.reduceAdd, Nat.reduceMul]; rfl)))
 | ((with_reducible refine callV_id (f := 136) ?_); have hcs_ := c_slot x1; (with_reducible apply callV_f own136 (hcs_)); (case hx => rfl); (case he => rfl); (case hle => first | ((repeat constructor); done) ); (case hpu => repeat constructor); (case' hK => (try clear hcs_); conv => whnf))
 | ((with_reducible refine callV_id (f := 137) ?_); have hcs_ := c_follows x2 x1 (hb (by omega) hx2).1; (with_reducible apply callV_f own137 (hcs_)); (case hx => rfl); (case he => rfl); (case hle => first | ((repeat constructor); done) ); (case hpu => repeat constructor); (case' hK => (try clear hcs_); conv => whnf))
 | ((with_reducible apply go_cond); (case hb => rfl))
 | ((with_reducible first | refine w_ret Try.tab fun K' hL => ?_ ); (conv => whnf))
 | ((with_reducible apply And.intro); (case' right => try (conv => whnf)); (case' left => try first | rfl | decide | (simp; done) | (simp (disch := omega) only [wrp]; omega) ))
 | ((with_reducible apply Side.mk); (try simp (disch := omega) only [wrp]); (try simp); (try simp (disch := omega) only [wrp]); (try omega))
 | ((with_reducible refine all_row ?_); (first | (guard_hyp hx1; intro x2 hx2) | intro x1 hx1); conv => whnf)
 | (first | (guard_hyp g7; intro g8; try simp at g8) | (guard_hyp g6; intro g7; try simp at g7) | (guard_hyp g5; intro g6; try simp at g6) | (guard_hyp g4; intro g5; try simp at g5) | (guard_hyp g3; intro g4; try simp at g4) | (guard_hyp g2; intro g3; try simp at g3) | (guard_hyp g1; intro g2; try simp at g2) | intro g1; try simp at g1))
  · simp at hx1; simp [he, goB_bad h2 hx1 g3]
  all_goals (try (exfalso; omega))
  all_goals (try (simp at hx1))
  · ((refine w_nx ((i + 1)) ?_ ?_ ?_ ?_ ?_ ?_); (case refine_1 => simp); (case refine_2 => simp); (case refine_3 => simp (disch := omega) [wrp]); (case refine_4 => simp); (case refine_5 => first | (simp; omega) | (simp; done) | omega | (simp only; omega)); (case' refine_6 => (try simp only); (try exact trivial)))
    exact ⟨by omega, goB_next h2 hx1 g3 (by rw [badS_zero g4]; simp [g5, g6]), hok x1 hx1 g3⟩
  · simp [he, goB_four h2 hx1 g3 (badS_fin g2 g6)]
  · simp [he, goB_four h2 hx1 g3 (by rw [badS_zero g4]; simp [g5])]
  · simp [he, goB_four h2 hx1 g3 (by rw [(hb g6 hx2).2]; simp [badS, g7])]
  · ((refine w_nx ((i + 1)) ?_ ?_ ?_ ?_ ?_ ?_); (case refine_1 => simp); (case refine_2 => simp); (case refine_3 => simp (disch := omega) [wrp]); (case refine_4 => simp); (case refine_5 => first | (simp; omega) | (simp; done) | omega | (simp only; omega)); (case' refine_6 => (try simp only); (try exact trivial)))
    exact ⟨by omega, goB_next h2 hx1 g3 (by rw [(hb g6 hx2).2]; simp [badS, g5, g7]), hok x1 hx1 g3⟩
  · simp [he, goB_four h2 hx1 g3 (badS_fin g2 g5)]
  · simp [he, goB_end h2 g2]
end Go.Proofs.Ytbhcjgobapnajaa
end
section
namespace Go.Proofs.Ytbhcjgobapnajaa
open Go Go.Sy
set_option maxRecDepth 4000
set_option linter.unusedSimpArgs false
set_option linter.unusedVariables false
attribute [local irreducible] Reg RegD Later Out CallV Tri Side EqV
theorem addS_len (o : List Slt) (x : Slt) (h : o.length ≤ 3) : (addS o x).1.length ≤ 3 ∧ (openS o x).length ≤ 4 ∧ (addS o x).2.1.parts.length ≤ 4 := by
  have h2 : (openS o x).length ≤ 4 := by unfold openS; (repeat' split) <;> simp <;> omega
  refine ⟨?_, h2, ?_⟩
  · unfold addS
    split
    · simp
    · split
      · simp
      · rename_i h3; simp only; omega
  · unfold addS
    split
    · simp [madeS]; omega
    · split <;> simp [fr0]
def eachF : List Slt → List Fr → List Slt → List Fr × Int
  | _, out, [] => (out, 0)
  | o, out, x :: l => if sltE x ≠ 0 then ([], sltE x) else eachF (addS o x).1 (if (addS o x).2.2 = true then out ++ [(addS o x).2.1] else out) l
def allF (l : List Slt) : List Fr × Int := if 100 < l.length then ([], 2) else eachF [] [] l
def OkO (o : List Slt) : Prop := o.length ≤ 3 ∧ ∀ a ∈ o, sltE a = 0
theorem OkO.right {o : List Slt} (h : OkO o) : RightO o := ⟨by have := h.1; omega, fun a ha => by have := (sltE_ok (h.2 a ha)).1; omega⟩
theorem openS_mem {o : List Slt} {x a : Slt} (h : a ∈ openS o x) : a ∈ o ∨ a = x := by
  unfold openS at h
  split at h
  · simp at h; exact .inr h
  · split at h
    · split at h
      · simp at h; exact h
      · cases h
    · cases h
theorem okO_add {o : List Slt} {x : Slt} (h : OkO o) (hx : sltE x = 0) : OkO (addS o x).1 := by
  refine ⟨(addS_len o x h.1).1, fun a ha => ?_⟩
  unfold addS at ha
  split at ha
  · cases ha
  · split at ha
    · cases ha
    · rcases openS_mem ha with h1 | rfl
      · exact h.2 a h1
      · exact hx
def framesT (r : List Fr × Int) : AV := .tup [frs r.1, I r.2]
set_option maxHeartbeats 2000000 in
theorem c_frameAll (l : List Slt) (hl : l.length ≤ 4000000000000) : PSpec Try.prog 102 [slts l] (framesT (allF l)) := by
  refine v_pspec Try.func102 rfl Try.ntmps102 Try.results102 (by simp) (by repeat constructor) ?_
  repeat' (first
 | ((with_reducible apply w_ownNil 4 78 3); (case hs => rfl); (case hsz => decide); (case hm => (try simp only [Nat.reduceAdd, Nat.reduceMul]); exact rfl))
 | (with_reducible first | apply qz0 | (refine h0 _ _ ?_; clear h0 hw) | (refine hw _ _ _ ?_; clear h0 hw) | apply qz1 | apply qz2 | apply qz3 | apply qz5 | apply qz6 | (refine hL _ ?_; clear hL))
 | (with_reducible first | refine w_reg (by decide +kernel) fun K1 hK => ?_ )
 | with_reducible refine go_seq ?_
 | ((with_reducible first | apply v_op Try.tab ) <;> first | (intro K' h0 hw; conv => whnf) | (simp only [Nat.reduceAdd, Nat.reduceMul]; rfl))
 | ((with_reducible apply v_nil); (case hm => (simp only [Nat.reduceAdd, Nat.reduceMul]; rfl)); (case' h => with_reducible refine hK _ ?_; clear hK))
 | ((with_reducible apply go_cond); (case hb => rfl))
 | ((with_reducible first | refine w_ret Try.tab fun K' hL => ?_ ); (conv => whnf))
 | ((with_reducible apply And.intro); (case' right => try (conv => whnf)); (case' left => try first | rfl ))
 | (first | (guard_hyp g4; intro g5; try simp at g5) | (guard_hyp g3; intro g4; try simp at g4) | (guard_hyp g2; intro g3; try simp at g3) | (guard_hyp g1; intro g2; try simp at g2) | intro g1; try simp at g1))
  · have e : allF l = ([], 2) := if_pos (by omega)
    simp [framesT, e]
  have he : allF l = eachF [] [] l := if_neg (by omega)
  refine w_loop (X := Nat × List Slt × List Fr) [2, 3, 4, 7, 8, 9, 10, 18, 19, 20, 21, 22, 23, 24, 25, 26, 27, 28, 29, 30, 31, 32, 33, 34, 35, 36, 37, 38] (fun x => [(18, I x.1), (4, .osl 96 3 (rowF x.2.2))]) (fun x => [(128, .box [slts x.2.1]), (96, .perm 78 3 x.2.2.length)]) (fun x => x.1 ≤ l.length ∧ eachF x.2.1 x.2.2 (l.drop x.1) = eachF [] [] l ∧ OkO x.2.1 ∧ x.2.2.length ≤ x.1) (fun x => l.length - x.1) (0, [], []) ?_ ?_ ?_
  · exact ⟨by simp, rfl, ⟨by simp, by simp⟩, by simp⟩
  · refine ⟨kt_refl, ko_refl, ?_, ?_, ?_, ?_, Nat.le_refl _⟩ <;> simp
  rintro ⟨i, o, out⟩ ⟨h1, h2, h3, h4⟩
  simp only at h1 h2 h3 h4
  have hbad : ∀ x1 : Slt, l[i]? = some x1 → ¬ sltE x1 = 0 → allF l = ([], sltE x1) := fun x1 hx g => by rw [he, ← h2, drop_at hx, eachF, if_pos g]
  have hgo : ∀ x1 : Slt, l[i]? = some x1 → sltE x1 = 0 → eachF (addS o x1).1 (if (addS o x1).2.2 = true then out ++ [(addS o x1).2.1] else out) (l.drop (i + 1)) = eachF [] [] l := fun x1 hx g => by rw [← h2, drop_at hx]; conv => rhs; rw [eachF, if_neg (by simp [g])]
  repeat' (first
 | (with_reducible first | apply qz0 | (refine h0 _ _ ?_; clear h0 hw) | (refine hw _ _ _ ?_; clear h0 hw) | apply qz1 | apply qz2 | apply qz3 | apply qz4 | apply qz5 | apply qz6 | apply qz7 | apply qz8 | apply qz9 | apply qza | apply qzb | apply qzc | (refine hL _ ?_; clear hL))
 | (with_reducible first | refine w_reg (by decide +kernel) fun K1 hK => ?_ | refine w_reg_end (by decide +kernel) fun K1 hK => ?_)
 | with_reducible refine go_seq ?_
 | ((with_reducible first | apply v_op Try.tab | apply v_op0 Try.tab) <;> first | (intro K' h0 hw; conv => whnf) | (simp only [Nat.reduceAdd, Nat.reduceMul]; rfl))
 | ((with_reducible apply v_nil); (case hm => (simp only [Nat.reduceAdd, Nat.reduceMul]; rfl)); (case' h => with_reducible refine hK _ ?_; clear hK))
 | ((with_reducible refine callV_id (f := 136) ?_); have hcs_ := c_slot x1; (with_reducible apply callV_f own136 (hcs_)); (case hx => rfl); (case he => rfl); (case hle => first | ((repeat constructor); done) ); (case hpu => repeat constructor); (case' hK => (try clear hcs_); conv => whnf))
 | ((with_reducible refine callV_id (f := 139) ?_); have hcs_ := c_add o x1 h3.right; (with_reducible apply w_callO [128] own139 (hcs_)); (case hx => rfl); (case he => rfl); (case hle => first | ((repeat constructor); done) ); (case hm => rfl); (case hnd => decide); (case' hK => (try clear hcs_); conv => whnf); (any_goals (simp [addT]; done)))
 | ((with_reducible apply go_cond); (case hb => rfl))
 | ((with_reducible first | refine w_ret Try.tab fun K' hL => ?_ ); (conv => whnf))
 | ((with_reducible apply And.intro); (case' right => try (conv => whnf)); (case' left => try first | rfl | decide | (simp [addT]; done) ))
 | ((with_reducible apply Side.mk); (try simp (disch := omega) only [wrp]); (try simp); (try simp (disch := omega) only [wrp]); (try omega))
 | ((with_reducible refine all_row ?_); (first | intro x1 hx1); conv => whnf)
 | (first | (guard_hyp g4; intro g5; try simp at g5) | (guard_hyp g3; intro g4; try simp at g4) | (guard_hyp g2; intro g3; try simp at g3) | (guard_hyp g1; intro g2; try simp at g2) | intro g1; try simp at g1))
  · simp at hx1
    simp [framesT, hbad x1 hx1 g3]
  · simp at hx1
    have hg := hgo x1 hx1 g3
    rw [if_pos g4] at hg
    ((refine w_nx ((i + 1, (addS o x1).1, out ++ [(addS o x1).2.1])) ?_ ?_ ?_ ?_ ?_ ?_); (case refine_1 => simp); (case refine_2 => simp); (case refine_3 => simp (disch := omega) [wrp]); (case refine_4 => simp); (case refine_5 => first | (simp; omega) | (simp; done) | omega | (simp only; omega)); (case' refine_6 => (try simp only); (try exact trivial)))
    exact ⟨by omega, hg, okO_add h3 g3, by simp; omega⟩
  · simp at hx1
    have hg := hgo x1 hx1 g3
    rw [if_neg (by simp [g4])] at hg
    ((refine w_nx ((i + 1, (addS o x1).1, out)) ?_ ?_ ?_ ?_ ?_ ?_); (case refine_1 => simp); (case refine_2 => simp); (case refine_3 => simp (disch := omega) [wrp]); (case refine_4 => simp); (case refine_5 => first | (simp; omega) | (simp; done) | omega | (simp only; omega)); (case' refine_6 => (try simp only); (try exact trivial)))
    exact ⟨by omega, hg, okO_add h3 g3, by omega⟩
  · have e : allF l = (out, 0) := by rw [he, ← h2, List.drop_eq_nil_of_le (by omega)]; rfl
    simp [framesT, e]
end Go.Proofs.Ytbhcjgobapnajaa
end
section
namespace Go.Proofs.Ytbhcjgobapnajaa
open Go Go.Sy
set_option maxRecDepth 4000
set_option linter.unusedSimpArgs false
set_option linter.unusedVariables false
attribute [local irreducible] Reg RegD Later Out CallV Tri Side EqV
theorem goB_ok : ∀ {l : List Slt} {p : Option Slt}, goB p l = 0 → ∀ f ∈ l, sltE f = 0
  | [], _, _ => by simp
  | f :: l, p, h => by
    rw [goB] at h
    by_cases h1 : sltE f = 0
    · rw [if_neg (by simp [h1])] at h
      split at h
      · cases h
      · intro x hx
        rcases List.mem_cons.1 hx with rfl | hx
        · exact h1
        · exact goB_ok h x hx
    · rw [if_pos h1] at h; exact absurd h h1
theorem buildE_ok {o : List Slt} (h : buildE o = 0) : OkO o := by
  unfold buildE at h
  split at h
  · cases h
  · exact ⟨by omega, goB_ok h⟩
def addE (o : List Slt) (x : Slt) : Int := if buildE o = 0 then sltE x else buildE o
def addR (o : List Slt) (x : Slt) : List Slt × Fr × Bool := if addE o x = 0 then addS o x else ([], fr0, false)
def addFT (o : List Slt) (x : Slt) : AV := .tup [.agg [slts (addR o x).1], .agg (frC (addR o x).2.1), B (addR o x).2.2, I (addE o x)]
theorem addE_ok {o : List Slt} {x : Slt} (h : addE o x = 0) : OkO o ∧ sltE x = 0 ∧ buildE o = 0 := by
  unfold addE at h
  by_cases h1 : buildE o = 0
  · rw [if_pos h1] at h; exact ⟨buildE_ok h1, h, h1⟩
  · rw [if_neg h1] at h; exact absurd h h1
set_option maxHeartbeats 1000000 in
theorem c_frameAdd (o : List Slt) (x : Slt) (ho : o.length ≤ 4000000000000) : PSpec Try.prog 100 [.agg [slts o], .agg (sltC x)] (addFT o x) := by
  refine v_pspec Try.func100 rfl Try.ntmps100 Try.results100 (by simp) (by repeat constructor) ?_
  repeat' (first
 | ((first | with_reducible refine w_cut (x := .seq (.region _ _ _) (.cond (.tmp 15) _ _)) (X := Unit) [8, 14, 15, 16, 17] (fun _ => [(8, I (addE o x))]) (fun _ => []) (fun _ => True) ?_ ?_); (try (rintro z hz; simp only at hz)))
 | (with_reducible first | apply qz0 | (refine h0 _ _ ?_; clear h0 hw) | (refine hw _ _ _ ?_; clear h0 hw) | apply qz1 | apply qz2 | apply qz5 | apply qz6 | (refine hL _ ?_; clear hL))
 | (with_reducible first | refine w_reg (by decide +kernel) fun K1 hK => ?_ | refine w_reg_end (by decide +kernel) fun K1 hK => ?_)
 | ((with_reducible first | apply d_reg Try.mix (by decide +kernel) ); (case hm => simp only [List.length_cons, List.length_nil, Nat.reduceAdd, Nat.reduceMul]; rfl); (case' h => intro K1 hK))
 | with_reducible refine go_seq ?_
 | ((with_reducible first | apply v_op Try.tab | apply v_op0 Try.tab | apply d_op Try.tab | apply d_op0 Try.tab) <;> first | (intro K' h0 hw; conv => whnf) | (simp only [Nat.reduceAdd, Nat.reduceMul]; rfl))
 | ((with_reducible apply v_nil); (case hm => (simp only [Nat.reduceAdd, Nat.reduceMul]; rfl)); (case' h => with_reducible refine hK _ ?_; clear hK))
 | ((with_reducible apply d_nil); (refine hK _ _ _ _ (by first | (simp only [List.map_cons, List.map_nil, List.nil_append, List.cons_append]; decide +kernel) ) ?_; clear hK))
 | ((with_reducible refine callV_id (f := 92) ?_); have hcs_ := c_frameRight o ho; (with_reducible apply callV_f own92 (hcs_)); (case hx => rfl); (case he => rfl); (case hle => first | ((repeat constructor); done) ); (case hpu => repeat constructor); (case' hK => (try clear hcs_); conv => whnf))
 | ((with_reducible refine callV_id (f := 136) ?_); have hcs_ := c_slot x; (with_reducible apply callV_f own136 (hcs_)); (case hx => rfl); (case he => rfl); (case hle => first | ((repeat constructor); done) ); (case hpu => repeat constructor); (case' hK => (try clear hcs_); conv => whnf))
 | ((with_reducible refine callV_id (f := 131) ?_); have hcs_ := c_frameRaw o x (addE_ok g3).1.right; (with_reducible apply callV_f own131 (hcs_)); (case hx => rfl); (case he => rfl); (case hle => first | ((repeat constructor); done) ); (case hpu => repeat constructor); (case' hK => (try clear hcs_); conv => whnf))
 | ((with_reducible apply go_cond); (case hb => rfl))
 | ((with_reducible first | refine w_ret Try.tab fun K' hL => ?_ ); (conv => whnf))
 | ((with_reducible apply And.intro); (case' right => try (conv => whnf)); (case' left => try first | rfl | decide | (simp [rawT]; done) ))
 | (first | (guard_hyp g3; intro g4; try simp at g4) | (guard_hyp g2; intro g3; try simp at g3) | (guard_hyp g1; intro g2; try simp at g2) | intro g1; try simp at g1))
  · have e : addE o x = sltE x := if_pos g1
    ((refine w_nx (()) ?_ ?_ ?_ ?_ ?_ ?_); (case refine_1 => simp [e]); (case refine_2 => simp [e]); (case refine_3 => simp (disch := omega) [e, wrp]); (case refine_4 => simp [e]); (case refine_5 => first | (simp; omega) | (simp; done) | omega | (simp only; omega)); (case' refine_6 => (try simp only); (try exact trivial)))
  · have e : addE o x = buildE o := if_neg g1
    ((refine w_nx (()) ?_ ?_ ?_ ?_ ?_ ?_); (case refine_1 => simp [e]); (case refine_2 => simp [e]); (case refine_3 => simp (disch := omega) [e, wrp]); (case refine_4 => simp [e]); (case refine_5 => first | (simp; omega) | (simp; done) | omega | (simp only; omega)); (case' refine_6 => (try simp only); (try exact trivial)))
  · have e : addR o x = ([], fr0, false) := if_neg g3
    simp [addFT, e, fr0]
  · have e : addR o x = addS o x := if_pos g3
    simp [addFT, e, g3]
set_option maxHeartbeats 1000000 in
theorem c_frameBegun : PSpec Try.prog 44 [] (B true) := by
  refine v_pspec Try.func44 rfl Try.ntmps44 Try.results44 (by simp) (by first | exact .s _ | repeat constructor) ?_
  have h1 := c_frameAdd [] (mk 70000 5 true false true) (by decide)
  rw [show addFT [] (mk 70000 5 true false true) = .tup [.agg [slts [mk 70000 5 true false true]], .agg (frC fr0), B false, I 0] by unfold addFT; rw [show addR [] (mk 70000 5 true false true) = ([mk 70000 5 true false true], fr0, false) by decide +kernel, show addE [] (mk 70000 5 true false true) = 0 by decide +kernel]] at h1
  have h2 := c_frameAdd [mk 70000 5 true false true] (mk 70001 5 false true false) (by decide)
  rw [show addFT [mk 70000 5 true false true] (mk 70001 5 false true false) = .tup [.agg [slts []], .agg (frC ⟨5, true, [tt, tt]⟩), B true, I 0] by unfold addFT; rw [show addR [mk 70000 5 true false true] (mk 70001 5 false true false) = ([], ⟨5, true, [tt, tt]⟩, true) by decide +kernel, show addE [mk 70000 5 true false true] (mk 70001 5 false true false) = 0 by decide +kernel]] at h2
  have h3 := c_frameAll [mk 70000 5 true false true, mk 70002 5 false true false, mk 70003 6 true true false] (by decide)
  rw [show allF [mk 70000 5 true false true, mk 70002 5 false true false, mk 70003 6 true true false] = ([⟨6, false, [tt]⟩], 0) by decide +kernel] at h3
  have h4 := c_frameCheck ⟨5, true, [tt, tt]⟩ (by decide)
  rw [show frameE ⟨5, true, [tt, tt]⟩ = 0 by decide +kernel] at h4
  repeat' (first
 | (with_reducible first | apply qz0 | (refine h0 _ _ ?_; clear h0 hw) | (refine hw _ _ _ ?_; clear h0 hw) | apply qz1 | (refine hL _ ?_; clear hL))
 | (with_reducible first | refine w_reg (by decide +kernel) fun K1 hK => ?_ )
 | ((with_reducible first | apply d_reg Try.mix (by decide +kernel) ); (case hm => simp only [List.length_cons, List.length_nil, Nat.reduceAdd, Nat.reduceMul]; rfl); (case' h => intro K1 hK))
 | ((with_reducible first | apply v_op Try.tab | apply v_op0 Try.tab | apply d_op Try.tab | apply d_op0 Try.tab) <;> first | (intro K' h0 hw; conv => whnf) | (simp only [Nat.reduceAdd, Nat.reduceMul]; rfl))
 | ((with_reducible apply v_nil); (case hm => (simp only [Nat.reduceAdd, Nat.reduceMul]; rfl)); (case' h => with_reducible refine hK _ ?_; clear hK))
 | ((with_reducible apply d_nil); (refine hK _ _ _ _ (by first | decide +kernel ) ?_; clear hK))
 | (first | refine v_grd_yes (by rfl) (by rfl) ?_)
 | ((with_reducible refine callV_id (f := 101) ?_); have hcs_ := c_mkSlot 70000 5 true false true (by decide); (with_reducible apply callV_f own101 (hcs_)); (case hx => rfl); (case he => rfl); (case hle => first | ((repeat constructor); done) ); (case hpu => repeat constructor); (case' hK => (try clear hcs_); conv => whnf))
 | ((with_reducible refine callV_id (f := 101) ?_); have hcs_ := c_mkSlot 70001 5 false true false (by decide); (with_reducible apply callV_f own101 (hcs_)); (case hx => rfl); (case he => rfl); (case hle => first | ((repeat constructor); done) ); (case hpu => repeat constructor); (case' hK => (try clear hcs_); conv => whnf))
 | ((with_reducible refine callV_id (f := 101) ?_); have hcs_ := c_mkSlot 70002 5 false true false (by decide); (with_reducible apply callV_f own101 (hcs_)); (case hx => rfl); (case he => rfl); (case hle => first | ((repeat constructor); done) ); (case hpu => repeat constructor); (case' hK => (try clear hcs_); conv => whnf))
 | ((with_reducible refine callV_id (f := 101) ?_); have hcs_ := c_mkSlot 70003 6 true true false (by decide); (with_reducible apply callV_f own101 (hcs_)); (case hx => rfl); (case he => rfl); (case hle => first | ((repeat constructor); done) ); (case hpu => repeat constructor); (case' hK => (try clear hcs_); conv => whnf))
 | ((with_reducible refine callV_id (f := 100) ?_); (with_reducible apply callV_f own100 (h1)); (case hx => rfl); (case he => rfl); (case hle => first | ((repeat constructor); done) ); (case hpu => repeat constructor); (case' hK => conv => whnf))
 | ((with_reducible refine callV_id (f := 100) ?_); (with_reducible apply callV_f own100 (h2)); (case hx => rfl); (case he => rfl); (case hle => first | ((repeat constructor); done) ); (case hpu => repeat constructor); (case' hK => conv => whnf))
 | ((with_reducible refine callV_id (f := 102) ?_); (with_reducible apply callV_f own102 (h3)); (case hx => rfl); (case he => rfl); (case hle => first | ((repeat constructor); done) ); (case hpu => repeat constructor); (case' hK => conv => whnf))
 | ((with_reducible refine callV_id (f := 103) ?_); (with_reducible apply callV_f own103 (h4)); (case hx => rfl); (case he => rfl); (case hle => first | ((repeat constructor); done) ); (case hpu => repeat constructor); (case' hK => conv => whnf))
 | ((with_reducible first | refine w_ret Try.tab fun K' hL => ?_ ); (conv => whnf))
 | ((with_reducible apply And.intro); (case' right => try (conv => whnf)); (case' left => try first | rfl | decide | (simp [framesT]; done) ))
 | ((with_reducible apply Side.mk); (try simp (disch := omega) only [wrp]); (try simp); (try simp (disch := omega) only [wrp]); (try omega))
 | ((with_reducible refine all_row ?_); (first | intro x1 hx1); conv => whnf)
 )
  simp at hx1; subst hx1; simp
end Go.Proofs.Ytbhcjgobapnajaa
end
section
namespace Go.Proofs.Ytbhcjgobapnajaa
open Go Go.Sy
set_option maxRecDepth 4000
set_option linter.unusedSimpArgs false
set_option linter.unusedVariables false
attribute [local irreducible] Reg RegD Later Out CallV Tri Side EqV
end Go.Proofs.Ytbhcjgobapnajaa
end

/- The document's whole, walked. No condition. -/
import Derived.Test.YtokkencbpmjdaaaGreatDesk
namespace Go.Proofs.YtokkencbpmjdaaaGreat
open Go Go.Sy
set_option maxRecDepth 4000
set_option linter.unusedSimpArgs false
set_option linter.unusedVariables false
attribute [local irreducible] Reg RegD Later Out CallV Tri Side EqV Pause
set_option maxHeartbeats 1000000 in
theorem c_checkViewer (v : Vw) : PSpec Tryz.prog 8 [.agg (vwC v)] (I (viewerE v)) := by
  refine p_pspec Tryz.func8 Tryz.ntmps8 Tryz.results8 ?_
  repeat' (first
 | (with_reducible first | apply qz0 | (refine h0 _ _ ?_; clear h0 hw) | (refine hw _ _ _ ?_; clear h0 hw) | apply qz1 | apply qz2 | apply qz6 | (refine hL _ ?_; clear hL))
 | refine p_reg fun K1 hK => ?_ | refine p_regE fun K1 hK => ?_
 | apply go_seq
 | (refine p_op Tryz.tab fun K' h0 hw => ?_; conv => whnf)
 | (refine p_nil (hK _ ?_); clear hK)
 | ((with_reducible refine callV_id (f := 28) ?_); have hcs_ := c_checkCursor v.cu; (with_reducible apply callV_f own28 (hcs_)); (case hx => rfl); (case he => rfl); (case hle => first | ((repeat constructor); done) ); (case hpu => repeat constructor); (case' hK => (try clear hcs_); conv => whnf))
 | ((with_reducible refine callV_id (f := 29) ?_); have hcs_ := c_checkOut v.ou; (with_reducible apply callV_f own29 (hcs_)); (case hx => rfl); (case he => rfl); (case hle => first | ((repeat constructor); done) ); (case hpu => repeat constructor); (case' hK => (try clear hcs_); conv => whnf))
 | ((with_reducible apply go_cond); (case hb => rfl))
 | ((with_reducible first | refine w_ret Tryz.tab fun K' hL => ?_ ); (conv => whnf))
 | ((with_reducible apply And.intro); (case' right => try (conv => whnf)); (case' left => try first | rfl | decide | (simp; done) ))
 | (refine ⟨_, eqAT (by rfl) (by rfl) (by rfl) (by rfl), ?_⟩; conv => whnf)
 | (first | (guard_hyp g2; intro g3; try simp at g3) | (guard_hyp g1; intro g2; try simp at g2) | intro g1; try simp at g1))
  all_goals (refine le_of_eq (congrArg (fun n : Int => I n) ?_); unfold viewerE freshB; first | (simp_all; done) | (split <;> simp_all; done) | (rw [if_neg (by simp; omega), if_neg g2]) | (rw [if_neg (by simp; omega), if_pos g2]))
set_option maxHeartbeats 4000000 in
theorem c_doOf0 (t : Tk) (v : Vw) (a : Ac) (hk : a.kind < 1 ∨ 5 < a.kind) : PSpec Tryz.prog 9 [.agg (tkC t), .agg (vwC v), .agg (acC a)] (dsT (actR t v a)) := by
  have e : formE a = 6 := if_pos hk
  have e2 : actR t v a = (ds0, 6) := by rw [actR, e]; rfl
  rw [e2]
  refine p_pspec Tryz.func9 Tryz.ntmps9 Tryz.results9 ?_
  repeat' (first
 | ((with_reducible refine halt_in (code := .seq (.region 3 _ _) _) ?_); exfalso; omega)
 | (with_reducible first | apply qz0 | (refine h0 _ _ ?_; clear h0 hw) | (refine hw _ _ _ ?_; clear h0 hw) | apply qz1 | apply qz2 | apply qz5 | apply qz6 | (refine hL _ ?_; clear hL))
 | refine p_reg fun K1 hK => ?_
 | apply go_seq
 | ((first | refine p_op Tryz.tab fun K' h0 hw => ?_ | refine p_op0 Tryz.tab fun K' h0 hw => ?_); conv => whnf)
 | (refine p_nil (hK _ ?_); clear hK)
 | (refine p_call own30 (c_between _ _ _) ?_; conv => whnf)
 | ((with_reducible apply go_cond); (case hb => rfl))
 | ((with_reducible first | refine w_ret Tryz.tab fun K' hL => ?_ ); (conv => whnf))
 | ((with_reducible apply And.intro); (case' right => try (conv => whnf)); (case' left => try first | rfl | decide | (simp; done) ))
 | (first  | intro g1; try simp at g1))
  simp [ds0, tk0, st0, vw0, cu0, ou0]
set_option maxHeartbeats 8000000 in
theorem c_doOf1 (t : Tk) (v : Vw) (n : Int) (s : ByteArray) (ht : RightT t) (hv : OkV v) (hs : s.size ≤ 1000000000000000) : PSpec Tryz.prog 9 [.agg (tkC t), .agg (vwC v), .agg (acC ⟨1, n, s⟩)] (dsT (actR t v ⟨1, n, s⟩)) := by
  have hst := ht.st
  have hal := hst.all.1
  have hfi := hst.1
  have hgl := hst.2.1
  have hall := c_allOf t.st (by omega)
  have hfr : decide (v.cu.mode = 0 ∧ v.cu.group = 0 ∧ v.cu.frame = 0) = freshB v.cu := rfl
  have hfeed := c_feedOf t s ht
  refine p_pspec Tryz.func9 Tryz.ntmps9 Tryz.results9 ?_
  repeat' (first
 | (with_reducible first | apply qz0 | (refine h0 _ _ ?_; clear h0 hw) | (refine hw _ _ _ ?_; clear h0 hw) | apply qz1 | apply qz2 | apply qz3 | apply qz5 | apply qz6 | apply qz9 | (refine hL _ ?_; clear hL))
 | refine p_reg fun K1 hK => ?_ | refine p_regE fun K1 hK => ?_
 | refine p_dreg Tryz.mix fun K1 hK => ?_
 | apply go_seq
 | ((first | refine p_op Tryz.tab fun K' h0 hw => ?_ | refine p_op0 Tryz.tab fun K' h0 hw => ?_ | refine p_dop Tryz.tab fun K' h0 hw => ?_ | refine p_dop0 Tryz.tab fun K' h0 hw => ?_); conv => whnf)
 | (refine p_nil (hK _ ?_); clear hK)
 | (refine d_nil (p_obj ?_ (hK _ _ _ _)); clear hK)
 | (first | refine v_grd_yes (by rfl) (by rfl) ?_)
 | ((first | (apply v_grd_no; (case hg => rfl); (case hb => rfl)) ); (case hi => (simp only [Nat.reduceAdd, Nat.reduceMul]; rfl)))
 | (refine p_call own30 (c_between _ _ _) ?_; conv => whnf)
 | (refine p_call own31 (hall) ?_; conv => whnf)
 | (refine p_call own32 (hfeed) ?_; conv => whnf)
 | ((with_reducible apply go_cond); (case hb => rfl))
 | ((with_reducible first | refine w_ret Tryz.tab fun K' hL => ?_ ); (conv => whnf))
 | ((with_reducible apply And.intro); (case' right => try (conv => whnf)); (case' left => try first | rfl | decide | (simp; done) ))
 | (refine ⟨_, eqAT (by rfl) (by rfl) (by rfl) (by rfl), ?_⟩; conv => whnf)
 | (first | (guard_hyp g4; intro g5; try simp at g5) | (guard_hyp g3; intro g4; try simp at g4) | (guard_hyp g2; intro g3; try simp at g3) | (guard_hyp g1; intro g2; try simp at g2) | intro g1; try simp at g1))
  · have e : actR t v ⟨1, n, s⟩ = (ds0, 1) := by simp [actR, formE, g2]
    rw [e]; simp [ds0, tk0, st0, vw0, cu0, ou0]
  · have e : actR t v ⟨1, n, s⟩ = (ds0, (feedR t s).2.2) := by simp [actR, formE, doA, g2, g4]
    rw [e]; simp [ds0, tk0, st0, vw0, cu0, ou0]
  · have e : actR t v ⟨1, n, s⟩ = (⟨v, (feedR t s).1, []⟩, (feedR t s).2.2) := by simp [actR, formE, doA, g2, g4]
    rw [e]; simp [g4]
set_option maxHeartbeats 8000000 in
theorem c_doOf2 (t : Tk) (v : Vw) (n : Int) (s : ByteArray) (ht : RightT t) (hv : OkV v) (hs : s.size ≤ 1000000000000000) : PSpec Tryz.prog 9 [.agg (tkC t), .agg (vwC v), .agg (acC ⟨2, n, s⟩)] (dsT (actR t v ⟨2, n, s⟩)) := by
  have hst := ht.st
  have hal := hst.all.1
  have hfi := hst.1
  have hgl := hst.2.1
  have hall := c_allOf t.st (by omega)
  have hfr : decide (v.cu.mode = 0 ∧ v.cu.group = 0 ∧ v.cu.frame = 0) = freshB v.cu := rfl
  have hse := right_storeE hst
  have e1 := wrp (n := t.st.first + ((allS t.st).length : Int)) (by omega) (by omega)
  have e2 := wrp (n := t.st.first + ((allS t.st).length : Int) - 1) (by omega) (by omega)
  refine p_pspec Tryz.func9 Tryz.ntmps9 Tryz.results9 ?_
  repeat' (first
 | (with_reducible first | apply qz0 | (refine h0 _ _ ?_; clear h0 hw) | (refine hw _ _ _ ?_; clear h0 hw) | apply qz1 | apply qz2 | apply qz3 | apply qz5 | apply qz6 | apply qz9 | (refine hL _ ?_; clear hL))
 | refine p_reg fun K1 hK => ?_ | refine p_regE fun K1 hK => ?_
 | refine p_dreg Tryz.mix fun K1 hK => ?_
 | apply go_seq
 | ((first | refine p_op Tryz.tab fun K' h0 hw => ?_ | refine p_op0 Tryz.tab fun K' h0 hw => ?_ | refine p_dop Tryz.tab fun K' h0 hw => ?_ | refine p_dop0 Tryz.tab fun K' h0 hw => ?_); conv => whnf)
 | (refine p_nil (hK _ ?_); clear hK)
 | (refine d_nil (p_obj ?_ (hK _ _ _ _)); clear hK)
 | (first | refine v_grd_yes (by rfl) (by rfl) ?_)
 | ((first | (apply v_grd_no; (case hg => rfl); (case hb => rfl)) | (apply v_grd_undef; (case hg => rfl); (case hb => rfl)) | (apply v_grd; (case hg => rfl); (case hb => rfl))); (case hi => (simp only [Nat.reduceAdd, Nat.reduceMul]; rfl)))
 | (refine p_call own30 (c_between _ _ _) ?_; conv => whnf)
 | (refine p_call own31 (hall) ?_; conv => whnf)
 | ((with_reducible apply go_cond); (case hb => rfl))
 | ((with_reducible first | refine w_ret Tryz.tab fun K' hL => ?_ ); (conv => whnf))
 | ((with_reducible apply And.intro); (case' right => try (conv => whnf)); (case' left => try first | rfl | decide | (simp; done) ))
 | (refine ⟨_, eqAT (by rfl) (by rfl) (by rfl) (by rfl), ?_⟩; conv => whnf)
 | (first | (guard_hyp g5; intro g6; try simp at g6) | (guard_hyp g4; intro g5; try simp at g5) | (guard_hyp g3; intro g4; try simp at g4) | (guard_hyp g2; intro g3; try simp at g3) | (guard_hyp g1; intro g2; try simp at g2) | intro g1; try simp at g1))
  · have e : actR t v ⟨2, n, s⟩ = (ds0, 1) := by simp [actR, formE, g3]
    rw [e]; simp [ds0, tk0, st0, vw0, cu0, ou0]
  · have e : actR t v ⟨2, n, s⟩ = (ds0, 5) := by simp [actR, formE, doA, setA, liveS, hse, g2, g3, g5]
    rw [e]; simp [ds0, tk0, st0, vw0, cu0, ou0]
  · have hp := List.length_pos_iff.2 g5
    have e : actR t v ⟨2, n, s⟩ = (⟨⟨⟨1, t.st.first + (allS t.st).length - 1, 0⟩, v.ou⟩, t, []⟩, 0) := by simp [actR, formE, doA, setA, liveS, hse, g2, g3, hp]
    rw [e]; simp [e1, e2]
  · have e : actR t v ⟨2, n, s⟩ = (ds0, 1) := by simp [actR, formE, g2]
    rw [e]; simp [ds0, tk0, st0, vw0, cu0, ou0]
set_option maxHeartbeats 8000000 in
theorem c_doOf3 (t : Tk) (v : Vw) (n : Int) (s : ByteArray) (ht : RightT t) (hv : OkV v) (hs : s.size ≤ 1000000000000000) : PSpec Tryz.prog 9 [.agg (tkC t), .agg (vwC v), .agg (acC ⟨3, n, s⟩)] (dsT (actR t v ⟨3, n, s⟩)) := by
  have hst := ht.st
  have hal := hst.all.1
  have hfi := hst.1
  have hgl := hst.2.1
  have hall := c_allOf t.st (by omega)
  have hfr : decide (v.cu.mode = 0 ∧ v.cu.group = 0 ∧ v.cu.frame = 0) = freshB v.cu := rfl
  refine p_pspec Tryz.func9 Tryz.ntmps9 Tryz.results9 ?_
  repeat' (first
 | (with_reducible first | apply qz0 | (refine h0 _ _ ?_; clear h0 hw) | (refine hw _ _ _ ?_; clear h0 hw) | apply qz1 | apply qz2 | apply qz3 | apply qz5 | apply qz6 | apply qz9 | (refine hL _ ?_; clear hL))
 | refine p_reg fun K1 hK => ?_ | refine p_regE fun K1 hK => ?_
 | refine p_dreg Tryz.mix fun K1 hK => ?_
 | apply go_seq
 | ((first | refine p_op Tryz.tab fun K' h0 hw => ?_ | refine p_op0 Tryz.tab fun K' h0 hw => ?_ | refine p_dop Tryz.tab fun K' h0 hw => ?_ | refine p_dop0 Tryz.tab fun K' h0 hw => ?_); conv => whnf)
 | (refine p_nil (hK _ ?_); clear hK)
 | (refine d_nil (p_obj ?_ (hK _ _ _ _)); clear hK)
 | (first | refine v_grd_yes (by rfl) (by rfl) ?_)
 | ((first | (apply v_grd_no; (case hg => rfl); (case hb => rfl)) | (apply v_grd_undef; (case hg => rfl); (case hb => rfl)) | (apply v_grd; (case hg => rfl); (case hb => rfl))); (case hi => (simp only [Nat.reduceAdd, Nat.reduceMul]; rfl)))
 | (refine p_call own30 (c_between _ _ _) ?_; conv => whnf)
 | (refine p_call own31 (hall) ?_; conv => whnf)
 | ((with_reducible apply go_cond); (case hb => rfl))
 | ((with_reducible first | refine w_ret Tryz.tab fun K' hL => ?_ ); (conv => whnf))
 | ((with_reducible apply And.intro); (case' right => try (conv => whnf)); (case' left => try first | rfl | decide | (simp; done) ))
 | (refine ⟨_, eqAT (by rfl) (by rfl) (by rfl) (by rfl), ?_⟩; conv => whnf)
 | (first | (guard_hyp g7; intro g8; try simp at g8) | (guard_hyp g6; intro g7; try simp at g7) | (guard_hyp g5; intro g6; try simp at g6) | (guard_hyp g4; intro g5; try simp at g5) | (guard_hyp g3; intro g4; try simp at g4) | (guard_hyp g2; intro g3; try simp at g3) | (guard_hyp g1; intro g2; try simp at g2) | intro g1; try simp at g1))
  · have e : actR t v ⟨3, n, s⟩ = (ds0, 1) := by simp [actR, formE, g3]
    rw [e]; simp [ds0, tk0, st0, vw0, cu0, ou0]
  · have hf : freshB v.cu = true := decide_eq_true g7
    have e : actR t v ⟨3, n, s⟩ = (ds0, 4) := by simp [actR, formE, doA, g2, g3, hf]
    rw [e]; simp [ds0, tk0, st0, vw0, cu0, ou0]
  · have hf : freshB v.cu = false := by simp [freshB]; exact g7
    have hc : cuE v.cu = 0 := by
      rcases hv.cu with h | h
      · rw [hf] at h; cases h
      · exact h
    have e : actR t v ⟨3, n, s⟩ = (⟨⟨⟨2, v.cu.group, v.cu.frame⟩, v.ou⟩, t, []⟩, 0) := by simp [actR, formE, doA, setA, pauseC, hc, g2, g3, hf]
    rw [e]; simp
  · have e : actR t v ⟨3, n, s⟩ = (ds0, 1) := by simp [actR, formE, g2]
    rw [e]; simp [ds0, tk0, st0, vw0, cu0, ou0]
set_option maxHeartbeats 8000000 in
theorem c_doOf4 (t : Tk) (v : Vw) (n : Int) (s : ByteArray) (ht : RightT t) (hv : OkV v) (hs : s.size ≤ 1000000000000000) : PSpec Tryz.prog 9 [.agg (tkC t), .agg (vwC v), .agg (acC ⟨4, n, s⟩)] (dsT (actR t v ⟨4, n, s⟩)) := by
  have hst := ht.st
  have hal := hst.all.1
  have hfi := hst.1
  have hgl := hst.2.1
  have hall := c_allOf t.st (by omega)
  have hfr : decide (v.cu.mode = 0 ∧ v.cu.group = 0 ∧ v.cu.frame = 0) = freshB v.cu := rfl
  have hseek := c_seekOf t.st n hst
  have hse := right_storeE hst
  refine p_pspec Tryz.func9 Tryz.ntmps9 Tryz.results9 ?_
  repeat' (first
 | (with_reducible first | apply qz0 | (refine h0 _ _ ?_; clear h0 hw) | (refine hw _ _ _ ?_; clear h0 hw) | apply qz1 | apply qz2 | apply qz3 | apply qz5 | apply qz6 | apply qz9 | (refine hL _ ?_; clear hL))
 | refine p_reg fun K1 hK => ?_ | refine p_regE fun K1 hK => ?_
 | refine p_dreg Tryz.mix fun K1 hK => ?_
 | apply go_seq
 | ((first | refine p_op Tryz.tab fun K' h0 hw => ?_ | refine p_op0 Tryz.tab fun K' h0 hw => ?_ | refine p_dop Tryz.tab fun K' h0 hw => ?_ | refine p_dop0 Tryz.tab fun K' h0 hw => ?_); conv => whnf)
 | (refine p_nil (hK _ ?_); clear hK)
 | (refine d_nil (p_obj ?_ (hK _ _ _ _)); clear hK)
 | (first | refine v_grd_yes (by rfl) (by rfl) ?_)
 | ((first | (apply v_grd_no; (case hg => rfl); (case hb => rfl)) | (apply v_grd_undef; (case hg => rfl); (case hb => rfl)) | (apply v_grd; (case hg => rfl); (case hb => rfl))); (case hi => (simp only [Nat.reduceAdd, Nat.reduceMul]; rfl)))
 | (refine p_call own30 (c_between _ _ _) ?_; conv => whnf)
 | (refine p_call own31 (hall) ?_; conv => whnf)
 | (refine p_call own33 (hseek) ?_; conv => whnf)
 | ((with_reducible apply go_cond); (case hb => rfl))
 | ((with_reducible first | refine w_ret Tryz.tab fun K' hL => ?_ ); (conv => whnf))
 | ((with_reducible apply And.intro); (case' right => try (conv => whnf)); (case' left => try first | rfl | decide | (simp; done) ))
 | (refine ⟨_, eqAT (by rfl) (by rfl) (by rfl) (by rfl), ?_⟩; conv => whnf)
 | (first | (guard_hyp g10; intro g11; try simp at g11) | (guard_hyp g9; intro g10; try simp at g10) | (guard_hyp g8; intro g9; try simp at g9) | (guard_hyp g7; intro g8; try simp at g8) | (guard_hyp g6; intro g7; try simp at g7) | (guard_hyp g5; intro g6; try simp at g6) | (guard_hyp g4; intro g5; try simp at g5) | (guard_hyp g3; intro g4; try simp at g4) | (guard_hyp g2; intro g3; try simp at g3) | (guard_hyp g1; intro g2; try simp at g2) | intro g1; try simp at g1))
  · have e : actR t v ⟨4, n, s⟩ = (ds0, 3) := by simp [actR, formE, doA, setA, seekC, seekS, wE1, hse, g2, g9]
    rw [e]; simp [ds0, tk0, st0, vw0, cu0, ou0]
  · have hq : seekR t.st n = (0, false) := by simp [seekR, g10]
    have hw : ¬ (n < 0 ∨ 1000000 < n) := by omega
    have e : actR t v ⟨4, n, s⟩ = (ds0, 5) := by simp [actR, formE, doA, setA, seekC, seekS, wE1, hse, g2, hw, hq]
    rw [e]; simp [ds0, tk0, st0, vw0, cu0, ou0]
  · have hp := List.length_pos_iff.2 g10
    have hq : (seekR t.st n).2 = true := by simp [seekR, hp]
    have hw : ¬ (n < 0 ∨ 1000000 < n) := by omega
    have e : actR t v ⟨4, n, s⟩ = (⟨⟨⟨3, (seekR t.st n).1, 0⟩, v.ou⟩, t, []⟩, 0) := by simp [actR, formE, doA, setA, seekC, seekS, wE1, hse, g2, hw, hq]
    rw [e]; simp
  · have e : actR t v ⟨4, n, s⟩ = (ds0, 1) := by simp [actR, formE, g2]
    rw [e]; simp [ds0, tk0, st0, vw0, cu0, ou0]
set_option maxHeartbeats 8000000 in
theorem c_doOf5 (t : Tk) (v : Vw) (n : Int) (s : ByteArray) (ht : RightT t) (hv : OkV v) (hs : s.size ≤ 1000000000000000) : PSpec Tryz.prog 9 [.agg (tkC t), .agg (vwC v), .agg (acC ⟨5, n, s⟩)] (dsT (actR t v ⟨5, n, s⟩)) := by
  have hst := ht.st
  have hal := hst.all.1
  have hfi := hst.1
  have hgl := hst.2.1
  have hall := c_allOf t.st (by omega)
  have hfr : decide (v.cu.mode = 0 ∧ v.cu.group = 0 ∧ v.cu.frame = 0) = freshB v.cu := rfl
  refine p_pspec Tryz.func9 Tryz.ntmps9 Tryz.results9 ?_
  repeat' (first
 | ((with_reducible apply w_ownNil 13 66 6); (case hs => rfl); (case hsz => decide); (case hm => (try simp only [Nat.reduceAdd, Nat.reduceMul]); exact rfl))
 | (with_reducible first | apply qz0 | (refine h0 _ _ ?_; clear h0 hw) | (refine hw _ _ _ ?_; clear h0 hw) | apply qz1 | apply qz2 | apply qz3 | apply qz5 | apply qz6 | apply qz9 | (refine hL _ ?_; clear hL))
 | refine p_reg fun K1 hK => ?_ | refine p_regE fun K1 hK => ?_
 | apply go_seq
 | ((first | refine p_op Tryz.tab fun K' h0 hw => ?_ | refine p_op0 Tryz.tab fun K' h0 hw => ?_); conv => whnf)
 | (refine p_nil (hK _ ?_); clear hK)
 | (first | refine v_grd_yes (by rfl) (by rfl) ?_)
 | ((first | (apply v_grd_no; (case hg => rfl); (case hb => rfl)) | (apply v_grd_undef; (case hg => rfl); (case hb => rfl)) | (apply v_grd; (case hg => rfl); (case hb => rfl))); (case hi => (simp only [Nat.reduceAdd, Nat.reduceMul]; rfl)))
 | (refine p_call own30 (c_between _ _ _) ?_; conv => whnf)
 | (refine p_call own31 (hall) ?_; conv => whnf)
 | ((with_reducible apply go_cond); (case hb => rfl))
 | ((with_reducible first | refine w_ret Tryz.tab fun K' hL => ?_ ); (conv => whnf))
 | ((with_reducible apply And.intro); (case' right => try (conv => whnf)); (case' left => try first | rfl | decide | (simp; done) ))
 | (refine ⟨_, eqAT (by rfl) (by rfl) (by rfl) (by rfl), ?_⟩; conv => whnf)
 | (first | (guard_hyp g13; intro g14; try simp at g14) | (guard_hyp g12; intro g13; try simp at g13) | (guard_hyp g11; intro g12; try simp at g12) | (guard_hyp g10; intro g11; try simp at g11) | (guard_hyp g9; intro g10; try simp at g10) | (guard_hyp g8; intro g9; try simp at g9) | (guard_hyp g7; intro g8; try simp at g8) | (guard_hyp g6; intro g7; try simp at g7) | (guard_hyp g5; intro g6; try simp at g6) | (guard_hyp g4; intro g5; try simp at g5) | (guard_hyp g3; intro g4; try simp at g4) | (guard_hyp g2; intro g3; try simp at g3) | (guard_hyp g1; intro g2; try simp at g2) | intro g1; try simp at g1))
  · have hf : freshB v.cu = true := decide_eq_true g12
    have e : actR t v ⟨5, n, s⟩ = (ds0, 4) := by simp [actR, formE, doA, sendA, g2, hf]
    rw [e]; simp [ds0, tk0, st0, vw0, cu0, ou0]
  · have hf : freshB v.cu = false := by simp [freshB]; exact g12
    have e : actR t v ⟨5, n, s⟩ = (ds0, 3) := by simp [actR, formE, doA, sendA, g2, hf, g13]
    rw [e]; simp [ds0, tk0, st0, vw0, cu0, ou0]
  · have hf : freshB v.cu = false := by simp [freshB]; exact g12
    have hcu : cuE v.cu = 0 := by
      rcases hv.cu with h | h
      · rw [hf] at h; cases h
      · exact h
    have hrm : remC t.st v.cu < 101 := by
      unfold remC; split
      · omega
      · have h3 := cuE_ok hcu; unfold cuOK at h3
        rename_i hb
        have h4 := (lost_in (by simpa using hb)).1
        simp only [inB, decide_eq_true_eq] at h4
        omega
    obtain ⟨T, hT⟩ : ∃ T, T = sendL t.st n 101 v.cu v.ou [] := ⟨_, rfl⟩
    have hw : ¬ (n < 0 ∨ 1000000 < n) := by omega
    have e : actR t v ⟨5, n, s⟩ = if T.2.2.2 = 0 then (⟨⟨T.1, T.2.1⟩, t, T.2.2.1⟩, T.2.2.2) else (ds0, T.2.2.2) := by simp [actR, formE, doA, sendA, g2, hf, hw, hT]
    rw [e]
    clear e
    refine w_loop (X := Cu × Ou × List Pkt × Nat × Bool × Int) [12, 13, 16, 17, 18, 19, 20, 21, 22, 23, 58, 59, 60, 61, 62, 63, 64, 65, 66, 67, 68, 69, 70, 71, 72, 73, 74, 75, 76, 77, 78, 79, 80, 81, 82, 83, 84, 85, 86, 87, 88, 89, 90, 91, 92, 93, 94, 95, 96, 97, 98, 99] (fun x => [(13, .osl 656 6 (rowP x.2.2.1)), (12, I x.2.2.2.2.2), (16, B x.2.2.2.2.1)]) (fun x => [(16, .box (vwC ⟨x.1, x.2.1⟩)), (656, .perm 66 6 x.2.2.1.length)])
      (fun x => (x.2.2.2.2.1 = true ∧ x.2.2.2.2.2 = 0 ∧ sendL t.st n x.2.2.2.1 x.1 x.2.1 x.2.2.1 = T ∧ cuE x.1 = 0 ∧ outOK x.2.1 ∧ remC t.st x.1 < x.2.2.2.1 ∧ x.2.2.1.length + 4 * x.2.2.2.1 ≤ 404) ∨ (x.2.2.2.2.1 = false ∧ x.2.2.2.2.2 = 0 ∧ T = (x.1, x.2.1, x.2.2.1, 0)) ∨ (x.2.2.2.2.1 = true ∧ x.2.2.2.2.2 ≠ 0 ∧ T.2.2.2 = x.2.2.2.2.2)) (fun x => x.2.2.2.1) (v.cu, v.ou, [], 101, true, 0) ?_ ?_ ?_
    · exact .inl ⟨rfl, rfl, hT.symm, hcu, hv.ou, hrm, by simp⟩
    · refine ⟨kt_refl, ko_refl, ?_, ?_, ?_, ?_, Nat.le_refl _⟩ <;> simp
    rintro ⟨c, o, l, f, m, e⟩ hrel
    simp only at hrel
    clear g3 g4 g5 g6 g7 g8 g9 g10 g11
    rcases hrel with ⟨rfl, rfl, h1, h2, h3, h4, h5⟩ | ⟨rfl, rfl, h1⟩ | ⟨rfl, h6, h1⟩
    · obtain ⟨f, rfl⟩ : ∃ f', f = f' + 1 := ⟨f - 1, by omega⟩
      have hcr := c_nextOf t.st c n hst h2
      by_cases hn : (nextR t.st c n).2.2.1 = true
      · obtain ⟨k1, k2, k3, k4, k5, k6, k7⟩ := next_ok hst h2 hn
        have kf := frameE_ok k3
        have hor := fun turn => c_sendOf o (nextR t.st c n).2.1 turn h3 (by omega)
        have hrl : ∀ turn, (rawS o (nextR t.st c n).2.1 turn).2.1.length ≤ 4 := fun turn => by
          by_cases hz : (rawS o (nextR t.st c n).2.1 turn).2.2 = 0
          · obtain ⟨q1, q2, e, _⟩ := raw_ok h3 k3 hz
            rw [e, pksTo_len]; omega
          · rw [raw_no hz]; simp
        have hl1 := hrl true
        have hl2 := hrl (decide (c.frame = 0))
        have hok : ∀ turn, (rawS o (nextR t.st c n).2.1 turn).2.2 = 0 → outOK (rawS o (nextR t.st c n).2.1 turn).1 := fun turn hz => by
          obtain ⟨q1, q2, e, e1, _⟩ := raw_ok h3 k3 hz
          rw [e]; exact e1
        repeat' (first
 | (with_reducible first | apply qz0 | (refine h0 _ _ ?_; clear h0 hw) | (refine hw _ _ _ ?_; clear h0 hw) | apply qz2 | apply qz3 | apply qz6 | apply qz9 )
 | refine p_reg fun K1 hK => ?_ | refine p_regE fun K1 hK => ?_
 | refine p_dreg Tryz.mix fun K1 hK => ?_
 | apply go_seq
 | ((first | refine p_op Tryz.tab fun K' h0 hw => ?_ | refine p_op0 Tryz.tab fun K' h0 hw => ?_ | refine p_dop Tryz.tab fun K' h0 hw => ?_ | refine p_dop0 Tryz.tab fun K' h0 hw => ?_); conv => whnf)
 | (refine p_nil (hK _ ?_); clear hK)
 | (refine d_nil (p_obj ?_ (hK _ _ _ _)); clear hK)
 | (first | refine v_grd_yes (by rfl) (by rfl) ?_)
 | ((first | (apply v_grd_no; (case hg => rfl); (case hb => rfl)) | (apply v_grd; (case hg => rfl); (case hb => rfl))); (case hi => (simp only [Nat.reduceAdd, Nat.reduceMul]; rfl)))
 | (refine p_call own34 (hcr) ?_; conv => whnf)
 | ((with_reducible refine callV_id (f := 35) ?_); have hcs_ := hor true; (with_reducible apply callV_f own35 (hcs_)); (case hx => rfl); (case he => rfl); (case hle => first | ((repeat constructor); done) ); (case hpu => repeat constructor); (case' hK => (try clear hcs_); conv => whnf))
 | ((with_reducible refine callV_id (f := 35) ?_); have hcs_ := hor (decide (c.frame = 0)); (with_reducible apply callV_f own35 (hcs_)); (case hx => rfl); (case he => rfl); (case hle => first | ((repeat constructor); done) ); (case hpu => repeat constructor); (case' hK => (try clear hcs_); conv => whnf))
 | ((with_reducible apply go_cond); (case hb => rfl))
 | ((with_reducible apply And.intro); (case' right => try (conv => whnf)); (case' left => try first | rfl | decide | (simp; done) ))
 | exact p_side
 | (first | (guard_hyp g13; intro g14; try simp at g14) | (guard_hyp g12; intro g13; try simp at g13) | (guard_hyp g11; intro g12; try simp at g12) | (guard_hyp g10; intro g11; try simp at g11) | (guard_hyp g9; intro g10; try simp at g10) | (guard_hyp g8; intro g9; try simp at g9) | (guard_hyp g7; intro g8; try simp at g8) | (guard_hyp g6; intro g7; try simp at g7) | (guard_hyp g5; intro g6; try simp at g6) | (guard_hyp g4; intro g5; try simp at g5) | (guard_hyp g3; intro g4; try simp at g4) | (guard_hyp g2; intro g3; try simp at g3) | (guard_hyp g1; intro g2; try simp at g2) | intro g1; try simp at g1))
        · rw [sendL, if_pos hn, show (nextR t.st c n).2.2.2 = false from (by assumption), Bool.false_or] at h1
          by_cases hz : (rawS o (nextR t.st c n).2.1 (decide (c.frame = 0))).2.2 = 0
          · rw [if_pos hz] at h1
            ((refine w_nx (((nextR t.st c n).1, (rawS o (nextR t.st c n).2.1 (decide (c.frame = 0))).1, l ++ (rawS o (nextR t.st c n).2.1 (decide (c.frame = 0))).2.1, f, true, (rawS o (nextR t.st c n).2.1 (decide (c.frame = 0))).2.2)) ?_ ?_ ?_ ?_ ?_ ?_); (case refine_1 => simp [hn]); (case refine_2 => simp [hn]); (case refine_3 => simp (disch := omega) [hn, wrp]); (case refine_4 => simp [hn]); (case refine_5 => first | (simp; omega) | (simp; done) | omega | (simp only; omega)); (case' refine_6 => (try simp only); (try exact trivial)))
            exact .inl ⟨trivial, hz, h1, k2, hok _ hz, by omega, by simp only [List.length_append]; omega⟩
          · rw [if_neg hz] at h1
            ((refine w_nx (((nextR t.st c n).1, (rawS o (nextR t.st c n).2.1 (decide (c.frame = 0))).1, l ++ (rawS o (nextR t.st c n).2.1 (decide (c.frame = 0))).2.1, f, true, (rawS o (nextR t.st c n).2.1 (decide (c.frame = 0))).2.2)) ?_ ?_ ?_ ?_ ?_ ?_); (case refine_1 => simp [hn]); (case refine_2 => simp [hn]); (case refine_3 => simp (disch := omega) [hn, wrp]); (case refine_4 => simp [hn]); (case refine_5 => first | (simp; omega) | (simp; done) | omega | (simp only; omega)); (case' refine_6 => (try simp only); (try exact trivial)))
            exact .inr (.inr ⟨trivial, hz, by rw [← h1]⟩)
        · rw [sendL, if_pos hn, show (nextR t.st c n).2.2.2 = true from (by assumption), Bool.true_or] at h1
          by_cases hz : (rawS o (nextR t.st c n).2.1 true).2.2 = 0
          · rw [if_pos hz] at h1
            ((refine w_nx (((nextR t.st c n).1, (rawS o (nextR t.st c n).2.1 true).1, l ++ (rawS o (nextR t.st c n).2.1 true).2.1, f, true, (rawS o (nextR t.st c n).2.1 true).2.2)) ?_ ?_ ?_ ?_ ?_ ?_); (case refine_1 => simp [hn]); (case refine_2 => simp [hn]); (case refine_3 => simp (disch := omega) [hn, wrp]); (case refine_4 => simp [hn]); (case refine_5 => first | (simp; omega) | (simp; done) | omega | (simp only; omega)); (case' refine_6 => (try simp only); (try exact trivial)))
            exact .inl ⟨trivial, hz, h1, k2, hok _ hz, by omega, by simp only [List.length_append]; omega⟩
          · rw [if_neg hz] at h1
            ((refine w_nx (((nextR t.st c n).1, (rawS o (nextR t.st c n).2.1 true).1, l ++ (rawS o (nextR t.st c n).2.1 true).2.1, f, true, (rawS o (nextR t.st c n).2.1 true).2.2)) ?_ ?_ ?_ ?_ ?_ ?_); (case refine_1 => simp [hn]); (case refine_2 => simp [hn]); (case refine_3 => simp (disch := omega) [hn, wrp]); (case refine_4 => simp [hn]); (case refine_5 => first | (simp; omega) | (simp; done) | omega | (simp only; omega)); (case' refine_6 => (try simp only); (try exact trivial)))
            exact .inr (.inr ⟨trivial, hz, by rw [← h1]⟩)
        · exact absurd hn (by rw [show (nextR t.st c n).2.2.1 = false from (by assumption)]; decide)
      · have e : sendL t.st n (f + 1) c o l = (c, o, l, 0) := by rw [sendL, if_neg hn]
        rw [e] at h1
        have hn' : (nextR t.st c n).2.2.1 = false := by simpa using hn
        repeat' (first
 | (with_reducible first | apply qz0 | (refine h0 _ _ ?_; clear h0 hw) | (refine hw _ _ _ ?_; clear h0 hw) | apply qz2 | apply qz3 | apply qz6 | apply qz9 )
 | refine p_reg fun K1 hK => ?_
 | apply go_seq
 | ((first | refine p_op Tryz.tab fun K' h0 hw => ?_ | refine p_op0 Tryz.tab fun K' h0 hw => ?_); conv => whnf)
 | (refine p_nil (hK _ ?_); clear hK)
 | (first | refine v_grd_yes (by rfl) (by rfl) ?_)
 | ((first | (apply v_grd_no; (case hg => rfl); (case hb => rfl)) | (apply v_grd; (case hg => rfl); (case hb => rfl))); (case hi => (simp only [Nat.reduceAdd, Nat.reduceMul]; rfl)))
 | (refine p_call own34 (hcr) ?_; conv => whnf)
 | ((with_reducible apply go_cond); (case hb => rfl))
 | ((with_reducible apply And.intro); (case' right => try (conv => whnf)); (case' left => try first | rfl | decide | (simp; done) ))
 | (first | (guard_hyp g13; intro g14; try simp at g14) | (guard_hyp g12; intro g13; try simp at g13) | (guard_hyp g11; intro g12; try simp at g12) | (guard_hyp g10; intro g11; try simp at g11) | (guard_hyp g9; intro g10; try simp at g10) | (guard_hyp g8; intro g9; try simp at g9) | (guard_hyp g7; intro g8; try simp at g8) | (guard_hyp g6; intro g7; try simp at g7) | (guard_hyp g5; intro g6; try simp at g6) | (guard_hyp g4; intro g5; try simp at g5) | (guard_hyp g3; intro g4; try simp at g4) | (guard_hyp g2; intro g3; try simp at g3) | (guard_hyp g1; intro g2; try simp at g2) | intro g1; try simp at g1))
        all_goals (try (exact absurd (by assumption) hn))
        ((refine w_nx ((c, o, l, f, false, 0)) ?_ ?_ ?_ ?_ ?_ ?_); (case refine_1 => simp [hn']); (case refine_2 => simp [hn']); (case refine_3 => simp (disch := omega) [hn', wrp]); (case refine_4 => simp [hn']); (case refine_5 => first | (simp; omega) | (simp; done) | omega | (simp only; omega)); (case' refine_6 => (try simp only); (try exact trivial)))
        exact .inr (.inl ⟨trivial, trivial, h1.symm⟩)
    · rw [h1]
      repeat' (first
 | (with_reducible first | apply qz0 | (refine h0 _ _ ?_; clear h0 hw) | (refine hw _ _ _ ?_; clear h0 hw) | apply qz1 | apply qz2 | apply qz4 | apply qz6 | apply qz7 | apply qz9 | apply qza | apply qzc | (refine hL _ ?_; clear hL))
 | refine p_reg fun K1 hK => ?_
 | refine p_dreg Tryz.mix fun K1 hK => ?_
 | apply go_seq
 | ((first | refine p_op Tryz.tab fun K' h0 hw => ?_ | refine p_dop Tryz.tab fun K' h0 hw => ?_ | refine p_dop0 Tryz.tab fun K' h0 hw => ?_); conv => whnf)
 | (refine p_nil (hK _ ?_); clear hK)
 | (refine d_nil (p_obj ?_ (hK _ _ _ _)); clear hK)
 | ((first | (apply v_grd_no; (case hg => rfl); (case hb => rfl)) ); (case hi => (simp only [Nat.reduceAdd, Nat.reduceMul]; rfl)))
 | ((with_reducible apply go_cond); (case hb => rfl))
 | ((with_reducible first | refine w_ret Tryz.tab fun K' hL => ?_ ); (conv => whnf))
 | ((with_reducible apply And.intro); (case' right => try (conv => whnf)); (case' left => try first | rfl | decide | (simp; done) ))
 | (first | (guard_hyp g13; intro g14; try simp at g14) | (guard_hyp g12; intro g13; try simp at g13) | (guard_hyp g11; intro g12; try simp at g12) | (guard_hyp g10; intro g11; try simp at g11) | (guard_hyp g9; intro g10; try simp at g10) | (guard_hyp g8; intro g9; try simp at g9) | (guard_hyp g7; intro g8; try simp at g8) | (guard_hyp g6; intro g7; try simp at g7) | (guard_hyp g5; intro g6; try simp at g6) | (guard_hyp g4; intro g5; try simp at g5) | (guard_hyp g3; intro g4; try simp at g4) | (guard_hyp g2; intro g3; try simp at g3) | (guard_hyp g1; intro g2; try simp at g2) | intro g1; try simp at g1))
      all_goals simp
    · have h7 : ¬ T.2.2.2 = 0 := by rw [h1]; exact h6
      rw [if_neg h7, h1]
      repeat' (first
 | (with_reducible first | apply qz0 | (refine h0 _ _ ?_; clear h0 hw) | (refine hw _ _ _ ?_; clear h0 hw) | apply qz1 | apply qz2 | apply qz3 | apply qz4 | apply qz5 | apply qz6 | apply qz7 | apply qz9 | apply qza | apply qzc | (refine hL _ ?_; clear hL))
 | refine p_reg fun K1 hK => ?_
 | refine p_dreg Tryz.mix fun K1 hK => ?_
 | apply go_seq
 | ((first | refine p_op Tryz.tab fun K' h0 hw => ?_ | refine p_op0 Tryz.tab fun K' h0 hw => ?_ | refine p_dop Tryz.tab fun K' h0 hw => ?_ | refine p_dop0 Tryz.tab fun K' h0 hw => ?_); conv => whnf)
 | (refine p_nil (hK _ ?_); clear hK)
 | (refine d_nil (p_obj ?_ (hK _ _ _ _)); clear hK)
 | (first | refine v_grd_yes (by rfl) (by rfl) ?_)
 | ((with_reducible apply go_cond); (case hb => rfl))
 | ((with_reducible first | refine w_ret Tryz.tab fun K' hL => ?_ ); (conv => whnf))
 | ((with_reducible apply And.intro); (case' right => try (conv => whnf)); (case' left => try first | rfl | decide | (simp; done) ))
 | (first | (guard_hyp g13; intro g14; try simp at g14) | (guard_hyp g12; intro g13; try simp at g13) | (guard_hyp g11; intro g12; try simp at g12) | (guard_hyp g10; intro g11; try simp at g11) | (guard_hyp g9; intro g10; try simp at g10) | (guard_hyp g8; intro g9; try simp at g9) | (guard_hyp g7; intro g8; try simp at g8) | (guard_hyp g6; intro g7; try simp at g7) | (guard_hyp g5; intro g6; try simp at g6) | (guard_hyp g4; intro g5; try simp at g5) | (guard_hyp g3; intro g4; try simp at g4) | (guard_hyp g2; intro g3; try simp at g3) | (guard_hyp g1; intro g2; try simp at g2) | intro g1; try simp at g1))
      all_goals first | exact absurd (by assumption) h6 | (simp [ds0, tk0, st0, vw0, cu0, ou0]; done)
  · have e : actR t v ⟨5, n, s⟩ = (ds0, 1) := by simp [actR, formE, g2]
    rw [e]; simp [ds0, tk0, st0, vw0, cu0, ou0]
theorem c_doOf (t : Tk) (v : Vw) (a : Ac) (ht : RightT t) (hv : OkV v) (hs : a.text.size ≤ 1000000000000000) : PSpec Tryz.prog 9 [.agg (tkC t), .agg (vwC v), .agg (acC a)] (dsT (actR t v a)) := by
  obtain ⟨k, n, s⟩ := a
  by_cases h0 : k < 1 ∨ 5 < k
  · exact c_doOf0 t v _ h0
  have : k = 1 ∨ k = 2 ∨ k = 3 ∨ k = 4 ∨ k = 5 := by omega
  rcases this with rfl | rfl | rfl | rfl | rfl
  · exact c_doOf1 t v n s ht hv hs
  · exact c_doOf2 t v n s ht hv hs
  · exact c_doOf3 t v n s ht hv hs
  · exact c_doOf4 t v n s ht hv hs
  · exact c_doOf5 t v n s ht hv hs
end Go.Proofs.YtokkencbpmjdaaaGreat

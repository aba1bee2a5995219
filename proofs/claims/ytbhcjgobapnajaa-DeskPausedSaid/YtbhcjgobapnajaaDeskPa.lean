/- DeskPaused, walked. No condition. -/
import Derived.Test.YtbhcjgobapnajaaDeskW
namespace Go.Proofs.Ytbhcjgobapnajaa
open Go Go.Sy
set_option maxRecDepth 4000
set_option linter.unusedSimpArgs false
set_option linter.unusedVariables false
attribute [local irreducible] Reg RegD Later Out CallV Tri Side EqV
theorem actS_ok {t : Tk} {v : Vw} {a : Ac} (h : (actS t v a).2 = 0) : RightT t ∧ OkV v ∧ actE t v = 0 ∧ actS t v a = actR t v a := by
  unfold actS at h ⊢
  by_cases c : actE t v = 0
  · rw [if_pos c]
    have c' := c
    unfold actE at c'
    by_cases c2 : trackE t = 0
    · rw [if_pos c2] at c'; exact ⟨trackE_ok c2, viewerE_ok c', c, rfl⟩
    · rw [if_neg c2] at c'; exact absurd c' c2
  · rw [if_neg c] at h; exact absurd h c
theorem actS_no {t : Tk} {v : Vw} {a : Ac} (h : ¬ (actS t v a).2 = 0) : actS t v a = (ds0, (actS t v a).2) := by
  unfold actS at h ⊢
  by_cases c : actE t v = 0
  · rw [if_pos c] at h ⊢; exact actR_no h
  · rw [if_neg c]
theorem actE_of {t : Tk} {v : Vw} (h1 : RightT t) (h2 : OkV v) : actE t v = 0 := by rw [actE, if_pos h1.e, h2.e]
theorem act_pause {t : Tk} {v : Vw} (h1 : RightT t) (h2 : OkV v) : actS t v ⟨3, 0, ⟨#[]⟩⟩ = if freshB v.cu = true then (ds0, 4) else (⟨⟨⟨2, v.cu.group, v.cu.frame⟩, v.ou⟩, t, []⟩, 0) := by
  rw [actS, if_pos (actE_of h1 h2)]
  by_cases c : freshB v.cu = true
  · simp [actR, formE, doA, c]
  · have hc : cuE v.cu = 0 := by
      rcases h2.cu with h | h
      · exact absurd h c
      · exact h
    simp [actR, formE, doA, setA, pauseC, c, hc]
theorem act_feed {t : Tk} {v : Vw} {s : ByteArray} (h1 : RightT t) (h2 : OkV v) : actS t v ⟨1, 0, s⟩ = if (feedR t s).2.2 = 0 then (⟨v, (feedR t s).1, []⟩, 0) else (ds0, (feedR t s).2.2) := by
  rw [actS, if_pos (actE_of h1 h2)]
  by_cases c : (feedR t s).2.2 = 0
  · simp [actR, formE, doA, c]
  · simp [actR, formE, doA, c]
theorem act_still {t : Tk} {v : Vw} {n : Int} (h1 : RightT t) (h2 : OkV v) (h3 : v.cu.mode = 2) : actS t v ⟨5, n, ⟨#[]⟩⟩ = if n < 0 ∨ 1000000 < n then (ds0, 3) else (⟨v, t, []⟩, 0) := by
  have hf : freshB v.cu = false := by simp [freshB, h3]
  have hs : sendL t.st n 101 v.cu v.ou [] = (v.cu, v.ou, [], 0) := by
    rw [sendL, if_neg]
    have : nextR t.st v.cu n = (v.cu, fr0, false, false) := if_pos (.inl h3)
    rw [this]; simp
  rw [actS, if_pos (actE_of h1 h2)]
  by_cases c : n < 0 ∨ 1000000 < n
  · simp [actR, formE, doA, sendA, hf, c]
  · simp [actR, formE, doA, sendA, hf, c, hs]
set_option maxHeartbeats 8000000 in
theorem c_deskPaused (t : Tk) (v : Vw) (s : ByteArray) (n : Int) (ht : FitsT t) (hs : s.size ≤ 1000000000000000) : PSpec Try.prog 11 [.agg (tkC t), .agg (vwC v), Tx s, I n] (B true) := by
  have q1 := c_deskDo t v ⟨3, 0, ⟨#[]⟩⟩ ht (by decide)
  by_cases h : (actS t v ⟨3, 0, ⟨#[]⟩⟩).2 = 0
  · obtain ⟨h1, h2, h3, _⟩ := actS_ok h
    have hf : ¬ freshB v.cu = true := fun c => by rw [act_pause h1 h2, if_pos c] at h; cases h
    have hc : cuE v.cu = 0 := by
      rcases h2.cu with h | h
      · exact absurd h hf
      · exact h
    obtain ⟨p, hp⟩ : ∃ p : Vw, p = ⟨⟨2, v.cu.group, v.cu.frame⟩, v.ou⟩ := ⟨_, rfl⟩
    have hpo : OkV p := by
      refine ⟨.inr ?_, by rw [hp]; exact h2.ou⟩
      have := pause_right (c := v.cu) (by rw [pauseC, if_pos hc])
      rw [pauseC, if_pos hc] at this
      rw [hp]; exact this
    rw [act_pause h1 h2, if_neg hf] at q1
    have q2 := c_deskDo t p ⟨1, 0, s⟩ ht hs
    have q3 := c_deskDo t v ⟨1, 0, s⟩ ht hs
    have q4 := c_deskDo t p ⟨5, n, ⟨#[]⟩⟩ ht (Nat.zero_le _)
    rw [act_feed h1 hpo] at q2
    rw [act_feed h1 h2] at q3
    rw [act_still h1 hpo (by rw [hp])] at q4
    have r1 := c_sameTrack t t h1.small
    rw [show decide (t = t) = true by simp] at r1
    have hx : SmallT (feedR t s).1 := by
      by_cases c : (feedR t s).2.2 = 0
      · exact (feedR_right h1 c).1.small
      · rw [feedR_no c]; exact tk0_small
    have r2 := c_sameTrack (feedR t s).1 (feedR t s).1 hx
    rw [show decide ((feedR t s).1 = (feedR t s).1) = true by simp] at r2
    have r3 := c_sameTrack tk0 tk0 tk0_small
    rw [show decide (tk0 = tk0) = true by simp] at r3
    by_cases c1 : (feedR t s).2.2 = 0
    · rw [if_pos c1] at q2 q3
      by_cases c2 : n < 0 ∨ 1000000 < n
      · rw [if_pos c2] at q4
        rw [hp] at q2 q4
        refine v_pspec Try.func11 rfl Try.ntmps11 Try.results11 (by simp) (by first | exact .s _ | repeat constructor) ?_
        repeat' (first
 | (with_reducible first | apply qz0 | (refine h0 _ _ ?_; clear h0 hw) | (refine hw _ _ _ ?_; clear h0 hw) | apply qz1 | apply qz2 | apply qz5 | apply qz6 | (refine hL _ ?_; clear hL))
 | (with_reducible first | refine w_reg (by decide +kernel) fun K1 hK => ?_ | refine w_reg_end (by decide +kernel) fun K1 hK => ?_)
 | with_reducible refine go_seq ?_
 | ((with_reducible first | apply v_op Try.tab | apply v_op0 Try.tab) <;> first | (intro K' h0 hw; conv => whnf) | (simp only [Nat.reduceAdd, Nat.reduceMul]; rfl))
 | ((with_reducible apply v_nil); (case hm => (simp only [Nat.reduceAdd, Nat.reduceMul]; rfl)); (case' h => with_reducible refine hK _ ?_; clear hK))
 | (first | refine v_grd_yes (by rfl) (by rfl) ?_)
 | ((first | (apply v_grd_no; (case hg => rfl); (case hb => rfl)) | (apply v_grd_undef; (case hg => rfl); (case hb => rfl)) | (apply v_grd; (case hg => rfl); (case hb => rfl))); (case hi => (simp only [Nat.reduceAdd, Nat.reduceMul]; rfl)))
 | ((with_reducible refine callV_id (f := 55) ?_); (with_reducible apply callV_f own55 (c_deskBegun)); (case hx => rfl); (case he => rfl); (case hle => first | ((repeat constructor); done) | (simp; done)); (case hpu => repeat constructor); (case' hK => conv => whnf))
 | ((with_reducible refine callV_id (f := 56) ?_); (with_reducible apply callV_f own56 (q1)); (case hx => rfl); (case he => rfl); (case hle => first | ((repeat constructor); done) | (simp; done)); (case hpu => repeat constructor); (case' hK => conv => whnf))
 | ((with_reducible refine callV_id (f := 56) ?_); (with_reducible apply callV_f own56 (q2)); (case hx => rfl); (case he => rfl); (case hle => first | ((repeat constructor); done) | (simp; done)); (case hpu => repeat constructor); (case' hK => conv => whnf))
 | ((with_reducible refine callV_id (f := 56) ?_); (with_reducible apply callV_f own56 (q3)); (case hx => rfl); (case he => rfl); (case hle => first | ((repeat constructor); done) | (simp; done)); (case hpu => repeat constructor); (case' hK => conv => whnf))
 | ((with_reducible refine callV_id (f := 56) ?_); (with_reducible apply callV_f own56 (q4)); (case hx => rfl); (case he => rfl); (case hle => first | ((repeat constructor); done) | (simp; done)); (case hpu => repeat constructor); (case' hK => conv => whnf))
 | ((with_reducible refine callV_id (f := 40) ?_); (with_reducible apply callV_f own40 (r1)); (case hx => rfl); (case he => rfl); (case hle => first | ((repeat constructor); done) | (simp; done)); (case hpu => repeat constructor); (case' hK => conv => whnf))
 | ((with_reducible refine callV_id (f := 40) ?_); (with_reducible apply callV_f own40 (r2)); (case hx => rfl); (case he => rfl); (case hle => first | ((repeat constructor); done) | (simp; done)); (case hpu => repeat constructor); (case' hK => conv => whnf))
 | ((with_reducible apply go_cond); (case hb => rfl))
 | ((with_reducible first | refine w_ret Try.tab fun K' hL => ?_ | refine w_ret_end Try.tab fun K' hL => ?_); (conv => whnf))
 | ((with_reducible apply And.intro); (case' right => try (conv => whnf)); (case' left => try first | rfl | decide | (simp; done) | (simp (disch := omega) only [wrp]; omega) | (simp (disch := omega) [wrp]; (try omega); done)))
 | ((with_reducible apply Side.mk); (try simp (disch := omega) only [wrp]); (try simp); (try simp (disch := omega) only [wrp]); (try omega))
 | (refine ⟨_, eqAT (by rfl) (by rfl) (by rfl) (by rfl), ?_⟩; conv => whnf)
 | (first  | intro g1; try simp at g1))
        all_goals first | exact .refl _ | (exfalso; omega) | exact absurd (by assumption) c1 | (exfalso; simp_all; done)
      · rw [if_neg c2] at q4
        rw [hp] at q2 q4
        refine v_pspec Try.func11 rfl Try.ntmps11 Try.results11 (by simp) (by first | exact .s _ | repeat constructor) ?_
        repeat' (first
 | (with_reducible first | apply qz0 | (refine h0 _ _ ?_; clear h0 hw) | (refine hw _ _ _ ?_; clear h0 hw) | apply qz1 | apply qz2 | apply qz5 | apply qz6 | (refine hL _ ?_; clear hL))
 | (with_reducible first | refine w_reg (by decide +kernel) fun K1 hK => ?_ | refine w_reg_end (by decide +kernel) fun K1 hK => ?_)
 | with_reducible refine go_seq ?_
 | ((with_reducible first | apply v_op Try.tab | apply v_op0 Try.tab) <;> first | (intro K' h0 hw; conv => whnf) | (simp only [Nat.reduceAdd, Nat.reduceMul]; rfl))
 | ((with_reducible apply v_nil); (case hm => (simp only [Nat.reduceAdd, Nat.reduceMul]; rfl)); (case' h => with_reducible refine hK _ ?_; clear hK))
 | (first | refine v_grd_yes (by rfl) (by rfl) ?_)
 | ((first | (apply v_grd_no; (case hg => rfl); (case hb => rfl)) | (apply v_grd_undef; (case hg => rfl); (case hb => rfl)) | (apply v_grd; (case hg => rfl); (case hb => rfl))); (case hi => (simp only [Nat.reduceAdd, Nat.reduceMul]; rfl)))
 | ((with_reducible refine callV_id (f := 55) ?_); (with_reducible apply callV_f own55 (c_deskBegun)); (case hx => rfl); (case he => rfl); (case hle => first | ((repeat constructor); done) | (simp; done)); (case hpu => repeat constructor); (case' hK => conv => whnf))
 | ((with_reducible refine callV_id (f := 56) ?_); (with_reducible apply callV_f own56 (q1)); (case hx => rfl); (case he => rfl); (case hle => first | ((repeat constructor); done) | (simp; done)); (case hpu => repeat constructor); (case' hK => conv => whnf))
 | ((with_reducible refine callV_id (f := 56) ?_); (with_reducible apply callV_f own56 (q2)); (case hx => rfl); (case he => rfl); (case hle => first | ((repeat constructor); done) | (simp; done)); (case hpu => repeat constructor); (case' hK => conv => whnf))
 | ((with_reducible refine callV_id (f := 56) ?_); (with_reducible apply callV_f own56 (q3)); (case hx => rfl); (case he => rfl); (case hle => first | ((repeat constructor); done) | (simp; done)); (case hpu => repeat constructor); (case' hK => conv => whnf))
 | ((with_reducible refine callV_id (f := 56) ?_); (with_reducible apply callV_f own56 (q4)); (case hx => rfl); (case he => rfl); (case hle => first | ((repeat constructor); done) | (simp; done)); (case hpu => repeat constructor); (case' hK => conv => whnf))
 | ((with_reducible refine callV_id (f := 40) ?_); (with_reducible apply callV_f own40 (r1)); (case hx => rfl); (case he => rfl); (case hle => first | ((repeat constructor); done) | (simp; done)); (case hpu => repeat constructor); (case' hK => conv => whnf))
 | ((with_reducible refine callV_id (f := 40) ?_); (with_reducible apply callV_f own40 (r2)); (case hx => rfl); (case he => rfl); (case hle => first | ((repeat constructor); done) | (simp; done)); (case hpu => repeat constructor); (case' hK => conv => whnf))
 | ((with_reducible apply go_cond); (case hb => rfl))
 | ((with_reducible first | refine w_ret Try.tab fun K' hL => ?_ | refine w_ret_end Try.tab fun K' hL => ?_); (conv => whnf))
 | ((with_reducible apply And.intro); (case' right => try (conv => whnf)); (case' left => try first | rfl | decide | (simp; done) | (simp (disch := omega) only [wrp]; omega) | (simp (disch := omega) [wrp]; (try omega); done)))
 | ((with_reducible apply Side.mk); (try simp (disch := omega) only [wrp]); (try simp); (try simp (disch := omega) only [wrp]); (try omega))
 | (refine ⟨_, eqAT (by rfl) (by rfl) (by rfl) (by rfl), ?_⟩; conv => whnf)
 | (first  | intro g1; try simp at g1))
        all_goals first | exact .refl _ | (exfalso; omega) | exact absurd (by assumption) c1 | (exfalso; simp_all; done)
    · rw [if_neg c1] at q2 q3
      by_cases c2 : n < 0 ∨ 1000000 < n
      · rw [if_pos c2] at q4
        rw [hp] at q2 q4
        refine v_pspec Try.func11 rfl Try.ntmps11 Try.results11 (by simp) (by first | exact .s _ | repeat constructor) ?_
        repeat' (first
 | (with_reducible first | apply qz0 | (refine h0 _ _ ?_; clear h0 hw) | (refine hw _ _ _ ?_; clear h0 hw) | apply qz1 | apply qz2 | apply qz5 | apply qz6 | (refine hL _ ?_; clear hL))
 | (with_reducible first | refine w_reg (by decide +kernel) fun K1 hK => ?_ | refine w_reg_end (by decide +kernel) fun K1 hK => ?_)
 | with_reducible refine go_seq ?_
 | ((with_reducible first | apply v_op Try.tab | apply v_op0 Try.tab) <;> first | (intro K' h0 hw; conv => whnf) | (simp only [Nat.reduceAdd, Nat.reduceMul]; rfl))
 | ((with_reducible apply v_nil); (case hm => (simp only [Nat.reduceAdd, Nat.reduceMul]; rfl)); (case' h => with_reducible refine hK _ ?_; clear hK))
 | (first | refine v_grd_yes (by rfl) (by rfl) ?_)
 | ((first | (apply v_grd_no; (case hg => rfl); (case hb => rfl)) | (apply v_grd_undef; (case hg => rfl); (case hb => rfl)) | (apply v_grd; (case hg => rfl); (case hb => rfl))); (case hi => (simp only [Nat.reduceAdd, Nat.reduceMul]; rfl)))
 | ((with_reducible refine callV_id (f := 55) ?_); (with_reducible apply callV_f own55 (c_deskBegun)); (case hx => rfl); (case he => rfl); (case hle => first | ((repeat constructor); done) | (simp [ds0, tk0, st0, vw0, cu0, ou0]; done)); (case hpu => repeat constructor); (case' hK => conv => whnf))
 | ((with_reducible refine callV_id (f := 56) ?_); (with_reducible apply callV_f own56 (q1)); (case hx => rfl); (case he => rfl); (case hle => first | ((repeat constructor); done) | (simp [ds0, tk0, st0, vw0, cu0, ou0]; done)); (case hpu => repeat constructor); (case' hK => conv => whnf))
 | ((with_reducible refine callV_id (f := 56) ?_); (with_reducible apply callV_f own56 (q2)); (case hx => rfl); (case he => rfl); (case hle => first | ((repeat constructor); done) | (simp [ds0, tk0, st0, vw0, cu0, ou0]; done)); (case hpu => repeat constructor); (case' hK => conv => whnf))
 | ((with_reducible refine callV_id (f := 56) ?_); (with_reducible apply callV_f own56 (q3)); (case hx => rfl); (case he => rfl); (case hle => first | ((repeat constructor); done) | (simp [ds0, tk0, st0, vw0, cu0, ou0]; done)); (case hpu => repeat constructor); (case' hK => conv => whnf))
 | ((with_reducible refine callV_id (f := 56) ?_); (with_reducible apply callV_f own56 (q4)); (case hx => rfl); (case he => rfl); (case hle => first | ((repeat constructor); done) | (simp [ds0, tk0, st0, vw0, cu0, ou0]; done)); (case hpu => repeat constructor); (case' hK => conv => whnf))
 | ((with_reducible refine callV_id (f := 40) ?_); (with_reducible apply callV_f own40 (r1)); (case hx => rfl); (case he => rfl); (case hle => first | ((repeat constructor); done) | (simp [ds0, tk0, st0, vw0, cu0, ou0]; done)); (case hpu => repeat constructor); (case' hK => conv => whnf))
 | ((with_reducible refine callV_id (f := 40) ?_); (with_reducible apply callV_f own40 (r3)); (case hx => rfl); (case he => rfl); (case hle => first | ((repeat constructor); done) | (simp [ds0, tk0, st0, vw0, cu0, ou0]; done)); (case hpu => repeat constructor); (case' hK => conv => whnf))
 | ((with_reducible apply go_cond); (case hb => rfl))
 | ((with_reducible first | refine w_ret Try.tab fun K' hL => ?_ | refine w_ret_end Try.tab fun K' hL => ?_); (conv => whnf))
 | ((with_reducible apply And.intro); (case' right => try (conv => whnf)); (case' left => try first | rfl | decide | (simp [ds0, tk0, st0, vw0, cu0, ou0]; done) | (simp (disch := omega) only [wrp]; omega) | (simp (disch := omega) [ds0, tk0, st0, vw0, cu0, ou0, wrp]; (try omega); done)))
 | ((with_reducible apply Side.mk); (try simp (disch := omega) only [wrp]); (try simp); (try simp (disch := omega) only [wrp]); (try omega))
 | (refine ⟨_, eqAT (by rfl) (by rfl) (by rfl) (by rfl), ?_⟩; conv => whnf)
 | (first  | intro g1; try simp at g1))
        all_goals first | exact .refl _ | (exfalso; omega) | exact absurd (by assumption) c1 | (exfalso; simp_all; done)
      · rw [if_neg c2] at q4
        rw [hp] at q2 q4
        refine v_pspec Try.func11 rfl Try.ntmps11 Try.results11 (by simp) (by first | exact .s _ | repeat constructor) ?_
        repeat' (first
 | (with_reducible first | apply qz0 | (refine h0 _ _ ?_; clear h0 hw) | (refine hw _ _ _ ?_; clear h0 hw) | apply qz1 | apply qz2 | apply qz5 | apply qz6 | (refine hL _ ?_; clear hL))
 | (with_reducible first | refine w_reg (by decide +kernel) fun K1 hK => ?_ | refine w_reg_end (by decide +kernel) fun K1 hK => ?_)
 | with_reducible refine go_seq ?_
 | ((with_reducible first | apply v_op Try.tab | apply v_op0 Try.tab) <;> first | (intro K' h0 hw; conv => whnf) | (simp only [Nat.reduceAdd, Nat.reduceMul]; rfl))
 | ((with_reducible apply v_nil); (case hm => (simp only [Nat.reduceAdd, Nat.reduceMul]; rfl)); (case' h => with_reducible refine hK _ ?_; clear hK))
 | (first | refine v_grd_yes (by rfl) (by rfl) ?_)
 | ((first | (apply v_grd_no; (case hg => rfl); (case hb => rfl)) | (apply v_grd_undef; (case hg => rfl); (case hb => rfl)) | (apply v_grd; (case hg => rfl); (case hb => rfl))); (case hi => (simp only [Nat.reduceAdd, Nat.reduceMul]; rfl)))
 | ((with_reducible refine callV_id (f := 55) ?_); (with_reducible apply callV_f own55 (c_deskBegun)); (case hx => rfl); (case he => rfl); (case hle => first | ((repeat constructor); done) | (simp [ds0, tk0, st0, vw0, cu0, ou0]; done)); (case hpu => repeat constructor); (case' hK => conv => whnf))
 | ((with_reducible refine callV_id (f := 56) ?_); (with_reducible apply callV_f own56 (q1)); (case hx => rfl); (case he => rfl); (case hle => first | ((repeat constructor); done) | (simp [ds0, tk0, st0, vw0, cu0, ou0]; done)); (case hpu => repeat constructor); (case' hK => conv => whnf))
 | ((with_reducible refine callV_id (f := 56) ?_); (with_reducible apply callV_f own56 (q2)); (case hx => rfl); (case he => rfl); (case hle => first | ((repeat constructor); done) | (simp [ds0, tk0, st0, vw0, cu0, ou0]; done)); (case hpu => repeat constructor); (case' hK => conv => whnf))
 | ((with_reducible refine callV_id (f := 56) ?_); (with_reducible apply callV_f own56 (q3)); (case hx => rfl); (case he => rfl); (case hle => first | ((repeat constructor); done) | (simp [ds0, tk0, st0, vw0, cu0, ou0]; done)); (case hpu => repeat constructor); (case' hK => conv => whnf))
 | ((with_reducible refine callV_id (f := 56) ?_); (with_reducible apply callV_f own56 (q4)); (case hx => rfl); (case he => rfl); (case hle => first | ((repeat constructor); done) | (simp [ds0, tk0, st0, vw0, cu0, ou0]; done)); (case hpu => repeat constructor); (case' hK => conv => whnf))
 | ((with_reducible refine callV_id (f := 40) ?_); (with_reducible apply callV_f own40 (r1)); (case hx => rfl); (case he => rfl); (case hle => first | ((repeat constructor); done) | (simp [ds0, tk0, st0, vw0, cu0, ou0]; done)); (case hpu => repeat constructor); (case' hK => conv => whnf))
 | ((with_reducible refine callV_id (f := 40) ?_); (with_reducible apply callV_f own40 (r3)); (case hx => rfl); (case he => rfl); (case hle => first | ((repeat constructor); done) | (simp [ds0, tk0, st0, vw0, cu0, ou0]; done)); (case hpu => repeat constructor); (case' hK => conv => whnf))
 | ((with_reducible apply go_cond); (case hb => rfl))
 | ((with_reducible first | refine w_ret Try.tab fun K' hL => ?_ | refine w_ret_end Try.tab fun K' hL => ?_); (conv => whnf))
 | ((with_reducible apply And.intro); (case' right => try (conv => whnf)); (case' left => try first | rfl | decide | (simp [ds0, tk0, st0, vw0, cu0, ou0]; done) | (simp (disch := omega) only [wrp]; omega) | (simp (disch := omega) [ds0, tk0, st0, vw0, cu0, ou0, wrp]; (try omega); done)))
 | ((with_reducible apply Side.mk); (try simp (disch := omega) only [wrp]); (try simp); (try simp (disch := omega) only [wrp]); (try omega))
 | (refine ⟨_, eqAT (by rfl) (by rfl) (by rfl) (by rfl), ?_⟩; conv => whnf)
 | (first  | intro g1; try simp at g1))
        all_goals first | exact .refl _ | (exfalso; omega) | exact absurd (by assumption) c1 | (exfalso; simp_all; done)
  · rw [actS_no h] at q1
    refine v_pspec Try.func11 rfl Try.ntmps11 Try.results11 (by simp) (by first | exact .s _ | repeat constructor) ?_
    repeat' (first
 | (with_reducible first | apply qz0 | (refine h0 _ _ ?_; clear h0 hw) | (refine hw _ _ _ ?_; clear h0 hw) | apply qz1 | apply qz2 | apply qz5 | apply qz6 | (refine hL _ ?_; clear hL))
 | (with_reducible first | refine w_reg (by decide +kernel) fun K1 hK => ?_ | refine w_reg_end (by decide +kernel) fun K1 hK => ?_)
 | with_reducible refine go_seq ?_
 | ((with_reducible first | apply v_op Try.tab | apply v_op0 Try.tab) <;> first | (intro K' h0 hw; conv => whnf) | (simp only [Nat.reduceAdd, Nat.reduceMul]; rfl))
 | ((with_reducible apply v_nil); (case hm => (simp only [Nat.reduceAdd, Nat.reduceMul]; rfl)); (case' h => with_reducible refine hK _ ?_; clear hK))
 | (first | refine v_grd_yes (by rfl) (by rfl) ?_)
 | ((first | (apply v_grd_no; (case hg => rfl); (case hb => rfl)) | (apply v_grd_undef; (case hg => rfl); (case hb => rfl)) | (apply v_grd; (case hg => rfl); (case hb => rfl))); (case hi => (simp only [Nat.reduceAdd, Nat.reduceMul]; rfl)))
 | ((with_reducible refine callV_id (f := 55) ?_); (with_reducible apply callV_f own55 (c_deskBegun)); (case hx => rfl); (case he => rfl); (case hle => first | ((repeat constructor); done) | (simp [ds0, tk0, st0, vw0, cu0, ou0]; done)); (case hpu => repeat constructor); (case' hK => conv => whnf))
 | ((with_reducible refine callV_id (f := 56) ?_); (with_reducible apply callV_f own56 (q1)); (case hx => rfl); (case he => rfl); (case hle => first | ((repeat constructor); done) | (simp [ds0, tk0, st0, vw0, cu0, ou0]; done)); (case hpu => repeat constructor); (case' hK => conv => whnf))
 | ((with_reducible apply go_cond); (case hb => rfl))
 | ((with_reducible first | refine w_ret Try.tab fun K' hL => ?_ | refine w_ret_end Try.tab fun K' hL => ?_); (conv => whnf))
 | ((with_reducible apply And.intro); (case' right => try (conv => whnf)); (case' left => try first | rfl | decide | (simp [ds0, tk0, st0, vw0, cu0, ou0]; done) | (simp (disch := omega) only [wrp]; omega) | (simp (disch := omega) [ds0, tk0, st0, vw0, cu0, ou0, wrp]; (try omega); done)))
 | ((with_reducible apply Side.mk); (try simp (disch := omega) only [wrp]); (try simp); (try simp (disch := omega) only [wrp]); (try omega))
 | (refine ⟨_, eqAT (by rfl) (by rfl) (by rfl) (by rfl), ?_⟩; conv => whnf)
 | (first  | intro g1; try simp at g1))
    all_goals first | exact .refl _ | (exfalso; omega) | exact absurd (by assumption) h | (exfalso; simp_all; done)
theorem reads_vw {a : AV} (h : ReadsArg (.agg [.agg [.int .i64, .int .i64, .int .i64], .agg [.int .i64, .int .i64, .int .i64]]) a) : ∃ v : Vw, a = .agg (vwC v) := by
  obtain ⟨_, rfl, _, _, rfl, ⟨_, _, rfl, ⟨a1, rfl, _⟩, _, _, rfl, ⟨a2, rfl, _⟩, _, _, rfl, ⟨a3, rfl, _⟩, rfl⟩, _, _, rfl, ⟨_, _, rfl, ⟨b1, rfl, _⟩, _, _, rfl, ⟨b2, rfl, _⟩, _, _, rfl, ⟨b3, rfl, _⟩, rfl⟩, rfl⟩ := h
  exact ⟨⟨⟨a1, a2, a3⟩, ⟨b1, b2, b3⟩⟩, rfl⟩
abbrev shVw : Sh := .agg [.agg [.int .i64, .int .i64, .int .i64], .agg [.int .i64, .int .i64, .int .i64]]
theorem law_deskPaused (args : List AV) (h : ReadsArgs [shTk, shVw, .str, .int .i64] args) (_ : True) : PSpec Try.prog 11 args (B true) := by
  obtain ⟨_, _, rfl, h1, _, _, rfl, h2, _, _, rfl, h3, _, _, rfl, h4, rfl⟩ := h
  obtain ⟨t, rfl, ht⟩ := reads_tk h1
  obtain ⟨v, rfl⟩ := reads_vw h2
  obtain ⟨s, rfl, hs⟩ := reads_str h3
  obtain ⟨n, hn, _⟩ := h4
  cases hn
  exact c_deskPaused _ _ _ _ ht hs
end Go.Proofs.Ytbhcjgobapnajaa

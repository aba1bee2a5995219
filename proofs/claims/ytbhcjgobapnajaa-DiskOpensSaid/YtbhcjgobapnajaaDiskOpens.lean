/- DiskOpens, walked. No condition. -/
import Derived.Test.YtbhcjgobapnajaaDisk13
import Derived.Test.YtbhcjgobapnajaaDiskCrash
namespace Go.Proofs.Ytbhcjgobapnajaa
open Go Go.Sy
set_option maxRecDepth 4000
set_option linter.unusedSimpArgs false
set_option linter.unusedVariables false
attribute [local irreducible] Reg RegD Later Out CallV YieldV Tri Side EqV
set_option maxHeartbeats 8000000 in
theorem c_diskOpens (d : Dk) (n : Int) (g : List Fr) (hf : Fits g) (hn : n ≤ 9223372036854775807) : PSpec Try.prog 6 [.agg (dkC d), I n, .agg (grC g)] (B true) := by
  have h1 := c_dkOpen d
  by_cases c : dkE d = 0
  · obtain ⟨l, hl, hs, hF, hsy, he⟩ := opened c
    obtain ⟨o, ho⟩ : ∃ o, (openS d).1.2 = o := ⟨_, rfl⟩
    rw [ho] at hF hsy
    have hO : PSpec Try.prog 14 [.agg (dkC d)] (.tup [.agg (stC (stOf l)), .agg (dkC o), I 0]) := by
      rw [show openT (openS d) = .tup [.agg (stC (stOf l)), .agg (dkC o), I 0] by rw [← hs, ← ho, ← he]] at h1
      exact h1
    have hop : ¬ 0 < (stOf l).op.length := by rw [stOf_op]; simp
    have h2 := c_dkAppend o n g hf
    have h3 := c_dkOpen o
    rw [show openS o = ((stOf l, o), 0) by rw [hF.open, ← hsy]] at h3
    have s1 := c_sameStore (stOf l) (stOf l) hF.right.small
    rw [decide_eq_true rfl] at s1
    have h4 := c_storeCheck (stOf l) hF.right.small.fits
    rw [dk_storeE hF.right] at h4
    by_cases ca : appE o n g = 0
    · rw [app_ok ca] at h2
      obtain ⟨r, hr1, hr2, hFa⟩ := grown hF ca
      obtain ⟨a, ha⟩ : ∃ a : Dk, ⟨o.data ++ recB n g, o.sync⟩ = a := ⟨_, rfl⟩
      rw [ha] at h2 hFa
      obtain ⟨q1, q2, q3⟩ := newest hFa
      obtain ⟨u, hu⟩ : ∃ u, stOf (l ++ [r]) = u := ⟨_, rfl⟩
      have h5 := c_dkOpen a
      rw [hFa.open] at h5
      rw [hu] at q1 q2 q3 h5
      have hru := hFa.right
      rw [hu] at hru
      rw [hr1, hr2] at q3
      rw [hr1] at q2
      have h6 := c_storeGet u n hru.small.fits hn
      rw [q3] at h6
      have s2 := c_sameFrames g g (by have := hf.1; omega) (fun f hf' => by have := hf.2 f hf'; omega)
      rw [decide_eq_true rfl] at s2
      have hne : ¬ u.gs = [] := fun h => by rw [h] at q1; simp at q1
      have r1 := hru.1
      have r2 := hru.2.1
      have w1 := wrp (n := u.first + u.gs.length) (by omega) (by omega)
      have w2 := wrp (n := u.first + u.gs.length - 1) (by omega) (by omega)
      have w3 : IntKind.i64.wrap n = n := by rw [← q2]; exact w2
      refine v_pspec Try.func6 rfl Try.ntmps6 Try.results6 (by simp) (by first | exact .s _ | repeat constructor) ?_
      repeat' (first
 | (with_reducible first | apply qz0 | (refine h0 _ _ ?_; clear h0 hw) | (refine hw _ _ _ ?_; clear h0 hw) | apply qz1 | apply qz2 | apply qz5 | apply qz6 | (refine hL _ ?_; clear hL))
 | (with_reducible first | refine w_reg (by decide +kernel) fun K1 hK => ?_ | refine w_reg_end (by decide +kernel) fun K1 hK => ?_)
 | with_reducible refine go_seq ?_
 | ((with_reducible first | apply v_op Try.tab | apply v_op0 Try.tab) <;> first | (intro K' h0 hw; conv => whnf) | (simp only [Nat.reduceAdd, Nat.reduceMul]; rfl))
 | ((with_reducible apply v_nil); (case hm => (simp only [Nat.reduceAdd, Nat.reduceMul]; rfl)); (case' h => with_reducible refine hK _ ?_; clear hK))
 | (first | refine v_grd_yes (by rfl) (by rfl) ?_)
 | ((first | (apply v_grd_no; (case hg => rfl); (case hb => rfl)) | (apply v_grd_undef; (case hg => rfl); (case hb => rfl)) | (apply v_grd; (case hg => rfl); (case hb => rfl))); (case hi => (simp only [Nat.reduceAdd, Nat.reduceMul]; rfl)))
 | ((with_reducible refine callV_id (f := 12) ?_); (with_reducible apply callV_f own12 (c_diskBegun)); (case hx => rfl); (case he => rfl); (case hle => first | ((repeat constructor); done) | (simp [w1, w2, q2]; done)); (case hpu => repeat constructor); (case' hK => conv => whnf))
 | ((with_reducible refine callV_id (f := 29) ?_); (with_reducible apply callV_f own29 (c_storeBegun)); (case hx => rfl); (case he => rfl); (case hle => first | ((repeat constructor); done) | (simp [w1, w2, q2]; done)); (case hpu => repeat constructor); (case' hK => conv => whnf))
 | ((with_reducible refine callV_id (f := 14) ?_); (with_reducible apply callV_f own14 (hO)); (case hx => rfl); (case he => rfl); (case hle => first | ((repeat constructor); done) | (simp [w1, w2, q2]; done)); (case hpu => repeat constructor); (case' hK => conv => whnf))
 | ((with_reducible refine callV_id (f := 14) ?_); (with_reducible apply callV_f own14 (h3)); (case hx => rfl); (case he => rfl); (case hle => first | ((repeat constructor); done) | (simp [w1, w2, q2]; done)); (case hpu => repeat constructor); (case' hK => conv => whnf))
 | ((with_reducible refine callV_id (f := 28) ?_); (with_reducible apply callV_f own28 (s1)); (case hx => rfl); (case he => rfl); (case hle => first | ((repeat constructor); done) | (simp [w1, w2, q2]; done)); (case hpu => repeat constructor); (case' hK => conv => whnf))
 | ((with_reducible refine callV_id (f := 30) ?_); (with_reducible apply callV_f own30 (h4)); (case hx => rfl); (case he => rfl); (case hle => first | ((repeat constructor); done) | (simp [w1, w2, q2]; done)); (case hpu => repeat constructor); (case' hK => conv => whnf))
 | ((with_reducible refine callV_id (f := 17) ?_); (with_reducible apply callV_f own17 (h2)); (case hx => rfl); (case he => rfl); (case hle => first | ((repeat constructor); done) | (simp [w1, w2, q2]; done)); (case hpu => repeat constructor); (case' hK => conv => whnf))
 | ((with_reducible refine callV_id (f := 14) ?_); (with_reducible apply callV_f own14 (h5)); (case hx => rfl); (case he => rfl); (case hle => first | ((repeat constructor); done) | (simp [w1, w2, q2]; done)); (case hpu => repeat constructor); (case' hK => conv => whnf))
 | ((with_reducible refine callV_id (f := 31) ?_); (with_reducible apply callV_f own31 (h6)); (case hx => rfl); (case he => rfl); (case hle => first | ((repeat constructor); done) | (simp [w1, w2, q2]; done)); (case hpu => repeat constructor); (case' hK => conv => whnf))
 | ((with_reducible refine callV_id (f := 15) ?_); (with_reducible apply callV_f own15 (s2)); (case hx => rfl); (case he => rfl); (case hle => first | ((repeat constructor); done) | (simp [w1, w2, q2]; done)); (case hpu => repeat constructor); (case' hK => conv => whnf))
 | ((with_reducible apply go_cond); (case hb => rfl))
 | ((with_reducible first | refine w_ret Try.tab fun K' hL => ?_ | refine w_ret_end Try.tab fun K' hL => ?_); (conv => whnf))
 | ((with_reducible apply And.intro); (case' right => try (conv => whnf)); (case' left => try first | rfl | decide | (simp [w1, w2, q2]; done) | (simp (disch := omega) only [wrp]; omega) | (simp (disch := omega) [w1, w2, q2, wrp]; (try omega); done)))
 | ((with_reducible apply Side.mk); (try simp (disch := omega) only [wrp]); (try simp); (try simp (disch := omega) only [wrp]); (try omega))
 | (refine ⟨_, eqAT (by rfl) (by rfl) (by rfl) (by rfl), ?_⟩; conv => whnf)
 | (first  | intro g1; try simp at g1))
      all_goals first | exact absurd (by assumption) hop | exact absurd (by assumption) hne | (simp [w1, w2, q2, w3]; done)
    · rw [app_no ca] at h2
      refine v_pspec Try.func6 rfl Try.ntmps6 Try.results6 (by simp) (by first | exact .s _ | repeat constructor) ?_
      repeat' (first
 | (with_reducible first | apply qz0 | (refine h0 _ _ ?_; clear h0 hw) | (refine hw _ _ _ ?_; clear h0 hw) | apply qz1 | apply qz2 | apply qz5 | apply qz6 | (refine hL _ ?_; clear hL))
 | (with_reducible first | refine w_reg (by decide +kernel) fun K1 hK => ?_ | refine w_reg_end (by decide +kernel) fun K1 hK => ?_)
 | with_reducible refine go_seq ?_
 | ((with_reducible first | apply v_op Try.tab | apply v_op0 Try.tab) <;> first | (intro K' h0 hw; conv => whnf) | (simp only [Nat.reduceAdd, Nat.reduceMul]; rfl))
 | ((with_reducible apply v_nil); (case hm => (simp only [Nat.reduceAdd, Nat.reduceMul]; rfl)); (case' h => with_reducible refine hK _ ?_; clear hK))
 | (first | refine v_grd_yes (by rfl) (by rfl) ?_)
 | ((first | (apply v_grd_no; (case hg => rfl); (case hb => rfl)) | (apply v_grd_undef; (case hg => rfl); (case hb => rfl)) | (apply v_grd; (case hg => rfl); (case hb => rfl))); (case hi => (simp only [Nat.reduceAdd, Nat.reduceMul]; rfl)))
 | ((with_reducible refine callV_id (f := 12) ?_); (with_reducible apply callV_f own12 (c_diskBegun)); (case hx => rfl); (case he => rfl); (case hle => first | ((repeat constructor); done) | (simp; done)); (case hpu => repeat constructor); (case' hK => conv => whnf))
 | ((with_reducible refine callV_id (f := 29) ?_); (with_reducible apply callV_f own29 (c_storeBegun)); (case hx => rfl); (case he => rfl); (case hle => first | ((repeat constructor); done) | (simp; done)); (case hpu => repeat constructor); (case' hK => conv => whnf))
 | ((with_reducible refine callV_id (f := 14) ?_); (with_reducible apply callV_f own14 (hO)); (case hx => rfl); (case he => rfl); (case hle => first | ((repeat constructor); done) | (simp; done)); (case hpu => repeat constructor); (case' hK => conv => whnf))
 | ((with_reducible refine callV_id (f := 14) ?_); (with_reducible apply callV_f own14 (h3)); (case hx => rfl); (case he => rfl); (case hle => first | ((repeat constructor); done) | (simp; done)); (case hpu => repeat constructor); (case' hK => conv => whnf))
 | ((with_reducible refine callV_id (f := 28) ?_); (with_reducible apply callV_f own28 (s1)); (case hx => rfl); (case he => rfl); (case hle => first | ((repeat constructor); done) | (simp; done)); (case hpu => repeat constructor); (case' hK => conv => whnf))
 | ((with_reducible refine callV_id (f := 30) ?_); (with_reducible apply callV_f own30 (h4)); (case hx => rfl); (case he => rfl); (case hle => first | ((repeat constructor); done) | (simp; done)); (case hpu => repeat constructor); (case' hK => conv => whnf))
 | ((with_reducible refine callV_id (f := 17) ?_); (with_reducible apply callV_f own17 (h2)); (case hx => rfl); (case he => rfl); (case hle => first | ((repeat constructor); done) | (simp; done)); (case hpu => repeat constructor); (case' hK => conv => whnf))
 | ((with_reducible apply go_cond); (case hb => rfl))
 | ((with_reducible first | refine w_ret Try.tab fun K' hL => ?_ | refine w_ret_end Try.tab fun K' hL => ?_); (conv => whnf))
 | ((with_reducible apply And.intro); (case' right => try (conv => whnf)); (case' left => try first | rfl | decide | (simp; done) | (simp (disch := omega) only [wrp]; omega) | (simp (disch := omega) [wrp]; (try omega); done)))
 | ((with_reducible apply Side.mk); (try simp (disch := omega) only [wrp]); (try simp); (try simp (disch := omega) only [wrp]); (try omega))
 | (refine ⟨_, eqAT (by rfl) (by rfl) (by rfl) (by rfl), ?_⟩; conv => whnf)
 | (first  | intro g1; try simp at g1))
      all_goals first | exact absurd (by assumption) hop | exact absurd (by assumption) ca | exact .refl _
  · have ho : openS d = ((st0, dk0), dkE d) := by rw [openS, if_neg c]
    rw [ho] at h1
    refine v_pspec Try.func6 rfl Try.ntmps6 Try.results6 (by simp) (by first | exact .s _ | repeat constructor) ?_
    repeat' (first
 | (with_reducible first | apply qz0 | (refine h0 _ _ ?_; clear h0 hw) | (refine hw _ _ _ ?_; clear h0 hw) | apply qz1 | apply qz2 | apply qz5 | apply qz6 | (refine hL _ ?_; clear hL))
 | (with_reducible first | refine w_reg (by decide +kernel) fun K1 hK => ?_ | refine w_reg_end (by decide +kernel) fun K1 hK => ?_)
 | with_reducible refine go_seq ?_
 | ((with_reducible first | apply v_op Try.tab | apply v_op0 Try.tab) <;> first | (intro K' h0 hw; conv => whnf) | (simp only [Nat.reduceAdd, Nat.reduceMul]; rfl))
 | ((with_reducible apply v_nil); (case hm => (simp only [Nat.reduceAdd, Nat.reduceMul]; rfl)); (case' h => with_reducible refine hK _ ?_; clear hK))
 | (first | refine v_grd_yes (by rfl) (by rfl) ?_)
 | ((first | (apply v_grd_no; (case hg => rfl); (case hb => rfl)) | (apply v_grd_undef; (case hg => rfl); (case hb => rfl)) | (apply v_grd; (case hg => rfl); (case hb => rfl))); (case hi => (simp only [Nat.reduceAdd, Nat.reduceMul]; rfl)))
 | ((with_reducible refine callV_id (f := 12) ?_); (with_reducible apply callV_f own12 (c_diskBegun)); (case hx => rfl); (case he => rfl); (case hle => first | ((repeat constructor); done) | (simp; done)); (case hpu => repeat constructor); (case' hK => conv => whnf))
 | ((with_reducible refine callV_id (f := 29) ?_); (with_reducible apply callV_f own29 (c_storeBegun)); (case hx => rfl); (case he => rfl); (case hle => first | ((repeat constructor); done) | (simp; done)); (case hpu => repeat constructor); (case' hK => conv => whnf))
 | ((with_reducible refine callV_id (f := 14) ?_); (with_reducible apply callV_f own14 (h1)); (case hx => rfl); (case he => rfl); (case hle => first | ((repeat constructor); done) | (simp; done)); (case hpu => repeat constructor); (case' hK => conv => whnf))
 | ((with_reducible apply go_cond); (case hb => rfl))
 | ((with_reducible first | refine w_ret Try.tab fun K' hL => ?_ | refine w_ret_end Try.tab fun K' hL => ?_); (conv => whnf))
 | ((with_reducible apply And.intro); (case' right => try (conv => whnf)); (case' left => try first | rfl | decide | (simp; done) | (simp (disch := omega) only [wrp]; omega) | (simp (disch := omega) [wrp]; (try omega); done)))
 | ((with_reducible apply Side.mk); (try simp (disch := omega) only [wrp]); (try simp); (try simp (disch := omega) only [wrp]); (try omega))
 | (refine ⟨_, eqAT (by rfl) (by rfl) (by rfl) (by rfl), ?_⟩; conv => whnf)
 | (first  | intro g1; try simp at g1))
    all_goals first | exact absurd (by assumption) c | exact .refl _ | (simp [dk0, st0]; done)
theorem law_diskOpens (args : List AV) (h : ReadsArgs [.agg [.str, .int .i64], .int .i64, .agg [.sl 3 40 (.agg [.int .i64, .bool, .sl 1 16 .str])]] args) (_ : True) : PSpec Try.prog 6 args (B true) := by
  obtain ⟨_, _, rfl, h1, _, _, rfl, h2, _, _, rfl, h3, rfl⟩ := h
  obtain ⟨d, rfl⟩ := reads_dk' h1
  obtain ⟨n, hn, _, hn2⟩ := h2
  obtain ⟨_, rfl, h3⟩ := h3
  obtain ⟨g, rfl, hg⟩ := cells_gr h3
  cases hn
  exact c_diskOpens d n g hg hn2
end Go.Proofs.Ytbhcjgobapnajaa

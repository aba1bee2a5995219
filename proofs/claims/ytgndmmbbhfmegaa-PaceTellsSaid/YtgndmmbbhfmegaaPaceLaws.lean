/- The laws on package pace, walked. No condition. -/
import Derived.Test.YtgndmmbbhfmegaaPace
import Derived.Test.YtgndmmbbhfmegaaSyX
namespace Go.Proofs.Ytgndmmbbhfmegaa
open Go Go.Sy
set_option maxRecDepth 4000
set_option linter.unusedSimpArgs false
set_option linter.unusedVariables false
attribute [local irreducible] Reg RegD Later Out CallV Tri Side EqV
theorem p1 : PSpec Try.prog 21 [.agg [I 10, I 100, I 3, I 2], I 15] (.tup [I 107, I 0]) := by
  have h := c_media 10 100 3 2 15
  rwa [show mediaS 10 100 3 2 15 = (107, 0) by decide +kernel] at h
theorem p2 : PSpec Try.prog 22 [.agg [I 10, I 100, I 3, I 2], I 107] (.tup [I 15, I 0]) := by
  have h := c_wall 10 100 3 2 107
  rwa [show wallS 10 100 3 2 107 = (15, 0) by decide +kernel] at h
theorem p3 : PSpec Try.prog 23 [.agg [I 10, I 100, I 3, I 2], I 15, I 1, I 1] (.tup [.agg [I 15, I 107, I 1, I 1], I 0]) := by
  have h := c_turn 10 100 3 2 15 1 1
  have e : turnS 10 100 3 2 15 1 1 = (true, 0) := by decide +kernel
  have e2 : mediaAt 10 100 3 2 15 = 107 := by decide +kernel
  rwa [turnA, e, e2] at h
set_option maxHeartbeats 400000 in
theorem c_paceBegun : PSpec Try.prog 27 [] (B true) := by
  refine v_pspec Try.func27 rfl Try.ntmps27 Try.results27 (by simp) (by first | exact .s _ | repeat constructor) ?_
  repeat' (first
    | with_reducible refine go_later ?_
    | (with_reducible refine w_reg (by decide +kernel) fun K1 hK => ?_)
    | (with_reducible refine w_reg_end (by decide +kernel) fun K1 hK => ?_)
    | ((with_reducible apply d_reg Try.mix (by decide +kernel)); (case hm => simp only [List.length_cons, List.length_nil, Nat.reduceAdd, Nat.reduceMul]; exact rfl); (case' h => intro K1 hK))
    | ((with_reducible apply d_reg_end Try.mix (by decide +kernel)); (case hm => simp only [List.length_cons, List.length_nil, Nat.reduceAdd, Nat.reduceMul]; exact rfl); (case' h => intro K1 hK))
    | ((with_reducible apply v_op Try.tab); (case hnb => (try simp only [Nat.reduceAdd, Nat.reduceMul]); exact rfl); (case hi => (try simp only [Nat.reduceAdd, Nat.reduceMul]); exact rfl); (case' h => intro K' h0 hw; conv => whnf))
    | ((with_reducible apply v_op0 Try.tab); (case hnb => (try simp only [Nat.reduceAdd, Nat.reduceMul]); exact rfl); (case hi => (try simp only [Nat.reduceAdd, Nat.reduceMul]); exact rfl); (case' h => intro K' h0 hw; conv => whnf))
    | ((with_reducible apply d_op Try.tab); (case hnb => (try simp only [Nat.reduceAdd, Nat.reduceMul]); exact rfl); (case hi => (try simp only [Nat.reduceAdd, Nat.reduceMul]); exact rfl); (case' h => intro K' h0 hw; conv => whnf))
    | ((with_reducible apply d_op0 Try.tab); (case hnb => (try simp only [Nat.reduceAdd, Nat.reduceMul]); exact rfl); (case hi => (try simp only [Nat.reduceAdd, Nat.reduceMul]); exact rfl); (case' h => intro K' h0 hw; conv => whnf))
    | ((with_reducible apply v_nil); (case hm => (try simp only [Nat.reduceAdd, Nat.reduceMul]); exact rfl); (case' h => with_reducible refine hK _ ?_; clear hK))
    | (with_reducible refine h0 _ _ ?_; clear h0 hw)
    | (with_reducible refine hw _ _ _ ?_; clear h0 hw)
    | ((with_reducible apply d_nil); (refine hK _ _ _ _ (by decide +kernel) ?_; clear hK))
    | (refine d_grd_yes (by rfl) (by rfl) ?_)
    | ((apply d_grd_no); (case hg => rfl); (case hb => rfl); (case hi => (try simp only [Nat.reduceAdd, Nat.reduceMul]); exact rfl))
    | ((apply d_grd_undef); (case hg => rfl); (case hb => rfl); (case hi => (try simp only [Nat.reduceAdd, Nat.reduceMul]); exact rfl))
    | ((apply d_grd); (case hg => rfl); (case hb => rfl); (case hi => (try simp only [Nat.reduceAdd, Nat.reduceMul]); exact rfl))
    | (refine v_grd_yes (by rfl) (by rfl) ?_)
    | ((apply v_grd_no); (case hg => rfl); (case hb => rfl); (case hi => (try simp only [Nat.reduceAdd, Nat.reduceMul]); exact rfl))
    | ((apply v_grd_undef); (case hg => rfl); (case hb => rfl); (case hi => (try simp only [Nat.reduceAdd, Nat.reduceMul]); exact rfl))
    | ((apply v_grd); (case hg => rfl); (case hb => rfl); (case hi => (try simp only [Nat.reduceAdd, Nat.reduceMul]); exact rfl))
    | ((with_reducible apply callV_f own21 (p1)); (case hx => rfl); (case he => rfl); (case hle => first | ((repeat constructor); done) | (simp; done)); (case hpu => repeat constructor); (case' hK => conv => whnf))
    | ((with_reducible apply callV_f own22 (p2)); (case hx => rfl); (case he => rfl); (case hle => first | ((repeat constructor); done) | (simp; done)); (case hpu => repeat constructor); (case' hK => conv => whnf))
    | ((with_reducible apply callV_f own23 (p3)); (case hx => rfl); (case he => rfl); (case hle => first | ((repeat constructor); done) | (simp; done)); (case hpu => repeat constructor); (case' hK => conv => whnf))
    | with_reducible refine go_ret ?_
    | with_reducible refine go_seq ?_
    | with_reducible refine go_skip ?_
    | with_reducible refine go_block ?_
    | with_reducible refine go_exit ?_
    | ((with_reducible apply go_cond); (case hb => rfl))
    | with_reducible refine out_seq_ret ?_
    | with_reducible refine out_seq_normal ?_
    | with_reducible refine out_seq_exit ?_
    | with_reducible refine out_block_ret ?_
    | with_reducible refine out_block_normal ?_
    | with_reducible refine out_block_here ?_
    | with_reducible refine out_loop_ret ?_
    | with_reducible refine out_loop_exit ?_
    | ((with_reducible apply out_block_there); (case hne => rfl))
    | ((with_reducible refine w_ret Try.tab fun K' hL => ?_); (conv => whnf))
    | ((with_reducible refine w_ret_end Try.tab fun K' hL => ?_); (conv => whnf))
    | (with_reducible refine hL _ ?_; clear hL)
    | ((with_reducible apply And.intro); (case' right => try (conv => whnf)); (case' left => try first | rfl | decide | (simp; done)))
    | ((with_reducible apply Side.mk); (try simp); (try omega))
    | ((with_reducible refine all_row ?_); (first | (have _y := hx5; clear _y; intro x6 hx6) | (have _y := hx4; clear _y; intro x5 hx5) | (have _y := hx3; clear _y; intro x4 hx4) | (have _y := hx2; clear _y; intro x3 hx3) | (have _y := hx1; clear _y; intro x2 hx2) | (intro x1 hx1)); conv => whnf)
    | ((refine ⟨_, eqlT36 (by rfl) (by rfl), ?_⟩); conv => whnf)
    | ((refine ⟨_, neqT36 (by rfl) (by rfl), ?_⟩); conv => whnf)
    | ((refine ⟨_, eqlT45 (by rfl) (by rfl), ?_⟩); conv => whnf)
    | ((refine ⟨_, neqT45 (by rfl) (by rfl), ?_⟩); conv => whnf)
    | ((refine ⟨_, eqlT57 (by rfl) (by rfl), ?_⟩); conv => whnf)
    | ((refine ⟨_, neqT57 (by rfl) (by rfl), ?_⟩); conv => whnf)
    | ((first | (have _y := g11; clear _y; intro g12; try simp at g12) | (have _y := g10; clear _y; intro g11; try simp at g11) | (have _y := g9; clear _y; intro g10; try simp at g10) | (have _y := g8; clear _y; intro g9; try simp at g9) | (have _y := g7; clear _y; intro g8; try simp at g8) | (have _y := g6; clear _y; intro g7; try simp at g7) | (have _y := g5; clear _y; intro g6; try simp at g6) | (have _y := g4; clear _y; intro g5; try simp at g5) | (have _y := g3; clear _y; intro g4; try simp at g4) | (have _y := g2; clear _y; intro g3; try simp at g3) | (have _y := g1; clear _y; intro g2; try simp at g2) | (intro g1; try simp at g1))))
  all_goals exact .refl _
theorem media_ok {w m n d t : Int} : (mediaS w m n d t).2 = 0 ↔ paceOK w m n d ∧ w ≤ t ∧ t ≤ 1000000 := by unfold mediaS; split <;> simp_all
theorem media_val {w m n d t : Int} (h : (mediaS w m n d t).2 = 0) : (mediaS w m n d t).1 = mediaAt w m n d t := by have := media_ok.1 h; unfold mediaS; rw [if_pos this]
theorem wall_ok {w m n d t : Int} : (wallS w m n d t).2 = 0 ↔ paceOK w m n d ∧ m ≤ t ∧ t ≤ 1000000 := by unfold wallS; split <;> simp_all
theorem wall_val {w m n d t : Int} (h : (wallS w m n d t).2 = 0) : (wallS w m n d t).1 = wallAt w m n d t := by have := wall_ok.1 h; unfold wallS; rw [if_pos this]
theorem pL1 {w m n d M : Int} (h1 : (wallS w m n d M).2 = 0) (h2 : (wallS w m n d M).1 ≤ 1000000) : (mediaS w m n d (wallS w m n d M).1).2 = 0 ∧ M ≤ (mediaS w m n d (wallS w m n d M).1).1 := by
  have h := wall_ok.1 h1
  have l := wall_lo h.1 h.2.1 h.2.2
  rw [wall_val h1] at *
  have k : (mediaS w m n d (wallAt w m n d M)).2 = 0 := media_ok.2 ⟨h.1, l.1, h2⟩
  exact ⟨k, by rw [media_val k]; exact (reach h.1).2 (Int.le_refl _)⟩
theorem pL2 {w m n d M : Int} (h1 : (wallS w m n d M).2 = 0) (h2 : (wallS w m n d M).1 ≤ 1000000) (h3 : w < (wallS w m n d M).1) : (mediaS w m n d (IntKind.i64.wrap ((wallS w m n d M).1 - 1))).2 = 0 ∧ (mediaS w m n d (IntKind.i64.wrap ((wallS w m n d M).1 - 1))).1 < M := by
  have h := wall_ok.1 h1
  rw [wall_val h1] at *
  have hp := h.1
  unfold paceOK at hp
  rw [wrp (by omega) (by omega)]
  have k : (mediaS w m n d (wallAt w m n d M - 1)).2 = 0 := media_ok.2 ⟨h.1, by omega, by omega⟩
  refine ⟨k, ?_⟩
  rw [media_val k]
  have q : ¬ M ≤ mediaAt w m n d (wallAt w m n d M - 1) := fun q => by have := (reach h.1).1 q; omega
  omega
theorem pL3 {w m n d t : Int} (h : (mediaS w m n d t).2 = 0) : m ≤ (mediaS w m n d t).1 := by
  have k := media_ok.1 h
  have b := media_bd k.1 k.2.1 (by omega)
  rw [media_val h]; unfold mediaAt; omega
theorem media_mono {w m n d t u : Int} (h : paceOK w m n d) (h1 : t ≤ u) : mediaAt w m n d t ≤ mediaAt w m n d u := by
  unfold paceOK at h
  have h2 : (t - w) * n ≤ (u - w) * n := Int.mul_le_mul_of_nonneg_right (by omega) (by omega)
  have h3 := Int.ediv_le_ediv (show 0 < d by omega) h2
  unfold mediaAt; omega
theorem pL4 {w m n d t : Int} (h : (mediaS w m n d t).2 = 0) (h' : (mediaS w m n d (IntKind.i64.wrap (t + 1))).2 = 0) : (mediaS w m n d t).1 ≤ (mediaS w m n d (IntKind.i64.wrap (t + 1))).1 := by
  have k := media_ok.1 h
  have hp := k.1
  unfold paceOK at hp
  rw [media_val h, media_val h', wrp (by omega) (by omega)]
  exact media_mono k.1 (by omega)
set_option maxHeartbeats 1000000 in
theorem c_paceReach (w m n d t M : Int) : PSpec Try.prog 8 [.agg [I w, I m, I n, I d], I t, I M] (B true) := by
  refine v_pspec Try.func8 rfl Try.ntmps8 Try.results8 (by simp) (by first | exact .s _ | repeat constructor) ?_
  repeat' (first
    | with_reducible refine go_later ?_
    | (with_reducible refine w_reg (by decide +kernel) fun K1 hK => ?_)
    | (with_reducible refine w_reg_end (by decide +kernel) fun K1 hK => ?_)
    | ((with_reducible apply d_reg Try.mix (by decide +kernel)); (case hm => simp only [List.length_cons, List.length_nil, Nat.reduceAdd, Nat.reduceMul]; exact rfl); (case' h => intro K1 hK))
    | ((with_reducible apply d_reg_end Try.mix (by decide +kernel)); (case hm => simp only [List.length_cons, List.length_nil, Nat.reduceAdd, Nat.reduceMul]; exact rfl); (case' h => intro K1 hK))
    | ((with_reducible apply v_op Try.tab); (case hnb => (try simp only [Nat.reduceAdd, Nat.reduceMul]); exact rfl); (case hi => (try simp only [Nat.reduceAdd, Nat.reduceMul]); exact rfl); (case' h => intro K' h0 hw; conv => whnf))
    | ((with_reducible apply v_op0 Try.tab); (case hnb => (try simp only [Nat.reduceAdd, Nat.reduceMul]); exact rfl); (case hi => (try simp only [Nat.reduceAdd, Nat.reduceMul]); exact rfl); (case' h => intro K' h0 hw; conv => whnf))
    | ((with_reducible apply d_op Try.tab); (case hnb => (try simp only [Nat.reduceAdd, Nat.reduceMul]); exact rfl); (case hi => (try simp only [Nat.reduceAdd, Nat.reduceMul]); exact rfl); (case' h => intro K' h0 hw; conv => whnf))
    | ((with_reducible apply d_op0 Try.tab); (case hnb => (try simp only [Nat.reduceAdd, Nat.reduceMul]); exact rfl); (case hi => (try simp only [Nat.reduceAdd, Nat.reduceMul]); exact rfl); (case' h => intro K' h0 hw; conv => whnf))
    | ((with_reducible apply v_nil); (case hm => (try simp only [Nat.reduceAdd, Nat.reduceMul]); exact rfl); (case' h => with_reducible refine hK _ ?_; clear hK))
    | (with_reducible refine h0 _ _ ?_; clear h0 hw)
    | (with_reducible refine hw _ _ _ ?_; clear h0 hw)
    | ((with_reducible apply d_nil); (refine hK _ _ _ _ (by decide +kernel) ?_; clear hK))
    | (refine d_grd_yes (by rfl) (by rfl) ?_)
    | ((apply d_grd_no); (case hg => rfl); (case hb => rfl); (case hi => (try simp only [Nat.reduceAdd, Nat.reduceMul]); exact rfl))
    | ((apply d_grd_undef); (case hg => rfl); (case hb => rfl); (case hi => (try simp only [Nat.reduceAdd, Nat.reduceMul]); exact rfl))
    | ((apply d_grd); (case hg => rfl); (case hb => rfl); (case hi => (try simp only [Nat.reduceAdd, Nat.reduceMul]); exact rfl))
    | (refine v_grd_yes (by rfl) (by rfl) ?_)
    | ((apply v_grd_no); (case hg => rfl); (case hb => rfl); (case hi => (try simp only [Nat.reduceAdd, Nat.reduceMul]); exact rfl))
    | ((apply v_grd_undef); (case hg => rfl); (case hb => rfl); (case hi => (try simp only [Nat.reduceAdd, Nat.reduceMul]); exact rfl))
    | ((apply v_grd); (case hg => rfl); (case hb => rfl); (case hi => (try simp only [Nat.reduceAdd, Nat.reduceMul]); exact rfl))
    | ((with_reducible apply callV_f own27 (c_paceBegun)); (case hx => rfl); (case he => rfl); (case hle => first | ((repeat constructor); done) | (simp; done)); (case hpu => repeat constructor); (case' hK => conv => whnf))
    | ((with_reducible apply callV_f own22 (c_wall _ _ _ _ _)); (case hx => rfl); (case he => rfl); (case hle => first | ((repeat constructor); done) | (simp; done)); (case hpu => repeat constructor); (case' hK => conv => whnf))
    | ((with_reducible apply callV_f own21 (c_media _ _ _ _ _)); (case hx => rfl); (case he => rfl); (case hle => first | ((repeat constructor); done) | (simp; done)); (case hpu => repeat constructor); (case' hK => conv => whnf))
    | with_reducible refine go_ret ?_
    | with_reducible refine go_seq ?_
    | with_reducible refine go_skip ?_
    | with_reducible refine go_block ?_
    | with_reducible refine go_exit ?_
    | ((with_reducible apply go_cond); (case hb => rfl))
    | with_reducible refine out_seq_ret ?_
    | with_reducible refine out_seq_normal ?_
    | with_reducible refine out_seq_exit ?_
    | with_reducible refine out_block_ret ?_
    | with_reducible refine out_block_normal ?_
    | with_reducible refine out_block_here ?_
    | with_reducible refine out_loop_ret ?_
    | with_reducible refine out_loop_exit ?_
    | ((with_reducible apply out_block_there); (case hne => rfl))
    | ((with_reducible refine w_ret Try.tab fun K' hL => ?_); (conv => whnf))
    | ((with_reducible refine w_ret_end Try.tab fun K' hL => ?_); (conv => whnf))
    | (with_reducible refine hL _ ?_; clear hL)
    | ((with_reducible apply And.intro); (case' right => try (conv => whnf)); (case' left => try first | rfl | decide | (simp; done)))
    | ((with_reducible apply Side.mk); (try simp); (try omega))
    | ((with_reducible refine all_row ?_); (first | (have _y := hx5; clear _y; intro x6 hx6) | (have _y := hx4; clear _y; intro x5 hx5) | (have _y := hx3; clear _y; intro x4 hx4) | (have _y := hx2; clear _y; intro x3 hx3) | (have _y := hx1; clear _y; intro x2 hx2) | (intro x1 hx1)); conv => whnf)
    | ((refine ⟨_, eqlT36 (by rfl) (by rfl), ?_⟩); conv => whnf)
    | ((refine ⟨_, neqT36 (by rfl) (by rfl), ?_⟩); conv => whnf)
    | ((refine ⟨_, eqlT45 (by rfl) (by rfl), ?_⟩); conv => whnf)
    | ((refine ⟨_, neqT45 (by rfl) (by rfl), ?_⟩); conv => whnf)
    | ((refine ⟨_, eqlT57 (by rfl) (by rfl), ?_⟩); conv => whnf)
    | ((refine ⟨_, neqT57 (by rfl) (by rfl), ?_⟩); conv => whnf)
    | ((first | (have _y := g11; clear _y; intro g12; try simp at g12) | (have _y := g10; clear _y; intro g11; try simp at g11) | (have _y := g9; clear _y; intro g10; try simp at g10) | (have _y := g8; clear _y; intro g9; try simp at g9) | (have _y := g7; clear _y; intro g8; try simp at g8) | (have _y := g6; clear _y; intro g7; try simp at g7) | (have _y := g5; clear _y; intro g6; try simp at g6) | (have _y := g4; clear _y; intro g5; try simp at g5) | (have _y := g3; clear _y; intro g4; try simp at g4) | (have _y := g2; clear _y; intro g3; try simp at g3) | (have _y := g1; clear _y; intro g2; try simp at g2) | (intro g1; try simp at g1))))
  all_goals first
    | exact .refl _
    | (exfalso; have q := pL2 (w := w) (m := m) (n := n) (d := d) (M := M) (by assumption) (by assumption) (by assumption); omega)
    | (exfalso; have q := pL1 (w := w) (m := m) (n := n) (d := d) (M := M) (by assumption) (by assumption); omega)
    | (exfalso; have q := pL4 (w := w) (m := m) (n := n) (d := d) (t := t) (by assumption) (by assumption); omega)
    | (have q := pL3 (w := w) (m := m) (n := n) (d := d) (t := t) (by assumption); refine le_of_eq ?_; simp [q]; done)
theorem law_paceReach (args : List AV) (h : ReadsArgs [.agg [.int .i64, .int .i64, .int .i64, .int .i64], .int .i64, .int .i64] args) (_ : True) : PSpec Try.prog 8 args (B true) := by
  obtain ⟨_, _, rfl, ⟨_, rfl, _, _, rfl, ⟨w, rfl, _⟩, _, _, rfl, ⟨m, rfl, _⟩, _, _, rfl, ⟨n, rfl, _⟩, _, _, rfl, ⟨d, rfl, _⟩, rfl⟩, _, _, rfl, ⟨t, ht, _⟩, _, _, rfl, ⟨M, hM, _⟩, rfl⟩ := h
  cases ht; cases hM
  exact c_paceReach _ _ _ _ _ _
theorem div_add {x y d : Int} (hd : 0 < d) : x / d + y / d ≤ (x + y) / d ∧ (x + y) / d ≤ x / d + y / d + 1 := by
  have h1 := Int.ediv_mul_le x (Int.ne_of_gt hd)
  have h2 := Int.ediv_mul_le y (Int.ne_of_gt hd)
  have h3 := Int.lt_ediv_add_one_mul_self x hd
  have h4 := Int.lt_ediv_add_one_mul_self y hd
  have e1 : (x / d + y / d) * d = x / d * d + y / d * d := Int.add_mul ..
  have e2 : (x / d + 1) * d = x / d * d + d := by rw [Int.add_mul, Int.one_mul]
  have e3 : (y / d + 1) * d = y / d * d + d := by rw [Int.add_mul, Int.one_mul]
  have e4 : (x / d + y / d + 2) * d = x / d * d + y / d * d + 2 * d := by rw [Int.add_mul, Int.add_mul]
  refine ⟨(Int.le_ediv_iff_mul_le hd).2 (by omega), ?_⟩
  have := (Int.ediv_lt_iff_lt_mul (a := x + y) (b := x / d + y / d + 2) hd).2 (by omega)
  omega
theorem turn_ok {w m n d t a b : Int} : (turnS w m n d t a b).1 = true ↔ turnOK w m n d t a b ∧ mediaAt w m n d t ≤ 1000000 := by
  unfold turnS
  by_cases h : turnOK w m n d t a b
  · by_cases h2 : 1000000 < mediaAt w m n d t
    · simp [if_pos h, if_pos h2]; intro _; omega
    · simp [if_pos h, if_neg h2, h]; omega
  · simp [if_neg h, h]
theorem turn_err {w m n d t a b : Int} : (turnS w m n d t a b).2 = 0 ↔ (turnS w m n d t a b).1 = true := by
  unfold turnS; split
  · split <;> simp
  · simp
theorem turn_at {w m n d t u : Int} (h : turnOK w m n d t n d) (h2 : mediaAt w m n d t ≤ 1000000) : paceOK t (mediaAt w m n d t) n d ∧ mediaAt t (mediaAt w m n d t) n d u ≤ mediaAt w m n d u ∧ mediaAt w m n d u ≤ mediaAt t (mediaAt w m n d t) n d u + 1 := by
  have hp := h.1
  have b := media_bd h.1 h.2.1.1 (by have := h.2.1.2; omega)
  have k := h.2
  have hp2 := hp
  unfold paceOK at hp2
  have hm : 0 ≤ mediaAt w m n d t := by unfold mediaAt; omega
  refine ⟨⟨⟨by omega, by omega⟩, ⟨hm, h2⟩, by omega, by omega⟩, ?_⟩
  have e : (u - w) * n = (t - w) * n + (u - t) * n := by rw [← Int.add_mul]; congr 1; omega
  have q := div_add (x := (t - w) * n) (y := (u - t) * n) (d := d) (by omega)
  rw [← e] at q
  unfold mediaAt; omega
set_option maxHeartbeats 1000000 in
theorem c_paceTurns (w m n d t u : Int) : PSpec Try.prog 9 [.agg [I w, I m, I n, I d], I t, I u] (B true) := by
  refine v_pspec Try.func9 rfl Try.ntmps9 Try.results9 (by simp) (by first | exact .s _ | repeat constructor) ?_
  by_cases hs : (turnS w m n d t n d).1 = true
  · have e1 : turnA w m n d t n d = [I t, I (mediaAt w m n d t), I n, I d] := if_pos hs
    have ht := c_turn w m n d t n d
    rw [e1] at ht
    obtain ⟨k1, k2⟩ := turn_ok.1 hs
    have k3 := turn_at (u := u) k1 k2
    have k4 := turn_err.2 hs
    have k5 := k1.2.1
    have k6 := k1.1
    have m1 := media_ok (w := w) (m := m) (n := n) (d := d) (t := u)
    have m2 := media_ok (w := t) (m := mediaAt w m n d t) (n := n) (d := d) (t := u)
    have v1 := media_val (w := w) (m := m) (n := n) (d := d) (t := u)
    have v2 := media_val (w := t) (m := mediaAt w m n d t) (n := n) (d := d) (t := u)
    repeat' (first
    | with_reducible refine go_later ?_
    | (with_reducible refine w_reg (by decide +kernel) fun K1 hK => ?_)
    | (with_reducible refine w_reg_end (by decide +kernel) fun K1 hK => ?_)
    | ((with_reducible apply d_reg Try.mix (by decide +kernel)); (case hm => simp only [List.length_cons, List.length_nil, Nat.reduceAdd, Nat.reduceMul]; exact rfl); (case' h => intro K1 hK))
    | ((with_reducible apply d_reg_end Try.mix (by decide +kernel)); (case hm => simp only [List.length_cons, List.length_nil, Nat.reduceAdd, Nat.reduceMul]; exact rfl); (case' h => intro K1 hK))
    | ((with_reducible apply v_op Try.tab); (case hnb => (try simp only [Nat.reduceAdd, Nat.reduceMul]); exact rfl); (case hi => (try simp only [Nat.reduceAdd, Nat.reduceMul]); exact rfl); (case' h => intro K' h0 hw; conv => whnf))
    | ((with_reducible apply v_op0 Try.tab); (case hnb => (try simp only [Nat.reduceAdd, Nat.reduceMul]); exact rfl); (case hi => (try simp only [Nat.reduceAdd, Nat.reduceMul]); exact rfl); (case' h => intro K' h0 hw; conv => whnf))
    | ((with_reducible apply d_op Try.tab); (case hnb => (try simp only [Nat.reduceAdd, Nat.reduceMul]); exact rfl); (case hi => (try simp only [Nat.reduceAdd, Nat.reduceMul]); exact rfl); (case' h => intro K' h0 hw; conv => whnf))
    | ((with_reducible apply d_op0 Try.tab); (case hnb => (try simp only [Nat.reduceAdd, Nat.reduceMul]); exact rfl); (case hi => (try simp only [Nat.reduceAdd, Nat.reduceMul]); exact rfl); (case' h => intro K' h0 hw; conv => whnf))
    | ((with_reducible apply v_nil); (case hm => (try simp only [Nat.reduceAdd, Nat.reduceMul]); exact rfl); (case' h => with_reducible refine hK _ ?_; clear hK))
    | (with_reducible refine h0 _ _ ?_; clear h0 hw)
    | (with_reducible refine hw _ _ _ ?_; clear h0 hw)
    | ((with_reducible apply d_nil); (refine hK _ _ _ _ (by decide +kernel) ?_; clear hK))
    | (refine d_grd_yes (by rfl) (by rfl) ?_)
    | ((apply d_grd_no); (case hg => rfl); (case hb => rfl); (case hi => (try simp only [Nat.reduceAdd, Nat.reduceMul]); exact rfl))
    | ((apply d_grd_undef); (case hg => rfl); (case hb => rfl); (case hi => (try simp only [Nat.reduceAdd, Nat.reduceMul]); exact rfl))
    | ((apply d_grd); (case hg => rfl); (case hb => rfl); (case hi => (try simp only [Nat.reduceAdd, Nat.reduceMul]); exact rfl))
    | (refine v_grd_yes (by rfl) (by rfl) ?_)
    | ((apply v_grd_no); (case hg => rfl); (case hb => rfl); (case hi => (try simp only [Nat.reduceAdd, Nat.reduceMul]); exact rfl))
    | ((apply v_grd_undef); (case hg => rfl); (case hb => rfl); (case hi => (try simp only [Nat.reduceAdd, Nat.reduceMul]); exact rfl))
    | ((apply v_grd); (case hg => rfl); (case hb => rfl); (case hi => (try simp only [Nat.reduceAdd, Nat.reduceMul]); exact rfl))
    | ((with_reducible apply callV_f own27 (c_paceBegun)); (case hx => rfl); (case he => rfl); (case hle => first | ((repeat constructor); done) | (simp; done)); (case hpu => repeat constructor); (case' hK => conv => whnf))
    | ((with_reducible apply callV_f own23 (ht)); (case hx => rfl); (case he => rfl); (case hle => first | ((repeat constructor); done) | (simp; done)); (case hpu => repeat constructor); (case' hK => conv => whnf))
    | ((with_reducible apply callV_f own21 (c_media _ _ _ _ _)); (case hx => rfl); (case he => rfl); (case hle => first | ((repeat constructor); done) | (simp; done)); (case hpu => repeat constructor); (case' hK => conv => whnf))
    | with_reducible refine go_ret ?_
    | with_reducible refine go_seq ?_
    | with_reducible refine go_skip ?_
    | with_reducible refine go_block ?_
    | with_reducible refine go_exit ?_
    | ((with_reducible apply go_cond); (case hb => rfl))
    | with_reducible refine out_seq_ret ?_
    | with_reducible refine out_seq_normal ?_
    | with_reducible refine out_seq_exit ?_
    | with_reducible refine out_block_ret ?_
    | with_reducible refine out_block_normal ?_
    | with_reducible refine out_block_here ?_
    | with_reducible refine out_loop_ret ?_
    | with_reducible refine out_loop_exit ?_
    | ((with_reducible apply out_block_there); (case hne => rfl))
    | ((with_reducible refine w_ret Try.tab fun K' hL => ?_); (conv => whnf))
    | ((with_reducible refine w_ret_end Try.tab fun K' hL => ?_); (conv => whnf))
    | (with_reducible refine hL _ ?_; clear hL)
    | ((with_reducible apply And.intro); (case' right => try (conv => whnf)); (case' left => try first | rfl | decide | (simp; done)))
    | ((with_reducible apply Side.mk); (try simp); (try omega))
    | ((with_reducible refine all_row ?_); (first | (have _y := hx5; clear _y; intro x6 hx6) | (have _y := hx4; clear _y; intro x5 hx5) | (have _y := hx3; clear _y; intro x4 hx4) | (have _y := hx2; clear _y; intro x3 hx3) | (have _y := hx1; clear _y; intro x2 hx2) | (intro x1 hx1)); conv => whnf)
    | ((refine ⟨_, eqlT36 (by rfl) (by rfl), ?_⟩); conv => whnf)
    | ((refine ⟨_, neqT36 (by rfl) (by rfl), ?_⟩); conv => whnf)
    | ((refine ⟨_, eqlT45 (by rfl) (by rfl), ?_⟩); conv => whnf)
    | ((refine ⟨_, neqT45 (by rfl) (by rfl), ?_⟩); conv => whnf)
    | ((refine ⟨_, eqlT57 (by rfl) (by rfl), ?_⟩); conv => whnf)
    | ((refine ⟨_, neqT57 (by rfl) (by rfl), ?_⟩); conv => whnf)
    | ((first | (have _y := g11; clear _y; intro g12; try simp at g12) | (have _y := g10; clear _y; intro g11; try simp at g11) | (have _y := g9; clear _y; intro g10; try simp at g10) | (have _y := g8; clear _y; intro g9; try simp at g9) | (have _y := g7; clear _y; intro g8; try simp at g8) | (have _y := g6; clear _y; intro g7; try simp at g7) | (have _y := g5; clear _y; intro g6; try simp at g6) | (have _y := g4; clear _y; intro g5; try simp at g5) | (have _y := g3; clear _y; intro g4; try simp at g4) | (have _y := g2; clear _y; intro g3; try simp at g3) | (have _y := g1; clear _y; intro g2; try simp at g2) | (intro g1; try simp at g1))))
    all_goals clear ht
    all_goals first
      | (exfalso; omega)
      | (exfalso; have := m1.2 ⟨k6, by omega, by omega⟩; omega)
      | (exfalso; have := m2.2 ⟨k3.1, by omega, by omega⟩; omega)
      | (have c1 := v1 (by assumption); have c2 := v2 (by assumption); exfalso; omega)
      | (have c1 := v1 (by assumption)
         have c2 := v2 (by assumption)
         have k7 := media_bd k3.1 (by omega : t ≤ u) (by omega)
         have k8 := k3.1
         unfold paceOK at k8
         have k9 : mediaAt t (mediaAt w m n d t) n d u = mediaAt w m n d t + (u - t) * n / d := rfl
         rw [c1, c2, wrp (by omega) (by omega)]
         refine le_of_eq ?_; simp; omega)
      | (refine le_of_eq ?_; simp; intro c; have := (m2.1 c).2; omega)
  · have e1 : turnA w m n d t n d = [I 0, I 0, I 0, I 0] := if_neg hs
    have ht := c_turn w m n d t n d
    rw [e1] at ht
    have k4 : ¬ (turnS w m n d t n d).2 = 0 := fun c => hs (turn_err.1 c)
    repeat' (first
    | with_reducible refine go_later ?_
    | (with_reducible refine w_reg (by decide +kernel) fun K1 hK => ?_)
    | (with_reducible refine w_reg_end (by decide +kernel) fun K1 hK => ?_)
    | ((with_reducible apply d_reg Try.mix (by decide +kernel)); (case hm => simp only [List.length_cons, List.length_nil, Nat.reduceAdd, Nat.reduceMul]; exact rfl); (case' h => intro K1 hK))
    | ((with_reducible apply d_reg_end Try.mix (by decide +kernel)); (case hm => simp only [List.length_cons, List.length_nil, Nat.reduceAdd, Nat.reduceMul]; exact rfl); (case' h => intro K1 hK))
    | ((with_reducible apply v_op Try.tab); (case hnb => (try simp only [Nat.reduceAdd, Nat.reduceMul]); exact rfl); (case hi => (try simp only [Nat.reduceAdd, Nat.reduceMul]); exact rfl); (case' h => intro K' h0 hw; conv => whnf))
    | ((with_reducible apply v_op0 Try.tab); (case hnb => (try simp only [Nat.reduceAdd, Nat.reduceMul]); exact rfl); (case hi => (try simp only [Nat.reduceAdd, Nat.reduceMul]); exact rfl); (case' h => intro K' h0 hw; conv => whnf))
    | ((with_reducible apply d_op Try.tab); (case hnb => (try simp only [Nat.reduceAdd, Nat.reduceMul]); exact rfl); (case hi => (try simp only [Nat.reduceAdd, Nat.reduceMul]); exact rfl); (case' h => intro K' h0 hw; conv => whnf))
    | ((with_reducible apply d_op0 Try.tab); (case hnb => (try simp only [Nat.reduceAdd, Nat.reduceMul]); exact rfl); (case hi => (try simp only [Nat.reduceAdd, Nat.reduceMul]); exact rfl); (case' h => intro K' h0 hw; conv => whnf))
    | ((with_reducible apply v_nil); (case hm => (try simp only [Nat.reduceAdd, Nat.reduceMul]); exact rfl); (case' h => with_reducible refine hK _ ?_; clear hK))
    | (with_reducible refine h0 _ _ ?_; clear h0 hw)
    | (with_reducible refine hw _ _ _ ?_; clear h0 hw)
    | ((with_reducible apply d_nil); (refine hK _ _ _ _ (by decide +kernel) ?_; clear hK))
    | (refine d_grd_yes (by rfl) (by rfl) ?_)
    | ((apply d_grd_no); (case hg => rfl); (case hb => rfl); (case hi => (try simp only [Nat.reduceAdd, Nat.reduceMul]); exact rfl))
    | ((apply d_grd_undef); (case hg => rfl); (case hb => rfl); (case hi => (try simp only [Nat.reduceAdd, Nat.reduceMul]); exact rfl))
    | ((apply d_grd); (case hg => rfl); (case hb => rfl); (case hi => (try simp only [Nat.reduceAdd, Nat.reduceMul]); exact rfl))
    | (refine v_grd_yes (by rfl) (by rfl) ?_)
    | ((apply v_grd_no); (case hg => rfl); (case hb => rfl); (case hi => (try simp only [Nat.reduceAdd, Nat.reduceMul]); exact rfl))
    | ((apply v_grd_undef); (case hg => rfl); (case hb => rfl); (case hi => (try simp only [Nat.reduceAdd, Nat.reduceMul]); exact rfl))
    | ((apply v_grd); (case hg => rfl); (case hb => rfl); (case hi => (try simp only [Nat.reduceAdd, Nat.reduceMul]); exact rfl))
    | ((with_reducible apply callV_f own27 (c_paceBegun)); (case hx => rfl); (case he => rfl); (case hle => first | ((repeat constructor); done) | (simp; done)); (case hpu => repeat constructor); (case' hK => conv => whnf))
    | ((with_reducible apply callV_f own23 (ht)); (case hx => rfl); (case he => rfl); (case hle => first | ((repeat constructor); done) | (simp; done)); (case hpu => repeat constructor); (case' hK => conv => whnf))
    | ((with_reducible apply callV_f own21 (c_media _ _ _ _ _)); (case hx => rfl); (case he => rfl); (case hle => first | ((repeat constructor); done) | (simp; done)); (case hpu => repeat constructor); (case' hK => conv => whnf))
    | with_reducible refine go_ret ?_
    | with_reducible refine go_seq ?_
    | with_reducible refine go_skip ?_
    | with_reducible refine go_block ?_
    | with_reducible refine go_exit ?_
    | ((with_reducible apply go_cond); (case hb => rfl))
    | with_reducible refine out_seq_ret ?_
    | with_reducible refine out_seq_normal ?_
    | with_reducible refine out_seq_exit ?_
    | with_reducible refine out_block_ret ?_
    | with_reducible refine out_block_normal ?_
    | with_reducible refine out_block_here ?_
    | with_reducible refine out_loop_ret ?_
    | with_reducible refine out_loop_exit ?_
    | ((with_reducible apply out_block_there); (case hne => rfl))
    | ((with_reducible refine w_ret Try.tab fun K' hL => ?_); (conv => whnf))
    | ((with_reducible refine w_ret_end Try.tab fun K' hL => ?_); (conv => whnf))
    | (with_reducible refine hL _ ?_; clear hL)
    | ((with_reducible apply And.intro); (case' right => try (conv => whnf)); (case' left => try first | rfl | decide | (simp; done)))
    | ((with_reducible apply Side.mk); (try simp); (try omega))
    | ((with_reducible refine all_row ?_); (first | (have _y := hx5; clear _y; intro x6 hx6) | (have _y := hx4; clear _y; intro x5 hx5) | (have _y := hx3; clear _y; intro x4 hx4) | (have _y := hx2; clear _y; intro x3 hx3) | (have _y := hx1; clear _y; intro x2 hx2) | (intro x1 hx1)); conv => whnf)
    | ((refine ⟨_, eqlT36 (by rfl) (by rfl), ?_⟩); conv => whnf)
    | ((refine ⟨_, neqT36 (by rfl) (by rfl), ?_⟩); conv => whnf)
    | ((refine ⟨_, eqlT45 (by rfl) (by rfl), ?_⟩); conv => whnf)
    | ((refine ⟨_, neqT45 (by rfl) (by rfl), ?_⟩); conv => whnf)
    | ((refine ⟨_, eqlT57 (by rfl) (by rfl), ?_⟩); conv => whnf)
    | ((refine ⟨_, neqT57 (by rfl) (by rfl), ?_⟩); conv => whnf)
    | ((first | (have _y := g11; clear _y; intro g12; try simp at g12) | (have _y := g10; clear _y; intro g11; try simp at g11) | (have _y := g9; clear _y; intro g10; try simp at g10) | (have _y := g8; clear _y; intro g9; try simp at g9) | (have _y := g7; clear _y; intro g8; try simp at g8) | (have _y := g6; clear _y; intro g7; try simp at g7) | (have _y := g5; clear _y; intro g6; try simp at g6) | (have _y := g4; clear _y; intro g5; try simp at g5) | (have _y := g3; clear _y; intro g4; try simp at g4) | (have _y := g2; clear _y; intro g3; try simp at g3) | (have _y := g1; clear _y; intro g2; try simp at g2) | (intro g1; try simp at g1))))
    all_goals first
      | (exfalso; omega)
      | exact .refl _
theorem law_paceTurns (args : List AV) (h : ReadsArgs [.agg [.int .i64, .int .i64, .int .i64, .int .i64], .int .i64, .int .i64] args) (_ : True) : PSpec Try.prog 9 args (B true) := by
  obtain ⟨_, _, rfl, ⟨_, rfl, _, _, rfl, ⟨w, rfl, _⟩, _, _, rfl, ⟨m, rfl, _⟩, _, _, rfl, ⟨n, rfl, _⟩, _, _, rfl, ⟨d, rfl, _⟩, rfl⟩, _, _, rfl, ⟨t, ht, _⟩, _, _, rfl, ⟨M, hM, _⟩, rfl⟩ := h
  cases ht; cases hM
  exact c_paceTurns _ _ _ _ _ _
end Go.Proofs.Ytgndmmbbhfmegaa

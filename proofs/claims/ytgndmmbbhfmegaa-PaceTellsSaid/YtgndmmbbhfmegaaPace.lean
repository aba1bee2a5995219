/- Walks of package pace and of what its laws call. No condition. -/
import Derived.Test.YtgndmmbbhfmegaaTab
import Derived.Test.YtgndmmbbhfmegaaOwn
import Derived.Test.YtgndmmbbhfmegaaEqs
import Derived.Test.YtgndmmbbhfmegaaSim
namespace Go.Proofs.Ytgndmmbbhfmegaa
open Go Go.Sy
set_option maxRecDepth 4000
set_option linter.unusedSimpArgs false
set_option linter.unusedVariables false
attribute [local irreducible] Reg RegD Later Out CallV Tri Side
set_option maxHeartbeats 400000 in
theorem c_pwithin (n lo hi : Int) : PSpec Try.prog 47 [I n, I lo, I hi] (B (decide (lo ≤ n ∧ n ≤ hi))) := by
  refine v_pspec Try.func47 rfl Try.ntmps47 Try.results47 (by simp) (by first | exact .s _ | repeat constructor) ?_
  repeat' (first
    | with_reducible refine go_later ?_
    | (with_reducible refine w_reg (by decide +kernel) fun K1 hK => ?_)
    | (with_reducible refine w_reg_end (by decide +kernel) fun K1 hK => ?_)
    | ((with_reducible apply d_reg Try.mix (by decide +kernel)); (case hm => simp only [List.length_cons, List.length_nil, Nat.reduceAdd, Nat.reduceMul]; exact rfl); (case' h => intro K1 hK))
    | ((with_reducible apply d_reg_end Try.mix (by decide +kernel)); (case hm => simp only [List.length_cons, List.length_nil, Nat.reduceAdd, Nat.reduceMul]; exact rfl); (case' h => intro K1 hK))
    | ((with_reducible apply v_op Try.tab); (case hnb => (try simp only [Nat.reduceAdd, Nat.reduceMul]); exact rfl); (case hi => (try simp only [Nat.reduceAdd, Nat.reduceMul]); exact rfl); (case' h => intro K' h0 hw; conv => whnf))
    | ((with_reducible apply v_op0 Try.tab); (case hnb => (try simp only [Nat.reduceAdd, Nat.reduceMul]); exact rfl); (case hi => (try simp only [Nat.reduceAdd, Nat.reduceMul]); exact rfl); (case' h => intro K' h0 hw; conv => whnf))
    | ((with_reducible apply d_op Try.tab); (case hnb => (try simp only [Nat.reduceAdd, Nat.reduceMul]); exact rfl); (case hi => (try simp only [Nat.reduceAdd, Nat.reduceMul]); exact rfl); (case' h => intro K' h0 hw; conv => whnf))
    | ((with_reducible apply d_op0 Try.tab); (case hnb => (try simp only [Nat.reduceAdd, Nat.reduceMul]); exact rfl); (case hi => (try simp only [Nat.reduceAdd, Nat.reduceMul]); exact rfl); (case' h => intro K' h0 hw; conv => whnf))
    | ((with_reducible apply v_nil); (case hm => (try simp only [Nat.reduceAdd, Nat.reduceMul]); exact rfl); (case' h => with_reducible refine hK _ ?_; clear hK))
    | (with_reducible refine h0 _ _ ?_; clear h0 hw)
    | (with_reducible refine hw _ _ _ ?_; clear h0 hw)
    | ((with_reducible apply d_nil); (refine hK _ _ _ _ (by decide +kernel) ?_; clear hK))
    | (refine d_grd_yes (by rfl) (by rfl) ?_)
    | ((apply d_grd_no); (case hg => rfl); (case hb => rfl); (case hi => (try simp only [Nat.reduceAdd, Nat.reduceMul]); exact rfl))
    | ((apply d_grd_undef); (case hg => rfl); (case hb => rfl); (case hi => (try simp only [Nat.reduceAdd, Nat.reduceMul]); exact rfl))
    | ((apply d_grd); (case hg => rfl); (case hb => rfl); (case hi => (try simp only [Nat.reduceAdd, Nat.reduceMul]); exact rfl))
    | (refine v_grd_yes (by rfl) (by rfl) ?_)
    | ((apply v_grd_no); (case hg => rfl); (case hb => rfl); (case hi => (try simp only [Nat.reduceAdd, Nat.reduceMul]); exact rfl))
    | ((apply v_grd_undef); (case hg => rfl); (case hb => rfl); (case hi => (try simp only [Nat.reduceAdd, Nat.reduceMul]); exact rfl))
    | ((apply v_grd); (case hg => rfl); (case hb => rfl); (case hi => (try simp only [Nat.reduceAdd, Nat.reduceMul]); exact rfl))
    | with_reducible refine go_ret ?_
    | with_reducible refine go_seq ?_
    | with_reducible refine go_skip ?_
    | with_reducible refine go_block ?_
    | with_reducible refine go_exit ?_
    | ((with_reducible apply go_cond); (case hb => rfl))
    | with_reducible refine out_seq_ret ?_
    | with_reducible refine out_seq_normal ?_
    | with_reducible refine out_seq_exit ?_
    | with_reducible refine out_block_ret ?_
    | with_reducible refine out_block_normal ?_
    | with_reducible refine out_block_here ?_
    | with_reducible refine out_loop_ret ?_
    | with_reducible refine out_loop_exit ?_
    | ((with_reducible apply out_block_there); (case hne => rfl))
    | ((with_reducible refine w_ret Try.tab fun K' hL => ?_); (conv => whnf))
    | ((with_reducible refine w_ret_end Try.tab fun K' hL => ?_); (conv => whnf))
    | (with_reducible refine hL _ ?_; clear hL)
    | ((with_reducible apply And.intro); (case' right => try (conv => whnf)); (case' left => try first | rfl | decide | (simp; done)))
    | ((with_reducible apply Side.mk); (try simp); (try omega))
    | ((with_reducible refine all_row ?_); (first | (have _y := hx5; clear _y; intro x6 hx6) | (have _y := hx4; clear _y; intro x5 hx5) | (have _y := hx3; clear _y; intro x4 hx4) | (have _y := hx2; clear _y; intro x3 hx3) | (have _y := hx1; clear _y; intro x2 hx2) | (intro x1 hx1)); conv => whnf)
    | ((with_reducible refine ⟨_, eqlT36 (by rfl) (by rfl), ?_⟩); conv => whnf)
    | ((with_reducible refine ⟨_, neqT36 (by rfl) (by rfl), ?_⟩); conv => whnf)
    | ((with_reducible refine ⟨_, eqlT45 (by rfl) (by rfl), ?_⟩); conv => whnf)
    | ((with_reducible refine ⟨_, neqT45 (by rfl) (by rfl), ?_⟩); conv => whnf)
    | ((with_reducible refine ⟨_, eqlT57 (by rfl) (by rfl), ?_⟩); conv => whnf)
    | ((with_reducible refine ⟨_, neqT57 (by rfl) (by rfl), ?_⟩); conv => whnf)
    | ((first | (have _y := g11; clear _y; intro g12; try simp at g12) | (have _y := g10; clear _y; intro g11; try simp at g11) | (have _y := g9; clear _y; intro g10; try simp at g10) | (have _y := g8; clear _y; intro g9; try simp at g9) | (have _y := g7; clear _y; intro g8; try simp at g8) | (have _y := g6; clear _y; intro g7; try simp at g7) | (have _y := g5; clear _y; intro g6; try simp at g6) | (have _y := g4; clear _y; intro g5; try simp at g5) | (have _y := g3; clear _y; intro g4; try simp at g4) | (have _y := g2; clear _y; intro g3; try simp at g3) | (have _y := g1; clear _y; intro g2; try simp at g2) | (intro g1; try simp at g1))))
  all_goals (simp [le_s]; try omega)
set_option maxHeartbeats 400000 in
theorem c_btw (n lo hi : Int) : PSpec Try.prog 45 [I n, I lo, I hi] (B (decide (lo ≤ n ∧ n ≤ hi))) := by
  refine v_pspec Try.func45 rfl Try.ntmps45 Try.results45 (by simp) (by first | exact .s _ | repeat constructor) ?_
  repeat' (first
    | with_reducible refine go_later ?_
    | (with_reducible refine w_reg (by decide +kernel) fun K1 hK => ?_)
    | (with_reducible refine w_reg_end (by decide +kernel) fun K1 hK => ?_)
    | ((with_reducible apply d_reg Try.mix (by decide +kernel)); (case hm => simp only [List.length_cons, List.length_nil, Nat.reduceAdd, Nat.reduceMul]; exact rfl); (case' h => intro K1 hK))
    | ((with_reducible apply d_reg_end Try.mix (by decide +kernel)); (case hm => simp only [List.length_cons, List.length_nil, Nat.reduceAdd, Nat.reduceMul]; exact rfl); (case' h => intro K1 hK))
    | ((with_reducible apply v_op Try.tab); (case hnb => (try simp only [Nat.reduceAdd, Nat.reduceMul]); exact rfl); (case hi => (try simp only [Nat.reduceAdd, Nat.reduceMul]); exact rfl); (case' h => intro K' h0 hw; conv => whnf))
    | ((with_reducible apply v_op0 Try.tab); (case hnb => (try simp only [Nat.reduceAdd, Nat.reduceMul]); exact rfl); (case hi => (try simp only [Nat.reduceAdd, Nat.reduceMul]); exact rfl); (case' h => intro K' h0 hw; conv => whnf))
    | ((with_reducible apply d_op Try.tab); (case hnb => (try simp only [Nat.reduceAdd, Nat.reduceMul]); exact rfl); (case hi => (try simp only [Nat.reduceAdd, Nat.reduceMul]); exact rfl); (case' h => intro K' h0 hw; conv => whnf))
    | ((with_reducible apply d_op0 Try.tab); (case hnb => (try simp only [Nat.reduceAdd, Nat.reduceMul]); exact rfl); (case hi => (try simp only [Nat.reduceAdd, Nat.reduceMul]); exact rfl); (case' h => intro K' h0 hw; conv => whnf))
    | ((with_reducible apply v_nil); (case hm => (try simp only [Nat.reduceAdd, Nat.reduceMul]); exact rfl); (case' h => with_reducible refine hK _ ?_; clear hK))
    | (with_reducible refine h0 _ _ ?_; clear h0 hw)
    | (with_reducible refine hw _ _ _ ?_; clear h0 hw)
    | ((with_reducible apply d_nil); (refine hK _ _ _ _ (by decide +kernel) ?_; clear hK))
    | (refine d_grd_yes (by rfl) (by rfl) ?_)
    | ((apply d_grd_no); (case hg => rfl); (case hb => rfl); (case hi => (try simp only [Nat.reduceAdd, Nat.reduceMul]); exact rfl))
    | ((apply d_grd_undef); (case hg => rfl); (case hb => rfl); (case hi => (try simp only [Nat.reduceAdd, Nat.reduceMul]); exact rfl))
    | ((apply d_grd); (case hg => rfl); (case hb => rfl); (case hi => (try simp only [Nat.reduceAdd, Nat.reduceMul]); exact rfl))
    | (refine v_grd_yes (by rfl) (by rfl) ?_)
    | ((apply v_grd_no); (case hg => rfl); (case hb => rfl); (case hi => (try simp only [Nat.reduceAdd, Nat.reduceMul]); exact rfl))
    | ((apply v_grd_undef); (case hg => rfl); (case hb => rfl); (case hi => (try simp only [Nat.reduceAdd, Nat.reduceMul]); exact rfl))
    | ((apply v_grd); (case hg => rfl); (case hb => rfl); (case hi => (try simp only [Nat.reduceAdd, Nat.reduceMul]); exact rfl))
    | with_reducible refine go_ret ?_
    | with_reducible refine go_seq ?_
    | with_reducible refine go_skip ?_
    | with_reducible refine go_block ?_
    | with_reducible refine go_exit ?_
    | ((with_reducible apply go_cond); (case hb => rfl))
    | with_reducible refine out_seq_ret ?_
    | with_reducible refine out_seq_normal ?_
    | with_reducible refine out_seq_exit ?_
    | with_reducible refine out_block_ret ?_
    | with_reducible refine out_block_normal ?_
    | with_reducible refine out_block_here ?_
    | with_reducible refine out_loop_ret ?_
    | with_reducible refine out_loop_exit ?_
    | ((with_reducible apply out_block_there); (case hne => rfl))
    | ((with_reducible refine w_ret Try.tab fun K' hL => ?_); (conv => whnf))
    | ((with_reducible refine w_ret_end Try.tab fun K' hL => ?_); (conv => whnf))
    | (with_reducible refine hL _ ?_; clear hL)
    | ((with_reducible apply And.intro); (case' right => try (conv => whnf)); (case' left => try first | rfl | decide | (simp; done)))
    | ((with_reducible apply Side.mk); (try simp); (try omega))
    | ((with_reducible refine all_row ?_); (first | (have _y := hx5; clear _y; intro x6 hx6) | (have _y := hx4; clear _y; intro x5 hx5) | (have _y := hx3; clear _y; intro x4 hx4) | (have _y := hx2; clear _y; intro x3 hx3) | (have _y := hx1; clear _y; intro x2 hx2) | (intro x1 hx1)); conv => whnf)
    | ((with_reducible refine ⟨_, eqlT36 (by rfl) (by rfl), ?_⟩); conv => whnf)
    | ((with_reducible refine ⟨_, neqT36 (by rfl) (by rfl), ?_⟩); conv => whnf)
    | ((with_reducible refine ⟨_, eqlT45 (by rfl) (by rfl), ?_⟩); conv => whnf)
    | ((with_reducible refine ⟨_, neqT45 (by rfl) (by rfl), ?_⟩); conv => whnf)
    | ((with_reducible refine ⟨_, eqlT57 (by rfl) (by rfl), ?_⟩); conv => whnf)
    | ((with_reducible refine ⟨_, neqT57 (by rfl) (by rfl), ?_⟩); conv => whnf)
    | ((first | (have _y := g11; clear _y; intro g12; try simp at g12) | (have _y := g10; clear _y; intro g11; try simp at g11) | (have _y := g9; clear _y; intro g10; try simp at g10) | (have _y := g8; clear _y; intro g9; try simp at g9) | (have _y := g7; clear _y; intro g8; try simp at g8) | (have _y := g6; clear _y; intro g7; try simp at g7) | (have _y := g5; clear _y; intro g6; try simp at g6) | (have _y := g4; clear _y; intro g5; try simp at g5) | (have _y := g3; clear _y; intro g4; try simp at g4) | (have _y := g2; clear _y; intro g3; try simp at g3) | (have _y := g1; clear _y; intro g2; try simp at g2) | (intro g1; try simp at g1))))
  all_goals (simp [le_s]; try omega)
def paceOK (w m n d : Int) : Prop := (0 ≤ w ∧ w ≤ 1000000) ∧ (0 ≤ m ∧ m ≤ 1000000) ∧ (1 ≤ n ∧ n ≤ 100) ∧ 1 ≤ d ∧ d ≤ 100
instance (w m n d : Int) : Decidable (paceOK w m n d) := by unfold paceOK; infer_instance
def paceE (w m n d : Int) : Int := if paceOK w m n d then 0 else 3
set_option maxHeartbeats 400000 in
theorem c_pcheck (w m n d : Int) : PSpec Try.prog 46 [.agg [I w, I m, I n, I d]] (I (paceE w m n d)) := by
  refine v_pspec Try.func46 rfl Try.ntmps46 Try.results46 (by simp) (by first | exact .s _ | repeat constructor) ?_
  repeat' (first
    | with_reducible refine go_later ?_
    | (with_reducible refine w_reg (by decide +kernel) fun K1 hK => ?_)
    | (with_reducible refine w_reg_end (by decide +kernel) fun K1 hK => ?_)
    | ((with_reducible apply d_reg Try.mix (by decide +kernel)); (case hm => simp only [List.length_cons, List.length_nil, Nat.reduceAdd, Nat.reduceMul]; exact rfl); (case' h => intro K1 hK))
    | ((with_reducible apply d_reg_end Try.mix (by decide +kernel)); (case hm => simp only [List.length_cons, List.length_nil, Nat.reduceAdd, Nat.reduceMul]; exact rfl); (case' h => intro K1 hK))
    | ((with_reducible apply v_op Try.tab); (case hnb => (try simp only [Nat.reduceAdd, Nat.reduceMul]); exact rfl); (case hi => (try simp only [Nat.reduceAdd, Nat.reduceMul]); exact rfl); (case' h => intro K' h0 hw; conv => whnf))
    | ((with_reducible apply v_op0 Try.tab); (case hnb => (try simp only [Nat.reduceAdd, Nat.reduceMul]); exact rfl); (case hi => (try simp only [Nat.reduceAdd, Nat.reduceMul]); exact rfl); (case' h => intro K' h0 hw; conv => whnf))
    | ((with_reducible apply d_op Try.tab); (case hnb => (try simp only [Nat.reduceAdd, Nat.reduceMul]); exact rfl); (case hi => (try simp only [Nat.reduceAdd, Nat.reduceMul]); exact rfl); (case' h => intro K' h0 hw; conv => whnf))
    | ((with_reducible apply d_op0 Try.tab); (case hnb => (try simp only [Nat.reduceAdd, Nat.reduceMul]); exact rfl); (case hi => (try simp only [Nat.reduceAdd, Nat.reduceMul]); exact rfl); (case' h => intro K' h0 hw; conv => whnf))
    | ((with_reducible apply v_nil); (case hm => (try simp only [Nat.reduceAdd, Nat.reduceMul]); exact rfl); (case' h => with_reducible refine hK _ ?_; clear hK))
    | (with_reducible refine h0 _ _ ?_; clear h0 hw)
    | (with_reducible refine hw _ _ _ ?_; clear h0 hw)
    | ((with_reducible apply d_nil); (refine hK _ _ _ _ (by decide +kernel) ?_; clear hK))
    | (refine d_grd_yes (by rfl) (by rfl) ?_)
    | ((apply d_grd_no); (case hg => rfl); (case hb => rfl); (case hi => (try simp only [Nat.reduceAdd, Nat.reduceMul]); exact rfl))
    | ((apply d_grd_undef); (case hg => rfl); (case hb => rfl); (case hi => (try simp only [Nat.reduceAdd, Nat.reduceMul]); exact rfl))
    | ((apply d_grd); (case hg => rfl); (case hb => rfl); (case hi => (try simp only [Nat.reduceAdd, Nat.reduceMul]); exact rfl))
    | (refine v_grd_yes (by rfl) (by rfl) ?_)
    | ((apply v_grd_no); (case hg => rfl); (case hb => rfl); (case hi => (try simp only [Nat.reduceAdd, Nat.reduceMul]); exact rfl))
    | ((apply v_grd_undef); (case hg => rfl); (case hb => rfl); (case hi => (try simp only [Nat.reduceAdd, Nat.reduceMul]); exact rfl))
    | ((apply v_grd); (case hg => rfl); (case hb => rfl); (case hi => (try simp only [Nat.reduceAdd, Nat.reduceMul]); exact rfl))
    | ((with_reducible apply callV_f own47 (c_pwithin _ _ _)); (case hx => rfl); (case he => rfl); (case hle => first | ((repeat constructor); done) | (simp; done)); (case hpu => repeat constructor); (case' hK => conv => whnf))
    | with_reducible refine go_ret ?_
    | with_reducible refine go_seq ?_
    | with_reducible refine go_skip ?_
    | with_reducible refine go_block ?_
    | with_reducible refine go_exit ?_
    | ((with_reducible apply go_cond); (case hb => rfl))
    | with_reducible refine out_seq_ret ?_
    | with_reducible refine out_seq_normal ?_
    | with_reducible refine out_seq_exit ?_
    | with_reducible refine out_block_ret ?_
    | with_reducible refine out_block_normal ?_
    | with_reducible refine out_block_here ?_
    | with_reducible refine out_loop_ret ?_
    | with_reducible refine out_loop_exit ?_
    | ((with_reducible apply out_block_there); (case hne => rfl))
    | ((with_reducible refine w_ret Try.tab fun K' hL => ?_); (conv => whnf))
    | ((with_reducible refine w_ret_end Try.tab fun K' hL => ?_); (conv => whnf))
    | (with_reducible refine hL _ ?_; clear hL)
    | ((with_reducible apply And.intro); (case' right => try (conv => whnf)); (case' left => try first | rfl | decide | (simp; done)))
    | ((with_reducible apply Side.mk); (try simp); (try omega))
    | ((with_reducible refine all_row ?_); (first | (have _y := hx5; clear _y; intro x6 hx6) | (have _y := hx4; clear _y; intro x5 hx5) | (have _y := hx3; clear _y; intro x4 hx4) | (have _y := hx2; clear _y; intro x3 hx3) | (have _y := hx1; clear _y; intro x2 hx2) | (intro x1 hx1)); conv => whnf)
    | ((with_reducible refine ⟨_, eqlT36 (by rfl) (by rfl), ?_⟩); conv => whnf)
    | ((with_reducible refine ⟨_, neqT36 (by rfl) (by rfl), ?_⟩); conv => whnf)
    | ((with_reducible refine ⟨_, eqlT45 (by rfl) (by rfl), ?_⟩); conv => whnf)
    | ((with_reducible refine ⟨_, neqT45 (by rfl) (by rfl), ?_⟩); conv => whnf)
    | ((with_reducible refine ⟨_, eqlT57 (by rfl) (by rfl), ?_⟩); conv => whnf)
    | ((with_reducible refine ⟨_, neqT57 (by rfl) (by rfl), ?_⟩); conv => whnf)
    | ((first | (have _y := g11; clear _y; intro g12; try simp at g12) | (have _y := g10; clear _y; intro g11; try simp at g11) | (have _y := g9; clear _y; intro g10; try simp at g10) | (have _y := g8; clear _y; intro g9; try simp at g9) | (have _y := g7; clear _y; intro g8; try simp at g8) | (have _y := g6; clear _y; intro g7; try simp at g7) | (have _y := g5; clear _y; intro g6; try simp at g6) | (have _y := g4; clear _y; intro g5; try simp at g5) | (have _y := g3; clear _y; intro g4; try simp at g4) | (have _y := g2; clear _y; intro g3; try simp at g3) | (have _y := g1; clear _y; intro g2; try simp at g2) | (intro g1; try simp at g1))))
  all_goals (refine le_of_eq ?_; simp only [paceE]; split <;> simp_all [paceOK] <;> omega)
set_option maxHeartbeats 400000 in
theorem c_pcheckR (w m n d : Int) : PSpec Try.prog 24 [.agg [I w, I m, I n, I d]] (I (paceE w m n d)) := by
  refine v_pspec Try.func24 rfl Try.ntmps24 Try.results24 (by simp) (by first | exact .s _ | repeat constructor) ?_
  repeat' (first
    | with_reducible refine go_later ?_
    | (with_reducible refine w_reg (by decide +kernel) fun K1 hK => ?_)
    | (with_reducible refine w_reg_end (by decide +kernel) fun K1 hK => ?_)
    | ((with_reducible apply d_reg Try.mix (by decide +kernel)); (case hm => simp only [List.length_cons, List.length_nil, Nat.reduceAdd, Nat.reduceMul]; exact rfl); (case' h => intro K1 hK))
    | ((with_reducible apply d_reg_end Try.mix (by decide +kernel)); (case hm => simp only [List.length_cons, List.length_nil, Nat.reduceAdd, Nat.reduceMul]; exact rfl); (case' h => intro K1 hK))
    | ((with_reducible apply v_op Try.tab); (case hnb => (try simp only [Nat.reduceAdd, Nat.reduceMul]); exact rfl); (case hi => (try simp only [Nat.reduceAdd, Nat.reduceMul]); exact rfl); (case' h => intro K' h0 hw; conv => whnf))
    | ((with_reducible apply v_op0 Try.tab); (case hnb => (try simp only [Nat.reduceAdd, Nat.reduceMul]); exact rfl); (case hi => (try simp only [Nat.reduceAdd, Nat.reduceMul]); exact rfl); (case' h => intro K' h0 hw; conv => whnf))
    | ((with_reducible apply d_op Try.tab); (case hnb => (try simp only [Nat.reduceAdd, Nat.reduceMul]); exact rfl); (case hi => (try simp only [Nat.reduceAdd, Nat.reduceMul]); exact rfl); (case' h => intro K' h0 hw; conv => whnf))
    | ((with_reducible apply d_op0 Try.tab); (case hnb => (try simp only [Nat.reduceAdd, Nat.reduceMul]); exact rfl); (case hi => (try simp only [Nat.reduceAdd, Nat.reduceMul]); exact rfl); (case' h => intro K' h0 hw; conv => whnf))
    | ((with_reducible apply v_nil); (case hm => (try simp only [Nat.reduceAdd, Nat.reduceMul]); exact rfl); (case' h => with_reducible refine hK _ ?_; clear hK))
    | (with_reducible refine h0 _ _ ?_; clear h0 hw)
    | (with_reducible refine hw _ _ _ ?_; clear h0 hw)
    | ((with_reducible apply d_nil); (refine hK _ _ _ _ (by decide +kernel) ?_; clear hK))
    | (refine d_grd_yes (by rfl) (by rfl) ?_)
    | ((apply d_grd_no); (case hg => rfl); (case hb => rfl); (case hi => (try simp only [Nat.reduceAdd, Nat.reduceMul]); exact rfl))
    | ((apply d_grd_undef); (case hg => rfl); (case hb => rfl); (case hi => (try simp only [Nat.reduceAdd, Nat.reduceMul]); exact rfl))
    | ((apply d_grd); (case hg => rfl); (case hb => rfl); (case hi => (try simp only [Nat.reduceAdd, Nat.reduceMul]); exact rfl))
    | (refine v_grd_yes (by rfl) (by rfl) ?_)
    | ((apply v_grd_no); (case hg => rfl); (case hb => rfl); (case hi => (try simp only [Nat.reduceAdd, Nat.reduceMul]); exact rfl))
    | ((apply v_grd_undef); (case hg => rfl); (case hb => rfl); (case hi => (try simp only [Nat.reduceAdd, Nat.reduceMul]); exact rfl))
    | ((apply v_grd); (case hg => rfl); (case hb => rfl); (case hi => (try simp only [Nat.reduceAdd, Nat.reduceMul]); exact rfl))
    | ((with_reducible apply callV_f own45 (c_btw _ _ _)); (case hx => rfl); (case he => rfl); (case hle => first | ((repeat constructor); done) | (simp; done)); (case hpu => repeat constructor); (case' hK => conv => whnf))
    | with_reducible refine go_ret ?_
    | with_reducible refine go_seq ?_
    | with_reducible refine go_skip ?_
    | with_reducible refine go_block ?_
    | with_reducible refine go_exit ?_
    | ((with_reducible apply go_cond); (case hb => rfl))
    | with_reducible refine out_seq_ret ?_
    | with_reducible refine out_seq_normal ?_
    | with_reducible refine out_seq_exit ?_
    | with_reducible refine out_block_ret ?_
    | with_reducible refine out_block_normal ?_
    | with_reducible refine out_block_here ?_
    | with_reducible refine out_loop_ret ?_
    | with_reducible refine out_loop_exit ?_
    | ((with_reducible apply out_block_there); (case hne => rfl))
    | ((with_reducible refine w_ret Try.tab fun K' hL => ?_); (conv => whnf))
    | ((with_reducible refine w_ret_end Try.tab fun K' hL => ?_); (conv => whnf))
    | (with_reducible refine hL _ ?_; clear hL)
    | ((with_reducible apply And.intro); (case' right => try (conv => whnf)); (case' left => try first | rfl | decide | (simp; done)))
    | ((with_reducible apply Side.mk); (try simp); (try omega))
    | ((with_reducible refine all_row ?_); (first | (have _y := hx5; clear _y; intro x6 hx6) | (have _y := hx4; clear _y; intro x5 hx5) | (have _y := hx3; clear _y; intro x4 hx4) | (have _y := hx2; clear _y; intro x3 hx3) | (have _y := hx1; clear _y; intro x2 hx2) | (intro x1 hx1)); conv => whnf)
    | ((with_reducible refine ⟨_, eqlT36 (by rfl) (by rfl), ?_⟩); conv => whnf)
    | ((with_reducible refine ⟨_, neqT36 (by rfl) (by rfl), ?_⟩); conv => whnf)
    | ((with_reducible refine ⟨_, eqlT45 (by rfl) (by rfl), ?_⟩); conv => whnf)
    | ((with_reducible refine ⟨_, neqT45 (by rfl) (by rfl), ?_⟩); conv => whnf)
    | ((with_reducible refine ⟨_, eqlT57 (by rfl) (by rfl), ?_⟩); conv => whnf)
    | ((with_reducible refine ⟨_, neqT57 (by rfl) (by rfl), ?_⟩); conv => whnf)
    | ((first | (have _y := g11; clear _y; intro g12; try simp at g12) | (have _y := g10; clear _y; intro g11; try simp at g11) | (have _y := g9; clear _y; intro g10; try simp at g10) | (have _y := g8; clear _y; intro g9; try simp at g9) | (have _y := g7; clear _y; intro g8; try simp at g8) | (have _y := g6; clear _y; intro g7; try simp at g7) | (have _y := g5; clear _y; intro g6; try simp at g6) | (have _y := g4; clear _y; intro g5; try simp at g5) | (have _y := g3; clear _y; intro g4; try simp at g4) | (have _y := g2; clear _y; intro g3; try simp at g3) | (have _y := g1; clear _y; intro g2; try simp at g2) | (intro g1; try simp at g1))))
  all_goals (refine le_of_eq ?_; simp only [paceE]; split <;> simp_all [paceOK] <;> omega)
def mediaAt (w m n d t : Int) : Int := m + (t - w) * n / d
def wallAt (w m n d t : Int) : Int := w + ((t - m) * d + n - 1) / n
theorem mul_bd {a b A C : Int} (ha : 0 ≤ a) (hA : a ≤ A) (hb : 0 ≤ b) (hC : b ≤ C) : 0 ≤ a * b ∧ a * b ≤ A * C :=
  ⟨Int.mul_nonneg ha hb, Int.mul_le_mul hA hC hb (Int.le_trans ha hA)⟩
theorem media_bd {w m n d t : Int} (h : paceOK w m n d) (h1 : w ≤ t) (h2 : t ≤ 200000000) : 0 ≤ (t - w) * n ∧ (t - w) * n ≤ 20000000000 ∧ 0 ≤ (t - w) * n / d ∧ (t - w) * n / d ≤ 20000000000 := by
  unfold paceOK at h
  have := mul_bd (a := t - w) (b := n) (A := 200000000) (C := 100) (by omega) (by omega) (by omega) (by omega)
  have h3 := Int.ediv_nonneg this.1 (show 0 ≤ d by omega)
  have h4 := Int.ediv_le_self d this.1
  exact ⟨this.1, by omega, h3, by omega⟩
theorem wall_bd {w m n d t : Int} (h : paceOK w m n d) (h1 : m ≤ t) (h2 : t ≤ 1000000) : 0 ≤ (t - m) * d ∧ (t - m) * d ≤ 100000000 ∧ 0 ≤ ((t - m) * d + n - 1) / n ∧ ((t - m) * d + n - 1) / n ≤ 100000099 := by
  unfold paceOK at h
  have := mul_bd (a := t - m) (b := d) (A := 1000000) (C := 100) (by omega) (by omega) (by omega) (by omega)
  have h0 : 0 ≤ (t - m) * d + n - 1 := by omega
  have h3 := Int.ediv_nonneg h0 (show 0 ≤ n by omega)
  have h4 := Int.ediv_le_self n h0
  exact ⟨this.1, by omega, h3, by omega⟩
theorem media_wrap {w m n d t : Int} (h : paceOK w m n d) (h1 : w ≤ t) (h2 : t ≤ 200000000) : IntKind.i64.wrap (m + IntKind.i64.wrap ((IntKind.i64.wrap (IntKind.i64.wrap (t - w) * n)).tdiv d)) = mediaAt w m n d t := by
  have b := media_bd h h1 h2
  unfold paceOK at h
  rw [wrp (n := t - w) (by omega) (by omega), wrp (n := (t - w) * n) (by omega) (by omega), tdp b.1, wrp (n := (t - w) * n / d) (by omega) (by omega), wrp (by omega) (by omega)]; rfl
theorem wall_wrap {w m n d t : Int} (h : paceOK w m n d) (h1 : m ≤ t) (h2 : t ≤ 1000000) : IntKind.i64.wrap (w + IntKind.i64.wrap ((IntKind.i64.wrap (IntKind.i64.wrap (IntKind.i64.wrap (IntKind.i64.wrap (t - m) * d) + n) - 1)).tdiv n)) = wallAt w m n d t := by
  have b := wall_bd h h1 h2
  unfold paceOK at h
  rw [wrp (n := t - m) (by omega) (by omega), wrp (n := (t - m) * d) (by omega) (by omega), wrp (n := (t - m) * d + n) (by omega) (by omega), wrp (n := (t - m) * d + n - 1) (by omega) (by omega), tdp (by omega), wrp (n := ((t - m) * d + n - 1) / n) (by omega) (by omega), wrp (by omega) (by omega)]; rfl
set_option maxHeartbeats 400000 in
theorem c_at (w m n d t : Int) (h : paceOK w m n d) (h1 : w ≤ t) (h2 : t ≤ 200000000) : PSpec Try.prog 48 [.agg [I w, I m, I n, I d], I t] (I (mediaAt w m n d t)) := by
  have e := media_wrap h h1 h2
  refine v_pspec Try.func48 rfl Try.ntmps48 Try.results48 (by simp) (by first | exact .s _ | repeat constructor) ?_
  unfold paceOK at h
  repeat' (first
    | with_reducible refine go_later ?_
    | (with_reducible refine w_reg (by decide +kernel) fun K1 hK => ?_)
    | (with_reducible refine w_reg_end (by decide +kernel) fun K1 hK => ?_)
    | ((with_reducible apply d_reg Try.mix (by decide +kernel)); (case hm => simp only [List.length_cons, List.length_nil, Nat.reduceAdd, Nat.reduceMul]; exact rfl); (case' h => intro K1 hK))
    | ((with_reducible apply d_reg_end Try.mix (by decide +kernel)); (case hm => simp only [List.length_cons, List.length_nil, Nat.reduceAdd, Nat.reduceMul]; exact rfl); (case' h => intro K1 hK))
    | ((with_reducible apply v_op Try.tab); (case hnb => (try simp only [Nat.reduceAdd, Nat.reduceMul]); exact rfl); (case hi => (try simp only [Nat.reduceAdd, Nat.reduceMul]); exact rfl); (case' h => intro K' h0 hw; conv => whnf))
    | ((with_reducible apply v_op0 Try.tab); (case hnb => (try simp only [Nat.reduceAdd, Nat.reduceMul]); exact rfl); (case hi => (try simp only [Nat.reduceAdd, Nat.reduceMul]); exact rfl); (case' h => intro K' h0 hw; conv => whnf))
    | ((with_reducible apply d_op Try.tab); (case hnb => (try simp only [Nat.reduceAdd, Nat.reduceMul]); exact rfl); (case hi => (try simp only [Nat.reduceAdd, Nat.reduceMul]); exact rfl); (case' h => intro K' h0 hw; conv => whnf))
    | ((with_reducible apply d_op0 Try.tab); (case hnb => (try simp only [Nat.reduceAdd, Nat.reduceMul]); exact rfl); (case hi => (try simp only [Nat.reduceAdd, Nat.reduceMul]); exact rfl); (case' h => intro K' h0 hw; conv => whnf))
    | ((with_reducible apply v_nil); (case hm => (try simp only [Nat.reduceAdd, Nat.reduceMul]); exact rfl); (case' h => with_reducible refine hK _ ?_; clear hK))
    | (with_reducible refine h0 _ _ ?_; clear h0 hw)
    | (with_reducible refine hw _ _ _ ?_; clear h0 hw)
    | ((with_reducible apply d_nil); (refine hK _ _ _ _ (by decide +kernel) ?_; clear hK))
    | (refine d_grd_yes (by rfl) (by rfl) ?_)
    | ((apply d_grd_no); (case hg => rfl); (case hb => rfl); (case hi => (try simp only [Nat.reduceAdd, Nat.reduceMul]); exact rfl))
    | ((apply d_grd_undef); (case hg => rfl); (case hb => rfl); (case hi => (try simp only [Nat.reduceAdd, Nat.reduceMul]); exact rfl))
    | ((apply d_grd); (case hg => rfl); (case hb => rfl); (case hi => (try simp only [Nat.reduceAdd, Nat.reduceMul]); exact rfl))
    | (refine v_grd_yes (by rfl) (by rfl) ?_)
    | ((apply v_grd_no); (case hg => rfl); (case hb => rfl); (case hi => (try simp only [Nat.reduceAdd, Nat.reduceMul]); exact rfl))
    | ((apply v_grd_undef); (case hg => rfl); (case hb => rfl); (case hi => (try simp only [Nat.reduceAdd, Nat.reduceMul]); exact rfl))
    | ((apply v_grd); (case hg => rfl); (case hb => rfl); (case hi => (try simp only [Nat.reduceAdd, Nat.reduceMul]); exact rfl))
    | with_reducible refine go_ret ?_
    | with_reducible refine go_seq ?_
    | with_reducible refine go_skip ?_
    | with_reducible refine go_block ?_
    | with_reducible refine go_exit ?_
    | ((with_reducible apply go_cond); (case hb => rfl))
    | with_reducible refine out_seq_ret ?_
    | with_reducible refine out_seq_normal ?_
    | with_reducible refine out_seq_exit ?_
    | with_reducible refine out_block_ret ?_
    | with_reducible refine out_block_normal ?_
    | with_reducible refine out_block_here ?_
    | with_reducible refine out_loop_ret ?_
    | with_reducible refine out_loop_exit ?_
    | ((with_reducible apply out_block_there); (case hne => rfl))
    | ((with_reducible refine w_ret Try.tab fun K' hL => ?_); (conv => whnf))
    | ((with_reducible refine w_ret_end Try.tab fun K' hL => ?_); (conv => whnf))
    | (with_reducible refine hL _ ?_; clear hL)
    | ((with_reducible apply And.intro); (case' right => try (conv => whnf)); (case' left => try first | rfl | decide | (simp; done)))
    | ((with_reducible apply Side.mk); (try simp); (try omega))
    | ((with_reducible refine all_row ?_); (first | (have _y := hx5; clear _y; intro x6 hx6) | (have _y := hx4; clear _y; intro x5 hx5) | (have _y := hx3; clear _y; intro x4 hx4) | (have _y := hx2; clear _y; intro x3 hx3) | (have _y := hx1; clear _y; intro x2 hx2) | (intro x1 hx1)); conv => whnf)
    | ((with_reducible refine ⟨_, eqlT36 (by rfl) (by rfl), ?_⟩); conv => whnf)
    | ((with_reducible refine ⟨_, neqT36 (by rfl) (by rfl), ?_⟩); conv => whnf)
    | ((with_reducible refine ⟨_, eqlT45 (by rfl) (by rfl), ?_⟩); conv => whnf)
    | ((with_reducible refine ⟨_, neqT45 (by rfl) (by rfl), ?_⟩); conv => whnf)
    | ((with_reducible refine ⟨_, eqlT57 (by rfl) (by rfl), ?_⟩); conv => whnf)
    | ((with_reducible refine ⟨_, neqT57 (by rfl) (by rfl), ?_⟩); conv => whnf)
    | ((first | (have _y := g11; clear _y; intro g12; try simp at g12) | (have _y := g10; clear _y; intro g11; try simp at g11) | (have _y := g9; clear _y; intro g10; try simp at g10) | (have _y := g8; clear _y; intro g9; try simp at g9) | (have _y := g7; clear _y; intro g8; try simp at g8) | (have _y := g6; clear _y; intro g7; try simp at g7) | (have _y := g5; clear _y; intro g6; try simp at g6) | (have _y := g4; clear _y; intro g5; try simp at g5) | (have _y := g3; clear _y; intro g4; try simp at g4) | (have _y := g2; clear _y; intro g3; try simp at g3) | (have _y := g1; clear _y; intro g2; try simp at g2) | (intro g1; try simp at g1))))
  exact le_of_eq (by rw [e])
set_option maxHeartbeats 400000 in
theorem c_when (w m n d t : Int) (h : paceOK w m n d) (h1 : m ≤ t) (h2 : t ≤ 1000000) : PSpec Try.prog 49 [.agg [I w, I m, I n, I d], I t] (I (wallAt w m n d t)) := by
  have e := wall_wrap h h1 h2
  refine v_pspec Try.func49 rfl Try.ntmps49 Try.results49 (by simp) (by first | exact .s _ | repeat constructor) ?_
  unfold paceOK at h
  repeat' (first
    | with_reducible refine go_later ?_
    | (with_reducible refine w_reg (by decide +kernel) fun K1 hK => ?_)
    | (with_reducible refine w_reg_end (by decide +kernel) fun K1 hK => ?_)
    | ((with_reducible apply d_reg Try.mix (by decide +kernel)); (case hm => simp only [List.length_cons, List.length_nil, Nat.reduceAdd, Nat.reduceMul]; exact rfl); (case' h => intro K1 hK))
    | ((with_reducible apply d_reg_end Try.mix (by decide +kernel)); (case hm => simp only [List.length_cons, List.length_nil, Nat.reduceAdd, Nat.reduceMul]; exact rfl); (case' h => intro K1 hK))
    | ((with_reducible apply v_op Try.tab); (case hnb => (try simp only [Nat.reduceAdd, Nat.reduceMul]); exact rfl); (case hi => (try simp only [Nat.reduceAdd, Nat.reduceMul]); exact rfl); (case' h => intro K' h0 hw; conv => whnf))
    | ((with_reducible apply v_op0 Try.tab); (case hnb => (try simp only [Nat.reduceAdd, Nat.reduceMul]); exact rfl); (case hi => (try simp only [Nat.reduceAdd, Nat.reduceMul]); exact rfl); (case' h => intro K' h0 hw; conv => whnf))
    | ((with_reducible apply d_op Try.tab); (case hnb => (try simp only [Nat.reduceAdd, Nat.reduceMul]); exact rfl); (case hi => (try simp only [Nat.reduceAdd, Nat.reduceMul]); exact rfl); (case' h => intro K' h0 hw; conv => whnf))
    | ((with_reducible apply d_op0 Try.tab); (case hnb => (try simp only [Nat.reduceAdd, Nat.reduceMul]); exact rfl); (case hi => (try simp only [Nat.reduceAdd, Nat.reduceMul]); exact rfl); (case' h => intro K' h0 hw; conv => whnf))
    | ((with_reducible apply v_nil); (case hm => (try simp only [Nat.reduceAdd, Nat.reduceMul]); exact rfl); (case' h => with_reducible refine hK _ ?_; clear hK))
    | (with_reducible refine h0 _ _ ?_; clear h0 hw)
    | (with_reducible refine hw _ _ _ ?_; clear h0 hw)
    | ((with_reducible apply d_nil); (refine hK _ _ _ _ (by decide +kernel) ?_; clear hK))
    | (refine d_grd_yes (by rfl) (by rfl) ?_)
    | ((apply d_grd_no); (case hg => rfl); (case hb => rfl); (case hi => (try simp only [Nat.reduceAdd, Nat.reduceMul]); exact rfl))
    | ((apply d_grd_undef); (case hg => rfl); (case hb => rfl); (case hi => (try simp only [Nat.reduceAdd, Nat.reduceMul]); exact rfl))
    | ((apply d_grd); (case hg => rfl); (case hb => rfl); (case hi => (try simp only [Nat.reduceAdd, Nat.reduceMul]); exact rfl))
    | (refine v_grd_yes (by rfl) (by rfl) ?_)
    | ((apply v_grd_no); (case hg => rfl); (case hb => rfl); (case hi => (try simp only [Nat.reduceAdd, Nat.reduceMul]); exact rfl))
    | ((apply v_grd_undef); (case hg => rfl); (case hb => rfl); (case hi => (try simp only [Nat.reduceAdd, Nat.reduceMul]); exact rfl))
    | ((apply v_grd); (case hg => rfl); (case hb => rfl); (case hi => (try simp only [Nat.reduceAdd, Nat.reduceMul]); exact rfl))
    | with_reducible refine go_ret ?_
    | with_reducible refine go_seq ?_
    | with_reducible refine go_skip ?_
    | with_reducible refine go_block ?_
    | with_reducible refine go_exit ?_
    | ((with_reducible apply go_cond); (case hb => rfl))
    | with_reducible refine out_seq_ret ?_
    | with_reducible refine out_seq_normal ?_
    | with_reducible refine out_seq_exit ?_
    | with_reducible refine out_block_ret ?_
    | with_reducible refine out_block_normal ?_
    | with_reducible refine out_block_here ?_
    | with_reducible refine out_loop_ret ?_
    | with_reducible refine out_loop_exit ?_
    | ((with_reducible apply out_block_there); (case hne => rfl))
    | ((with_reducible refine w_ret Try.tab fun K' hL => ?_); (conv => whnf))
    | ((with_reducible refine w_ret_end Try.tab fun K' hL => ?_); (conv => whnf))
    | (with_reducible refine hL _ ?_; clear hL)
    | ((with_reducible apply And.intro); (case' right => try (conv => whnf)); (case' left => try first | rfl | decide | (simp; done)))
    | ((with_reducible apply Side.mk); (try simp); (try omega))
    | ((with_reducible refine all_row ?_); (first | (have _y := hx5; clear _y; intro x6 hx6) | (have _y := hx4; clear _y; intro x5 hx5) | (have _y := hx3; clear _y; intro x4 hx4) | (have _y := hx2; clear _y; intro x3 hx3) | (have _y := hx1; clear _y; intro x2 hx2) | (intro x1 hx1)); conv => whnf)
    | ((with_reducible refine ⟨_, eqlT36 (by rfl) (by rfl), ?_⟩); conv => whnf)
    | ((with_reducible refine ⟨_, neqT36 (by rfl) (by rfl), ?_⟩); conv => whnf)
    | ((with_reducible refine ⟨_, eqlT45 (by rfl) (by rfl), ?_⟩); conv => whnf)
    | ((with_reducible refine ⟨_, neqT45 (by rfl) (by rfl), ?_⟩); conv => whnf)
    | ((with_reducible refine ⟨_, eqlT57 (by rfl) (by rfl), ?_⟩); conv => whnf)
    | ((with_reducible refine ⟨_, neqT57 (by rfl) (by rfl), ?_⟩); conv => whnf)
    | ((first | (have _y := g11; clear _y; intro g12; try simp at g12) | (have _y := g10; clear _y; intro g11; try simp at g11) | (have _y := g9; clear _y; intro g10; try simp at g10) | (have _y := g8; clear _y; intro g9; try simp at g9) | (have _y := g7; clear _y; intro g8; try simp at g8) | (have _y := g6; clear _y; intro g7; try simp at g7) | (have _y := g5; clear _y; intro g6; try simp at g6) | (have _y := g4; clear _y; intro g5; try simp at g5) | (have _y := g3; clear _y; intro g4; try simp at g4) | (have _y := g2; clear _y; intro g3; try simp at g3) | (have _y := g1; clear _y; intro g2; try simp at g2) | (intro g1; try simp at g1))))
  exact le_of_eq (by rw [e])
set_option maxHeartbeats 400000 in
theorem c_mediaOf (w m n d t : Int) (h : paceOK w m n d) (h1 : w ≤ t) (h2 : t ≤ 200000000) : PSpec Try.prog 25 [.agg [I w, I m, I n, I d], I t] (I (mediaAt w m n d t)) := by
  have e := media_wrap h h1 h2
  refine v_pspec Try.func25 rfl Try.ntmps25 Try.results25 (by simp) (by first | exact .s _ | repeat constructor) ?_
  unfold paceOK at h
  repeat' (first
    | with_reducible refine go_later ?_
    | (with_reducible refine w_reg (by decide +kernel) fun K1 hK => ?_)
    | (with_reducible refine w_reg_end (by decide +kernel) fun K1 hK => ?_)
    | ((with_reducible apply d_reg Try.mix (by decide +kernel)); (case hm => simp only [List.length_cons, List.length_nil, Nat.reduceAdd, Nat.reduceMul]; exact rfl); (case' h => intro K1 hK))
    | ((with_reducible apply d_reg_end Try.mix (by decide +kernel)); (case hm => simp only [List.length_cons, List.length_nil, Nat.reduceAdd, Nat.reduceMul]; exact rfl); (case' h => intro K1 hK))
    | ((with_reducible apply v_op Try.tab); (case hnb => (try simp only [Nat.reduceAdd, Nat.reduceMul]); exact rfl); (case hi => (try simp only [Nat.reduceAdd, Nat.reduceMul]); exact rfl); (case' h => intro K' h0 hw; conv => whnf))
    | ((with_reducible apply v_op0 Try.tab); (case hnb => (try simp only [Nat.reduceAdd, Nat.reduceMul]); exact rfl); (case hi => (try simp only [Nat.reduceAdd, Nat.reduceMul]); exact rfl); (case' h => intro K' h0 hw; conv => whnf))
    | ((with_reducible apply d_op Try.tab); (case hnb => (try simp only [Nat.reduceAdd, Nat.reduceMul]); exact rfl); (case hi => (try simp only [Nat.reduceAdd, Nat.reduceMul]); exact rfl); (case' h => intro K' h0 hw; conv => whnf))
    | ((with_reducible apply d_op0 Try.tab); (case hnb => (try simp only [Nat.reduceAdd, Nat.reduceMul]); exact rfl); (case hi => (try simp only [Nat.reduceAdd, Nat.reduceMul]); exact rfl); (case' h => intro K' h0 hw; conv => whnf))
    | ((with_reducible apply v_nil); (case hm => (try simp only [Nat.reduceAdd, Nat.reduceMul]); exact rfl); (case' h => with_reducible refine hK _ ?_; clear hK))
    | (with_reducible refine h0 _ _ ?_; clear h0 hw)
    | (with_reducible refine hw _ _ _ ?_; clear h0 hw)
    | ((with_reducible apply d_nil); (refine hK _ _ _ _ (by decide +kernel) ?_; clear hK))
    | (refine d_grd_yes (by rfl) (by rfl) ?_)
    | ((apply d_grd_no); (case hg => rfl); (case hb => rfl); (case hi => (try simp only [Nat.reduceAdd, Nat.reduceMul]); exact rfl))
    | ((apply d_grd_undef); (case hg => rfl); (case hb => rfl); (case hi => (try simp only [Nat.reduceAdd, Nat.reduceMul]); exact rfl))
    | ((apply d_grd); (case hg => rfl); (case hb => rfl); (case hi => (try simp only [Nat.reduceAdd, Nat.reduceMul]); exact rfl))
    | (refine v_grd_yes (by rfl) (by rfl) ?_)
    | ((apply v_grd_no); (case hg => rfl); (case hb => rfl); (case hi => (try simp only [Nat.reduceAdd, Nat.reduceMul]); exact rfl))
    | ((apply v_grd_undef); (case hg => rfl); (case hb => rfl); (case hi => (try simp only [Nat.reduceAdd, Nat.reduceMul]); exact rfl))
    | ((apply v_grd); (case hg => rfl); (case hb => rfl); (case hi => (try simp only [Nat.reduceAdd, Nat.reduceMul]); exact rfl))
    | with_reducible refine go_ret ?_
    | with_reducible refine go_seq ?_
    | with_reducible refine go_skip ?_
    | with_reducible refine go_block ?_
    | with_reducible refine go_exit ?_
    | ((with_reducible apply go_cond); (case hb => rfl))
    | with_reducible refine out_seq_ret ?_
    | with_reducible refine out_seq_normal ?_
    | with_reducible refine out_seq_exit ?_
    | with_reducible refine out_block_ret ?_
    | with_reducible refine out_block_normal ?_
    | with_reducible refine out_block_here ?_
    | with_reducible refine out_loop_ret ?_
    | with_reducible refine out_loop_exit ?_
    | ((with_reducible apply out_block_there); (case hne => rfl))
    | ((with_reducible refine w_ret Try.tab fun K' hL => ?_); (conv => whnf))
    | ((with_reducible refine w_ret_end Try.tab fun K' hL => ?_); (conv => whnf))
    | (with_reducible refine hL _ ?_; clear hL)
    | ((with_reducible apply And.intro); (case' right => try (conv => whnf)); (case' left => try first | rfl | decide | (simp; done)))
    | ((with_reducible apply Side.mk); (try simp); (try omega))
    | ((with_reducible refine all_row ?_); (first | (have _y := hx5; clear _y; intro x6 hx6) | (have _y := hx4; clear _y; intro x5 hx5) | (have _y := hx3; clear _y; intro x4 hx4) | (have _y := hx2; clear _y; intro x3 hx3) | (have _y := hx1; clear _y; intro x2 hx2) | (intro x1 hx1)); conv => whnf)
    | ((with_reducible refine ⟨_, eqlT36 (by rfl) (by rfl), ?_⟩); conv => whnf)
    | ((with_reducible refine ⟨_, neqT36 (by rfl) (by rfl), ?_⟩); conv => whnf)
    | ((with_reducible refine ⟨_, eqlT45 (by rfl) (by rfl), ?_⟩); conv => whnf)
    | ((with_reducible refine ⟨_, neqT45 (by rfl) (by rfl), ?_⟩); conv => whnf)
    | ((with_reducible refine ⟨_, eqlT57 (by rfl) (by rfl), ?_⟩); conv => whnf)
    | ((with_reducible refine ⟨_, neqT57 (by rfl) (by rfl), ?_⟩); conv => whnf)
    | ((first | (have _y := g11; clear _y; intro g12; try simp at g12) | (have _y := g10; clear _y; intro g11; try simp at g11) | (have _y := g9; clear _y; intro g10; try simp at g10) | (have _y := g8; clear _y; intro g9; try simp at g9) | (have _y := g7; clear _y; intro g8; try simp at g8) | (have _y := g6; clear _y; intro g7; try simp at g7) | (have _y := g5; clear _y; intro g6; try simp at g6) | (have _y := g4; clear _y; intro g5; try simp at g5) | (have _y := g3; clear _y; intro g4; try simp at g4) | (have _y := g2; clear _y; intro g3; try simp at g3) | (have _y := g1; clear _y; intro g2; try simp at g2) | (intro g1; try simp at g1))))
  exact le_of_eq (by rw [e])
/-- A media time is come to at its wall, and not ahead of it. -/
theorem reach {w m n d t M : Int} (h : paceOK w m n d) : M ≤ mediaAt w m n d t ↔ wallAt w m n d M ≤ t := by
  unfold paceOK at h
  have hd : 0 < d := by omega
  have hn : 0 < n := by omega
  have e1 : M ≤ mediaAt w m n d t ↔ (M - m) * d ≤ (t - w) * n := by
    rw [← Int.le_ediv_iff_mul_le hd]; unfold mediaAt; omega
  have e2 : ((M - m) * d + n - 1) / n < (t - w + 1) ↔ (M - m) * d + n - 1 < (t - w + 1) * n := Int.ediv_lt_iff_lt_mul hn
  have e3 : (t - w + 1) * n = (t - w) * n + n := by rw [Int.add_mul, Int.one_mul]
  rw [e1]; unfold wallAt; omega
theorem wall_lo {w m n d M : Int} (h : paceOK w m n d) (h1 : m ≤ M) (h2 : M ≤ 1000000) : w ≤ wallAt w m n d M ∧ wallAt w m n d M ≤ w + (M - m) * d + 1 := by
  have b := wall_bd h h1 h2
  unfold paceOK at h
  refine ⟨by unfold wallAt; omega, ?_⟩
  have e2 : ((M - m) * d + n - 1) / n < ((M - m) * d + 2) ↔ (M - m) * d + n - 1 < ((M - m) * d + 2) * n := Int.ediv_lt_iff_lt_mul (by omega)
  have e3 : ((M - m) * d + 2) * n = (M - m) * d * n + 2 * n := by rw [Int.add_mul]
  have e4 : (M - m) * d ≤ (M - m) * d * n := by
    have := Int.mul_le_mul_of_nonneg_left (show (1 : Int) ≤ n by omega) b.1
    omega
  unfold wallAt; omega
set_option maxHeartbeats 400000 in
theorem c_wallOf (w m n d M : Int) (h : paceOK w m n d) (h1 : m ≤ M) (h2 : M ≤ 1000000) : PSpec Try.prog 26 [.agg [I w, I m, I n, I d], I M] (I (wallAt w m n d M)) := by
  have hb := wall_bd h h1 h2
  have hl := wall_lo h h1 h2
  have hp := h
  unfold paceOK at hp
  have e1 := wrp (n := M - m) (by omega) (by omega)
  have e2 := wrp (n := (M - m) * d) (by omega) (by omega)
  have e3 := wrp (n := w + (M - m) * d) (by omega) (by omega)
  have e4 := wrp (n := w + (M - m) * d + 1) (by omega) (by omega)
  refine v_pspec Try.func26 rfl Try.ntmps26 Try.results26 (by simp) (by first | exact .s _ | repeat constructor) ?_
  repeat' (first
    | with_reducible refine go_later ?_
    | (with_reducible refine w_reg (by decide +kernel) fun K1 hK => ?_)
    | (with_reducible refine w_reg_end (by decide +kernel) fun K1 hK => ?_)
    | ((with_reducible apply d_reg Try.mix (by decide +kernel)); (case hm => simp only [List.length_cons, List.length_nil, Nat.reduceAdd, Nat.reduceMul]; exact rfl); (case' h => intro K1 hK))
    | ((with_reducible apply d_reg_end Try.mix (by decide +kernel)); (case hm => simp only [List.length_cons, List.length_nil, Nat.reduceAdd, Nat.reduceMul]; exact rfl); (case' h => intro K1 hK))
    | ((with_reducible apply v_op Try.tab); (case hnb => (try simp only [Nat.reduceAdd, Nat.reduceMul]); exact rfl); (case hi => (try simp only [Nat.reduceAdd, Nat.reduceMul]); exact rfl); (case' h => intro K' h0 hw; conv => whnf))
    | ((with_reducible apply v_op0 Try.tab); (case hnb => (try simp only [Nat.reduceAdd, Nat.reduceMul]); exact rfl); (case hi => (try simp only [Nat.reduceAdd, Nat.reduceMul]); exact rfl); (case' h => intro K' h0 hw; conv => whnf))
    | ((with_reducible apply d_op Try.tab); (case hnb => (try simp only [Nat.reduceAdd, Nat.reduceMul]); exact rfl); (case hi => (try simp only [Nat.reduceAdd, Nat.reduceMul]); exact rfl); (case' h => intro K' h0 hw; conv => whnf))
    | ((with_reducible apply d_op0 Try.tab); (case hnb => (try simp only [Nat.reduceAdd, Nat.reduceMul]); exact rfl); (case hi => (try simp only [Nat.reduceAdd, Nat.reduceMul]); exact rfl); (case' h => intro K' h0 hw; conv => whnf))
    | ((with_reducible apply v_nil); (case hm => (try simp only [Nat.reduceAdd, Nat.reduceMul]); exact rfl); (case' h => with_reducible refine hK _ ?_; clear hK))
    | (with_reducible refine h0 _ _ ?_; clear h0 hw)
    | (with_reducible refine hw _ _ _ ?_; clear h0 hw)
    | ((with_reducible apply d_nil); (refine hK _ _ _ _ (by decide +kernel) ?_; clear hK))
    | (refine d_grd_yes (by rfl) (by rfl) ?_)
    | ((apply d_grd_no); (case hg => rfl); (case hb => rfl); (case hi => (try simp only [Nat.reduceAdd, Nat.reduceMul]); exact rfl))
    | ((apply d_grd_undef); (case hg => rfl); (case hb => rfl); (case hi => (try simp only [Nat.reduceAdd, Nat.reduceMul]); exact rfl))
    | ((apply d_grd); (case hg => rfl); (case hb => rfl); (case hi => (try simp only [Nat.reduceAdd, Nat.reduceMul]); exact rfl))
    | (refine v_grd_yes (by rfl) (by rfl) ?_)
    | ((apply v_grd_no); (case hg => rfl); (case hb => rfl); (case hi => (try simp only [Nat.reduceAdd, Nat.reduceMul]); exact rfl))
    | ((apply v_grd_undef); (case hg => rfl); (case hb => rfl); (case hi => (try simp only [Nat.reduceAdd, Nat.reduceMul]); exact rfl))
    | ((apply v_grd); (case hg => rfl); (case hb => rfl); (case hi => (try simp only [Nat.reduceAdd, Nat.reduceMul]); exact rfl))
    | with_reducible refine go_ret ?_
    | with_reducible refine go_seq ?_
    | with_reducible refine go_skip ?_
    | with_reducible refine go_block ?_
    | with_reducible refine go_exit ?_
    | ((with_reducible apply go_cond); (case hb => rfl))
    | with_reducible refine out_seq_ret ?_
    | with_reducible refine out_seq_normal ?_
    | with_reducible refine out_seq_exit ?_
    | with_reducible refine out_block_ret ?_
    | with_reducible refine out_block_normal ?_
    | with_reducible refine out_block_here ?_
    | with_reducible refine out_loop_ret ?_
    | with_reducible refine out_loop_exit ?_
    | ((with_reducible apply out_block_there); (case hne => rfl))
    | ((with_reducible refine w_ret Try.tab fun K' hL => ?_); (conv => whnf))
    | ((with_reducible refine w_ret_end Try.tab fun K' hL => ?_); (conv => whnf))
    | (with_reducible refine hL _ ?_; clear hL)
    | ((with_reducible apply And.intro); (case' right => try (conv => whnf)); (case' left => try first | rfl | decide | (simp; done)))
    | ((with_reducible apply Side.mk); (try simp); (try omega))
    | ((with_reducible refine all_row ?_); (first | (have _y := hx5; clear _y; intro x6 hx6) | (have _y := hx4; clear _y; intro x5 hx5) | (have _y := hx3; clear _y; intro x4 hx4) | (have _y := hx2; clear _y; intro x3 hx3) | (have _y := hx1; clear _y; intro x2 hx2) | (intro x1 hx1)); conv => whnf)
    | ((with_reducible refine ⟨_, eqlT36 (by rfl) (by rfl), ?_⟩); conv => whnf)
    | ((with_reducible refine ⟨_, neqT36 (by rfl) (by rfl), ?_⟩); conv => whnf)
    | ((with_reducible refine ⟨_, eqlT45 (by rfl) (by rfl), ?_⟩); conv => whnf)
    | ((with_reducible refine ⟨_, neqT45 (by rfl) (by rfl), ?_⟩); conv => whnf)
    | ((with_reducible refine ⟨_, eqlT57 (by rfl) (by rfl), ?_⟩); conv => whnf)
    | ((with_reducible refine ⟨_, neqT57 (by rfl) (by rfl), ?_⟩); conv => whnf)
    | ((first | (have _y := g11; clear _y; intro g12; try simp at g12) | (have _y := g10; clear _y; intro g11; try simp at g11) | (have _y := g9; clear _y; intro g10; try simp at g10) | (have _y := g8; clear _y; intro g9; try simp at g9) | (have _y := g7; clear _y; intro g8; try simp at g8) | (have _y := g6; clear _y; intro g7; try simp at g7) | (have _y := g5; clear _y; intro g6; try simp at g6) | (have _y := g4; clear _y; intro g5; try simp at g5) | (have _y := g3; clear _y; intro g4; try simp at g4) | (have _y := g2; clear _y; intro g3; try simp at g3) | (have _y := g1; clear _y; intro g2; try simp at g2) | (intro g1; try simp at g1))))
  refine w_loop (X := Int × Int) [5, 6, 7, 21, 22, 23, 24, 25, 26, 27, 28, 29, 30, 31, 32, 33, 34, 35] (fun x => [(5, I x.1), (6, I x.2)]) (fun _ => []) (fun x => w ≤ x.1 ∧ x.1 ≤ wallAt w m n d M ∧ wallAt w m n d M ≤ x.2 ∧ x.2 ≤ 110000000) (fun x => (x.2 - x.1).toNat) (w, w + (M - m) * d + 1) ?_ ?_ ?_
  · simp only; omega
  · refine ⟨kt_refl, ko_refl, ?_, ?_, ?_, ?_, Nat.le_refl _⟩ <;> simp [e1, e2, e3, e4]
  rintro ⟨lo, hi⟩ ⟨q1, q2, q3, q4⟩
  simp only at q1 q2 q3 q4
  have f1 := wrp (n := lo + hi) (by omega) (by omega)
  have f2 := tdp (a := lo + hi) (b := 2) (by omega)
  have f3 := wrp (n := (lo + hi) / 2) (by omega) (by omega)
  repeat' (first
    | with_reducible refine go_later ?_
    | (with_reducible refine w_reg (by decide +kernel) fun K1 hK => ?_)
    | (with_reducible refine w_reg_end (by decide +kernel) fun K1 hK => ?_)
    | ((with_reducible apply d_reg Try.mix (by decide +kernel)); (case hm => simp only [List.length_cons, List.length_nil, Nat.reduceAdd, Nat.reduceMul]; exact rfl); (case' h => intro K1 hK))
    | ((with_reducible apply d_reg_end Try.mix (by decide +kernel)); (case hm => simp only [List.length_cons, List.length_nil, Nat.reduceAdd, Nat.reduceMul]; exact rfl); (case' h => intro K1 hK))
    | ((with_reducible apply v_op Try.tab); (case hnb => (try simp only [Nat.reduceAdd, Nat.reduceMul]); exact rfl); (case hi => (try simp only [Nat.reduceAdd, Nat.reduceMul]); exact rfl); (case' h => intro K' h0 hw; conv => whnf))
    | ((with_reducible apply v_op0 Try.tab); (case hnb => (try simp only [Nat.reduceAdd, Nat.reduceMul]); exact rfl); (case hi => (try simp only [Nat.reduceAdd, Nat.reduceMul]); exact rfl); (case' h => intro K' h0 hw; conv => whnf))
    | ((with_reducible apply d_op Try.tab); (case hnb => (try simp only [Nat.reduceAdd, Nat.reduceMul]); exact rfl); (case hi => (try simp only [Nat.reduceAdd, Nat.reduceMul]); exact rfl); (case' h => intro K' h0 hw; conv => whnf))
    | ((with_reducible apply d_op0 Try.tab); (case hnb => (try simp only [Nat.reduceAdd, Nat.reduceMul]); exact rfl); (case hi => (try simp only [Nat.reduceAdd, Nat.reduceMul]); exact rfl); (case' h => intro K' h0 hw; conv => whnf))
    | ((with_reducible apply v_nil); (case hm => (try simp only [Nat.reduceAdd, Nat.reduceMul]); exact rfl); (case' h => with_reducible refine hK _ ?_; clear hK))
    | (with_reducible refine h0 _ _ ?_; clear h0 hw)
    | (with_reducible refine hw _ _ _ ?_; clear h0 hw)
    | ((with_reducible apply d_nil); (refine hK _ _ _ _ (by decide +kernel) ?_; clear hK))
    | (refine d_grd_yes (by rfl) (by rfl) ?_)
    | ((apply d_grd_no); (case hg => rfl); (case hb => rfl); (case hi => (try simp only [Nat.reduceAdd, Nat.reduceMul]); exact rfl))
    | ((apply d_grd_undef); (case hg => rfl); (case hb => rfl); (case hi => (try simp only [Nat.reduceAdd, Nat.reduceMul]); exact rfl))
    | ((apply d_grd); (case hg => rfl); (case hb => rfl); (case hi => (try simp only [Nat.reduceAdd, Nat.reduceMul]); exact rfl))
    | (refine v_grd_yes (by rfl) (by rfl) ?_)
    | ((apply v_grd_no); (case hg => rfl); (case hb => rfl); (case hi => (try simp only [Nat.reduceAdd, Nat.reduceMul]); exact rfl))
    | ((apply v_grd_undef); (case hg => rfl); (case hb => rfl); (case hi => (try simp only [Nat.reduceAdd, Nat.reduceMul]); exact rfl))
    | ((apply v_grd); (case hg => rfl); (case hb => rfl); (case hi => (try simp only [Nat.reduceAdd, Nat.reduceMul]); exact rfl))
    | ((with_reducible apply callV_f own25 (c_mediaOf w m n d ((lo + hi) / 2) h (by omega) (by omega))); (case hx => rfl); (case he => rfl); (case hle => first | ((repeat constructor); done) | (simp [f1, f2, f3]; done)); (case hpu => repeat constructor); (case' hK => conv => whnf))
    | with_reducible refine go_ret ?_
    | with_reducible refine go_seq ?_
    | with_reducible refine go_skip ?_
    | with_reducible refine go_block ?_
    | with_reducible refine go_exit ?_
    | ((with_reducible apply go_cond); (case hb => rfl))
    | with_reducible refine out_seq_ret ?_
    | with_reducible refine out_seq_normal ?_
    | with_reducible refine out_seq_exit ?_
    | with_reducible refine out_block_ret ?_
    | with_reducible refine out_block_normal ?_
    | with_reducible refine out_block_here ?_
    | with_reducible refine out_loop_ret ?_
    | with_reducible refine out_loop_exit ?_
    | ((with_reducible apply out_block_there); (case hne => rfl))
    | ((with_reducible refine w_ret Try.tab fun K' hL => ?_); (conv => whnf))
    | ((with_reducible refine w_ret_end Try.tab fun K' hL => ?_); (conv => whnf))
    | (with_reducible refine hL _ ?_; clear hL)
    | ((with_reducible apply And.intro); (case' right => try (conv => whnf)); (case' left => try first | rfl | decide | (simp [f1, f2, f3]; done)))
    | ((with_reducible apply Side.mk); (try simp); (try omega))
    | ((with_reducible refine all_row ?_); (first | (have _y := hx5; clear _y; intro x6 hx6) | (have _y := hx4; clear _y; intro x5 hx5) | (have _y := hx3; clear _y; intro x4 hx4) | (have _y := hx2; clear _y; intro x3 hx3) | (have _y := hx1; clear _y; intro x2 hx2) | (intro x1 hx1)); conv => whnf)
    | ((with_reducible refine ⟨_, eqlT36 (by rfl) (by rfl), ?_⟩); conv => whnf)
    | ((with_reducible refine ⟨_, neqT36 (by rfl) (by rfl), ?_⟩); conv => whnf)
    | ((with_reducible refine ⟨_, eqlT45 (by rfl) (by rfl), ?_⟩); conv => whnf)
    | ((with_reducible refine ⟨_, neqT45 (by rfl) (by rfl), ?_⟩); conv => whnf)
    | ((with_reducible refine ⟨_, eqlT57 (by rfl) (by rfl), ?_⟩); conv => whnf)
    | ((with_reducible refine ⟨_, neqT57 (by rfl) (by rfl), ?_⟩); conv => whnf)
    | ((first | (have _y := g11; clear _y; intro g12; try simp at g12) | (have _y := g10; clear _y; intro g11; try simp at g11) | (have _y := g9; clear _y; intro g10; try simp at g10) | (have _y := g8; clear _y; intro g9; try simp at g9) | (have _y := g7; clear _y; intro g8; try simp at g8) | (have _y := g6; clear _y; intro g7; try simp at g7) | (have _y := g5; clear _y; intro g6; try simp at g6) | (have _y := g4; clear _y; intro g5; try simp at g5) | (have _y := g3; clear _y; intro g4; try simp at g4) | (have _y := g2; clear _y; intro g3; try simp at g3) | (have _y := g1; clear _y; intro g2; try simp at g2) | (intro g1; try simp at g1))))
  · have r := (reach h).1 g2
    ((with_reducible apply w_next ((lo, (lo + hi) / 2))); (case kt => first | exact kt_refl | (repeat (first | exact kt_refl | refine kt_wr (by rfl) ?_ | refine kt_jnk (by rfl) ?_ | refine kt_wrs (by rfl) ?_))); (case ko => repeat (first | exact ko_refl | refine ko_wo (by first | exact .inl (by rfl) | exact .inr (by simp) | exact .inr (by omega)) ?_ | refine ko_wor (by rfl) ?_ | refine ko_wos (by simp) ?_)); (case hn => first | exact Nat.le_refl _ | (simp; done) | (simp; omega)); (case hs => simp [f1, f2, f3]); (case hb => simp [f1, f2, f3]); (case ls => simp (disch := omega) [f1, f2, f3, wrp]); (case lb => simp [f1, f2, f3]); (case mu => first | (simp; omega) | (simp; done) | omega | (simp only; omega)); (case' rel' => (try simp only); (try exact trivial)))
    omega
  · have r : ¬ wallAt w m n d M ≤ (lo + hi) / 2 := fun k => by have := (reach h).2 k; omega
    have f4 := wrp (n := (lo + hi) / 2 + 1) (by omega) (by omega)
    ((with_reducible apply w_next (((lo + hi) / 2 + 1, hi))); (case kt => first | exact kt_refl | (repeat (first | exact kt_refl | refine kt_wr (by rfl) ?_ | refine kt_jnk (by rfl) ?_ | refine kt_wrs (by rfl) ?_))); (case ko => repeat (first | exact ko_refl | refine ko_wo (by first | exact .inl (by rfl) | exact .inr (by simp) | exact .inr (by omega)) ?_ | refine ko_wor (by rfl) ?_ | refine ko_wos (by simp) ?_)); (case hn => first | exact Nat.le_refl _ | (simp; done) | (simp; omega)); (case hs => simp [f1, f2, f3, f4]); (case hb => simp [f1, f2, f3, f4]); (case ls => simp (disch := omega) [f1, f2, f3, f4, wrp]); (case lb => simp [f1, f2, f3, f4]); (case mu => first | (simp; omega) | (simp; done) | omega | (simp only; omega)); (case' rel' => (try simp only); (try exact trivial)))
    omega
  · exact le_of_eq (by rw [show (lo, hi).1 = wallAt w m n d M from by simp only; omega])
theorem paceE_iff {w m n d : Int} : paceE w m n d = 0 ↔ paceOK w m n d := by unfold paceE; split <;> simp_all
theorem paceE_three {w m n d : Int} (h : ¬ paceE w m n d = 0) : paceE w m n d = 3 := by unfold paceE at *; split at h <;> simp_all
def mediaS (w m n d t : Int) : Int × Int := if paceOK w m n d ∧ w ≤ t ∧ t ≤ 1000000 then (mediaAt w m n d t, 0) else (0, 3)
def wallS (w m n d t : Int) : Int × Int := if paceOK w m n d ∧ m ≤ t ∧ t ≤ 1000000 then (wallAt w m n d t, 0) else (0, 3)
set_option maxHeartbeats 400000 in
theorem c_media (w m n d t : Int) : PSpec Try.prog 21 [.agg [I w, I m, I n, I d], I t] (.tup [I (mediaS w m n d t).1, I (mediaS w m n d t).2]) := by
  refine v_pspec Try.func21 rfl Try.ntmps21 Try.results21 (by simp) (by first | exact .s _ | repeat constructor) ?_
  have hE := paceE_iff (w := w) (m := m) (n := n) (d := d)
  by_cases h : paceOK w m n d ∧ w ≤ t ∧ t ≤ 1000000
  · have e := hE.2 h.1
    repeat' (first
    | with_reducible refine go_later ?_
    | (with_reducible refine w_reg (by decide +kernel) fun K1 hK => ?_)
    | (with_reducible refine w_reg_end (by decide +kernel) fun K1 hK => ?_)
    | ((with_reducible apply d_reg Try.mix (by decide +kernel)); (case hm => simp only [List.length_cons, List.length_nil, Nat.reduceAdd, Nat.reduceMul]; exact rfl); (case' h => intro K1 hK))
    | ((with_reducible apply d_reg_end Try.mix (by decide +kernel)); (case hm => simp only [List.length_cons, List.length_nil, Nat.reduceAdd, Nat.reduceMul]; exact rfl); (case' h => intro K1 hK))
    | ((with_reducible apply v_op Try.tab); (case hnb => (try simp only [Nat.reduceAdd, Nat.reduceMul]); exact rfl); (case hi => (try simp only [Nat.reduceAdd, Nat.reduceMul]); exact rfl); (case' h => intro K' h0 hw; conv => whnf))
    | ((with_reducible apply v_op0 Try.tab); (case hnb => (try simp only [Nat.reduceAdd, Nat.reduceMul]); exact rfl); (case hi => (try simp only [Nat.reduceAdd, Nat.reduceMul]); exact rfl); (case' h => intro K' h0 hw; conv => whnf))
    | ((with_reducible apply d_op Try.tab); (case hnb => (try simp only [Nat.reduceAdd, Nat.reduceMul]); exact rfl); (case hi => (try simp only [Nat.reduceAdd, Nat.reduceMul]); exact rfl); (case' h => intro K' h0 hw; conv => whnf))
    | ((with_reducible apply d_op0 Try.tab); (case hnb => (try simp only [Nat.reduceAdd, Nat.reduceMul]); exact rfl); (case hi => (try simp only [Nat.reduceAdd, Nat.reduceMul]); exact rfl); (case' h => intro K' h0 hw; conv => whnf))
    | ((with_reducible apply v_nil); (case hm => (try simp only [Nat.reduceAdd, Nat.reduceMul]); exact rfl); (case' h => with_reducible refine hK _ ?_; clear hK))
    | (with_reducible refine h0 _ _ ?_; clear h0 hw)
    | (with_reducible refine hw _ _ _ ?_; clear h0 hw)
    | ((with_reducible apply d_nil); (refine hK _ _ _ _ (by decide +kernel) ?_; clear hK))
    | (refine d_grd_yes (by rfl) (by rfl) ?_)
    | ((apply d_grd_no); (case hg => rfl); (case hb => rfl); (case hi => (try simp only [Nat.reduceAdd, Nat.reduceMul]); exact rfl))
    | ((apply d_grd_undef); (case hg => rfl); (case hb => rfl); (case hi => (try simp only [Nat.reduceAdd, Nat.reduceMul]); exact rfl))
    | ((apply d_grd); (case hg => rfl); (case hb => rfl); (case hi => (try simp only [Nat.reduceAdd, Nat.reduceMul]); exact rfl))
    | (refine v_grd_yes (by rfl) (by rfl) ?_)
    | ((apply v_grd_no); (case hg => rfl); (case hb => rfl); (case hi => (try simp only [Nat.reduceAdd, Nat.reduceMul]); exact rfl))
    | ((apply v_grd_undef); (case hg => rfl); (case hb => rfl); (case hi => (try simp only [Nat.reduceAdd, Nat.reduceMul]); exact rfl))
    | ((apply v_grd); (case hg => rfl); (case hb => rfl); (case hi => (try simp only [Nat.reduceAdd, Nat.reduceMul]); exact rfl))
    | ((with_reducible apply callV_f own46 (c_pcheck _ _ _ _)); (case hx => rfl); (case he => rfl); (case hle => first | ((repeat constructor); done) | (simp; done)); (case hpu => repeat constructor); (case' hK => conv => whnf))
    | ((with_reducible apply callV_f own47 (c_pwithin _ _ _)); (case hx => rfl); (case he => rfl); (case hle => first | ((repeat constructor); done) | (simp; done)); (case hpu => repeat constructor); (case' hK => conv => whnf))
    | ((with_reducible apply callV_f own48 (c_at _ _ _ _ _ h.1 h.2.1 (by omega))); (case hx => rfl); (case he => rfl); (case hle => first | ((repeat constructor); done) | (simp; done)); (case hpu => repeat constructor); (case' hK => conv => whnf))
    | with_reducible refine go_ret ?_
    | with_reducible refine go_seq ?_
    | with_reducible refine go_skip ?_
    | with_reducible refine go_block ?_
    | with_reducible refine go_exit ?_
    | ((with_reducible apply go_cond); (case hb => rfl))
    | with_reducible refine out_seq_ret ?_
    | with_reducible refine out_seq_normal ?_
    | with_reducible refine out_seq_exit ?_
    | with_reducible refine out_block_ret ?_
    | with_reducible refine out_block_normal ?_
    | with_reducible refine out_block_here ?_
    | with_reducible refine out_loop_ret ?_
    | with_reducible refine out_loop_exit ?_
    | ((with_reducible apply out_block_there); (case hne => rfl))
    | ((with_reducible refine w_ret Try.tab fun K' hL => ?_); (conv => whnf))
    | ((with_reducible refine w_ret_end Try.tab fun K' hL => ?_); (conv => whnf))
    | (with_reducible refine hL _ ?_; clear hL)
    | ((with_reducible apply And.intro); (case' right => try (conv => whnf)); (case' left => try first | rfl | decide | (simp; done)))
    | ((with_reducible apply Side.mk); (try simp); (try omega))
    | ((with_reducible refine all_row ?_); (first | (have _y := hx5; clear _y; intro x6 hx6) | (have _y := hx4; clear _y; intro x5 hx5) | (have _y := hx3; clear _y; intro x4 hx4) | (have _y := hx2; clear _y; intro x3 hx3) | (have _y := hx1; clear _y; intro x2 hx2) | (intro x1 hx1)); conv => whnf)
    | ((with_reducible refine ⟨_, eqlT36 (by rfl) (by rfl), ?_⟩); conv => whnf)
    | ((with_reducible refine ⟨_, neqT36 (by rfl) (by rfl), ?_⟩); conv => whnf)
    | ((with_reducible refine ⟨_, eqlT45 (by rfl) (by rfl), ?_⟩); conv => whnf)
    | ((with_reducible refine ⟨_, neqT45 (by rfl) (by rfl), ?_⟩); conv => whnf)
    | ((with_reducible refine ⟨_, eqlT57 (by rfl) (by rfl), ?_⟩); conv => whnf)
    | ((with_reducible refine ⟨_, neqT57 (by rfl) (by rfl), ?_⟩); conv => whnf)
    | ((first | (have _y := g11; clear _y; intro g12; try simp at g12) | (have _y := g10; clear _y; intro g11; try simp at g11) | (have _y := g9; clear _y; intro g10; try simp at g10) | (have _y := g8; clear _y; intro g9; try simp at g9) | (have _y := g7; clear _y; intro g8; try simp at g8) | (have _y := g6; clear _y; intro g7; try simp at g7) | (have _y := g5; clear _y; intro g6; try simp at g6) | (have _y := g4; clear _y; intro g5; try simp at g5) | (have _y := g3; clear _y; intro g4; try simp at g4) | (have _y := g2; clear _y; intro g3; try simp at g3) | (have _y := g1; clear _y; intro g2; try simp at g2) | (intro g1; try simp at g1))))
    all_goals first | (exfalso; omega) | exact le_of_eq (by simp [mediaS, if_pos h])
  · have hn : mediaS w m n d t = (0, 3) := if_neg h
    repeat' (first
    | with_reducible refine go_later ?_
    | (with_reducible refine w_reg (by decide +kernel) fun K1 hK => ?_)
    | (with_reducible refine w_reg_end (by decide +kernel) fun K1 hK => ?_)
    | ((with_reducible apply d_reg Try.mix (by decide +kernel)); (case hm => simp only [List.length_cons, List.length_nil, Nat.reduceAdd, Nat.reduceMul]; exact rfl); (case' h => intro K1 hK))
    | ((with_reducible apply d_reg_end Try.mix (by decide +kernel)); (case hm => simp only [List.length_cons, List.length_nil, Nat.reduceAdd, Nat.reduceMul]; exact rfl); (case' h => intro K1 hK))
    | ((with_reducible apply v_op Try.tab); (case hnb => (try simp only [Nat.reduceAdd, Nat.reduceMul]); exact rfl); (case hi => (try simp only [Nat.reduceAdd, Nat.reduceMul]); exact rfl); (case' h => intro K' h0 hw; conv => whnf))
    | ((with_reducible apply v_op0 Try.tab); (case hnb => (try simp only [Nat.reduceAdd, Nat.reduceMul]); exact rfl); (case hi => (try simp only [Nat.reduceAdd, Nat.reduceMul]); exact rfl); (case' h => intro K' h0 hw; conv => whnf))
    | ((with_reducible apply d_op Try.tab); (case hnb => (try simp only [Nat.reduceAdd, Nat.reduceMul]); exact rfl); (case hi => (try simp only [Nat.reduceAdd, Nat.reduceMul]); exact rfl); (case' h => intro K' h0 hw; conv => whnf))
    | ((with_reducible apply d_op0 Try.tab); (case hnb => (try simp only [Nat.reduceAdd, Nat.reduceMul]); exact rfl); (case hi => (try simp only [Nat.reduceAdd, Nat.reduceMul]); exact rfl); (case' h => intro K' h0 hw; conv => whnf))
    | ((with_reducible apply v_nil); (case hm => (try simp only [Nat.reduceAdd, Nat.reduceMul]); exact rfl); (case' h => with_reducible refine hK _ ?_; clear hK))
    | (with_reducible refine h0 _ _ ?_; clear h0 hw)
    | (with_reducible refine hw _ _ _ ?_; clear h0 hw)
    | ((with_reducible apply d_nil); (refine hK _ _ _ _ (by decide +kernel) ?_; clear hK))
    | (refine d_grd_yes (by rfl) (by rfl) ?_)
    | ((apply d_grd_no); (case hg => rfl); (case hb => rfl); (case hi => (try simp only [Nat.reduceAdd, Nat.reduceMul]); exact rfl))
    | ((apply d_grd_undef); (case hg => rfl); (case hb => rfl); (case hi => (try simp only [Nat.reduceAdd, Nat.reduceMul]); exact rfl))
    | ((apply d_grd); (case hg => rfl); (case hb => rfl); (case hi => (try simp only [Nat.reduceAdd, Nat.reduceMul]); exact rfl))
    | (refine v_grd_yes (by rfl) (by rfl) ?_)
    | ((apply v_grd_no); (case hg => rfl); (case hb => rfl); (case hi => (try simp only [Nat.reduceAdd, Nat.reduceMul]); exact rfl))
    | ((apply v_grd_undef); (case hg => rfl); (case hb => rfl); (case hi => (try simp only [Nat.reduceAdd, Nat.reduceMul]); exact rfl))
    | ((apply v_grd); (case hg => rfl); (case hb => rfl); (case hi => (try simp only [Nat.reduceAdd, Nat.reduceMul]); exact rfl))
    | ((with_reducible apply callV_f own46 (c_pcheck _ _ _ _)); (case hx => rfl); (case he => rfl); (case hle => first | ((repeat constructor); done) | (simp; done)); (case hpu => repeat constructor); (case' hK => conv => whnf))
    | ((with_reducible apply callV_f own47 (c_pwithin _ _ _)); (case hx => rfl); (case he => rfl); (case hle => first | ((repeat constructor); done) | (simp; done)); (case hpu => repeat constructor); (case' hK => conv => whnf))
    | with_reducible refine go_ret ?_
    | with_reducible refine go_seq ?_
    | with_reducible refine go_skip ?_
    | with_reducible refine go_block ?_
    | with_reducible refine go_exit ?_
    | ((with_reducible apply go_cond); (case hb => rfl))
    | with_reducible refine out_seq_ret ?_
    | with_reducible refine out_seq_normal ?_
    | with_reducible refine out_seq_exit ?_
    | with_reducible refine out_block_ret ?_
    | with_reducible refine out_block_normal ?_
    | with_reducible refine out_block_here ?_
    | with_reducible refine out_loop_ret ?_
    | with_reducible refine out_loop_exit ?_
    | ((with_reducible apply out_block_there); (case hne => rfl))
    | ((with_reducible refine w_ret Try.tab fun K' hL => ?_); (conv => whnf))
    | ((with_reducible refine w_ret_end Try.tab fun K' hL => ?_); (conv => whnf))
    | (with_reducible refine hL _ ?_; clear hL)
    | ((with_reducible apply And.intro); (case' right => try (conv => whnf)); (case' left => try first | rfl | decide | (simp; done)))
    | ((with_reducible apply Side.mk); (try simp); (try omega))
    | ((with_reducible refine all_row ?_); (first | (have _y := hx5; clear _y; intro x6 hx6) | (have _y := hx4; clear _y; intro x5 hx5) | (have _y := hx3; clear _y; intro x4 hx4) | (have _y := hx2; clear _y; intro x3 hx3) | (have _y := hx1; clear _y; intro x2 hx2) | (intro x1 hx1)); conv => whnf)
    | ((with_reducible refine ⟨_, eqlT36 (by rfl) (by rfl), ?_⟩); conv => whnf)
    | ((with_reducible refine ⟨_, neqT36 (by rfl) (by rfl), ?_⟩); conv => whnf)
    | ((with_reducible refine ⟨_, eqlT45 (by rfl) (by rfl), ?_⟩); conv => whnf)
    | ((with_reducible refine ⟨_, neqT45 (by rfl) (by rfl), ?_⟩); conv => whnf)
    | ((with_reducible refine ⟨_, eqlT57 (by rfl) (by rfl), ?_⟩); conv => whnf)
    | ((with_reducible refine ⟨_, neqT57 (by rfl) (by rfl), ?_⟩); conv => whnf)
    | ((first | (have _y := g11; clear _y; intro g12; try simp at g12) | (have _y := g10; clear _y; intro g11; try simp at g11) | (have _y := g9; clear _y; intro g10; try simp at g10) | (have _y := g8; clear _y; intro g9; try simp at g9) | (have _y := g7; clear _y; intro g8; try simp at g8) | (have _y := g6; clear _y; intro g7; try simp at g7) | (have _y := g5; clear _y; intro g6; try simp at g6) | (have _y := g4; clear _y; intro g5; try simp at g5) | (have _y := g3; clear _y; intro g4; try simp at g4) | (have _y := g2; clear _y; intro g3; try simp at g3) | (have _y := g1; clear _y; intro g2; try simp at g2) | (intro g1; try simp at g1))))
    all_goals first | (exfalso; exact h ⟨hE.1 (by omega), by omega, by omega⟩) | (exfalso; omega) | (refine le_of_eq ?_; rw [hn]; done) | (refine le_of_eq ?_; rw [hn, paceE_three (by assumption)]; done)
set_option maxHeartbeats 400000 in
theorem c_wall (w m n d t : Int) : PSpec Try.prog 22 [.agg [I w, I m, I n, I d], I t] (.tup [I (wallS w m n d t).1, I (wallS w m n d t).2]) := by
  refine v_pspec Try.func22 rfl Try.ntmps22 Try.results22 (by simp) (by first | exact .s _ | repeat constructor) ?_
  have hE := paceE_iff (w := w) (m := m) (n := n) (d := d)
  by_cases h : paceOK w m n d ∧ m ≤ t ∧ t ≤ 1000000
  · have e := hE.2 h.1
    repeat' (first
    | with_reducible refine go_later ?_
    | (with_reducible refine w_reg (by decide +kernel) fun K1 hK => ?_)
    | (with_reducible refine w_reg_end (by decide +kernel) fun K1 hK => ?_)
    | ((with_reducible apply d_reg Try.mix (by decide +kernel)); (case hm => simp only [List.length_cons, List.length_nil, Nat.reduceAdd, Nat.reduceMul]; exact rfl); (case' h => intro K1 hK))
    | ((with_reducible apply d_reg_end Try.mix (by decide +kernel)); (case hm => simp only [List.length_cons, List.length_nil, Nat.reduceAdd, Nat.reduceMul]; exact rfl); (case' h => intro K1 hK))
    | ((with_reducible apply v_op Try.tab); (case hnb => (try simp only [Nat.reduceAdd, Nat.reduceMul]); exact rfl); (case hi => (try simp only [Nat.reduceAdd, Nat.reduceMul]); exact rfl); (case' h => intro K' h0 hw; conv => whnf))
    | ((with_reducible apply v_op0 Try.tab); (case hnb => (try simp only [Nat.reduceAdd, Nat.reduceMul]); exact rfl); (case hi => (try simp only [Nat.reduceAdd, Nat.reduceMul]); exact rfl); (case' h => intro K' h0 hw; conv => whnf))
    | ((with_reducible apply d_op Try.tab); (case hnb => (try simp only [Nat.reduceAdd, Nat.reduceMul]); exact rfl); (case hi => (try simp only [Nat.reduceAdd, Nat.reduceMul]); exact rfl); (case' h => intro K' h0 hw; conv => whnf))
    | ((with_reducible apply d_op0 Try.tab); (case hnb => (try simp only [Nat.reduceAdd, Nat.reduceMul]); exact rfl); (case hi => (try simp only [Nat.reduceAdd, Nat.reduceMul]); exact rfl); (case' h => intro K' h0 hw; conv => whnf))
    | ((with_reducible apply v_nil); (case hm => (try simp only [Nat.reduceAdd, Nat.reduceMul]); exact rfl); (case' h => with_reducible refine hK _ ?_; clear hK))
    | (with_reducible refine h0 _ _ ?_; clear h0 hw)
    | (with_reducible refine hw _ _ _ ?_; clear h0 hw)
    | ((with_reducible apply d_nil); (refine hK _ _ _ _ (by decide +kernel) ?_; clear hK))
    | (refine d_grd_yes (by rfl) (by rfl) ?_)
    | ((apply d_grd_no); (case hg => rfl); (case hb => rfl); (case hi => (try simp only [Nat.reduceAdd, Nat.reduceMul]); exact rfl))
    | ((apply d_grd_undef); (case hg => rfl); (case hb => rfl); (case hi => (try simp only [Nat.reduceAdd, Nat.reduceMul]); exact rfl))
    | ((apply d_grd); (case hg => rfl); (case hb => rfl); (case hi => (try simp only [Nat.reduceAdd, Nat.reduceMul]); exact rfl))
    | (refine v_grd_yes (by rfl) (by rfl) ?_)
    | ((apply v_grd_no); (case hg => rfl); (case hb => rfl); (case hi => (try simp only [Nat.reduceAdd, Nat.reduceMul]); exact rfl))
    | ((apply v_grd_undef); (case hg => rfl); (case hb => rfl); (case hi => (try simp only [Nat.reduceAdd, Nat.reduceMul]); exact rfl))
    | ((apply v_grd); (case hg => rfl); (case hb => rfl); (case hi => (try simp only [Nat.reduceAdd, Nat.reduceMul]); exact rfl))
    | ((with_reducible apply callV_f own46 (c_pcheck _ _ _ _)); (case hx => rfl); (case he => rfl); (case hle => first | ((repeat constructor); done) | (simp; done)); (case hpu => repeat constructor); (case' hK => conv => whnf))
    | ((with_reducible apply callV_f own47 (c_pwithin _ _ _)); (case hx => rfl); (case he => rfl); (case hle => first | ((repeat constructor); done) | (simp; done)); (case hpu => repeat constructor); (case' hK => conv => whnf))
    | ((with_reducible apply callV_f own49 (c_when _ _ _ _ _ h.1 h.2.1 h.2.2)); (case hx => rfl); (case he => rfl); (case hle => first | ((repeat constructor); done) | (simp; done)); (case hpu => repeat constructor); (case' hK => conv => whnf))
    | with_reducible refine go_ret ?_
    | with_reducible refine go_seq ?_
    | with_reducible refine go_skip ?_
    | with_reducible refine go_block ?_
    | with_reducible refine go_exit ?_
    | ((with_reducible apply go_cond); (case hb => rfl))
    | with_reducible refine out_seq_ret ?_
    | with_reducible refine out_seq_normal ?_
    | with_reducible refine out_seq_exit ?_
    | with_reducible refine out_block_ret ?_
    | with_reducible refine out_block_normal ?_
    | with_reducible refine out_block_here ?_
    | with_reducible refine out_loop_ret ?_
    | with_reducible refine out_loop_exit ?_
    | ((with_reducible apply out_block_there); (case hne => rfl))
    | ((with_reducible refine w_ret Try.tab fun K' hL => ?_); (conv => whnf))
    | ((with_reducible refine w_ret_end Try.tab fun K' hL => ?_); (conv => whnf))
    | (with_reducible refine hL _ ?_; clear hL)
    | ((with_reducible apply And.intro); (case' right => try (conv => whnf)); (case' left => try first | rfl | decide | (simp; done)))
    | ((with_reducible apply Side.mk); (try simp); (try omega))
    | ((with_reducible refine all_row ?_); (first | (have _y := hx5; clear _y; intro x6 hx6) | (have _y := hx4; clear _y; intro x5 hx5) | (have _y := hx3; clear _y; intro x4 hx4) | (have _y := hx2; clear _y; intro x3 hx3) | (have _y := hx1; clear _y; intro x2 hx2) | (intro x1 hx1)); conv => whnf)
    | ((with_reducible refine ⟨_, eqlT36 (by rfl) (by rfl), ?_⟩); conv => whnf)
    | ((with_reducible refine ⟨_, neqT36 (by rfl) (by rfl), ?_⟩); conv => whnf)
    | ((with_reducible refine ⟨_, eqlT45 (by rfl) (by rfl), ?_⟩); conv => whnf)
    | ((with_reducible refine ⟨_, neqT45 (by rfl) (by rfl), ?_⟩); conv => whnf)
    | ((with_reducible refine ⟨_, eqlT57 (by rfl) (by rfl), ?_⟩); conv => whnf)
    | ((with_reducible refine ⟨_, neqT57 (by rfl) (by rfl), ?_⟩); conv => whnf)
    | ((first | (have _y := g11; clear _y; intro g12; try simp at g12) | (have _y := g10; clear _y; intro g11; try simp at g11) | (have _y := g9; clear _y; intro g10; try simp at g10) | (have _y := g8; clear _y; intro g9; try simp at g9) | (have _y := g7; clear _y; intro g8; try simp at g8) | (have _y := g6; clear _y; intro g7; try simp at g7) | (have _y := g5; clear _y; intro g6; try simp at g6) | (have _y := g4; clear _y; intro g5; try simp at g5) | (have _y := g3; clear _y; intro g4; try simp at g4) | (have _y := g2; clear _y; intro g3; try simp at g3) | (have _y := g1; clear _y; intro g2; try simp at g2) | (intro g1; try simp at g1))))
    all_goals first | (exfalso; omega) | exact le_of_eq (by simp [wallS, if_pos h])
  · have hn : wallS w m n d t = (0, 3) := if_neg h
    repeat' (first
    | with_reducible refine go_later ?_
    | (with_reducible refine w_reg (by decide +kernel) fun K1 hK => ?_)
    | (with_reducible refine w_reg_end (by decide +kernel) fun K1 hK => ?_)
    | ((with_reducible apply d_reg Try.mix (by decide +kernel)); (case hm => simp only [List.length_cons, List.length_nil, Nat.reduceAdd, Nat.reduceMul]; exact rfl); (case' h => intro K1 hK))
    | ((with_reducible apply d_reg_end Try.mix (by decide +kernel)); (case hm => simp only [List.length_cons, List.length_nil, Nat.reduceAdd, Nat.reduceMul]; exact rfl); (case' h => intro K1 hK))
    | ((with_reducible apply v_op Try.tab); (case hnb => (try simp only [Nat.reduceAdd, Nat.reduceMul]); exact rfl); (case hi => (try simp only [Nat.reduceAdd, Nat.reduceMul]); exact rfl); (case' h => intro K' h0 hw; conv => whnf))
    | ((with_reducible apply v_op0 Try.tab); (case hnb => (try simp only [Nat.reduceAdd, Nat.reduceMul]); exact rfl); (case hi => (try simp only [Nat.reduceAdd, Nat.reduceMul]); exact rfl); (case' h => intro K' h0 hw; conv => whnf))
    | ((with_reducible apply d_op Try.tab); (case hnb => (try simp only [Nat.reduceAdd, Nat.reduceMul]); exact rfl); (case hi => (try simp only [Nat.reduceAdd, Nat.reduceMul]); exact rfl); (case' h => intro K' h0 hw; conv => whnf))
    | ((with_reducible apply d_op0 Try.tab); (case hnb => (try simp only [Nat.reduceAdd, Nat.reduceMul]); exact rfl); (case hi => (try simp only [Nat.reduceAdd, Nat.reduceMul]); exact rfl); (case' h => intro K' h0 hw; conv => whnf))
    | ((with_reducible apply v_nil); (case hm => (try simp only [Nat.reduceAdd, Nat.reduceMul]); exact rfl); (case' h => with_reducible refine hK _ ?_; clear hK))
    | (with_reducible refine h0 _ _ ?_; clear h0 hw)
    | (with_reducible refine hw _ _ _ ?_; clear h0 hw)
    | ((with_reducible apply d_nil); (refine hK _ _ _ _ (by decide +kernel) ?_; clear hK))
    | (refine d_grd_yes (by rfl) (by rfl) ?_)
    | ((apply d_grd_no); (case hg => rfl); (case hb => rfl); (case hi => (try simp only [Nat.reduceAdd, Nat.reduceMul]); exact rfl))
    | ((apply d_grd_undef); (case hg => rfl); (case hb => rfl); (case hi => (try simp only [Nat.reduceAdd, Nat.reduceMul]); exact rfl))
    | ((apply d_grd); (case hg => rfl); (case hb => rfl); (case hi => (try simp only [Nat.reduceAdd, Nat.reduceMul]); exact rfl))
    | (refine v_grd_yes (by rfl) (by rfl) ?_)
    | ((apply v_grd_no); (case hg => rfl); (case hb => rfl); (case hi => (try simp only [Nat.reduceAdd, Nat.reduceMul]); exact rfl))
    | ((apply v_grd_undef); (case hg => rfl); (case hb => rfl); (case hi => (try simp only [Nat.reduceAdd, Nat.reduceMul]); exact rfl))
    | ((apply v_grd); (case hg => rfl); (case hb => rfl); (case hi => (try simp only [Nat.reduceAdd, Nat.reduceMul]); exact rfl))
    | ((with_reducible apply callV_f own46 (c_pcheck _ _ _ _)); (case hx => rfl); (case he => rfl); (case hle => first | ((repeat constructor); done) | (simp; done)); (case hpu => repeat constructor); (case' hK => conv => whnf))
    | ((with_reducible apply callV_f own47 (c_pwithin _ _ _)); (case hx => rfl); (case he => rfl); (case hle => first | ((repeat constructor); done) | (simp; done)); (case hpu => repeat constructor); (case' hK => conv => whnf))
    | with_reducible refine go_ret ?_
    | with_reducible refine go_seq ?_
    | with_reducible refine go_skip ?_
    | with_reducible refine go_block ?_
    | with_reducible refine go_exit ?_
    | ((with_reducible apply go_cond); (case hb => rfl))
    | with_reducible refine out_seq_ret ?_
    | with_reducible refine out_seq_normal ?_
    | with_reducible refine out_seq_exit ?_
    | with_reducible refine out_block_ret ?_
    | with_reducible refine out_block_normal ?_
    | with_reducible refine out_block_here ?_
    | with_reducible refine out_loop_ret ?_
    | with_reducible refine out_loop_exit ?_
    | ((with_reducible apply out_block_there); (case hne => rfl))
    | ((with_reducible refine w_ret Try.tab fun K' hL => ?_); (conv => whnf))
    | ((with_reducible refine w_ret_end Try.tab fun K' hL => ?_); (conv => whnf))
    | (with_reducible refine hL _ ?_; clear hL)
    | ((with_reducible apply And.intro); (case' right => try (conv => whnf)); (case' left => try first | rfl | decide | (simp; done)))
    | ((with_reducible apply Side.mk); (try simp); (try omega))
    | ((with_reducible refine all_row ?_); (first | (have _y := hx5; clear _y; intro x6 hx6) | (have _y := hx4; clear _y; intro x5 hx5) | (have _y := hx3; clear _y; intro x4 hx4) | (have _y := hx2; clear _y; intro x3 hx3) | (have _y := hx1; clear _y; intro x2 hx2) | (intro x1 hx1)); conv => whnf)
    | ((with_reducible refine ⟨_, eqlT36 (by rfl) (by rfl), ?_⟩); conv => whnf)
    | ((with_reducible refine ⟨_, neqT36 (by rfl) (by rfl), ?_⟩); conv => whnf)
    | ((with_reducible refine ⟨_, eqlT45 (by rfl) (by rfl), ?_⟩); conv => whnf)
    | ((with_reducible refine ⟨_, neqT45 (by rfl) (by rfl), ?_⟩); conv => whnf)
    | ((with_reducible refine ⟨_, eqlT57 (by rfl) (by rfl), ?_⟩); conv => whnf)
    | ((with_reducible refine ⟨_, neqT57 (by rfl) (by rfl), ?_⟩); conv => whnf)
    | ((first | (have _y := g11; clear _y; intro g12; try simp at g12) | (have _y := g10; clear _y; intro g11; try simp at g11) | (have _y := g9; clear _y; intro g10; try simp at g10) | (have _y := g8; clear _y; intro g9; try simp at g9) | (have _y := g7; clear _y; intro g8; try simp at g8) | (have _y := g6; clear _y; intro g7; try simp at g7) | (have _y := g5; clear _y; intro g6; try simp at g6) | (have _y := g4; clear _y; intro g5; try simp at g5) | (have _y := g3; clear _y; intro g4; try simp at g4) | (have _y := g2; clear _y; intro g3; try simp at g3) | (have _y := g1; clear _y; intro g2; try simp at g2) | (intro g1; try simp at g1))))
    all_goals first | (exfalso; exact h ⟨hE.1 (by omega), by omega, by omega⟩) | (exfalso; omega) | (refine le_of_eq ?_; rw [hn]; done) | (refine le_of_eq ?_; rw [hn, paceE_three (by assumption)]; done)
def turnOK (w m n d t a b : Int) : Prop := paceOK w m n d ∧ (w ≤ t ∧ t ≤ 1000000) ∧ (1 ≤ a ∧ a ≤ 100) ∧ 1 ≤ b ∧ b ≤ 100
instance (w m n d t a b : Int) : Decidable (turnOK w m n d t a b) := by unfold turnOK; infer_instance
/-- Where Turn leads: whether it does; what is wrong. -/
def turnS (w m n d t a b : Int) : Bool × Int := if turnOK w m n d t a b then (if 1000000 < mediaAt w m n d t then (false, 2) else (true, 0)) else (false, 3)
def turnA (w m n d t a b : Int) : List AV := if (turnS w m n d t a b).1 = true then [I t, I (mediaAt w m n d t), I a, I b] else [I 0, I 0, I 0, I 0]
set_option maxHeartbeats 400000 in
theorem c_turn (w m n d t a b : Int) : PSpec Try.prog 23 [.agg [I w, I m, I n, I d], I t, I a, I b] (.tup [.agg (turnA w m n d t a b), I (turnS w m n d t a b).2]) := by
  have hE := paceE_iff (w := w) (m := m) (n := n) (d := d)
  refine v_pspec Try.func23 rfl Try.ntmps23 Try.results23 (by simp) (by unfold turnA; split <;> repeat constructor) ?_
  by_cases h : turnOK w m n d t a b
  · have e := hE.2 h.1
    have h2 := h.2
    have hp := h.1
    repeat' (first
    | with_reducible refine go_later ?_
    | (with_reducible refine w_reg (by decide +kernel) fun K1 hK => ?_)
    | (with_reducible refine w_reg_end (by decide +kernel) fun K1 hK => ?_)
    | ((with_reducible apply d_reg Try.mix (by decide +kernel)); (case hm => simp only [List.length_cons, List.length_nil, Nat.reduceAdd, Nat.reduceMul]; exact rfl); (case' h => intro K1 hK))
    | ((with_reducible apply d_reg_end Try.mix (by decide +kernel)); (case hm => simp only [List.length_cons, List.length_nil, Nat.reduceAdd, Nat.reduceMul]; exact rfl); (case' h => intro K1 hK))
    | ((with_reducible apply v_op Try.tab); (case hnb => (try simp only [Nat.reduceAdd, Nat.reduceMul]); exact rfl); (case hi => (try simp only [Nat.reduceAdd, Nat.reduceMul]); exact rfl); (case' h => intro K' h0 hw; conv => whnf))
    | ((with_reducible apply v_op0 Try.tab); (case hnb => (try simp only [Nat.reduceAdd, Nat.reduceMul]); exact rfl); (case hi => (try simp only [Nat.reduceAdd, Nat.reduceMul]); exact rfl); (case' h => intro K' h0 hw; conv => whnf))
    | ((with_reducible apply d_op Try.tab); (case hnb => (try simp only [Nat.reduceAdd, Nat.reduceMul]); exact rfl); (case hi => (try simp only [Nat.reduceAdd, Nat.reduceMul]); exact rfl); (case' h => intro K' h0 hw; conv => whnf))
    | ((with_reducible apply d_op0 Try.tab); (case hnb => (try simp only [Nat.reduceAdd, Nat.reduceMul]); exact rfl); (case hi => (try simp only [Nat.reduceAdd, Nat.reduceMul]); exact rfl); (case' h => intro K' h0 hw; conv => whnf))
    | ((with_reducible apply v_nil); (case hm => (try simp only [Nat.reduceAdd, Nat.reduceMul]); exact rfl); (case' h => with_reducible refine hK _ ?_; clear hK))
    | (with_reducible refine h0 _ _ ?_; clear h0 hw)
    | (with_reducible refine hw _ _ _ ?_; clear h0 hw)
    | ((with_reducible apply d_nil); (refine hK _ _ _ _ (by decide +kernel) ?_; clear hK))
    | (refine d_grd_yes (by rfl) (by rfl) ?_)
    | ((apply d_grd_no); (case hg => rfl); (case hb => rfl); (case hi => (try simp only [Nat.reduceAdd, Nat.reduceMul]); exact rfl))
    | ((apply d_grd_undef); (case hg => rfl); (case hb => rfl); (case hi => (try simp only [Nat.reduceAdd, Nat.reduceMul]); exact rfl))
    | ((apply d_grd); (case hg => rfl); (case hb => rfl); (case hi => (try simp only [Nat.reduceAdd, Nat.reduceMul]); exact rfl))
    | (refine v_grd_yes (by rfl) (by rfl) ?_)
    | ((apply v_grd_no); (case hg => rfl); (case hb => rfl); (case hi => (try simp only [Nat.reduceAdd, Nat.reduceMul]); exact rfl))
    | ((apply v_grd_undef); (case hg => rfl); (case hb => rfl); (case hi => (try simp only [Nat.reduceAdd, Nat.reduceMul]); exact rfl))
    | ((apply v_grd); (case hg => rfl); (case hb => rfl); (case hi => (try simp only [Nat.reduceAdd, Nat.reduceMul]); exact rfl))
    | ((with_reducible apply callV_f own46 (c_pcheck _ _ _ _)); (case hx => rfl); (case he => rfl); (case hle => first | ((repeat constructor); done) | (simp; done)); (case hpu => repeat constructor); (case' hK => conv => whnf))
    | ((with_reducible apply callV_f own47 (c_pwithin _ _ _)); (case hx => rfl); (case he => rfl); (case hle => first | ((repeat constructor); done) | (simp; done)); (case hpu => repeat constructor); (case' hK => conv => whnf))
    | ((with_reducible apply callV_f own48 (c_at _ _ _ _ _ hp h2.1.1 (by omega))); (case hx => rfl); (case he => rfl); (case hle => first | ((repeat constructor); done) | (simp; done)); (case hpu => repeat constructor); (case' hK => conv => whnf))
    | with_reducible refine go_ret ?_
    | with_reducible refine go_seq ?_
    | with_reducible refine go_skip ?_
    | with_reducible refine go_block ?_
    | with_reducible refine go_exit ?_
    | ((with_reducible apply go_cond); (case hb => rfl))
    | with_reducible refine out_seq_ret ?_
    | with_reducible refine out_seq_normal ?_
    | with_reducible refine out_seq_exit ?_
    | with_reducible refine out_block_ret ?_
    | with_reducible refine out_block_normal ?_
    | with_reducible refine out_block_here ?_
    | with_reducible refine out_loop_ret ?_
    | with_reducible refine out_loop_exit ?_
    | ((with_reducible apply out_block_there); (case hne => rfl))
    | ((with_reducible refine w_ret Try.tab fun K' hL => ?_); (conv => whnf))
    | ((with_reducible refine w_ret_end Try.tab fun K' hL => ?_); (conv => whnf))
    | (with_reducible refine hL _ ?_; clear hL)
    | ((with_reducible apply And.intro); (case' right => try (conv => whnf)); (case' left => try first | rfl | decide | (simp; done)))
    | ((with_reducible apply Side.mk); (try simp); (try omega))
    | ((with_reducible refine all_row ?_); (first | (have _y := hx5; clear _y; intro x6 hx6) | (have _y := hx4; clear _y; intro x5 hx5) | (have _y := hx3; clear _y; intro x4 hx4) | (have _y := hx2; clear _y; intro x3 hx3) | (have _y := hx1; clear _y; intro x2 hx2) | (intro x1 hx1)); conv => whnf)
    | ((with_reducible refine ⟨_, eqlT36 (by rfl) (by rfl), ?_⟩); conv => whnf)
    | ((with_reducible refine ⟨_, neqT36 (by rfl) (by rfl), ?_⟩); conv => whnf)
    | ((with_reducible refine ⟨_, eqlT45 (by rfl) (by rfl), ?_⟩); conv => whnf)
    | ((with_reducible refine ⟨_, neqT45 (by rfl) (by rfl), ?_⟩); conv => whnf)
    | ((with_reducible refine ⟨_, eqlT57 (by rfl) (by rfl), ?_⟩); conv => whnf)
    | ((with_reducible refine ⟨_, neqT57 (by rfl) (by rfl), ?_⟩); conv => whnf)
    | ((first | (have _y := g11; clear _y; intro g12; try simp at g12) | (have _y := g10; clear _y; intro g11; try simp at g11) | (have _y := g9; clear _y; intro g10; try simp at g10) | (have _y := g8; clear _y; intro g9; try simp at g9) | (have _y := g7; clear _y; intro g8; try simp at g8) | (have _y := g6; clear _y; intro g7; try simp at g7) | (have _y := g5; clear _y; intro g6; try simp at g6) | (have _y := g4; clear _y; intro g5; try simp at g5) | (have _y := g3; clear _y; intro g4; try simp at g4) | (have _y := g2; clear _y; intro g3; try simp at g3) | (have _y := g1; clear _y; intro g2; try simp at g2) | (intro g1; try simp at g1))))
    all_goals first
      | (exfalso; omega)
      | (have hb : 1000000 < mediaAt w m n d t := by omega
         exact le_of_eq (by simp [turnA, turnS, if_pos h, if_pos hb]))
      | (have hb : ¬ 1000000 < mediaAt w m n d t := by omega
         exact le_of_eq (by simp [turnA, turnS, if_pos h, if_neg hb]))
  · have hn : turnS w m n d t a b = (false, 3) := if_neg h
    repeat' (first
    | with_reducible refine go_later ?_
    | (with_reducible refine w_reg (by decide +kernel) fun K1 hK => ?_)
    | (with_reducible refine w_reg_end (by decide +kernel) fun K1 hK => ?_)
    | ((with_reducible apply d_reg Try.mix (by decide +kernel)); (case hm => simp only [List.length_cons, List.length_nil, Nat.reduceAdd, Nat.reduceMul]; exact rfl); (case' h => intro K1 hK))
    | ((with_reducible apply d_reg_end Try.mix (by decide +kernel)); (case hm => simp only [List.length_cons, List.length_nil, Nat.reduceAdd, Nat.reduceMul]; exact rfl); (case' h => intro K1 hK))
    | ((with_reducible apply v_op Try.tab); (case hnb => (try simp only [Nat.reduceAdd, Nat.reduceMul]); exact rfl); (case hi => (try simp only [Nat.reduceAdd, Nat.reduceMul]); exact rfl); (case' h => intro K' h0 hw; conv => whnf))
    | ((with_reducible apply v_op0 Try.tab); (case hnb => (try simp only [Nat.reduceAdd, Nat.reduceMul]); exact rfl); (case hi => (try simp only [Nat.reduceAdd, Nat.reduceMul]); exact rfl); (case' h => intro K' h0 hw; conv => whnf))
    | ((with_reducible apply d_op Try.tab); (case hnb => (try simp only [Nat.reduceAdd, Nat.reduceMul]); exact rfl); (case hi => (try simp only [Nat.reduceAdd, Nat.reduceMul]); exact rfl); (case' h => intro K' h0 hw; conv => whnf))
    | ((with_reducible apply d_op0 Try.tab); (case hnb => (try simp only [Nat.reduceAdd, Nat.reduceMul]); exact rfl); (case hi => (try simp only [Nat.reduceAdd, Nat.reduceMul]); exact rfl); (case' h => intro K' h0 hw; conv => whnf))
    | ((with_reducible apply v_nil); (case hm => (try simp only [Nat.reduceAdd, Nat.reduceMul]); exact rfl); (case' h => with_reducible refine hK _ ?_; clear hK))
    | (with_reducible refine h0 _ _ ?_; clear h0 hw)
    | (with_reducible refine hw _ _ _ ?_; clear h0 hw)
    | ((with_reducible apply d_nil); (refine hK _ _ _ _ (by decide +kernel) ?_; clear hK))
    | (refine d_grd_yes (by rfl) (by rfl) ?_)
    | ((apply d_grd_no); (case hg => rfl); (case hb => rfl); (case hi => (try simp only [Nat.reduceAdd, Nat.reduceMul]); exact rfl))
    | ((apply d_grd_undef); (case hg => rfl); (case hb => rfl); (case hi => (try simp only [Nat.reduceAdd, Nat.reduceMul]); exact rfl))
    | ((apply d_grd); (case hg => rfl); (case hb => rfl); (case hi => (try simp only [Nat.reduceAdd, Nat.reduceMul]); exact rfl))
    | (refine v_grd_yes (by rfl) (by rfl) ?_)
    | ((apply v_grd_no); (case hg => rfl); (case hb => rfl); (case hi => (try simp only [Nat.reduceAdd, Nat.reduceMul]); exact rfl))
    | ((apply v_grd_undef); (case hg => rfl); (case hb => rfl); (case hi => (try simp only [Nat.reduceAdd, Nat.reduceMul]); exact rfl))
    | ((apply v_grd); (case hg => rfl); (case hb => rfl); (case hi => (try simp only [Nat.reduceAdd, Nat.reduceMul]); exact rfl))
    | ((with_reducible apply callV_f own46 (c_pcheck _ _ _ _)); (case hx => rfl); (case he => rfl); (case hle => first | ((repeat constructor); done) | (simp; done)); (case hpu => repeat constructor); (case' hK => conv => whnf))
    | ((with_reducible apply callV_f own47 (c_pwithin _ _ _)); (case hx => rfl); (case he => rfl); (case hle => first | ((repeat constructor); done) | (simp; done)); (case hpu => repeat constructor); (case' hK => conv => whnf))
    | with_reducible refine go_ret ?_
    | with_reducible refine go_seq ?_
    | with_reducible refine go_skip ?_
    | with_reducible refine go_block ?_
    | with_reducible refine go_exit ?_
    | ((with_reducible apply go_cond); (case hb => rfl))
    | with_reducible refine out_seq_ret ?_
    | with_reducible refine out_seq_normal ?_
    | with_reducible refine out_seq_exit ?_
    | with_reducible refine out_block_ret ?_
    | with_reducible refine out_block_normal ?_
    | with_reducible refine out_block_here ?_
    | with_reducible refine out_loop_ret ?_
    | with_reducible refine out_loop_exit ?_
    | ((with_reducible apply out_block_there); (case hne => rfl))
    | ((with_reducible refine w_ret Try.tab fun K' hL => ?_); (conv => whnf))
    | ((with_reducible refine w_ret_end Try.tab fun K' hL => ?_); (conv => whnf))
    | (with_reducible refine hL _ ?_; clear hL)
    | ((with_reducible apply And.intro); (case' right => try (conv => whnf)); (case' left => try first | rfl | decide | (simp; done)))
    | ((with_reducible apply Side.mk); (try simp); (try omega))
    | ((with_reducible refine all_row ?_); (first | (have _y := hx5; clear _y; intro x6 hx6) | (have _y := hx4; clear _y; intro x5 hx5) | (have _y := hx3; clear _y; intro x4 hx4) | (have _y := hx2; clear _y; intro x3 hx3) | (have _y := hx1; clear _y; intro x2 hx2) | (intro x1 hx1)); conv => whnf)
    | ((with_reducible refine ⟨_, eqlT36 (by rfl) (by rfl), ?_⟩); conv => whnf)
    | ((with_reducible refine ⟨_, neqT36 (by rfl) (by rfl), ?_⟩); conv => whnf)
    | ((with_reducible refine ⟨_, eqlT45 (by rfl) (by rfl), ?_⟩); conv => whnf)
    | ((with_reducible refine ⟨_, neqT45 (by rfl) (by rfl), ?_⟩); conv => whnf)
    | ((with_reducible refine ⟨_, eqlT57 (by rfl) (by rfl), ?_⟩); conv => whnf)
    | ((with_reducible refine ⟨_, neqT57 (by rfl) (by rfl), ?_⟩); conv => whnf)
    | ((first | (have _y := g11; clear _y; intro g12; try simp at g12) | (have _y := g10; clear _y; intro g11; try simp at g11) | (have _y := g9; clear _y; intro g10; try simp at g10) | (have _y := g8; clear _y; intro g9; try simp at g9) | (have _y := g7; clear _y; intro g8; try simp at g8) | (have _y := g6; clear _y; intro g7; try simp at g7) | (have _y := g5; clear _y; intro g6; try simp at g6) | (have _y := g4; clear _y; intro g5; try simp at g5) | (have _y := g3; clear _y; intro g4; try simp at g4) | (have _y := g2; clear _y; intro g3; try simp at g3) | (have _y := g1; clear _y; intro g2; try simp at g2) | (intro g1; try simp at g1))))
    all_goals first
      | (exfalso; exact h ⟨hE.1 (by omega), by omega, by omega, by omega⟩)
      | (exfalso; omega)
      | (have e2 : paceE w m n d = 3 := by unfold paceE at *; split at * <;> simp_all
         exact le_of_eq (by simp [turnA, hn, e2]))
      | exact le_of_eq (by simp [turnA, hn])
end Go.Proofs.Ytgndmmbbhfmegaa

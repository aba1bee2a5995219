/- The document's PutOf and FlushOf, walked. No condition. -/
import Derived.Test.YtlehonipilpfdaaBuf5
namespace Go.Proofs.Ytlehonipilpfdaa
open Go Go.Sy
set_option maxRecDepth 4000
set_option linter.unusedSimpArgs false
set_option linter.unusedVariables false
attribute [local irreducible] Reg RegD Later Out CallV Tri Side EqV
theorem c_putOf (b : Bf) (x : Slt) (hb : bufE b = 0) (hx : sltE x = 0) : PSpec Try.prog 26 [.agg (bfC b), .agg (sltC x)] (relT (rawB b x)) := by
  by_cases hc : nextS b x ≤ x.n ∧ hasS b.held x.n = false
  · obtain ⟨p1, p2, p3, p4⟩ := bufE_ok hb
    rw [rawB, if_pos hc]
    obtain ⟨h1, h2⟩ := hc
    have hne : ∀ y ∈ b.held, y.n ≠ x.n := by simpa [hasS] using h2
    rcases hh : b.held with _ | ⟨a1, _ | ⟨a2, _ | ⟨a3, _ | ⟨a4, _ | ⟨a5, l⟩⟩⟩⟩⟩
    all_goals rw [hh] at hne p2 p4
    all_goals simp at hne p2 p4
    · have h := c_putOf0 b x hb hx hh h1; rw [hh] at h; exact h
    · have h := c_putOf1 b x a1 hb hx hh h1 hne; rw [hh] at h; exact h
    · have h := c_putOf2 b x a1 a2 hb hx hh h1 hne.1 hne.2 p4; rw [hh] at h; exact h
    · have h := c_putOf3 b x a1 a2 a3 hb hx hh h1 hne.1 hne.2.1 hne.2.2 p4.1.1 p4.2; rw [hh] at h; exact h
    · have h := c_putOf4 b x a1 a2 a3 a4 hb hx hh h1 hne.1 hne.2.1 hne.2.2.1 hne.2.2.2 p4.1.1 p4.2.1.1 p4.2.2; rw [hh] at h; exact h
  · rw [rawB, if_neg hc]; exact c_putOfN b x hb hx hc
set_option maxHeartbeats 1000000 in
theorem c_flushOf (b : Bf) (hb : bufE b = 0) : PSpec Try.prog 27 [.agg (bfC b)] (relT (relS 0 b.next b.held [])) := by
  obtain ⟨p1, p2, p3, p4⟩ := bufE_ok hb
  have hh : ∀ a ∈ b.held, 0 ≤ a.n ∧ a.n ≤ 1000000000000 := fun a ha => by have := (sltE_ok (p3 a ha).1).1; omega
  have hr := c_released 0 b.next b.held (by omega) (by omega) (by omega) hh
  refine v_pspec Try.func27 rfl Try.ntmps27 Try.results27 (by simp) (by first | exact .s _ | repeat constructor) ?_
  repeat' (first
    | (with_reducible first | refine go_later ?_ | (refine h0 _ _ ?_; clear h0 hw) | (refine hw _ _ _ ?_; clear h0 hw) | refine go_ret ?_ | refine go_skip ?_ | refine go_block ?_ | refine go_exit ?_ | refine out_seq_ret ?_ | refine out_seq_normal ?_ | refine out_seq_exit ?_ | refine out_block_ret ?_ | refine out_block_normal ?_ | refine out_block_here ?_ | refine out_loop_ret ?_ | refine out_loop_exit ?_ | refine out_loopR_ret ?_ | refine out_loopR_exit ?_ | refine out_seq_panic ?_ | refine out_block_panic ?_ | refine out_loop_panic ?_ | (refine hL _ ?_; clear hL))
    | (with_reducible first | refine w_reg (by decide +kernel) fun K1 hK => ?_ | refine w_reg_end (by decide +kernel) fun K1 hK => ?_)
    | ((with_reducible first | apply d_reg Try.mix (by decide +kernel) | apply d_reg_end Try.mix (by decide +kernel)); (case hm => simp only [List.length_cons, List.length_nil, Nat.reduceAdd, Nat.reduceMul]; rfl); (case' h => intro K1 hK))
    | with_reducible refine go_seq ?_
    | ((with_reducible first | apply v_op Try.tab | apply v_op0 Try.tab | apply d_op Try.tab | apply d_op0 Try.tab) <;> first | (intro K' h0 hw; conv => whnf) | (simp only [Nat.reduceAdd, Nat.reduceMul]; rfl))
    | ((with_reducible apply v_nil); (case hm => (simp only [Nat.reduceAdd, Nat.reduceMul]; rfl)); (case' h => with_reducible refine hK _ ?_; clear hK))
    | ((with_reducible apply d_nil); (refine hK _ _ _ _ (by first | decide +kernel | (simp only [List.map_cons, List.map_nil, List.nil_append, List.cons_append]; decide +kernel) | rfl) ?_; clear hK))
    | (first | refine d_grd_yes (by rfl) (by rfl) ?_ | refine v_grd_yes (by rfl) (by rfl) ?_)
    | (apply d_grd_no; (case hg => rfl); (case hb => rfl); (case hi => (simp only [Nat.reduceAdd, Nat.reduceMul]; rfl)))
    | (apply d_grd_undef; (case hg => rfl); (case hb => rfl); (case hi => (simp only [Nat.reduceAdd, Nat.reduceMul]; rfl)))
    | (apply d_grd; (case hg => rfl); (case hb => rfl); (case hi => (simp only [Nat.reduceAdd, Nat.reduceMul]; rfl)))
    | (apply v_grd_no; (case hg => rfl); (case hb => rfl); (case hi => (simp only [Nat.reduceAdd, Nat.reduceMul]; rfl)))
    | (apply v_grd_undef; (case hg => rfl); (case hb => rfl); (case hi => (simp only [Nat.reduceAdd, Nat.reduceMul]; rfl)))
    | (apply v_grd; (case hg => rfl); (case hb => rfl); (case hi => (simp only [Nat.reduceAdd, Nat.reduceMul]; rfl)))
    | ((with_reducible refine callV_id (f := 63) ?_); have hcs_ := hr; (with_reducible apply callV_f own63 (hcs_)); (case hx => rfl); (case he => rfl); (case hle => first | ((repeat constructor); done) | (simp; done)); (case hpu => repeat constructor); (case' hK => (try clear hcs_); conv => whnf))
    | ((with_reducible apply go_cond); (case hb => rfl))
    | ((with_reducible apply out_block_there); (case hne => rfl))
    | ((with_reducible first | refine w_ret Try.tab fun K' hL => ?_ | refine w_ret_end Try.tab fun K' hL => ?_); (conv => whnf))
    | ((with_reducible apply And.intro); (case' right => try (conv => whnf)); (case' left => try first | rfl | decide | (simp; done) | (simp (disch := omega) only [wrp]; omega) | (simp (disch := omega) [wrp]; (try omega); done)))
    | ((with_reducible apply Side.mk); (try simp (disch := omega) only [wrp]); (try simp); (try simp (disch := omega) only [wrp]); (try omega))
    | ((with_reducible apply all_rk); (case hx => with_reducible assumption); (conv => whnf))
    | ((with_reducible refine all_row ?_); (first | (have _y := hx5; clear _y; intro x6 hx6) | (have _y := hx4; clear _y; intro x5 hx5) | (have _y := hx3; clear _y; intro x4 hx4) | (have _y := hx2; clear _y; intro x3 hx3) | (have _y := hx1; clear _y; intro x2 hx2) | (intro x1 hx1)); conv => whnf)
    | (refine ⟨_, eqAT (by rfl) (by rfl) (by rfl) (by rfl), ?_⟩; conv => whnf)
    | ((first | (have _y := g9; clear _y; intro g10; try simp at g10) | (have _y := g8; clear _y; intro g9; try simp at g9) | (have _y := g7; clear _y; intro g8; try simp at g8) | (have _y := g6; clear _y; intro g7; try simp at g7) | (have _y := g5; clear _y; intro g6; try simp at g6) | (have _y := g4; clear _y; intro g5; try simp at g5) | (have _y := g3; clear _y; intro g4; try simp at g4) | (have _y := g2; clear _y; intro g3; try simp at g3) | (have _y := g1; clear _y; intro g2; try simp at g2) | (intro g1; try simp at g1))))
  all_goals repeat constructor
end Go.Proofs.Ytlehonipilpfdaa

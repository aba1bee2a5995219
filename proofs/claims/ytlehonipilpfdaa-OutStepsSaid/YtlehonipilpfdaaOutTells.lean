/- OutTells, walked. No condition. -/
import Derived.Test.YtlehonipilpfdaaOut2
import Derived.Test.YtlehonipilpfdaaPic
namespace Go.Proofs.Ytlehonipilpfdaa
open Go Go.Sy
set_option maxRecDepth 4000
set_option linter.unusedSimpArgs false
set_option linter.unusedVariables false
attribute [local irreducible] Reg RegD Later Out CallV Tri Side EqV
theorem o1 : PSpec Try.prog 13 [.agg (ouC ⟨0, 0, 0⟩), .agg (frC ⟨500, true, [abc]⟩), B false] (outT (⟨1, 10, -490⟩, [⟨1, 10, true, true, true, abc⟩], 0)) := by
  have h := c_send ⟨0, 0, 0⟩ ⟨500, true, [abc]⟩ false (by decide)
  rwa [show sendS ⟨0, 0, 0⟩ ⟨500, true, [abc]⟩ false = (⟨1, 10, -490⟩, [⟨1, 10, true, true, true, abc⟩], 0) by kernel_rfl] at h
theorem o2 : PSpec Try.prog 13 [.agg (ouC ⟨1, 10, -490⟩), .agg (frC ⟨503, false, [abc]⟩), B false] (outT (⟨2, 13, -490⟩, [⟨2, 13, true, true, false, abc⟩], 0)) := by
  have h := c_send ⟨1, 10, -490⟩ ⟨503, false, [abc]⟩ false (by decide)
  rwa [show sendS ⟨1, 10, -490⟩ ⟨503, false, [abc]⟩ false = (⟨2, 13, -490⟩, [⟨2, 13, true, true, false, abc⟩], 0) by kernel_rfl] at h
theorem o3 : PSpec Try.prog 13 [.agg (ouC ⟨2, 13, -490⟩), .agg (frC ⟨2, true, [abc]⟩), B true] (outT (⟨3, 23, 21⟩, [⟨3, 23, true, true, true, abc⟩], 0)) := by
  have h := c_send ⟨2, 13, -490⟩ ⟨2, true, [abc]⟩ true (by decide)
  rwa [show sendS ⟨2, 13, -490⟩ ⟨2, true, [abc]⟩ true = (⟨3, 23, 21⟩, [⟨3, 23, true, true, true, abc⟩], 0) by kernel_rfl] at h
theorem o4 : PSpec Try.prog 13 [.agg (ouC ⟨2, 13, -490⟩), .agg (frC ⟨2, true, [abc]⟩), B false] (outT (⟨0, 0, 0⟩, [], 4)) := by
  have h := c_send ⟨2, 13, -490⟩ ⟨2, true, [abc]⟩ false (by decide)
  rwa [show sendS ⟨2, 13, -490⟩ ⟨2, true, [abc]⟩ false = (⟨0, 0, 0⟩, [], 4) by kernel_rfl] at h
theorem o5 : PSpec Try.prog 45 [.agg (ouC ⟨3, 23, 21⟩)] (I 0) := by
  have h := c_outCheck ⟨3, 23, 21⟩
  rwa [show outE ⟨3, 23, 21⟩ = 0 by kernel_rfl] at h
set_option maxHeartbeats 1000000 in
theorem c_outBegun : PSpec Try.prog 12 [] (B true) := by
  refine v_pspec Try.func12 rfl Try.ntmps12 Try.results12 (by simp) (by first | exact .s _ | repeat constructor) ?_
  repeat' (first
    | (with_reducible first | refine go_later ?_ | (refine h0 _ _ ?_; clear h0 hw) | (refine hw _ _ _ ?_; clear h0 hw) | refine go_ret ?_ | refine go_skip ?_ | refine go_block ?_ | refine go_exit ?_ | refine out_seq_ret ?_ | refine out_seq_normal ?_ | refine out_seq_exit ?_ | refine out_block_ret ?_ | refine out_block_normal ?_ | refine out_block_here ?_ | refine out_loop_ret ?_ | refine out_loop_exit ?_ | refine out_loopR_ret ?_ | refine out_loopR_exit ?_ | refine out_seq_panic ?_ | refine out_block_panic ?_ | refine out_loop_panic ?_ | (refine hL _ ?_; clear hL))
    | (with_reducible first | refine w_reg (by decide +kernel) fun K1 hK => ?_ | refine w_reg_end (by decide +kernel) fun K1 hK => ?_)
    | ((with_reducible first | apply d_reg Try.mix (by decide +kernel) | apply d_reg_end Try.mix (by decide +kernel)); (case hm => simp only [List.length_cons, List.length_nil, Nat.reduceAdd, Nat.reduceMul]; rfl); (case' h => intro K1 hK))
    | with_reducible refine go_seq ?_
    | ((with_reducible first | apply v_op Try.tab | apply v_op0 Try.tab | apply d_op Try.tab | apply d_op0 Try.tab) <;> first | (intro K' h0 hw; conv => whnf) | (simp only [Nat.reduceAdd, Nat.reduceMul]; rfl))
    | ((with_reducible apply v_nil); (case hm => (simp only [Nat.reduceAdd, Nat.reduceMul]; rfl)); (case' h => with_reducible refine hK _ ?_; clear hK))
    | ((with_reducible apply d_nil); (refine hK _ _ _ _ (by first | decide +kernel | (simp only [List.map_cons, List.map_nil, List.nil_append, List.cons_append]; decide +kernel) | rfl) ?_; clear hK))
    | (first | refine d_grd_yes (by rfl) (by rfl) ?_ | refine v_grd_yes (by rfl) (by rfl) ?_)
    | (apply d_grd_no; (case hg => rfl); (case hb => rfl); (case hi => (simp only [Nat.reduceAdd, Nat.reduceMul]; rfl)))
    | (apply d_grd_undef; (case hg => rfl); (case hb => rfl); (case hi => (simp only [Nat.reduceAdd, Nat.reduceMul]; rfl)))
    | (apply d_grd; (case hg => rfl); (case hb => rfl); (case hi => (simp only [Nat.reduceAdd, Nat.reduceMul]; rfl)))
    | (apply v_grd_no; (case hg => rfl); (case hb => rfl); (case hi => (simp only [Nat.reduceAdd, Nat.reduceMul]; rfl)))
    | (apply v_grd_undef; (case hg => rfl); (case hb => rfl); (case hi => (simp only [Nat.reduceAdd, Nat.reduceMul]; rfl)))
    | (apply v_grd; (case hg => rfl); (case hb => rfl); (case hi => (simp only [Nat.reduceAdd, Nat.reduceMul]; rfl)))
    | ((with_reducible refine callV_id (f := 44) ?_); (with_reducible apply callV_f own44 (c_pic _ _)); (case hx => rfl); (case he => rfl); (case hle => first | ((repeat constructor); done) | (simp; done)); (case hpu => repeat constructor); (case' hK => (try clear hcs_); conv => whnf))
    | ((with_reducible refine callV_id (f := 13) ?_); have hcs_ := o1; (with_reducible apply callV_f own13 (hcs_)); (case hx => rfl); (case he => rfl); (case hle => first | ((repeat constructor); done) | (simp; done)); (case hpu => repeat constructor); (case' hK => (try clear hcs_); conv => whnf))
    | ((with_reducible refine callV_id (f := 13) ?_); have hcs_ := o2; (with_reducible apply callV_f own13 (hcs_)); (case hx => rfl); (case he => rfl); (case hle => first | ((repeat constructor); done) | (simp; done)); (case hpu => repeat constructor); (case' hK => (try clear hcs_); conv => whnf))
    | ((with_reducible refine callV_id (f := 13) ?_); have hcs_ := o3; (with_reducible apply callV_f own13 (hcs_)); (case hx => rfl); (case he => rfl); (case hle => first | ((repeat constructor); done) | (simp; done)); (case hpu => repeat constructor); (case' hK => (try clear hcs_); conv => whnf))
    | ((with_reducible refine callV_id (f := 13) ?_); have hcs_ := o4; (with_reducible apply callV_f own13 (hcs_)); (case hx => rfl); (case he => rfl); (case hle => first | ((repeat constructor); done) | (simp; done)); (case hpu => repeat constructor); (case' hK => (try clear hcs_); conv => whnf))
    | ((with_reducible refine callV_id (f := 45) ?_); have hcs_ := o5; (with_reducible apply callV_f own45 (hcs_)); (case hx => rfl); (case he => rfl); (case hle => first | ((repeat constructor); done) | (simp; done)); (case hpu => repeat constructor); (case' hK => (try clear hcs_); conv => whnf))
    | ((with_reducible apply go_cond); (case hb => rfl))
    | ((with_reducible apply out_block_there); (case hne => rfl))
    | ((with_reducible first | refine w_ret Try.tab fun K' hL => ?_ | refine w_ret_end Try.tab fun K' hL => ?_); (conv => whnf))
    | ((with_reducible apply And.intro); (case' right => try (conv => whnf)); (case' left => try first | rfl | decide | (simp; done)))
    | ((with_reducible apply Side.mk); (try simp (disch := omega) only [wrp]); (try simp); (try omega))
    | ((with_reducible apply all_rk); (case hx => with_reducible assumption); (conv => whnf))
    | ((with_reducible refine all_row ?_); (first | (have _y := hx5; clear _y; intro x6 hx6) | (have _y := hx4; clear _y; intro x5 hx5) | (have _y := hx3; clear _y; intro x4 hx4) | (have _y := hx2; clear _y; intro x3 hx3) | (have _y := hx1; clear _y; intro x2 hx2) | (intro x1 hx1)); conv => whnf)
    | (refine ⟨_, eqAT (by rfl) (by rfl) (by rfl) (by rfl), ?_⟩; conv => whnf)
    | ((first | (have _y := g9; clear _y; intro g10; try simp at g10) | (have _y := g8; clear _y; intro g9; try simp at g9) | (have _y := g7; clear _y; intro g8; try simp at g8) | (have _y := g6; clear _y; intro g7; try simp at g7) | (have _y := g5; clear _y; intro g6; try simp at g6) | (have _y := g4; clear _y; intro g5; try simp at g5) | (have _y := g3; clear _y; intro g4; try simp at g4) | (have _y := g2; clear _y; intro g3; try simp at g3) | (have _y := g1; clear _y; intro g2; try simp at g2) | (intro g1; try simp at g1))))
  all_goals first | exact .refl _ | (exfalso; simp at *; subst_vars; simp at *; done) | (exfalso; simp at *; subst_vars; contradiction)
end Go.Proofs.Ytlehonipilpfdaa

/- Walks of package count. No condition. -/
import Derived.Test.YtbhcjgobapnajaaTab
import Derived.Test.YtbhcjgobapnajaaOwn
import Derived.Test.YtbhcjgobapnajaaSim
namespace Go.Proofs.Ytbhcjgobapnajaa
open Go Go.Sy
set_option maxRecDepth 4000
set_option linter.unusedSimpArgs false
set_option linter.unusedVariables false
attribute [local irreducible] Reg Later Out CallV Tri
def rightB (n : Int) : Bool := decide (65536 ≤ n ∧ n ≤ 1000000000)
set_option maxHeartbeats 100000 in
theorem c_right (n : Int) : PSpec Try.prog 90 [I n] (B (rightB n)) := by
  refine v_pspec Try.func90 rfl Try.ntmps90 Try.results90 (by simp) (by first | exact .s _ | repeat constructor) ?_
  repeat' (first
 | (with_reducible first | apply qz0 | (refine h0 _ _ ?_; clear h0 hw) | apply qz1 | (refine hL _ ?_; clear hL))
 | (with_reducible first | refine w_reg (by decide +kernel) fun K1 hK => ?_ )
 | ((with_reducible first | apply v_op Try.tab ) <;> first | (intro K' h0 hw; conv => whnf) | (simp only [Nat.reduceAdd, Nat.reduceMul]; rfl))
 | ((with_reducible apply v_nil); (case hm => (simp only [Nat.reduceAdd, Nat.reduceMul]; rfl)); (case' h => with_reducible refine hK _ ?_; clear hK))
 | (first | refine v_grd_yes (by rfl) (by rfl) ?_)
 | ((first | (apply v_grd_no; (case hg => rfl); (case hb => rfl)) | (apply v_grd; (case hg => rfl); (case hb => rfl))); (case hi => (simp only [Nat.reduceAdd, Nat.reduceMul]; rfl)))
 | ((with_reducible first | refine w_ret Try.tab fun K' hL => ?_ ); (conv => whnf))
 | (first  | intro g1; try simp at g1))
  all_goals (simp [rightB, le_s]; try omega)
def wrapS (n : Int) : Int × Int := if rightB n = true then (n % 65536, 0) else (0, 3)
set_option maxHeartbeats 400000 in
theorem c_wrap (n : Int) : PSpec Try.prog 165 [I n] (.tup [I (wrapS n).1, I (wrapS n).2]) := by
  refine v_pspec Try.func165 rfl Try.ntmps165 Try.results165 (by simp) (by first | exact .s _ | repeat constructor) ?_
  repeat' (first
 | (with_reducible first | apply qz0 | (refine h0 _ _ ?_; clear h0 hw) | apply qz1 | apply qz2 | apply qz5 | apply qz6 | (refine hL _ ?_; clear hL))
 | (with_reducible first | refine w_reg (by decide +kernel) fun K1 hK => ?_ )
 | with_reducible refine go_seq ?_
 | ((with_reducible first | apply v_op Try.tab ) <;> first | (intro K' h0 hw; conv => whnf) | (simp only [Nat.reduceAdd, Nat.reduceMul]; rfl))
 | ((with_reducible apply v_nil); (case hm => (simp only [Nat.reduceAdd, Nat.reduceMul]; rfl)); (case' h => with_reducible refine hK _ ?_; clear hK))
 | ((with_reducible refine callV_id (f := 90) ?_); (with_reducible apply callV_f own90 (c_right _)); (case hx => rfl); (case he => rfl); (case hle => first | ((repeat constructor); done) ); (case hpu => repeat constructor); (case' hK => conv => whnf))
 | ((with_reducible apply go_cond); (case hb => rfl))
 | ((with_reducible first | refine w_ret Try.tab fun K' hL => ?_ ); (conv => whnf))
 | ((with_reducible apply And.intro); (case' right => try (conv => whnf)); (case' left => try first | rfl | decide | (simp; done) | (simp (disch := omega) only [wrp]; omega) | (simp (disch := omega) [wrp]; (try omega); done)))
 | ((with_reducible apply Side.mk); (try simp (disch := omega) only [wrp]); (try simp); (try simp (disch := omega) only [wrp]); (try omega))
 | (first  | intro g1; try simp at g1))
  all_goals (refine le_of_eq ?_; simp only [wrapS]; simp only [rightB, decide_eq_true_eq, decide_eq_false_iff_not] at *)
  all_goals (try simp (disch := omega) only [tmp, wrp] at *)
  all_goals (split <;> simp <;> omega)
end Go.Proofs.Ytbhcjgobapnajaa

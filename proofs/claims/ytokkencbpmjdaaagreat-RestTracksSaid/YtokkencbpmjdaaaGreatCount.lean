/- Walks of package count. No condition. -/
import Derived.Test.YtokkencbpmjdaaaGreatTab
import Derived.Test.YtokkencbpmjdaaaGreatOwn
import Derived.Test.YtokkencbpmjdaaaGreatSim
namespace Go.Proofs.YtokkencbpmjdaaaGreat
open Go Go.Sy
set_option maxRecDepth 4000
set_option linter.unusedSimpArgs false
set_option linter.unusedVariables false
attribute [local irreducible] Reg Later Out CallV Tri
def rightB (n : Int) : Bool := decide (65536 ≤ n ∧ n ≤ 1000000000)
set_option maxHeartbeats 100000 in
theorem c_right (n : Int) : PSpec Tryz.prog 50 [I n] (B (rightB n)) := by
  refine p_pspec Tryz.func50 Tryz.ntmps50 Tryz.results50 ?_
  repeat' (first
 | (with_reducible first | apply qz0 | (refine h0 _ _ ?_; clear h0 hw) | apply qz1 | (refine hL _ ?_; clear hL))
 | refine p_reg fun K1 hK => ?_
 | (refine p_op Tryz.tab fun K' h0 hw => ?_; conv => whnf)
 | (refine p_nil (hK _ ?_); clear hK)
 | (first | refine v_grd_yes (by rfl) (by rfl) ?_)
 | ((first | (apply v_grd_no; (case hg => rfl); (case hb => rfl)) | (apply v_grd; (case hg => rfl); (case hb => rfl))); (case hi => (simp only [Nat.reduceAdd, Nat.reduceMul]; rfl)))
 | ((with_reducible first | refine w_ret Tryz.tab fun K' hL => ?_ ); (conv => whnf))
 | (first  | intro g1; try simp at g1))
  all_goals (simp [rightB, le_s]; try omega)
def unwrapN (last seq : Int) : Int := last + (seq - last % 65536 + 65536) % 65536 - (if 32768 < (seq - last % 65536 + 65536) % 65536 then 65536 else 0)
def unwrapS (last seq : Int) : Int × Int := if rightB last = true ∧ 0 ≤ seq ∧ seq ≤ 65535 ∧ rightB (unwrapN last seq) = true then (unwrapN last seq, 0) else (0, 3)
set_option maxHeartbeats 400000 in
theorem c_unwrap (last seq : Int) : PSpec Tryz.prog 47 [I last, I seq] (.tup [I (unwrapS last seq).1, I (unwrapS last seq).2]) := by
  refine p_pspec Tryz.func47 Tryz.ntmps47 Tryz.results47 ?_
  repeat' (first
 | (with_reducible first | apply qz0 | (refine h0 _ _ ?_; clear h0 hw) | apply qz1 | apply qz2 | apply qz5 | apply qz6 | (refine hL _ ?_; clear hL))
 | refine p_reg fun K1 hK => ?_ | refine p_regE fun K1 hK => ?_
 | apply go_seq
 | (refine p_op Tryz.tab fun K' h0 hw => ?_; conv => whnf)
 | (refine p_nil (hK _ ?_); clear hK)
 | (first | refine v_grd_yes (by rfl) (by rfl) ?_)
 | ((first | (apply v_grd_no; (case hg => rfl); (case hb => rfl)) | (apply v_grd; (case hg => rfl); (case hb => rfl))); (case hi => (simp only [Nat.reduceAdd, Nat.reduceMul]; rfl)))
 | (refine p_call own50 (c_right _) ?_; conv => whnf)
 | ((with_reducible apply go_cond); (case hb => rfl))
 | ((with_reducible first | refine w_ret Tryz.tab fun K' hL => ?_ ); (conv => whnf))
 | ((with_reducible apply And.intro); (case' right => try (conv => whnf)); (case' left => try first | rfl | decide | (simp; done) | (simp (disch := omega) only [wrp]; omega) | (simp (disch := omega) [wrp]; (try omega); done)))
 | exact p_side
 | (first  | intro g1; try simp at g1))
  all_goals (refine le_of_eq ?_; simp only [rightB, decide_eq_true_eq, decide_eq_false_iff_not] at *; simp only [unwrapS, unwrapN, rightB, I, AV.tup.injEq, List.cons.injEq, AV.s.injEq, Value.int.injEq, true_and, and_true, decide_eq_true_eq])
  all_goals (try simp (disch := omega) only [tmp, wrp] at *)
  all_goals (split <;> simp <;> (try simp at *) <;> (try split at *) <;> omega)
def wrapS (n : Int) : Int × Int := if rightB n = true then (n % 65536, 0) else (0, 3)
set_option maxHeartbeats 400000 in
theorem c_wrap (n : Int) : PSpec Tryz.prog 112 [I n] (.tup [I (wrapS n).1, I (wrapS n).2]) := by
  refine p_pspec Tryz.func112 Tryz.ntmps112 Tryz.results112 ?_
  repeat' (first
 | (with_reducible first | apply qz0 | (refine h0 _ _ ?_; clear h0 hw) | apply qz1 | apply qz2 | apply qz5 | apply qz6 | (refine hL _ ?_; clear hL))
 | refine p_reg fun K1 hK => ?_
 | apply go_seq
 | (refine p_op Tryz.tab fun K' h0 hw => ?_; conv => whnf)
 | (refine p_nil (hK _ ?_); clear hK)
 | (refine p_call own50 (c_right _) ?_; conv => whnf)
 | ((with_reducible apply go_cond); (case hb => rfl))
 | ((with_reducible first | refine w_ret Tryz.tab fun K' hL => ?_ ); (conv => whnf))
 | ((with_reducible apply And.intro); (case' right => try (conv => whnf)); (case' left => try first | rfl | decide | (simp; done) | (simp (disch := omega) only [wrp]; omega) | (simp (disch := omega) [wrp]; (try omega); done)))
 | exact p_side
 | (first  | intro g1; try simp at g1))
  all_goals (refine le_of_eq ?_; simp only [wrapS]; simp only [rightB, decide_eq_true_eq, decide_eq_false_iff_not] at *)
  all_goals (try simp (disch := omega) only [tmp, wrp] at *)
  all_goals (split <;> simp <;> omega)
set_option maxHeartbeats 400000 in
theorem c_between (n lo hi : Int) : PSpec Tryz.prog 30 [I n, I lo, I hi] (B (decide (lo ≤ n ∧ n ≤ hi))) := by
  refine p_pspec Tryz.func30 Tryz.ntmps30 Tryz.results30 ?_
  repeat' (first
 | (with_reducible first | apply qz0 | (refine h0 _ _ ?_; clear h0 hw) | apply qz1 | (refine hL _ ?_; clear hL))
 | refine p_reg fun K1 hK => ?_
 | (refine p_op Tryz.tab fun K' h0 hw => ?_; conv => whnf)
 | (refine p_nil (hK _ ?_); clear hK)
 | (first | refine v_grd_yes (by rfl) (by rfl) ?_)
 | ((first | (apply v_grd_no; (case hg => rfl); (case hb => rfl)) | (apply v_grd; (case hg => rfl); (case hb => rfl))); (case hi => (simp only [Nat.reduceAdd, Nat.reduceMul]; rfl)))
 | ((with_reducible first | refine w_ret Tryz.tab fun K' hL => ?_ ); (conv => whnf))
 | (first  | intro g1; try simp at g1))
  all_goals (simp [le_s]; try omega)
set_option maxHeartbeats 400000 in
theorem c_isN (n : Int) : PSpec Tryz.prog 24 [I n] (B (rightB n)) := by
  refine p_pspec Tryz.func24 Tryz.ntmps24 Tryz.results24 ?_
  repeat' (first
 | (with_reducible first | apply qz0 | (refine h0 _ _ ?_; clear h0 hw) | apply qz1 | (refine hL _ ?_; clear hL))
 | refine p_reg fun K1 hK => ?_
 | (refine p_op Tryz.tab fun K' h0 hw => ?_; conv => whnf)
 | (refine p_nil (hK _ ?_); clear hK)
 | (refine p_call own30 (c_between _ _ _) ?_; conv => whnf)
 | ((with_reducible first | refine w_ret Tryz.tab fun K' hL => ?_ ); (conv => whnf))
 )
  all_goals (simp [le_s, rightB])
set_option maxHeartbeats 1000000 in
theorem c_unwrapOf (last seq : Int) : PSpec Tryz.prog 59 [I last, I seq] (.tup [I (unwrapS last seq).1, I (unwrapS last seq).2]) := by
  refine p_pspec Tryz.func59 Tryz.ntmps59 Tryz.results59 ?_
  repeat' (first
 | (with_reducible first | apply qz0 | (refine h0 _ _ ?_; clear h0 hw) | apply qz1 | apply qz2 | apply qz5 | apply qz6 | (refine hL _ ?_; clear hL))
 | refine p_reg fun K1 hK => ?_ | refine p_regE fun K1 hK => ?_
 | apply go_seq
 | (refine p_op Tryz.tab fun K' h0 hw => ?_; conv => whnf)
 | (refine p_nil (hK _ ?_); clear hK)
 | (first | refine v_grd_yes (by rfl) (by rfl) ?_)
 | ((first | (apply v_grd_no; (case hg => rfl); (case hb => rfl)) | (apply v_grd; (case hg => rfl); (case hb => rfl))); (case hi => (simp only [Nat.reduceAdd, Nat.reduceMul]; rfl)))
 | (refine p_call own24 (c_isN _) ?_; conv => whnf)
 | (refine p_call own30 (c_between _ _ _) ?_; conv => whnf)
 | ((with_reducible apply go_cond); (case hb => rfl))
 | ((with_reducible first | refine w_ret Tryz.tab fun K' hL => ?_ ); (conv => whnf))
 | ((with_reducible apply And.intro); (case' right => try (conv => whnf)); (case' left => try first | rfl | decide | (simp; done) | (simp (disch := omega) only [wrp]; omega) | (simp (disch := omega) [wrp]; (try omega); done)))
 | exact p_side
 | (first  | intro g1; try simp at g1))
  all_goals (refine le_of_eq ?_; simp only [rightB, decide_eq_true_eq, decide_eq_false_iff_not] at *; simp only [unwrapS, unwrapN, rightB, I, AV.tup.injEq, List.cons.injEq, AV.s.injEq, Value.int.injEq, true_and, and_true, decide_eq_true_eq])
  all_goals (try simp (disch := omega) only [tmp, wrp] at *)
  all_goals (split <;> simp <;> (try simp at *) <;> (try split at *) <;> omega)
end Go.Proofs.YtokkencbpmjdaaaGreat

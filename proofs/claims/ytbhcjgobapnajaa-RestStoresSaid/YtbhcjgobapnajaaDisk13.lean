/- What laws of disks call. No condition. -/
import Derived.Test.YtbhcjgobapnajaaDiskRight
import Derived.Test.YtbhcjgobapnajaaStB
namespace Go.Proofs.Ytbhcjgobapnajaa
open Go Go.Sy
set_option maxRecDepth 4000
set_option linter.unusedSimpArgs false
set_option linter.unusedVariables false
attribute [local irreducible] Reg RegD Later Out CallV YieldV Tri Side EqV
theorem c_onePic (t : Int) : PSpec Try.prog 57 [I t] (.agg (grC [pic t true])) := by
  refine v_pspec Try.func57 rfl Try.ntmps57 Try.results57 (by simp) (by first | exact .s _ | repeat constructor) ?_
  repeat' (first
 | (with_reducible first | apply qz0 | (refine h0 _ _ ?_; clear h0 hw) | (refine hw _ _ _ ?_; clear h0 hw) | apply qz1 | (refine hL _ ?_; clear hL))
 | (with_reducible first | refine w_reg (by decide +kernel) fun K1 hK => ?_ )
 | ((with_reducible first | apply v_op Try.tab | apply v_op0 Try.tab) <;> first | (intro K' h0 hw; conv => whnf) | (simp only [Nat.reduceAdd, Nat.reduceMul]; rfl))
 | ((with_reducible apply v_nil); (case hm => (simp only [Nat.reduceAdd, Nat.reduceMul]; rfl)); (case' h => with_reducible refine hK _ ?_; clear hK))
 | ((with_reducible refine callV_id (f := 71) ?_); (with_reducible apply callV_f own71 (c_pic _ _)); (case hx => rfl); (case he => rfl); (case hle => first | ((repeat constructor); done) ); (case hpu => repeat constructor); (case' hK => conv => whnf))
 | ((with_reducible first | refine w_ret Try.tab fun K' hL => ?_ ); (conv => whnf))
 | ((with_reducible apply And.intro); (case' right => try (conv => whnf)); (case' left => try first | rfl | decide ))
 )
  simp [pic]
def d16 : ByteArray := ⟨#[0, 14, 0, 0, 0, 7, 1, 0, 0, 0, 5, 1, 3, 97, 98, 99]⟩
def dkA : Dk := ⟨d16, 0⟩
def dkB : Dk := ⟨d16, 16⟩
def dkC2 : Dk := ⟨d16 ++ ⟨#[0, 14, 0, 0, 0, 8, 1, 0, 0, 0, 6, 1, 3, 97, 98, 99]⟩, 16⟩
def dkD : Dk := ⟨d16 ++ ⟨#[0, 14, 0]⟩, 16⟩
def stD : Sto := ⟨7, [[pic 5 true]], []⟩
theorem fits_pic (t : Int) : Fits [pic t true] := by
  refine ⟨by simp, fun f hf => ?_⟩
  rw [List.mem_singleton.1 hf]; simp [pic]
theorem kb1 : PSpec Try.prog 17 [.agg (dkC dk0), I 7, .agg (grC [pic 5 true])] (dkT (dkA, 0)) := by
  have h := c_dkAppend dk0 7 [pic 5 true] (fits_pic 5)
  rwa [show appR dk0 7 [pic 5 true] = (dkA, 0) by decide +kernel] at h
theorem kb2 : PSpec Try.prog 18 [.agg (dkC dkA)] (dkT (dkB, 0)) := by
  have h := c_dkSync dkA
  rwa [show syncR dkA = (dkB, 0) by decide +kernel] at h
theorem kb3 : PSpec Try.prog 17 [.agg (dkC dkB), I 8, .agg (grC [pic 6 true])] (dkT (dkC2, 0)) := by
  have h := c_dkAppend dkB 8 [pic 6 true] (fits_pic 6)
  rwa [show appR dkB 8 [pic 6 true] = (dkC2, 0) by decide +kernel] at h
theorem kb4 : PSpec Try.prog 19 [.agg (dkC dkC2), I 3] (dkT (dkD, 0)) := by
  have h := c_dkCrash dkC2 3
  rwa [show crashR dkC2 3 = (dkD, 0) by decide +kernel] at h
theorem kb5 : PSpec Try.prog 17 [.agg (dkC dkD), I 8, .agg (grC [pic 6 true])] (dkT (dk0, 4)) := by
  have h := c_dkAppend dkD 8 [pic 6 true] (fits_pic 6)
  rwa [show appR dkD 8 [pic 6 true] = (dk0, 4) by decide +kernel] at h
theorem kb6 : PSpec Try.prog 14 [.agg (dkC dkD)] (openT ((stD, dkB), 0)) := by
  have h := c_dkOpen dkD
  rwa [show dopS dkD = ((stD, dkB), 0) by decide +kernel] at h
theorem kb7 : PSpec Try.prog 16 [I 7, .agg (grC [pic 5 true])] (encTd (d16, 0)) := by
  have h := c_dkEncode 7 [pic 5 true] (fits_pic 5)
  rwa [show encR 7 [pic 5 true] = (d16, 0) by decide +kernel] at h
theorem kb8 : PSpec Try.prog 13 [.agg (dkC dkD)] (I 0) := by
  have h := c_dkCheck dkD
  rwa [show dkE dkD = 0 by decide +kernel] at h
set_option maxHeartbeats 4000000 in
theorem c_diskBegun : PSpec Try.prog 12 [] (B true) := by
  refine v_pspec Try.func12 rfl Try.ntmps12 Try.results12 (by simp) (by first | exact .s _ | repeat constructor) ?_
  repeat' (first
 | (with_reducible first | apply qz0 | (refine h0 _ _ ?_; clear h0 hw) | (refine hw _ _ _ ?_; clear h0 hw) )
 | (with_reducible first | refine w_reg (by decide +kernel) fun K1 hK => ?_ )
 | ((with_reducible first | apply d_reg Try.mix (by decide +kernel) ); (case hm => simp only [List.length_cons, List.length_nil, Nat.reduceAdd, Nat.reduceMul]; rfl); (case' h => intro K1 hK))
 | ((with_reducible first | apply v_op Try.tab | apply v_op0 Try.tab | apply d_op Try.tab | apply d_op0 Try.tab) <;> first | (intro K' h0 hw; conv => whnf) | (simp only [Nat.reduceAdd, Nat.reduceMul]; rfl))
 | ((with_reducible apply v_nil); (case hm => (simp only [Nat.reduceAdd, Nat.reduceMul]; rfl)); (case' h => with_reducible refine hK _ ?_; clear hK))
 | ((with_reducible apply d_nil); (refine hK _ _ _ _ (by first | decide +kernel ) ?_; clear hK))
 | ((with_reducible refine callV_id (f := 57) ?_); have hcs_ := c_onePic 5; (with_reducible apply callV_f own57 (hcs_)); (case hx => rfl); (case he => rfl); (case hle => first | ((repeat constructor); done) ); (case hpu => repeat constructor); (case' hK => (try clear hcs_); conv => whnf))
 | ((with_reducible refine callV_id (f := 57) ?_); have hcs_ := c_onePic 6; (with_reducible apply callV_f own57 (hcs_)); (case hx => rfl); (case he => rfl); (case hle => first | ((repeat constructor); done) ); (case hpu => repeat constructor); (case' hK => (try clear hcs_); conv => whnf))
 | ((with_reducible refine callV_id (f := 17) ?_); (with_reducible apply callV_f own17 (kb1)); (case hx => rfl); (case he => rfl); (case hle => first | ((repeat constructor); done) ); (case hpu => repeat constructor); (case' hK => conv => whnf))
 | ((with_reducible refine callV_id (f := 18) ?_); (with_reducible apply callV_f own18 (kb2)); (case hx => rfl); (case he => rfl); (case hle => first | ((repeat constructor); done) ); (case hpu => repeat constructor); (case' hK => conv => whnf))
 | ((with_reducible refine callV_id (f := 17) ?_); (with_reducible apply callV_f own17 (kb3)); (case hx => rfl); (case he => rfl); (case hle => first | ((repeat constructor); done) ); (case hpu => repeat constructor); (case' hK => conv => whnf))
 | ((with_reducible refine callV_id (f := 19) ?_); (with_reducible apply callV_f own19 (kb4)); (case hx => rfl); (case he => rfl); (case hle => first | ((repeat constructor); done) ); (case hpu => repeat constructor); (case' hK => conv => whnf))
 | ((with_reducible refine callV_id (f := 17) ?_); (with_reducible apply callV_f own17 (kb5)); (case hx => rfl); (case he => rfl); (case hle => first | ((repeat constructor); done) ); (case hpu => repeat constructor); (case' hK => conv => whnf))
 | ((with_reducible refine callV_id (f := 14) ?_); (with_reducible apply callV_f own14 (kb6)); (case hx => rfl); (case he => rfl); (case hle => first | ((repeat constructor); done) ); (case hpu => repeat constructor); (case' hK => conv => whnf))
 | ((with_reducible refine callV_id (f := 16) ?_); (with_reducible apply callV_f own16 (kb7)); (case hx => rfl); (case he => rfl); (case hle => first | ((repeat constructor); done) ); (case hpu => repeat constructor); (case' hK => conv => whnf))
 | ((with_reducible apply And.intro); (case' right => try (conv => whnf)); (case' left => try first | rfl | decide ))
 )
  simp only [List.append]
  repeat' (first
 | (with_reducible first | apply qz0 | (refine h0 _ _ ?_; clear h0 hw) | apply qz1 | (refine hL _ ?_; clear hL))
 | ((with_reducible first | apply v_op Try.tab ) <;> first | (intro K' h0 hw; conv => whnf) | (simp only [Nat.reduceAdd, Nat.reduceMul]; rfl))
 | ((with_reducible apply v_nil); (case hm => (simp only [Nat.reduceAdd, Nat.reduceMul]; rfl)); (case' h => with_reducible refine hK _ ?_; clear hK))
 | (first | refine v_grd_yes (by rfl) (by rfl) ?_)
 | ((with_reducible refine callV_id (f := 13) ?_); (with_reducible apply callV_f own13 (kb8)); (case hx => rfl); (case he => rfl); (case hle => first | ((repeat constructor); done) ); (case hpu => repeat constructor); (case' hK => conv => whnf))
 | ((with_reducible first | refine w_ret Try.tab fun K' hL => ?_ ); (conv => whnf))
 | ((with_reducible apply And.intro); (case' right => try (conv => whnf)); (case' left => try first | rfl | decide ))
 )
  exact .refl _
end Go.Proofs.Ytbhcjgobapnajaa

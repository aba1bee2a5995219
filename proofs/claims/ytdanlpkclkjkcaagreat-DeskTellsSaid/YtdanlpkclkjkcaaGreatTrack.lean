/- Tracks: what is wrong with one; a track of one's own. No condition. -/
import Derived.Test.YtdanlpkclkjkcaaGreatBuB
import Derived.Test.YtdanlpkclkjkcaaGreatStB
import Derived.Test.YtdanlpkclkjkcaaGreatFrA
import Derived.Test.YtdanlpkclkjkcaaGreatWiB
namespace Go.Proofs.YtdanlpkclkjkcaaGreat
open Go Go.Sy
set_option maxRecDepth 4000
set_option linter.unusedSimpArgs false
set_option linter.unusedVariables false
attribute [local irreducible] Reg RegD Later Out CallV Tri Side EqV
structure Tk where
  last : Int
  buf : Bf
  op : List Slt
  st : Sto
abbrev tkC (t : Tk) : List AV := [I t.last, I t.buf.next, slts t.buf.held, slts t.op, I t.st.first, grs t.st.gs, frs t.st.op]
def tk0 : Tk := ⟨0, ⟨0, []⟩, [], st0⟩
def FitsT (t : Tk) : Prop := t.buf.held.length ≤ 4000000000000 ∧ t.op.length ≤ 4000000000000 ∧ FitsS t.st
def trackE (t : Tk) : Int := if t.last ≠ 0 ∧ rightB t.last = false then 3 else if bufE t.buf ≠ 0 then bufE t.buf else if buildE t.op ≠ 0 then buildE t.op else if storeE t.st ≠ 0 then storeE t.st else if (decide (t.last = 0) != decide (t.buf.next = 0)) = true then 4 else 0
set_option maxHeartbeats 1000000 in
theorem c_trackCheck (t : Tk) (ht : FitsT t) : PSpec Tryz.prog 27 [.agg (tkC t)] (I (trackE t)) := by
  refine v_pspec Tryz.func27 rfl Tryz.ntmps27 Tryz.results27 (by simp) (by first | exact .s _ | repeat constructor) ?_
  repeat' (first
 | (with_reducible first | apply qz0 | (refine h0 _ _ ?_; clear h0 hw) | (refine hw _ _ _ ?_; clear h0 hw) | apply qz1 | apply qz2 | apply qz5 | apply qz6 | (refine hL _ ?_; clear hL))
 | (with_reducible first | refine w_reg (by decide +kernel) fun K1 hK => ?_ )
 | with_reducible refine go_seq ?_
 | ((with_reducible first | apply v_op Tryz.tab ) <;> first | (intro K' h0 hw; conv => whnf) | (simp only [Nat.reduceAdd, Nat.reduceMul]; rfl))
 | ((with_reducible apply v_nil); (case hm => (simp only [Nat.reduceAdd, Nat.reduceMul]; rfl)); (case' h => with_reducible refine hK _ ?_; clear hK))
 | (first | refine v_grd_yes (by rfl) (by rfl) ?_)
 | ((first | (apply v_grd_no; (case hg => rfl); (case hb => rfl)) | (apply v_grd; (case hg => rfl); (case hb => rfl))); (case hi => (simp only [Nat.reduceAdd, Nat.reduceMul]; rfl)))
 | ((with_reducible refine callV_id (f := 60) ?_); (with_reducible apply callV_f own60 (c_right _)); (case hx => rfl); (case he => rfl); (case hle => first | ((repeat constructor); done) ); (case hpu => repeat constructor); (case' hK => conv => whnf))
 | ((with_reducible refine callV_id (f := 61) ?_); have hcs_ := c_bufCheck t.buf ht.1; (with_reducible apply callV_f own61 (hcs_)); (case hx => rfl); (case he => rfl); (case hle => first | ((repeat constructor); done) ); (case hpu => repeat constructor); (case' hK => (try clear hcs_); conv => whnf))
 | ((with_reducible refine callV_id (f := 62) ?_); have hcs_ := c_frameRight t.op ht.2.1; (with_reducible apply callV_f own62 (hcs_)); (case hx => rfl); (case he => rfl); (case hle => first | ((repeat constructor); done) ); (case hpu => repeat constructor); (case' hK => (try clear hcs_); conv => whnf))
 | ((with_reducible refine callV_id (f := 63) ?_); have hcs_ := c_storeCheck t.st ht.2.2; (with_reducible apply callV_f own63 (hcs_)); (case hx => rfl); (case he => rfl); (case hle => first | ((repeat constructor); done) ); (case hpu => repeat constructor); (case' hK => (try clear hcs_); conv => whnf))
 | ((with_reducible apply go_cond); (case hb => rfl))
 | ((with_reducible first | refine w_ret Tryz.tab fun K' hL => ?_ ); (conv => whnf))
 | ((with_reducible apply And.intro); (case' right => try (conv => whnf)); (case' left => try first | rfl | decide | (simp; done) ))
 | (first  | intro g1; try simp at g1))
  all_goals (refine le_of_eq (congrArg (fun n : Int => I n) ?_); unfold trackE; simp_all; done)
set_option maxHeartbeats 1000000 in
theorem c_checkTrack (t : Tk) (ht : FitsT t) : PSpec Tryz.prog 9 [.agg (tkC t)] (I (trackE t)) := by
  refine v_pspec Tryz.func9 rfl Tryz.ntmps9 Tryz.results9 (by simp) (by first | exact .s _ | repeat constructor) ?_
  repeat' (first
 | (with_reducible first | apply qz0 | (refine h0 _ _ ?_; clear h0 hw) | (refine hw _ _ _ ?_; clear h0 hw) | apply qz1 | apply qz2 | apply qz5 | apply qz6 | (refine hL _ ?_; clear hL))
 | (with_reducible first | refine w_reg (by decide +kernel) fun K1 hK => ?_ | refine w_reg_end (by decide +kernel) fun K1 hK => ?_)
 | with_reducible refine go_seq ?_
 | ((with_reducible first | apply v_op Tryz.tab ) <;> first | (intro K' h0 hw; conv => whnf) | (simp only [Nat.reduceAdd, Nat.reduceMul]; rfl))
 | ((with_reducible apply v_nil); (case hm => (simp only [Nat.reduceAdd, Nat.reduceMul]; rfl)); (case' h => with_reducible refine hK _ ?_; clear hK))
 | (first | refine v_grd_yes (by rfl) (by rfl) ?_)
 | ((first | (apply v_grd_no; (case hg => rfl); (case hb => rfl)) | (apply v_grd; (case hg => rfl); (case hb => rfl))); (case hi => (simp only [Nat.reduceAdd, Nat.reduceMul]; rfl)))
 | ((with_reducible refine callV_id (f := 30) ?_); (with_reducible apply callV_f own30 (c_isN _)); (case hx => rfl); (case he => rfl); (case hle => first | ((repeat constructor); done) ); (case hpu => repeat constructor); (case' hK => conv => whnf))
 | ((with_reducible refine callV_id (f := 31) ?_); have hcs_ := c_checkBuffer t.buf ht.1; (with_reducible apply callV_f own31 (hcs_)); (case hx => rfl); (case he => rfl); (case hle => first | ((repeat constructor); done) ); (case hpu => repeat constructor); (case' hK => (try clear hcs_); conv => whnf))
 | ((with_reducible refine callV_id (f := 32) ?_); have hcs_ := c_checkBuilder t.op ht.2.1; (with_reducible apply callV_f own32 (hcs_)); (case hx => rfl); (case he => rfl); (case hle => first | ((repeat constructor); done) ); (case hpu => repeat constructor); (case' hK => (try clear hcs_); conv => whnf))
 | ((with_reducible refine callV_id (f := 33) ?_); have hcs_ := c_checkStore t.st ht.2.2; (with_reducible apply callV_f own33 (hcs_)); (case hx => rfl); (case he => rfl); (case hle => first | ((repeat constructor); done) ); (case hpu => repeat constructor); (case' hK => (try clear hcs_); conv => whnf))
 | ((with_reducible apply go_cond); (case hb => rfl))
 | ((with_reducible first | refine w_ret Tryz.tab fun K' hL => ?_ ); (conv => whnf))
 | ((with_reducible apply And.intro); (case' right => try (conv => whnf)); (case' left => try first | rfl | decide | (simp; done) ))
 | (first  | intro g1; try simp at g1))
  all_goals (refine le_of_eq (congrArg (fun n : Int => I n) ?_); unfold trackE; simp_all; done)
end Go.Proofs.YtdanlpkclkjkcaaGreat

/- Tracks: what is wrong with one; a track of one's own. No condition. -/
import Derived.Test.YtokkencbpmjdaaaGreatBuB
import Derived.Test.YtokkencbpmjdaaaGreatStB
import Derived.Test.YtokkencbpmjdaaaGreatFrA
import Derived.Test.YtokkencbpmjdaaaGreatWiB
namespace Go.Proofs.YtokkencbpmjdaaaGreat
open Go Go.Sy
set_option maxRecDepth 4000
set_option linter.unusedSimpArgs false
set_option linter.unusedVariables false
attribute [local irreducible] Reg RegD Later Out CallV Tri Side EqV Pause
structure Tk where
  last : Int
  buf : Bf
  op : List Slt
  st : Sto
abbrev tkC (t : Tk) : List AV := [I t.last, I t.buf.next, slts t.buf.held, slts t.op, I t.st.first, grs t.st.gs, frs t.st.op]
def tk0 : Tk := ⟨0, ⟨0, []⟩, [], st0⟩
def FitsT (t : Tk) : Prop := t.buf.held.length ≤ 4000000000000 ∧ t.op.length ≤ 4000000000000 ∧ FitsS t.st
def trackE (t : Tk) : Int := if t.last ≠ 0 ∧ rightB t.last = false then 3 else if bufE t.buf ≠ 0 then bufE t.buf else if buildE t.op ≠ 0 then buildE t.op else if storeE t.st ≠ 0 then storeE t.st else if (decide (t.last = 0) != decide (t.buf.next = 0)) = true then 4 else 0
set_option maxHeartbeats 1000000 in
theorem c_trackCheck (t : Tk) (ht : FitsT t) : PSpec Tryz.prog 21 [.agg (tkC t)] (I (trackE t)) := by
  refine p_pspec Tryz.func21 Tryz.ntmps21 Tryz.results21 ?_
  repeat' (first
 | (with_reducible first | apply qz0 | (refine h0 _ _ ?_; clear h0 hw) | (refine hw _ _ _ ?_; clear h0 hw) | apply qz1 | apply qz2 | apply qz5 | apply qz6 | (refine hL _ ?_; clear hL))
 | refine p_reg fun K1 hK => ?_
 | apply go_seq
 | (refine p_op Tryz.tab fun K' h0 hw => ?_; conv => whnf)
 | (refine p_nil (hK _ ?_); clear hK)
 | (first | refine v_grd_yes (by rfl) (by rfl) ?_)
 | ((first | (apply v_grd_no; (case hg => rfl); (case hb => rfl)) | (apply v_grd; (case hg => rfl); (case hb => rfl))); (case hi => (simp only [Nat.reduceAdd, Nat.reduceMul]; rfl)))
 | (refine p_call own50 (c_right _) ?_; conv => whnf)
 | ((with_reducible refine callV_id (f := 51) ?_); have hcs_ := c_bufCheck t.buf ht.1; (with_reducible apply callV_f own51 (hcs_)); (case hx => rfl); (case he => rfl); (case hle => first | ((repeat constructor); done) ); (case hpu => repeat constructor); (case' hK => (try clear hcs_); conv => whnf))
 | ((with_reducible refine callV_id (f := 52) ?_); have hcs_ := c_frameRight t.op ht.2.1; (with_reducible apply callV_f own52 (hcs_)); (case hx => rfl); (case he => rfl); (case hle => first | ((repeat constructor); done) ); (case hpu => repeat constructor); (case' hK => (try clear hcs_); conv => whnf))
 | ((with_reducible refine callV_id (f := 53) ?_); have hcs_ := c_storeCheck t.st ht.2.2; (with_reducible apply callV_f own53 (hcs_)); (case hx => rfl); (case he => rfl); (case hle => first | ((repeat constructor); done) ); (case hpu => repeat constructor); (case' hK => (try clear hcs_); conv => whnf))
 | ((with_reducible apply go_cond); (case hb => rfl))
 | ((with_reducible first | refine w_ret Tryz.tab fun K' hL => ?_ ); (conv => whnf))
 | ((with_reducible apply And.intro); (case' right => try (conv => whnf)); (case' left => try first | rfl | decide | (simp; done) ))
 | (first  | intro g1; try simp at g1))
  all_goals (refine le_of_eq (congrArg (fun n : Int => I n) ?_); unfold trackE; simp_all; done)
set_option maxHeartbeats 1000000 in
theorem c_checkTrack (t : Tk) (ht : FitsT t) : PSpec Tryz.prog 7 [.agg (tkC t)] (I (trackE t)) := by
  refine p_pspec Tryz.func7 Tryz.ntmps7 Tryz.results7 ?_
  repeat' (first
 | (with_reducible first | apply qz0 | (refine h0 _ _ ?_; clear h0 hw) | (refine hw _ _ _ ?_; clear h0 hw) | apply qz1 | apply qz2 | apply qz5 | apply qz6 | (refine hL _ ?_; clear hL))
 | refine p_reg fun K1 hK => ?_ | refine p_regE fun K1 hK => ?_
 | apply go_seq
 | (refine p_op Tryz.tab fun K' h0 hw => ?_; conv => whnf)
 | (refine p_nil (hK _ ?_); clear hK)
 | (first | refine v_grd_yes (by rfl) (by rfl) ?_)
 | ((first | (apply v_grd_no; (case hg => rfl); (case hb => rfl)) | (apply v_grd; (case hg => rfl); (case hb => rfl))); (case hi => (simp only [Nat.reduceAdd, Nat.reduceMul]; rfl)))
 | (refine p_call own24 (c_isN _) ?_; conv => whnf)
 | ((with_reducible refine callV_id (f := 25) ?_); have hcs_ := c_checkBuffer t.buf ht.1; (with_reducible apply callV_f own25 (hcs_)); (case hx => rfl); (case he => rfl); (case hle => first | ((repeat constructor); done) ); (case hpu => repeat constructor); (case' hK => (try clear hcs_); conv => whnf))
 | ((with_reducible refine callV_id (f := 26) ?_); have hcs_ := c_checkBuilder t.op ht.2.1; (with_reducible apply callV_f own26 (hcs_)); (case hx => rfl); (case he => rfl); (case hle => first | ((repeat constructor); done) ); (case hpu => repeat constructor); (case' hK => (try clear hcs_); conv => whnf))
 | ((with_reducible refine callV_id (f := 27) ?_); have hcs_ := c_checkStore t.st ht.2.2; (with_reducible apply callV_f own27 (hcs_)); (case hx => rfl); (case he => rfl); (case hle => first | ((repeat constructor); done) ); (case hpu => repeat constructor); (case' hK => (try clear hcs_); conv => whnf))
 | ((with_reducible apply go_cond); (case hb => rfl))
 | ((with_reducible first | refine w_ret Tryz.tab fun K' hL => ?_ ); (conv => whnf))
 | ((with_reducible apply And.intro); (case' right => try (conv => whnf)); (case' left => try first | rfl | decide | (simp; done) ))
 | (first  | intro g1; try simp at g1))
  all_goals (refine le_of_eq (congrArg (fun n : Int => I n) ?_); unfold trackE; simp_all; done)
end Go.Proofs.YtokkencbpmjdaaaGreat

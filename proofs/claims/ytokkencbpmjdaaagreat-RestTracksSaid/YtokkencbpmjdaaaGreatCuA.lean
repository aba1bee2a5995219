/- Walks of package cursor. No condition. -/
import Derived.Test.YtokkencbpmjdaaaGreatStB
import Derived.Test.YtokkencbpmjdaaaGreatSy3
import Derived.Test.YtokkencbpmjdaaaGreatFrA
section
namespace Go.Proofs.YtokkencbpmjdaaaGreat
open Go Go.Sy
set_option maxRecDepth 4000
set_option linter.unusedSimpArgs false
set_option linter.unusedVariables false
attribute [local irreducible] Reg RegD Later Out CallV Tri Side EqV Pause
structure Cu where
  mode : Int
  group : Int
  frame : Int
abbrev cuC (c : Cu) : List AV := [I c.mode, I c.group, I c.frame]
def cu0 : Cu := ⟨0, 0, 0⟩
theorem Cu.ext' {p q : Cu} (h1 : p.mode = q.mode) (h2 : p.group = q.group) (h3 : p.frame = q.frame) : p = q := by cases p; cases q; simp_all
def cuOK (c : Cu) : Prop := (1 ≤ c.mode ∧ c.mode ≤ 3) ∧ (0 ≤ c.group ∧ c.group ≤ 100006) ∧ 0 ≤ c.frame ∧ c.frame ≤ 6
def cuE (c : Cu) : Int := if ¬ (1 ≤ c.mode ∧ c.mode ≤ 3) then 6 else if ¬ ((0 ≤ c.group ∧ c.group ≤ 100006) ∧ 0 ≤ c.frame ∧ c.frame ≤ 6) then 3 else 0
theorem cuE_ok {c : Cu} (h : cuE c = 0) : cuOK c := by
  unfold cuE at h
  unfold cuOK
  split at h
  · cases h
  · split at h
    · cases h
    · omega
theorem c_cwithin (n lo hi : Int) : PSpec Tryz.prog 91 [I n, I lo, I hi] (B (decide (lo ≤ n ∧ n ≤ hi))) := by
  refine p_pspec Tryz.func91 Tryz.ntmps91 Tryz.results91 ?_
  repeat' (first
 | (with_reducible first | apply qz0 | (refine h0 _ _ ?_; clear h0 hw) | apply qz1 | (refine hL _ ?_; clear hL))
 | refine p_reg fun K1 hK => ?_
 | (refine p_op Tryz.tab fun K' h0 hw => ?_; conv => whnf)
 | (refine p_nil (hK _ ?_); clear hK)
 | (first | refine v_grd_yes (by rfl) (by rfl) ?_)
 | ((first | (apply v_grd_no; (case hg => rfl); (case hb => rfl)) | (apply v_grd; (case hg => rfl); (case hb => rfl))); (case hi => (simp only [Nat.reduceAdd, Nat.reduceMul]; rfl)))
 | ((with_reducible first | refine w_ret Tryz.tab fun K' hL => ?_ ); (conv => whnf))
 | (first  | intro g1; try simp at g1))
  all_goals (refine le_of_eq ?_; congr 2; rw [Bool.eq_iff_iff]; simp; (try omega))
set_option maxHeartbeats 1000000 in
theorem c_cursorCheck (c : Cu) : PSpec Tryz.prog 63 [.agg (cuC c)] (I (cuE c)) := by
  refine p_pspec Tryz.func63 Tryz.ntmps63 Tryz.results63 ?_
  repeat' (first
 | (with_reducible first | apply qz0 | (refine h0 _ _ ?_; clear h0 hw) | (refine hw _ _ _ ?_; clear h0 hw) | apply qz1 | apply qz2 | apply qz3 | apply qz5 | apply qz6 | apply qz8 | apply qz9 | (refine hL _ ?_; clear hL))
 | refine p_reg fun K1 hK => ?_
 | apply go_seq
 | (refine p_op Tryz.tab fun K' h0 hw => ?_; conv => whnf)
 | (refine p_nil (hK _ ?_); clear hK)
 | (first | refine v_grd_yes (by rfl) (by rfl) ?_)
 | ((first | (apply v_grd_no; (case hg => rfl); (case hb => rfl)) | (apply v_grd; (case hg => rfl); (case hb => rfl))); (case hi => (simp only [Nat.reduceAdd, Nat.reduceMul]; rfl)))
 | (refine p_call own91 (c_cwithin _ _ _) ?_; conv => whnf)
 | ((with_reducible apply go_cond); (case hb => rfl))
 | ((with_reducible first | refine w_ret Tryz.tab fun K' hL => ?_ ); (conv => whnf))
 | ((with_reducible apply And.intro); (case' right => try (conv => whnf)); (case' left => try first | rfl | decide | (simp; done) ))
 | (first  | intro g1; try simp at g1))
  all_goals first
    | (refine le_of_eq (congrArg I (Eq.symm (if_pos ?_ : cuE c = 6))); omega)
    | (refine le_of_eq (congrArg I (Eq.symm ((if_neg ?_).trans (if_pos ?_) : cuE c = 3))) <;> omega)
    | (refine le_of_eq (congrArg I (Eq.symm ((if_neg ?_).trans (if_neg ?_) : cuE c = 0))) <;> omega)
set_option maxHeartbeats 1000000 in
theorem c_checkCursor (c : Cu) : PSpec Tryz.prog 28 [.agg (cuC c)] (I (cuE c)) := by
  refine p_pspec Tryz.func28 Tryz.ntmps28 Tryz.results28 ?_
  repeat' (first
 | (with_reducible first | apply qz0 | (refine h0 _ _ ?_; clear h0 hw) | (refine hw _ _ _ ?_; clear h0 hw) | apply qz1 | apply qz2 | apply qz5 | apply qz6 | (refine hL _ ?_; clear hL))
 | refine p_reg fun K1 hK => ?_
 | apply go_seq
 | (refine p_op Tryz.tab fun K' h0 hw => ?_; conv => whnf)
 | (refine p_nil (hK _ ?_); clear hK)
 | (first | refine v_grd_yes (by rfl) (by rfl) ?_)
 | ((first | (apply v_grd_no; (case hg => rfl); (case hb => rfl)) | (apply v_grd; (case hg => rfl); (case hb => rfl))); (case hi => (simp only [Nat.reduceAdd, Nat.reduceMul]; rfl)))
 | (refine p_call own30 (Outs.c_btw _ _ _) ?_; conv => whnf)
 | ((with_reducible apply go_cond); (case hb => rfl))
 | ((with_reducible first | refine w_ret Tryz.tab fun K' hL => ?_ ); (conv => whnf))
 | ((with_reducible apply And.intro); (case' right => try (conv => whnf)); (case' left => try first | rfl | decide | (simp; done) ))
 | (first  | intro g1; try simp at g1))
  all_goals first
    | (refine le_of_eq (congrArg I (Eq.symm (if_pos ?_ : cuE c = 6))); omega)
    | (refine le_of_eq (congrArg I (Eq.symm ((if_neg ?_).trans (if_pos ?_) : cuE c = 3))) <;> omega)
    | (refine le_of_eq (congrArg I (Eq.symm ((if_neg ?_).trans (if_neg ?_) : cuE c = 0))) <;> omega)
set_option maxHeartbeats 1000000 in
theorem c_newest (s : Sto) (hr : RightS s) : PSpec Tryz.prog 118 [.agg (stC s)] (I (s.first + (allS s).length - 1)) := by
  refine p_pspec Tryz.func118 Tryz.ntmps118 Tryz.results118 ?_
  have h1 := hr.1
  have h2 := hr.all.1
  have h3 := hr.2.1
  have e1 := wrp (n := s.first + ((allS s).length : Int)) (by omega) (by omega)
  have e2 := wrp (n := s.first + ((allS s).length : Int) - 1) (by omega) (by omega)
  repeat' (first
 | (with_reducible first | apply qz0 | (refine h0 _ _ ?_; clear h0 hw) | (refine hw _ _ _ ?_; clear h0 hw) | apply qz1 | (refine hL _ ?_; clear hL))
 | refine p_reg fun K1 hK => ?_
 | refine p_dreg Tryz.mix fun K1 hK => ?_
 | ((first | refine p_op Tryz.tab fun K' h0 hw => ?_ | refine p_dop Tryz.tab fun K' h0 hw => ?_); conv => whnf)
 | (refine p_nil (hK _ ?_); clear hK)
 | (refine d_nil (p_obj ?_ (hK _ _ _ _)); clear hK)
 | ((with_reducible refine callV_id (f := 131) ?_); have hcs_ := c_storeAll s (by omega); (with_reducible apply callV_f own131 (hcs_)); (case hx => rfl); (case he => rfl); (case hle => first | ((repeat constructor); done) ); (case hpu => repeat constructor); (case' hK => (try clear hcs_); conv => whnf))
 | ((with_reducible first | refine w_ret Tryz.tab fun K' hL => ?_ ); (conv => whnf))
 | ((with_reducible apply And.intro); (case' right => try (conv => whnf)); (case' left => try first | rfl | decide | (simp; done) ))
 )
  refine le_of_eq ?_; simp [e1, e2]
def liveS (s : Sto) : Cu × Int := if storeE s = 0 then (if 0 < (allS s).length then (⟨1, s.first + (allS s).length - 1, 0⟩, 0) else (cu0, 5)) else (cu0, storeE s)
def cuT (r : Cu × Int) : AV := .tup [.agg (cuC r.1), I r.2]
set_option maxHeartbeats 1000000 in
theorem c_live (s : Sto) (hs : FitsS s) : PSpec Tryz.prog 95 [.agg (stC s)] (cuT (liveS s)) := by
  refine p_pspec Tryz.func95 Tryz.ntmps95 Tryz.results95 ?_
  repeat' (first
 | (with_reducible first | apply qz0 | (refine h0 _ _ ?_; clear h0 hw) | (refine hw _ _ _ ?_; clear h0 hw) | apply qz1 | apply qz2 | apply qz5 | apply qz6 | (refine hL _ ?_; clear hL))
 | refine p_reg fun K1 hK => ?_ | refine p_regE fun K1 hK => ?_
 | refine p_dreg Tryz.mix fun K1 hK => ?_
 | apply go_seq
 | ((first | refine p_op Tryz.tab fun K' h0 hw => ?_ | refine p_op0 Tryz.tab fun K' h0 hw => ?_ | refine p_dop Tryz.tab fun K' h0 hw => ?_); conv => whnf)
 | (refine p_nil (hK _ ?_); clear hK)
 | (refine d_nil (p_obj ?_ (hK _ _ _ _)); clear hK)
 | (first | refine d_grd_yes (by rfl) (by rfl) ?_ )
 | ((first | (apply d_grd_no; (case hg => rfl); (case hb => rfl)) | (apply d_grd; (case hg => rfl); (case hb => rfl)) ); (case hi => (simp only [Nat.reduceAdd, Nat.reduceMul]; rfl)))
 | ((with_reducible refine callV_id (f := 53) ?_); have hcs_ := c_storeCheck s hs; (with_reducible apply callV_f own53 (hcs_)); (case hx => rfl); (case he => rfl); (case hle => first | ((repeat constructor); done) ); (case hpu => repeat constructor); (case' hK => (try clear hcs_); conv => whnf))
 | ((with_reducible refine callV_id (f := 118) ?_); have hcs_ := c_newest s (storeE_ok (by assumption)); (with_reducible apply callV_f own118 (hcs_)); (case hx => rfl); (case he => rfl); (case hle => first | ((repeat constructor); done) ); (case hpu => repeat constructor); (case' hK => (try clear hcs_); conv => whnf))
 | ((with_reducible apply go_cond); (case hb => rfl))
 | ((with_reducible first | refine w_ret Tryz.tab fun K' hL => ?_ ); (conv => whnf))
 | ((with_reducible apply And.intro); (case' right => try (conv => whnf)); (case' left => try first | rfl | decide | (simp; done) ))
 | (first  | intro g1; try simp at g1))
  all_goals (try (exfalso; omega))
  · have e : liveS s = (cu0, 5) := by rw [liveS, if_pos (by assumption), if_neg (by omega)]
    rw [e]; simp [cuT, cu0]
  · have e : liveS s = (⟨1, s.first + (allS s).length - 1, 0⟩, 0) := by rw [liveS, if_pos (by assumption), if_pos (by omega)]
    rw [e]; simp [cuT]
  · have e : liveS s = (cu0, storeE s) := if_neg (by assumption)
    rw [e]; simp [cuT, cu0]
def seekC (s : Sto) (t : Int) : Cu × Int := if (seekS s t).2 = 0 then (⟨3, (seekS s t).1, 0⟩, 0) else (cu0, (seekS s t).2)
set_option maxHeartbeats 1000000 in
theorem c_cursorSeek (s : Sto) (t : Int) (hs : FitsS s) : PSpec Tryz.prog 99 [.agg (stC s), I t] (cuT (seekC s t)) := by
  refine p_pspec Tryz.func99 Tryz.ntmps99 Tryz.results99 ?_
  repeat' (first
 | (with_reducible first | apply qz0 | (refine h0 _ _ ?_; clear h0 hw) | (refine hw _ _ _ ?_; clear h0 hw) | apply qz1 | apply qz2 | apply qz5 | apply qz6 | (refine hL _ ?_; clear hL))
 | refine p_reg fun K1 hK => ?_
 | apply go_seq
 | ((first | refine p_op Tryz.tab fun K' h0 hw => ?_ | refine p_op0 Tryz.tab fun K' h0 hw => ?_); conv => whnf)
 | (refine p_nil (hK _ ?_); clear hK)
 | ((with_reducible refine callV_id (f := 119) ?_); have hcs_ := c_storeSeek s t hs; (with_reducible apply callV_f own119 (hcs_)); (case hx => rfl); (case he => rfl); (case hle => first | ((repeat constructor); done) ); (case hpu => repeat constructor); (case' hK => (try clear hcs_); conv => whnf))
 | ((with_reducible apply go_cond); (case hb => rfl))
 | ((with_reducible first | refine w_ret Tryz.tab fun K' hL => ?_ ); (conv => whnf))
 | ((with_reducible apply And.intro); (case' right => try (conv => whnf)); (case' left => try first | rfl | decide | (simp; done) ))
 | (first | (guard_hyp g1; intro g2; try simp at g2) | intro g1; try simp at g1))
  · have e : seekC s t = (cu0, (seekS s t).2) := if_neg g1
    rw [e]; simp [cuT, cu0]
  · have e : seekC s t = _ := if_pos g1
    rw [e]; simp [cuT]
def pauseC (c : Cu) : Cu × Int := if cuE c = 0 then (⟨2, c.group, c.frame⟩, 0) else (cu0, cuE c)
set_option maxHeartbeats 1000000 in
theorem c_pause (c : Cu) : PSpec Tryz.prog 97 [.agg (cuC c)] (cuT (pauseC c)) := by
  refine p_pspec Tryz.func97 Tryz.ntmps97 Tryz.results97 ?_
  repeat' (first
 | (with_reducible first | apply qz0 | (refine h0 _ _ ?_; clear h0 hw) | (refine hw _ _ _ ?_; clear h0 hw) | apply qz1 | apply qz2 | apply qz5 | apply qz6 | (refine hL _ ?_; clear hL))
 | refine p_reg fun K1 hK => ?_
 | apply go_seq
 | ((first | refine p_op Tryz.tab fun K' h0 hw => ?_ | refine p_op0 Tryz.tab fun K' h0 hw => ?_); conv => whnf)
 | (refine p_nil (hK _ ?_); clear hK)
 | ((with_reducible refine callV_id (f := 63) ?_); have hcs_ := c_cursorCheck c; (with_reducible apply callV_f own63 (hcs_)); (case hx => rfl); (case he => rfl); (case hle => first | ((repeat constructor); done) ); (case hpu => repeat constructor); (case' hK => (try clear hcs_); conv => whnf))
 | ((with_reducible apply go_cond); (case hb => rfl))
 | ((with_reducible first | refine w_ret Tryz.tab fun K' hL => ?_ ); (conv => whnf))
 | ((with_reducible apply And.intro); (case' right => try (conv => whnf)); (case' left => try first | rfl | decide | (simp; done) ))
 | (first | (guard_hyp g1; intro g2; try simp at g2) | intro g1; try simp at g1))
  · have e : pauseC c = (cu0, cuE c) := if_neg g1
    rw [e]; simp [cuT, cu0]
  · have e : pauseC c = _ := if_pos g1
    rw [e]; simp [cuT]
abbrev wkB (c : Cu) (first : Int) (l : List (List Fr)) (turn : Bool) : Ob := .box [I c.mode, I c.group, I c.frame, I first, grs l, B turn]
def inB (l : List (List Fr)) (first : Int) (c : Cu) : Bool := decide (first ≤ c.group ∧ c.group ≤ first + l.length - 1)
def grpAt (l : List (List Fr)) (first : Int) (c : Cu) : List Fr := l.getD (c.group - first).toNat []
def lostB (l : List (List Fr)) (first : Int) (c : Cu) : Bool := !inB l first c || decide ((grpAt l first c).length < c.frame)
def SmallC (l : List (List Fr)) (first : Int) (c : Cu) : Prop := l.length ≤ 6 ∧ (0 ≤ first ∧ first ≤ 100000) ∧ (0 ≤ c.group ∧ c.group ≤ 200000) ∧ 0 ≤ c.frame ∧ c.frame ≤ 1000
set_option maxHeartbeats 1000000 in
theorem c_frames (c : Cu) (first : Int) (l : List (List Fr)) (turn : Bool) (h : SmallC l first c) (hin : inB l first c = true) :
    CSpec Tryz.prog 134 [.ptr 0 0] [wkB c first l turn] (frs (grpAt l first c)) [wkB c first l turn] := by
  obtain ⟨h1, h2, h3, h4⟩ := h
  simp [inB] at hin
  have e1 := wrp (n := c.group - first) (by omega) (by omega)
  refine v_cspec Tryz.func134 rfl Tryz.ntmps134 Tryz.results134 (by simp) (k := 1) rfl ?_
  repeat' (first
 | (with_reducible first | apply qz0 | (refine h0 _ _ ?_; clear h0 hw) | apply qz1 )
 | refine p_reg fun K1 hK => ?_
 | refine p_dreg Tryz.mix fun K1 hK => ?_
 | ((first | refine p_op Tryz.tab fun K' h0 hw => ?_ | refine p_dop Tryz.tab fun K' h0 hw => ?_); conv => whnf)
 | (refine p_nil (hK _ ?_); clear hK)
 | (refine d_nil (p_obj ?_ (hK _ _ _ _)); clear hK)
 | ((with_reducible apply And.intro); (case' right => try (conv => whnf)); (case' left => try first | rfl | decide | (simp [e1]; done) ))
 | exact p_side
 | ((with_reducible refine all_row ?_); (first | intro x1 hx1); conv => whnf)
 )
  rw [e1] at hx1
  have e : grpAt l first c = x1 := by rw [grpAt, List.getD_eq_getElem?_getD, hx1]; rfl
  rw [e]
  ((first | refine w_retO Tryz.tab [] (by rfl) (by simp) (by simp) (fun K' hL => ?_) ?_ ?_ ?_ | refine w_retO_end Tryz.tab [] (by rfl) (by simp) (by simp) (fun K' hL => ?_) ?_ ?_ ?_); (conv => whnf); (refine hL _ ?_; clear hL); all_goals simp)
set_option maxHeartbeats 1000000 in
theorem c_lost (c : Cu) (first : Int) (l : List (List Fr)) (turn : Bool) (h : SmallC l first c) :
    CSpec Tryz.prog 141 [.ptr 0 0] [wkB c first l turn] (B (lostB l first c)) [wkB c first l turn] := by
  have hh := h
  obtain ⟨h1, h2, h3, h4⟩ := hh
  have e1 := wrp (n := first + (l.length : Int)) (by omega) (by omega)
  have e2 := wrp (n := first + (l.length : Int) - 1) (by omega) (by omega)
  refine v_cspec Tryz.func141 rfl Tryz.ntmps141 Tryz.results141 (by simp) (k := 1) rfl ?_
  repeat' (first
 | (with_reducible first | apply qz0 | (refine h0 _ _ ?_; clear h0 hw) | apply qz1 )
 | refine p_reg fun K1 hK => ?_
 | refine p_dreg Tryz.mix fun K1 hK => ?_
 | ((first | refine p_op Tryz.tab fun K' h0 hw => ?_ | refine p_dop Tryz.tab fun K' h0 hw => ?_); conv => whnf)
 | (refine p_nil (hK _ ?_); clear hK)
 | (refine d_nil (p_obj ?_ (hK _ _ _ _)); clear hK)
 | (first | refine d_grd_yes (by rfl) (by rfl) ?_ )
 | ((first | (apply d_grd_no; (case hg => rfl); (case hb => rfl)) | (apply d_grd; (case hg => rfl); (case hb => rfl)) ); (case hi => (simp only [Nat.reduceAdd, Nat.reduceMul]; rfl)))
 | (refine p_call own91 (c_cwithin _ _ _) ?_; conv => whnf)
 | ((with_reducible refine callV_id (f := 134) ?_); have hcs_ := c_frames c first l turn h (by simp [inB, e1, e2] at g1 ⊢; omega); (with_reducible apply w_callR [0] own134 (hcs_)); (case hx => rfl); (case he => rfl); (case hle => first | ((repeat constructor); done) ); (case hm => rfl); (case hnd => decide); (case' hK => (try clear hcs_); conv => whnf); (any_goals first | exact ⟨rfl, trivial⟩ | (simp [e1, e2]; done)))
 | ((with_reducible apply And.intro); (case' right => try (conv => whnf)); (case' left => try first | rfl | decide | (simp [e1, e2]; done) ))
 | (first | (guard_hyp g1; intro g2; try simp at g2) | intro g1; try simp at g1))
  all_goals simp only [e1, e2] at g1
  · have e : lostB l first c = decide ((grpAt l first c).length < c.frame) := by simp [lostB, inB]; omega
    rw [e]
    ((first | refine w_retO Tryz.tab [] (by rfl) (by simp) (by simp) (fun K' hL => ?_) ?_ ?_ ?_ | refine w_retO_end Tryz.tab [] (by rfl) (by simp) (by simp) (fun K' hL => ?_) ?_ ?_ ?_); (conv => whnf); (refine hL _ ?_; clear hL); all_goals simp)
  · have e : lostB l first c = true := by simp [lostB, inB]; omega
    rw [e]
    ((first | refine w_retO Tryz.tab [] (by rfl) (by simp) (by simp) (fun K' hL => ?_) ?_ ?_ ?_ | refine w_retO_end Tryz.tab [] (by rfl) (by simp) (by simp) (fun K' hL => ?_) ?_ ?_ ?_); (conv => whnf); (refine hL _ ?_; clear hL); all_goals simp)
def setG (l : List (List Fr)) (first : Int) (c : Cu) : Int := if lostB l first c = true then (if c.mode = 1 then first + l.length - 1 else first) else if c.frame = (grpAt l first c).length then c.group + 1 else c.group
def setF (l : List (List Fr)) (first : Int) (c : Cu) : Int := if lostB l first c = true then 0 else if c.frame = (grpAt l first c).length then 0 else c.frame
abbrev setC (l : List (List Fr)) (first : Int) (c : Cu) : Cu := ⟨c.mode, setG l first c, setF l first c⟩
theorem lost_in {l : List (List Fr)} {first : Int} {c : Cu} (h : lostB l first c = false) : inB l first c = true ∧ c.frame ≤ (grpAt l first c).length := by
  simp [lostB] at h; exact ⟨h.1, by omega⟩
set_option maxHeartbeats 1000000 in
theorem c_settle0 (c : Cu) (first : Int) : CSpec Tryz.prog 133 [.ptr 0 0] [wkB c first [] false] (B false) [wkB c first [] false] := by
  refine v_cspec Tryz.func133 rfl Tryz.ntmps133 Tryz.results133 (by simp) (k := 1) rfl ?_
  repeat' (first
 | (with_reducible first | apply qz0 | (refine h0 _ _ ?_; clear h0 hw) | apply qz1 | apply qz5 )
 | refine p_reg fun K1 hK => ?_
 | apply go_seq
 | (refine p_op Tryz.tab fun K' h0 hw => ?_; conv => whnf)
 | (refine p_nil (hK _ ?_); clear hK)
 | ((with_reducible apply go_cond); (case hb => rfl))
 | ((with_reducible apply And.intro); (case' right => try (conv => whnf)); (case' left => try first | rfl | decide | (simp; done) ))
 | (first  | intro g1; try simp at g1))
  ((first | refine w_retO Tryz.tab [] (by rfl) (by simp) (by simp) (fun K' hL => ?_) ?_ ?_ ?_ | refine w_retO_end Tryz.tab [] (by rfl) (by simp) (by simp) (fun K' hL => ?_) ?_ ?_ ?_); (conv => whnf); (refine hL _ ?_; clear hL); all_goals simp)
set_option maxHeartbeats 1000000 in
theorem c_settle (c : Cu) (first : Int) (l : List (List Fr)) (h : SmallC l first c) (hl : l ≠ []) :
    CSpec Tryz.prog 133 [.ptr 0 0] [wkB c first l false] (B (decide (setG l first c < first + l.length))) [wkB (setC l first c) first l (lostB l first c)] := by
  have hh := h
  obtain ⟨h1, h2, h3, h4⟩ := hh
  have hp := List.length_pos_iff.2 hl
  have e1 := wrp (n := first + (l.length : Int)) (by omega) (by omega)
  have e2 := wrp (n := first + (l.length : Int) - 1) (by omega) (by omega)
  have e3 := wrp (n := c.group + 1) (by omega) (by omega)
  have hL := c_lost c first l false h
  rcases (by cases lostB l first c <;> simp : lostB l first c = true ∨ lostB l first c = false) with hb | hb
  · rw [hb] at hL
    refine v_cspec Tryz.func133 rfl Tryz.ntmps133 Tryz.results133 (by simp) (k := 1) rfl ?_
    repeat' (first
 | (with_reducible first | apply qz0 | (refine h0 _ _ ?_; clear h0 hw) | (refine hw _ _ _ ?_; clear h0 hw) | apply qz1 | apply qz2 | apply qz3 | apply qz5 | apply qz6 | apply qz9 )
 | refine p_reg fun K1 hK => ?_
 | refine p_dreg Tryz.mix fun K1 hK => ?_ | refine p_dregE Tryz.mix fun K1 hK => ?_
 | apply go_seq
 | ((first | refine p_op Tryz.tab fun K' h0 hw => ?_ | refine p_op0 Tryz.tab fun K' h0 hw => ?_ | refine p_dop Tryz.tab fun K' h0 hw => ?_ | refine p_dop0 Tryz.tab fun K' h0 hw => ?_); conv => whnf)
 | (refine p_nil (hK _ ?_); clear hK)
 | (refine d_nil (p_obj ?_ (hK _ _ _ _)); clear hK)
 | ((with_reducible refine callV_id (f := 141) ?_); (with_reducible apply w_callO [0] own141 (hL)); (case hx => rfl); (case he => rfl); (case hle => first | ((repeat constructor); done) ); (case hm => rfl); (case hnd => decide); (case' hK => conv => whnf); (any_goals (simp [e1, e2]; done)))
 | ((with_reducible apply go_cond); (case hb => rfl))
 | ((with_reducible apply And.intro); (case' right => try (conv => whnf)); (case' left => try first | rfl | decide | (simp [e1, e2]; done) ))
 | (first | (guard_hyp g1; intro g2; try simp at g2) | intro g1; try simp at g1))
    · exact absurd g1 hl
    · have e4 : setG l first c = first + l.length - 1 := by simp [setG, hb, *]
      have e5 : setF l first c = 0 := by simp [setF, hb, *]
      simp only [setC, e4, e5, hb]
      ((first | refine w_retO Tryz.tab [] (by rfl) (by simp) (by simp) (fun K' hL => ?_) ?_ ?_ ?_ | refine w_retO_end Tryz.tab [] (by rfl) (by simp) (by simp) (fun K' hL => ?_) ?_ ?_ ?_); (conv => whnf); (refine hL _ ?_; clear hL); all_goals simp [e1, e2, e3])
    · have e4 : setG l first c = first := by simp [setG, hb, *]
      have e5 : setF l first c = 0 := by simp [setF, hb, *]
      simp only [setC, e4, e5, hb]
      ((first | refine w_retO Tryz.tab [] (by rfl) (by simp) (by simp) (fun K' hL => ?_) ?_ ?_ ?_ | refine w_retO_end Tryz.tab [] (by rfl) (by simp) (by simp) (fun K' hL => ?_) ?_ ?_ ?_); (conv => whnf); (refine hL _ ?_; clear hL); all_goals simp [e1, e2, e3])
  · rw [hb] at hL
    have hF := c_frames c first l false h (lost_in hb).1
    refine v_cspec Tryz.func133 rfl Tryz.ntmps133 Tryz.results133 (by simp) (k := 1) rfl ?_
    repeat' (first
 | (with_reducible first | apply qz0 | (refine h0 _ _ ?_; clear h0 hw) | (refine hw _ _ _ ?_; clear h0 hw) | apply qz1 | apply qz2 | apply qz3 | apply qz5 | apply qz6 | apply qz9 )
 | refine p_reg fun K1 hK => ?_ | refine p_regE fun K1 hK => ?_
 | refine p_dreg Tryz.mix fun K1 hK => ?_
 | apply go_seq
 | ((first | refine p_op Tryz.tab fun K' h0 hw => ?_ | refine p_op0 Tryz.tab fun K' h0 hw => ?_ | refine p_dop Tryz.tab fun K' h0 hw => ?_); conv => whnf)
 | (refine p_nil (hK _ ?_); clear hK)
 | (refine d_nil (p_obj ?_ (hK _ _ _ _)); clear hK)
 | ((with_reducible refine callV_id (f := 141) ?_); (with_reducible apply w_callO [0] own141 (hL)); (case hx => rfl); (case he => rfl); (case hle => first | ((repeat constructor); done) ); (case hm => rfl); (case hnd => decide); (case' hK => conv => whnf); (any_goals (simp [e1, e2, e3]; done)))
 | ((with_reducible refine callV_id (f := 134) ?_); (with_reducible apply w_callR [0] own134 (hF)); (case hx => rfl); (case he => rfl); (case hle => first | ((repeat constructor); done) ); (case hm => rfl); (case hnd => decide); (case' hK => conv => whnf); (any_goals first | exact ⟨rfl, trivial⟩ | (simp [e1, e2, e3]; done)))
 | ((with_reducible apply go_cond); (case hb => rfl))
 | ((with_reducible apply And.intro); (case' right => try (conv => whnf)); (case' left => try first | rfl | decide | (simp [e1, e2, e3]; done) ))
 | (first | (guard_hyp g1; intro g2; try simp at g2) | intro g1; try simp at g1))
    · exact absurd g1 hl
    · have e4 : setG l first c = c.group + 1 := by simp [setG, hb, *]
      have e5 : setF l first c = 0 := by simp [setF, hb, *]
      simp only [setC, e4, e5, hb]
      ((first | refine w_retO Tryz.tab [] (by rfl) (by simp) (by simp) (fun K' hL => ?_) ?_ ?_ ?_ | refine w_retO_end Tryz.tab [] (by rfl) (by simp) (by simp) (fun K' hL => ?_) ?_ ?_ ?_); (conv => whnf); (refine hL _ ?_; clear hL); all_goals simp [e1, e2, e3])
    · have e4 : setG l first c = c.group := by simp [setG, hb, *]
      have e5 : setF l first c = c.frame := by simp [setF, hb, *]
      simp only [setC, e4, e5, hb]
      ((first | refine w_retO Tryz.tab [] (by rfl) (by simp) (by simp) (fun K' hL => ?_) ?_ ?_ ?_ | refine w_retO_end Tryz.tab [] (by rfl) (by simp) (by simp) (fun K' hL => ?_) ?_ ?_ ?_); (conv => whnf); (refine hL _ ?_; clear hL); all_goals simp [e1, e2, e3])
theorem settle_in {l : List (List Fr)} {first : Int} {c : Cu} (h : SmallC l first c) (hne : ∀ g ∈ l, 0 < g.length) (hl : l ≠ []) (hs : setG l first c < first + l.length) :
    inB l first (setC l first c) = true ∧ 0 ≤ setF l first c ∧ setF l first c < (grpAt l first (setC l first c)).length ∧ first ≤ setG l first c := by
  obtain ⟨h1, h2, h3, h4⟩ := h
  have hp := List.length_pos_iff.2 hl
  have hat : ∀ x : Int, first ≤ x → x < first + l.length → 0 < (l.getD (x - first).toNat []).length := fun x hx hx2 => by
    rw [List.getD_eq_getElem?_getD, List.getElem?_eq_getElem (show (x - first).toNat < l.length by omega)]
    exact hne _ (List.getElem_mem _)
  by_cases hb : lostB l first c = true
  · by_cases hm : c.mode = 1
    · have := hat (first + l.length - 1) (by omega) (by omega)
      have e2 : setG l first c = first + l.length - 1 := by simp [setG, hb, hm]
      have e3 : setF l first c = 0 := by simp [setF, hb, hm]
      have e1 : setC l first c = ⟨c.mode, first + l.length - 1, 0⟩ := by rw [setC, e2, e3]
      rw [e1, e2, e3]
      refine ⟨by simp [inB]; omega, by omega, by simp only [grpAt]; omega, by omega⟩
    · have := hat first (by omega) (by omega)
      have e2 : setG l first c = first := by simp [setG, hb, hm]
      have e3 : setF l first c = 0 := by simp [setF, hb, hm]
      have e1 : setC l first c = ⟨c.mode, first, 0⟩ := by rw [setC, e2, e3]
      rw [e1, e2, e3]
      refine ⟨by simp [inB]; omega, by omega, by simp only [grpAt]; omega, by omega⟩
  · have hb' : lostB l first c = false := by simpa using hb
    have hi := lost_in hb'
    have hi1 := hi.1
    have hi2 := hi.2
    simp only [inB, decide_eq_true_eq] at hi1
    by_cases hm : c.frame = (grpAt l first c).length
    · have e2 : setG l first c = c.group + 1 := by simp [setG, hb', ← hm]
      have e3 : setF l first c = 0 := by simp [setF, hb', ← hm]
      have e1 : setC l first c = ⟨c.mode, c.group + 1, 0⟩ := by rw [setC, e2, e3]
      rw [e2] at hs
      have := hat (c.group + 1) (by omega) (by omega)
      rw [e1, e2, e3]
      refine ⟨by simp [inB]; omega, by omega, by simp only [grpAt]; omega, by omega⟩
    · have e2 : setG l first c = c.group := by simp [setG, hb', hm]
      have e3 : setF l first c = c.frame := by simp [setF, hb', hm]
      have e1 : setC l first c = ⟨c.mode, c.group, c.frame⟩ := by rw [setC, e2, e3]
      rw [e1, e2, e3]
      have h9 : grpAt l first ⟨c.mode, c.group, c.frame⟩ = grpAt l first c := rfl
      refine ⟨by simp [inB]; omega, by omega, by rw [h9]; omega, by omega⟩
theorem grpAt_mem {l : List (List Fr)} {first : Int} {c : Cu} (h : 0 < (grpAt l first c).length) : grpAt l first c ∈ l := by
  unfold grpAt at h ⊢
  rw [List.getD_eq_getElem?_getD] at h ⊢
  cases hq : l[(c.group - first).toNat]? with
  | none => rw [hq] at h; simp at h
  | some g => exact List.mem_of_getElem? hq
def nextR (s : Sto) (c : Cu) (upto : Int) : Cu × Fr × Bool × Bool :=
  if c.mode = 2 ∨ allS s = [] ∨ ¬ setG (allS s) s.first c < s.first + (allS s).length then (c, fr0, false, false)
  else if c.mode = 3 ∧ upto < ((grpAt (allS s) s.first (setC (allS s) s.first c)).getD (setF (allS s) s.first c).toNat fr0).time then (c, fr0, false, false)
  else (⟨c.mode, setG (allS s) s.first c, setF (allS s) s.first c + 1⟩, (grpAt (allS s) s.first (setC (allS s) s.first c)).getD (setF (allS s) s.first c).toNat fr0, true, lostB (allS s) s.first c)
abbrev nxT (r : Cu × Fr × Bool × Bool) : List AV := [.agg (cuC r.1), .agg (frC r.2.1), B r.2.2.1, B r.2.2.2]
theorem right_smallC {s : Sto} {c : Cu} (hr : RightS s) (hc : cuE c = 0) : SmallC (allS s) s.first c := by
  have h1 := hr.all.1
  have h2 := hr.1
  obtain ⟨_, h4, h5⟩ := cuE_ok hc
  exact ⟨h1, h2, by omega, by omega⟩
set_option maxHeartbeats 2000000 in
theorem c_cursorRaw (s : Sto) (c : Cu) (upto : Int) (hr : RightS s) (hc : cuE c = 0) : PSpec Tryz.prog 120 [.agg (stC s), .agg (cuC c), I upto] (.tup (nxT (nextR s c upto))) := by
  refine p_pspec Tryz.func120 Tryz.ntmps120 Tryz.results120 ?_
  have hsc := right_smallC hr hc
  have hne : ∀ g ∈ allS s, 0 < g.length := fun g hg => List.length_pos_iff.2 (groupE_ok (hr.all.2 g hg)).1
  have hAll := c_storeAll s (by have := hr.2.1; omega)
  have hgm : ∀ c', 0 < (grpAt (allS s) s.first c').length → grpAt (allS s) s.first c' ∈ allS s := fun c' h => grpAt_mem h
  by_cases hl : allS s = []
  · have e : nextR s c upto = (c, fr0, false, false) := if_pos (.inr (.inl hl))
    rw [hl] at hAll
    rw [e]
    have hS := c_settle0 c s.first
    repeat' (first
 | (with_reducible first | apply qz0 | (refine h0 _ _ ?_; clear h0 hw) | (refine hw _ _ _ ?_; clear h0 hw) | apply qz1 | apply qz5 | (refine hL _ ?_; clear hL))
 | refine p_reg fun K1 hK => ?_
 | refine p_dreg Tryz.mix fun K1 hK => ?_
 | apply go_seq
 | ((first | refine p_op Tryz.tab fun K' h0 hw => ?_ | refine p_op0 Tryz.tab fun K' h0 hw => ?_ | refine p_dop Tryz.tab fun K' h0 hw => ?_); conv => whnf)
 | (refine p_nil (hK _ ?_); clear hK)
 | (refine d_nil (p_obj ?_ (hK _ _ _ _)); clear hK)
 | (first | refine v_grd_yes (by rfl) (by rfl) ?_)
 | ((first | (apply v_grd_no; (case hg => rfl); (case hb => rfl)) | (apply v_grd; (case hg => rfl); (case hb => rfl))); (case hi => (simp only [Nat.reduceAdd, Nat.reduceMul]; rfl)))
 | (refine p_call own131 (hAll) ?_; conv => whnf)
 | ((with_reducible refine callV_id (f := 133) ?_); (with_reducible apply w_callO [192] own133 (hS)); (case hx => rfl); (case he => rfl); (case hle => first | ((repeat constructor); done) ); (case hm => rfl); (case hnd => decide); (case' hK => conv => whnf); (any_goals (simp; done)))
 | ((with_reducible apply go_cond); (case hb => rfl))
 | ((with_reducible first | refine w_ret Tryz.tab fun K' hL => ?_ ); (conv => whnf))
 | ((with_reducible apply And.intro); (case' right => try (conv => whnf)); (case' left => try first | rfl | decide | (simp; done) ))
 | (first | (guard_hyp g4; intro g5; try simp at g5) | (guard_hyp g3; intro g4; try simp at g4) | (guard_hyp g2; intro g3; try simp at g3) | (guard_hyp g1; intro g2; try simp at g2) | intro g1; try simp at g1))
    all_goals simp [fr0]
  · by_cases hq : setG (allS s) s.first c < s.first + (allS s).length
    · obtain ⟨q1, q2, q3, q4⟩ := settle_in hsc hne hl hq
      have hS := c_settle c s.first (allS s) hsc hl
      have hqd : decide (setG (allS s) s.first c < s.first + (allS s).length) = true := by simpa using hq
      rw [hqd] at hS
      have hgr := hr.all.2 _ (hgm (setC (allS s) s.first c) (by omega))
      have hg6 := (groupE_ok hgr).2.1
      have hgf := (right_fits hgr).2
      have e3 := wrp (n := setF (allS s) s.first c + 1) (by omega) (by omega)
      have hx' : ∀ {x1 : Fr}, (grpAt (allS s) s.first (setC (allS s) s.first c))[(setC (allS s) s.first c).frame.toNat]? = some x1 → (grpAt (allS s) s.first (setC (allS s) s.first c)).getD (setF (allS s) s.first c).toNat fr0 = x1 := fun h => by
        rw [List.getD_eq_getElem?_getD]; exact congrArg (·.getD fr0) h
      have hn : ¬ c.mode = 2 → ∀ {x1 : Fr}, (grpAt (allS s) s.first (setC (allS s) s.first c))[(setC (allS s) s.first c).frame.toNat]? = some x1 → nextR s c upto = if c.mode = 3 ∧ upto < x1.time then (c, fr0, false, false) else (⟨c.mode, setG (allS s) s.first c, setF (allS s) s.first c + 1⟩, x1, true, lostB (allS s) s.first c) := fun h1 {x1} h2 => by
        rw [nextR, if_neg (by simp [h1, hl]; omega), hx' h2]
      have hF := c_frames (setC (allS s) s.first c) s.first (allS s) (lostB (allS s) s.first c) (by obtain ⟨a1, a2, a3, a4⟩ := hsc; exact ⟨a1, a2, by simp only; omega, by simp only; omega⟩) q1
      repeat' (first
 | (with_reducible first | apply qz0 | (refine h0 _ _ ?_; clear h0 hw) | (refine hw _ _ _ ?_; clear h0 hw) | apply qz1 | apply qz2 | apply qz5 | apply qz6 | (refine hL _ ?_; clear hL))
 | refine p_reg fun K1 hK => ?_
 | refine p_dreg Tryz.mix fun K1 hK => ?_
 | apply go_seq
 | ((first | refine p_op Tryz.tab fun K' h0 hw => ?_ | refine p_op0 Tryz.tab fun K' h0 hw => ?_ | refine p_dop Tryz.tab fun K' h0 hw => ?_ | refine p_dop0 Tryz.tab fun K' h0 hw => ?_); conv => whnf)
 | (refine p_nil (hK _ ?_); clear hK)
 | (refine d_nil (p_obj ?_ (hK _ _ _ _)); clear hK)
 | (first | refine v_grd_yes (by rfl) (by rfl) ?_)
 | ((first | (apply v_grd_no; (case hg => rfl); (case hb => rfl)) | (apply v_grd; (case hg => rfl); (case hb => rfl))); (case hi => (simp only [Nat.reduceAdd, Nat.reduceMul]; rfl)))
 | (refine p_call own131 (hAll) ?_; conv => whnf)
 | ((with_reducible refine callV_id (f := 133) ?_); (with_reducible apply w_callO [192] own133 (hS)); (case hx => rfl); (case he => rfl); (case hle => first | ((repeat constructor); done) ); (case hm => rfl); (case hnd => decide); (case' hK => conv => whnf); (any_goals (simp; done)))
 | ((with_reducible refine callV_id (f := 134) ?_); (with_reducible apply w_callR [192] own134 (hF)); (case hx => rfl); (case he => rfl); (case hle => first | ((repeat constructor); done) ); (case hm => rfl); (case hnd => decide); (case' hK => conv => whnf); (any_goals first | exact ⟨rfl, trivial⟩ | (simp; done)))
 | ((with_reducible refine callV_id (f := 127) ?_); have hcs_ := c_frameOwn x1 (hgf x1 (List.mem_of_getElem? hx1)); (with_reducible apply callV_f own127 (hcs_)); (case hx => rfl); (case he => rfl); (case hle => first | ((repeat constructor); done) ); (case hpu => repeat constructor); (case' hK => (try clear hcs_); conv => whnf))
 | ((with_reducible apply go_cond); (case hb => rfl))
 | ((with_reducible first | refine w_ret Tryz.tab fun K' hL => ?_ ); (conv => whnf))
 | ((with_reducible apply And.intro); (case' right => try (conv => whnf)); (case' left => try first | rfl | decide | (simp; done) ))
 | exact p_side
 | ((with_reducible refine all_row ?_); (first | intro x1 hx1); conv => whnf)
 | (first | (guard_hyp g4; intro g5; try simp at g5) | (guard_hyp g3; intro g4; try simp at g4) | (guard_hyp g2; intro g3; try simp at g3) | (guard_hyp g1; intro g2; try simp at g2) | intro g1; try simp at g1))
      · rw [hn g1 hx1, if_pos ⟨g3, g4⟩]; simp [fr0]
      · rw [hn g1 hx1, if_neg (by omega)]; simp [e3]
      · rw [hn g1 hx1, if_neg (by omega)]; simp [e3]
      · have e : nextR s c upto = (c, fr0, false, false) := if_pos (.inl g1)
        rw [e]; simp [fr0]
    · have e : nextR s c upto = (c, fr0, false, false) := if_pos (.inr (.inr hq))
      rw [e]
      have hS := c_settle c s.first (allS s) hsc hl
      have hqd : decide (setG (allS s) s.first c < s.first + (allS s).length) = false := by simpa using hq
      rw [hqd] at hS
      repeat' (first
 | (with_reducible first | apply qz0 | (refine h0 _ _ ?_; clear h0 hw) | (refine hw _ _ _ ?_; clear h0 hw) | apply qz1 | apply qz5 | (refine hL _ ?_; clear hL))
 | refine p_reg fun K1 hK => ?_
 | refine p_dreg Tryz.mix fun K1 hK => ?_
 | apply go_seq
 | ((first | refine p_op Tryz.tab fun K' h0 hw => ?_ | refine p_op0 Tryz.tab fun K' h0 hw => ?_ | refine p_dop Tryz.tab fun K' h0 hw => ?_); conv => whnf)
 | (refine p_nil (hK _ ?_); clear hK)
 | (refine d_nil (p_obj ?_ (hK _ _ _ _)); clear hK)
 | (first | refine v_grd_yes (by rfl) (by rfl) ?_)
 | ((first | (apply v_grd_no; (case hg => rfl); (case hb => rfl)) | (apply v_grd; (case hg => rfl); (case hb => rfl))); (case hi => (simp only [Nat.reduceAdd, Nat.reduceMul]; rfl)))
 | (refine p_call own131 (hAll) ?_; conv => whnf)
 | ((with_reducible refine callV_id (f := 133) ?_); (with_reducible apply w_callO [192] own133 (hS)); (case hx => rfl); (case he => rfl); (case hle => first | ((repeat constructor); done) ); (case hm => rfl); (case hnd => decide); (case' hK => conv => whnf); (any_goals (simp; done)))
 | ((with_reducible apply go_cond); (case hb => rfl))
 | ((with_reducible first | refine w_ret Tryz.tab fun K' hL => ?_ ); (conv => whnf))
 | ((with_reducible apply And.intro); (case' right => try (conv => whnf)); (case' left => try first | rfl | decide | (simp; done) ))
 | (first | (guard_hyp g4; intro g5; try simp at g5) | (guard_hyp g3; intro g4; try simp at g4) | (guard_hyp g2; intro g3; try simp at g3) | (guard_hyp g1; intro g2; try simp at g2) | intro g1; try simp at g1))
      all_goals simp [fr0]
end Go.Proofs.YtokkencbpmjdaaaGreat
end
section
namespace Go.Proofs.YtokkencbpmjdaaaGreat
open Go Go.Sy
set_option maxRecDepth 4000
set_option linter.unusedSimpArgs false
set_option linter.unusedVariables false
attribute [local irreducible] Reg RegD Later Out CallV Tri Side EqV Pause
theorem lost_of1 {l : List (List Fr)} {first : Int} {c : Cu} (h : c.group - first < 0 ∨ l.length ≤ c.group - first) : lostB l first c = true := by
  simp [lostB, inB]; omega
theorem lost_of2 {l : List (List Fr)} {first : Int} {c : Cu} {x : List Fr} (hx : l[(c.group - first).toNat]? = some x) (h : x.length < c.frame) : lostB l first c = true := by
  have : grpAt l first c = x := by rw [grpAt, List.getD_eq_getElem?_getD, hx]; rfl
  simp [lostB, this, h]
theorem lost_of3 {l : List (List Fr)} {first : Int} {c : Cu} {x : List Fr} (h0 : 0 ≤ c.group - first) (hx : l[(c.group - first).toNat]? = some x) (h : c.frame ≤ x.length) : lostB l first c = false ∧ grpAt l first c = x := by
  have : grpAt l first c = x := by rw [grpAt, List.getD_eq_getElem?_getD, hx]; rfl
  have hi := (List.getElem?_eq_some_iff.1 hx).1
  refine ⟨?_, this⟩
  simp [lostB, inB, this, h]; omega
set_option maxHeartbeats 2000000 in
theorem c_nextOf (s : Sto) (c : Cu) (upto : Int) (hr : RightS s) (hc : cuE c = 0) : PSpec Tryz.prog 34 [.agg (stC s), .agg (cuC c), I upto] (.tup (nxT (nextR s c upto))) := by
  refine p_pspec Tryz.func34 Tryz.ntmps34 Tryz.results34 ?_
  have hsc := right_smallC hr hc
  have hne : ∀ g ∈ allS s, 0 < g.length := fun g hg => List.length_pos_iff.2 (groupE_ok (hr.all.2 g hg)).1
  have hAll := c_allOf s (by have := hr.2.1; omega)
  obtain ⟨k1, k2, k3, k4⟩ := hsc
  have e1 := wrp (n := c.group - s.first) (by omega) (by omega)
  by_cases hl : allS s = []
  · have e : nextR s c upto = (c, fr0, false, false) := if_pos (.inr (.inl hl))
    rw [hl] at hAll
    rw [e]
    repeat' (first
 | (with_reducible first | apply qz0 | (refine h0 _ _ ?_; clear h0 hw) | (refine hw _ _ _ ?_; clear h0 hw) | apply qz1 | apply qz5 | (refine hL _ ?_; clear hL))
 | refine p_reg fun K1 hK => ?_
 | apply go_seq
 | ((first | refine p_op Tryz.tab fun K' h0 hw => ?_ | refine p_op0 Tryz.tab fun K' h0 hw => ?_); conv => whnf)
 | (refine p_nil (hK _ ?_); clear hK)
 | (first | refine v_grd_yes (by rfl) (by rfl) ?_)
 | ((first | (apply v_grd_no; (case hg => rfl); (case hb => rfl)) | (apply v_grd; (case hg => rfl); (case hb => rfl))); (case hi => (simp only [Nat.reduceAdd, Nat.reduceMul]; rfl)))
 | (refine p_call own31 (hAll) ?_; conv => whnf)
 | ((with_reducible apply go_cond); (case hb => rfl))
 | ((with_reducible first | refine w_ret Tryz.tab fun K' hL => ?_ ); (conv => whnf))
 | ((with_reducible apply And.intro); (case' right => try (conv => whnf)); (case' left => try first | rfl | decide | (simp; done) ))
 | (first | (guard_hyp g7; intro g8; try simp at g8) | (guard_hyp g6; intro g7; try simp at g7) | (guard_hyp g5; intro g6; try simp at g6) | (guard_hyp g4; intro g5; try simp at g5) | (guard_hyp g3; intro g4; try simp at g4) | (guard_hyp g2; intro g3; try simp at g3) | (guard_hyp g1; intro g2; try simp at g2) | intro g1; try simp at g1))
    all_goals simp [fr0]
  · have hlp := List.length_pos_iff.2 hl
    have e2 := wrp (n := ((allS s).length : Int) - 1) (by omega) (by omega)
    have e3 : IntKind.i64.wrap (IntKind.i64.wrap (c.group - s.first) + 1) = c.group - s.first + 1 := by rw [e1, wrp (by omega) (by omega)]
    have hsi := fun h => settle_in (right_smallC hr hc) hne hl h
    repeat' (first
 | ((first | with_reducible refine w_cut (x := .seq (.region _ _ _) (.cond (.tmp 52) _ _)) (X := Unit) [8, 9, 13, 14, 35, 36, 37, 38, 39, 40, 41, 42, 43, 44, 45, 46, 47, 48, 49, 50, 51, 52, 53, 54, 55, 56, 57, 58, 59, 60, 61, 62, 63, 64, 65, 66, 67, 68, 69, 70, 71, 72, 73, 74, 75] (fun _ => [(14, I (setG (allS s) s.first c - s.first)), (13, B (lostB (allS s) s.first c))]) (fun _ => [(208, .box [I c.mode, I c.group, I (setF (allS s) s.first c)])]) (fun _ => setG (allS s) s.first c < s.first + (allS s).length) ?_ ?_); (try (rintro z hz; simp only at hz)))
 | (with_reducible first | apply qz0 | (refine h0 _ _ ?_; clear h0 hw) | (refine hw _ _ _ ?_; clear h0 hw) | apply qz1 | apply qz2 | apply qz5 | apply qz6 | apply qzb | (refine hL _ ?_; clear hL))
 | refine p_reg fun K1 hK => ?_ | refine p_regE fun K1 hK => ?_
 | refine p_dreg Tryz.mix fun K1 hK => ?_
 | apply go_seq
 | ((first | refine p_op Tryz.tab fun K' h0 hw => ?_ | refine p_op0 Tryz.tab fun K' h0 hw => ?_ | refine p_dop Tryz.tab fun K' h0 hw => ?_ | refine p_dop0 Tryz.tab fun K' h0 hw => ?_); conv => whnf)
 | (refine p_nil (hK _ ?_); clear hK)
 | (refine d_nil (p_obj ?_ (hK _ _ _ _)); clear hK)
 | (first | refine d_grd_yes (by rfl) (by rfl) ?_ | refine v_grd_yes (by rfl) (by rfl) ?_)
 | ((first | (apply d_grd_no; (case hg => rfl); (case hb => rfl)) | (apply d_grd; (case hg => rfl); (case hb => rfl)) | (apply v_grd_no; (case hg => rfl); (case hb => rfl)) | (apply v_grd; (case hg => rfl); (case hb => rfl))); (case hi => (simp only [Nat.reduceAdd, Nat.reduceMul]; rfl)))
 | (refine p_call own31 (hAll) ?_; conv => whnf)
 | ((with_reducible apply go_cond); (case hb => rfl))
 | ((with_reducible first | refine w_ret Tryz.tab fun K' hL => ?_ ); (conv => whnf))
 | ((with_reducible apply And.intro); (case' right => try (conv => whnf)); (case' left => try first | rfl | decide | (simp [e1]; done) ))
 | ((with_reducible apply Side.mk); (try simp (disch := omega) only [wrp]); (try simp); (try simp (disch := omega) only [wrp]); (try omega))
 | ((with_reducible apply all_rk); (case hx => with_reducible assumption); (conv => whnf))
 | ((with_reducible refine all_row ?_); (first | (guard_hyp hx1; intro x2 hx2) | intro x1 hx1); conv => whnf)
 | (first | (guard_hyp g7; intro g8; try simp at g8) | (guard_hyp g6; intro g7; try simp at g7) | (guard_hyp g5; intro g6; try simp at g6) | (guard_hyp g4; intro g5; try simp at g5) | (guard_hyp g3; intro g4; try simp at g4) | (guard_hyp g2; intro g3; try simp at g3) | (guard_hyp g1; intro g2; try simp at g2) | intro g1; try simp at g1))
    · exact absurd g2 hl
    all_goals (try (rw [e1] at g3)); (try (rw [e1] at g4)); (try (rw [e1] at hx1)); (try (rw [e3] at g7))
    · have hb := lost_of2 hx1 g5
      have e4 : setG (allS s) s.first c = s.first + (allS s).length - 1 := by simp [setG, hb, g6]
      have e5 : setF (allS s) s.first c = 0 := by simp [setF, hb]
      have e6 : s.first + ((allS s).length : Int) - 1 - s.first = (allS s).length - 1 := by omega
      ((refine w_nx (()) ?_ ?_ ?_ ?_ ?_ ?_); (case refine_1 => simp [e1, e2, e4, e5, e6, hb]); (case refine_2 => simp [e1, e2, e4, e5, e6, hb]); (case refine_3 => simp (disch := omega) [e1, e2, e4, e5, e6, hb, wrp]); (case refine_4 => simp [e1, e2, e4, e5, e6, hb]); (case refine_5 => first | (simp; omega) | (simp; done) | omega | (simp only; omega)); (case' refine_6 => (try simp only); (try exact trivial)))
      all_goals (try omega)
    · have hb := lost_of2 hx1 g5
      have e4 : setG (allS s) s.first c = s.first := by simp [setG, hb, g6]
      have e5 : setF (allS s) s.first c = 0 := by simp [setF, hb]
      ((refine w_nx (()) ?_ ?_ ?_ ?_ ?_ ?_); (case refine_1 => simp [e1, e2, e4, e5, hb]); (case refine_2 => simp [e1, e2, e4, e5, hb]); (case refine_3 => simp (disch := omega) [e1, e2, e4, e5, hb, wrp]); (case refine_4 => simp [e1, e2, e4, e5, hb]); (case refine_5 => first | (simp; omega) | (simp; done) | omega | (simp only; omega)); (case' refine_6 => (try simp only); (try exact trivial)))
      all_goals (try omega)
    · obtain ⟨hb, hgx⟩ := lost_of3 g3 hx1 g5
      have e4 : setG (allS s) s.first c = c.group + 1 := by simp [setG, hb, hgx, g6]
      have e : nextR s c upto = (c, fr0, false, false) := if_pos (.inr (.inr (by omega)))
      rw [e]; simp [fr0]
    · obtain ⟨hb, hgx⟩ := lost_of3 g3 hx1 g5
      have e4 : setG (allS s) s.first c = c.group + 1 := by simp [setG, hb, hgx, g6]
      have e5 : setF (allS s) s.first c = 0 := by simp [setF, hb, hgx, g6]
      have e6 : c.group + 1 - s.first = c.group - s.first + 1 := by omega
      ((refine w_nx (()) ?_ ?_ ?_ ?_ ?_ ?_); (case refine_1 => simp [e1, e2, e3, e4, e5, e6, hb]); (case refine_2 => simp [e1, e2, e3, e4, e5, e6, hb]); (case refine_3 => simp (disch := omega) [e1, e2, e3, e4, e5, e6, hb, wrp]); (case refine_4 => simp [e1, e2, e3, e4, e5, e6, hb]); (case refine_5 => first | (simp; omega) | (simp; done) | omega | (simp only; omega)); (case' refine_6 => (try simp only); (try exact trivial)))
      all_goals (try omega)
    · obtain ⟨hb, hgx⟩ := lost_of3 g3 hx1 g5
      have e4 : setG (allS s) s.first c = c.group := by simp [setG, hb, hgx, g6]
      have e5 : setF (allS s) s.first c = c.frame := by simp [setF, hb, hgx, g6]
      ((refine w_nx (()) ?_ ?_ ?_ ?_ ?_ ?_); (case refine_1 => simp [e1, e2, e4, e5, hb]); (case refine_2 => simp [e1, e2, e4, e5, hb]); (case refine_3 => simp (disch := omega) [e1, e2, e4, e5, hb, wrp]); (case refine_4 => simp [e1, e2, e4, e5, hb]); (case refine_5 => first | (simp; omega) | (simp; done) | omega | (simp only; omega)); (case' refine_6 => (try simp only); (try exact trivial)))
      all_goals (try omega)
    all_goals try
      (have hb : lostB (allS s) s.first c = true := lost_of1 (by omega)
       have e5 : setF (allS s) s.first c = 0 := by simp [setF, hb]
       rcases Int.decEq c.mode 1 with hm | hm
       · have e4 : setG (allS s) s.first c = s.first := by simp [setG, hb, hm]
         first | (exfalso; omega) | (((refine w_nx (()) ?_ ?_ ?_ ?_ ?_ ?_); (case refine_1 => simp [e1, e2, e4, e5, hb]); (case refine_2 => simp [e1, e2, e4, e5, hb]); (case refine_3 => simp (disch := omega) [e1, e2, e4, e5, hb, wrp]); (case refine_4 => simp [e1, e2, e4, e5, hb]); (case refine_5 => first | (simp; omega) | (simp; done) | omega | (simp only; omega)); (case' refine_6 => (try simp only); (try exact trivial))); (try omega); done)
       · have e4 : setG (allS s) s.first c = s.first + (allS s).length - 1 := by simp [setG, hb, hm]
         have e6 : s.first + ((allS s).length : Int) - 1 - s.first = (allS s).length - 1 := by omega
         first | (exfalso; omega) | (((refine w_nx (()) ?_ ?_ ?_ ?_ ?_ ?_); (case refine_1 => simp [e1, e2, e4, e5, e6, hb]); (case refine_2 => simp [e1, e2, e4, e5, e6, hb]); (case refine_3 => simp (disch := omega) [e1, e2, e4, e5, e6, hb, wrp]); (case refine_4 => simp [e1, e2, e4, e5, e6, hb]); (case refine_5 => first | (simp; omega) | (simp; done) | omega | (simp only; omega)); (case' refine_6 => (try simp only); (try exact trivial))); (try omega); done))
    all_goals try
      (obtain ⟨q1, q2, q3, q4⟩ := hsi g4
       have hga : grpAt (allS s) s.first (setC (allS s) s.first c) = x1 := by rw [grpAt, List.getD_eq_getElem?_getD]; exact congrArg (·.getD []) hx1
       rw [hga] at q3)
    · exact q2
    · show Nat.succ _ ≤ _; omega
    all_goals try
      (have hx6 := (groupE_ok (hr.all.2 x1 (List.mem_of_getElem? hx1))).2.1
       have hn : nextR s c upto = if c.mode = 3 ∧ upto < x2.time then (c, fr0, false, false) else (⟨c.mode, setG (allS s) s.first c, setF (allS s) s.first c + 1⟩, x2, true, lostB (allS s) s.first c) := by
         rw [nextR, if_neg (by simp [g1, hl]; omega), hga, show x1.getD (setF (allS s) s.first c).toNat fr0 = x2 by rw [List.getD_eq_getElem?_getD]; exact congrArg (·.getD fr0) hx2]
       have e8 := wrp (n := setF (allS s) s.first c + 1) (by omega) (by omega)
       have e9 : s.first + (setG (allS s) s.first c - s.first) = setG (allS s) s.first c := by omega
       have e10 := wrp (n := setG (allS s) s.first c) (by omega) (by omega))
    · rw [hn, if_pos ⟨g5, g6⟩]; simp [fr0]
    · rw [hn, if_neg (by omega)]; simp [e8, e9, e10]
    · rw [hn, if_neg (by omega)]; simp [e8, e9, e10]
    · have e : nextR s c upto = (c, fr0, false, false) := if_pos (.inl g1)
      rw [e]; simp [fr0]
end Go.Proofs.YtokkencbpmjdaaaGreat
end
section
namespace Go.Proofs.YtokkencbpmjdaaaGreat
open Go Go.Sy
set_option maxRecDepth 4000
set_option linter.unusedSimpArgs false
set_option linter.unusedVariables false
attribute [local irreducible] Reg RegD Later Out CallV Tri Side EqV Pause
instance : DecidableEq Cu := fun p q => decidable_of_iff (p.mode = q.mode ∧ p.group = q.group ∧ p.frame = q.frame) ⟨fun ⟨h1, h2, h3⟩ => Cu.ext' h1 h2 h3, fun h => by subst h; simp⟩
end Go.Proofs.YtokkencbpmjdaaaGreat
end
section
namespace Go.Proofs.YtokkencbpmjdaaaGreat
open Go Go.Sy
set_option linter.unusedSimpArgs false
set_option linter.unusedVariables false
end Go.Proofs.YtokkencbpmjdaaaGreat
end
section
namespace Go.Proofs.YtokkencbpmjdaaaGreat
open Go Go.Sy
set_option maxRecDepth 4000
set_option linter.unusedSimpArgs false
set_option linter.unusedVariables false
attribute [local irreducible] Reg RegD Later Out CallV Tri Side EqV Pause
theorem goE_key : ∀ {l : List Fr} {p : Option Fr} {i : Nat} {x : Fr}, goE p l = 0 → l[i]? = some x → x.key = (p.isNone && decide (i = 0))
  | [], _, _, _, _, h => by simp at h
  | f :: l, p, i, x, h, hx => by
    rw [goE] at h
    split at h
    · rename_i q; exact absurd h q
    · split at h
      · cases h
      · rename_i q
        cases i with
        | zero =>
          simp at hx; subst hx
          cases p with
          | none => simpa [badG] using q
          | some y => simp [badG] at q; simp [q.1]
        | succ i =>
          have := goE_key (p := some f) (i := i) h (by simpa using hx)
          simpa using this
theorem key_at {g : List Fr} {i : Nat} {x : Fr} (h : groupE g = 0) (hx : g[i]? = some x) : x.key = decide (i = 0) := by
  have := goE_key (groupE_ok h).2.2.1 hx
  simpa using this
theorem live_ok {s : Sto} (h : (liveS s).2 = 0) : RightS s ∧ 0 < (allS s).length ∧ liveS s = (⟨1, s.first + (allS s).length - 1, 0⟩, 0) := by
  unfold liveS at h ⊢
  by_cases h1 : storeE s = 0
  · rw [if_pos h1] at h ⊢
    by_cases h2 : 0 < (allS s).length
    · rw [if_pos h2]; exact ⟨storeE_ok h1, h2, rfl⟩
    · rw [if_neg h2] at h; cases h
  · rw [if_neg h1] at h; exact absurd h h1
end Go.Proofs.YtokkencbpmjdaaaGreat
end

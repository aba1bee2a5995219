/- Walks of package cursor. No condition. -/
import Derived.Test.YtbhcjgobapnajaaStB
import Derived.Test.YtbhcjgobapnajaaSy3
import Derived.Test.YtbhcjgobapnajaaFrA
section
namespace Go.Proofs.Ytbhcjgobapnajaa
open Go Go.Sy
set_option maxRecDepth 4000
set_option linter.unusedSimpArgs false
set_option linter.unusedVariables false
attribute [local irreducible] Reg RegD Later Out CallV Tri Side EqV
structure Cu where
  mode : Int
  group : Int
  frame : Int
abbrev cuC (c : Cu) : List AV := [I c.mode, I c.group, I c.frame]
def cu0 : Cu := ⟨0, 0, 0⟩
theorem Cu.ext' {p q : Cu} (h1 : p.mode = q.mode) (h2 : p.group = q.group) (h3 : p.frame = q.frame) : p = q := by cases p; cases q; simp_all
def cuOK (c : Cu) : Prop := (1 ≤ c.mode ∧ c.mode ≤ 3) ∧ (0 ≤ c.group ∧ c.group ≤ 100006) ∧ 0 ≤ c.frame ∧ c.frame ≤ 6
def cuE (c : Cu) : Int := if ¬ (1 ≤ c.mode ∧ c.mode ≤ 3) then 6 else if ¬ ((0 ≤ c.group ∧ c.group ≤ 100006) ∧ 0 ≤ c.frame ∧ c.frame ≤ 6) then 3 else 0
theorem cuE_ok {c : Cu} (h : cuE c = 0) : cuOK c := by
  unfold cuE at h
  unfold cuOK
  split at h
  · cases h
  · split at h
    · cases h
    · omega
theorem c_cwithin (n lo hi : Int) : PSpec Try.prog 107 [I n, I lo, I hi] (B (decide (lo ≤ n ∧ n ≤ hi))) := by
  refine v_pspec Try.func107 rfl Try.ntmps107 Try.results107 (by simp) (by first | exact .s _ | repeat constructor) ?_
  repeat' (first
 | (with_reducible first | apply qz0 | (refine h0 _ _ ?_; clear h0 hw) | apply qz1 | (refine hL _ ?_; clear hL))
 | (with_reducible first | refine w_reg (by decide +kernel) fun K1 hK => ?_ )
 | ((with_reducible first | apply v_op Try.tab ) <;> first | (intro K' h0 hw; conv => whnf) | (simp only [Nat.reduceAdd, Nat.reduceMul]; rfl))
 | ((with_reducible apply v_nil); (case hm => (simp only [Nat.reduceAdd, Nat.reduceMul]; rfl)); (case' h => with_reducible refine hK _ ?_; clear hK))
 | (first | refine v_grd_yes (by rfl) (by rfl) ?_)
 | ((first | (apply v_grd_no; (case hg => rfl); (case hb => rfl)) | (apply v_grd; (case hg => rfl); (case hb => rfl))); (case hi => (simp only [Nat.reduceAdd, Nat.reduceMul]; rfl)))
 | ((with_reducible first | refine w_ret Try.tab fun K' hL => ?_ ); (conv => whnf))
 | (first  | intro g1; try simp at g1))
  all_goals (refine le_of_eq ?_; congr 2; rw [Bool.eq_iff_iff]; simp; (try omega))
set_option maxHeartbeats 1000000 in
theorem c_cursorCheck (c : Cu) : PSpec Try.prog 99 [.agg (cuC c)] (I (cuE c)) := by
  refine v_pspec Try.func99 rfl Try.ntmps99 Try.results99 (by simp) (by first | exact .s _ | repeat constructor) ?_
  repeat' (first
 | (with_reducible first | apply qz0 | (refine h0 _ _ ?_; clear h0 hw) | (refine hw _ _ _ ?_; clear h0 hw) | apply qz1 | apply qz2 | apply qz3 | apply qz5 | apply qz6 | apply qz8 | apply qz9 | (refine hL _ ?_; clear hL))
 | (with_reducible first | refine w_reg (by decide +kernel) fun K1 hK => ?_ )
 | with_reducible refine go_seq ?_
 | ((with_reducible first | apply v_op Try.tab ) <;> first | (intro K' h0 hw; conv => whnf) | (simp only [Nat.reduceAdd, Nat.reduceMul]; rfl))
 | ((with_reducible apply v_nil); (case hm => (simp only [Nat.reduceAdd, Nat.reduceMul]; rfl)); (case' h => with_reducible refine hK _ ?_; clear hK))
 | (first | refine v_grd_yes (by rfl) (by rfl) ?_)
 | ((first | (apply v_grd_no; (case hg => rfl); (case hb => rfl)) | (apply v_grd; (case hg => rfl); (case hb => rfl))); (case hi => (simp only [Nat.reduceAdd, Nat.reduceMul]; rfl)))
 | ((with_reducible refine callV_id (f := 107) ?_); (with_reducible apply callV_f own107 (c_cwithin _ _ _)); (case hx => rfl); (case he => rfl); (case hle => first | ((repeat constructor); done) ); (case hpu => repeat constructor); (case' hK => conv => whnf))
 | ((with_reducible apply go_cond); (case hb => rfl))
 | ((with_reducible first | refine w_ret Try.tab fun K' hL => ?_ ); (conv => whnf))
 | ((with_reducible apply And.intro); (case' right => try (conv => whnf)); (case' left => try first | rfl | decide | (simp; done) ))
 | (first  | intro g1; try simp at g1))
  all_goals first
    | (refine le_of_eq (congrArg I (Eq.symm (if_pos ?_ : cuE c = 6))); omega)
    | (refine le_of_eq (congrArg I (Eq.symm ((if_neg ?_).trans (if_pos ?_) : cuE c = 3))) <;> omega)
    | (refine le_of_eq (congrArg I (Eq.symm ((if_neg ?_).trans (if_neg ?_) : cuE c = 0))) <;> omega)
set_option maxHeartbeats 1000000 in
theorem c_newest (s : Sto) (hr : RightS s) : PSpec Try.prog 138 [.agg (stC s)] (I (s.first + (allS s).length - 1)) := by
  refine v_pspec Try.func138 rfl Try.ntmps138 Try.results138 (by simp) (by first | exact .s _ | repeat constructor) ?_
  have h1 := hr.1
  have h2 := hr.all.1
  have h3 := hr.2.1
  have e1 := wrp (n := s.first + ((allS s).length : Int)) (by omega) (by omega)
  have e2 := wrp (n := s.first + ((allS s).length : Int) - 1) (by omega) (by omega)
  repeat' (first
 | (with_reducible first | apply qz0 | (refine h0 _ _ ?_; clear h0 hw) | (refine hw _ _ _ ?_; clear h0 hw) | apply qz1 | (refine hL _ ?_; clear hL))
 | (with_reducible first | refine w_reg (by decide +kernel) fun K1 hK => ?_ )
 | ((with_reducible first | apply d_reg Try.mix (by decide +kernel) ); (case hm => simp only [List.length_cons, List.length_nil, Nat.reduceAdd, Nat.reduceMul]; rfl); (case' h => intro K1 hK))
 | ((with_reducible first | apply v_op Try.tab | apply d_op Try.tab ) <;> first | (intro K' h0 hw; conv => whnf) | (simp only [Nat.reduceAdd, Nat.reduceMul]; rfl))
 | ((with_reducible apply v_nil); (case hm => (simp only [Nat.reduceAdd, Nat.reduceMul]; rfl)); (case' h => with_reducible refine hK _ ?_; clear hK))
 | ((with_reducible apply d_nil); (refine hK _ _ _ _ (by first | decide +kernel ) ?_; clear hK))
 | ((with_reducible refine callV_id (f := 74) ?_); have hcs_ := c_storeAll s (by omega); (with_reducible apply callV_f own74 (hcs_)); (case hx => rfl); (case he => rfl); (case hle => first | ((repeat constructor); done) ); (case hpu => repeat constructor); (case' hK => (try clear hcs_); conv => whnf))
 | ((with_reducible first | refine w_ret Try.tab fun K' hL => ?_ ); (conv => whnf))
 | ((with_reducible apply And.intro); (case' right => try (conv => whnf)); (case' left => try first | rfl | decide | (simp; done) ))
 )
  refine le_of_eq ?_; simp [e1, e2]
def liveS (s : Sto) : Cu × Int := if storeE s = 0 then (if 0 < (allS s).length then (⟨1, s.first + (allS s).length - 1, 0⟩, 0) else (cu0, 5)) else (cu0, storeE s)
def cuT (r : Cu × Int) : AV := .tup [.agg (cuC r.1), I r.2]
set_option maxHeartbeats 1000000 in
theorem c_live (s : Sto) (hs : FitsS s) : PSpec Try.prog 97 [.agg (stC s)] (cuT (liveS s)) := by
  refine v_pspec Try.func97 rfl Try.ntmps97 Try.results97 (by simp) (by repeat constructor) ?_
  repeat' (first
 | (with_reducible first | apply qz0 | (refine h0 _ _ ?_; clear h0 hw) | (refine hw _ _ _ ?_; clear h0 hw) | apply qz1 | apply qz2 | apply qz5 | apply qz6 | (refine hL _ ?_; clear hL))
 | (with_reducible first | refine w_reg (by decide +kernel) fun K1 hK => ?_ | refine w_reg_end (by decide +kernel) fun K1 hK => ?_)
 | ((with_reducible first | apply d_reg Try.mix (by decide +kernel) ); (case hm => simp only [List.length_cons, List.length_nil, Nat.reduceAdd, Nat.reduceMul]; rfl); (case' h => intro K1 hK))
 | with_reducible refine go_seq ?_
 | ((with_reducible first | apply v_op Try.tab | apply v_op0 Try.tab | apply d_op Try.tab ) <;> first | (intro K' h0 hw; conv => whnf) | (simp only [Nat.reduceAdd, Nat.reduceMul]; rfl))
 | ((with_reducible apply v_nil); (case hm => (simp only [Nat.reduceAdd, Nat.reduceMul]; rfl)); (case' h => with_reducible refine hK _ ?_; clear hK))
 | ((with_reducible apply d_nil); (refine hK _ _ _ _ (by first | decide +kernel ) ?_; clear hK))
 | (first | refine d_grd_yes (by rfl) (by rfl) ?_ )
 | ((first | (apply d_grd_no; (case hg => rfl); (case hb => rfl)) | (apply d_grd; (case hg => rfl); (case hb => rfl)) ); (case hi => (simp only [Nat.reduceAdd, Nat.reduceMul]; rfl)))
 | ((with_reducible refine callV_id (f := 30) ?_); have hcs_ := c_storeCheck s hs; (with_reducible apply callV_f own30 (hcs_)); (case hx => rfl); (case he => rfl); (case hle => first | ((repeat constructor); done) ); (case hpu => repeat constructor); (case' hK => (try clear hcs_); conv => whnf))
 | ((with_reducible refine callV_id (f := 138) ?_); have hcs_ := c_newest s (storeE_ok (by assumption)); (with_reducible apply callV_f own138 (hcs_)); (case hx => rfl); (case he => rfl); (case hle => first | ((repeat constructor); done) ); (case hpu => repeat constructor); (case' hK => (try clear hcs_); conv => whnf))
 | ((with_reducible apply go_cond); (case hb => rfl))
 | ((with_reducible first | refine w_ret Try.tab fun K' hL => ?_ ); (conv => whnf))
 | ((with_reducible apply And.intro); (case' right => try (conv => whnf)); (case' left => try first | rfl | decide | (simp; done) ))
 | (first  | intro g1; try simp at g1))
  all_goals (try (exfalso; omega))
  · have e : liveS s = (cu0, 5) := by rw [liveS, if_pos (by assumption), if_neg (by omega)]
    rw [e]; simp [cuT, cu0]
  · have e : liveS s = (⟨1, s.first + (allS s).length - 1, 0⟩, 0) := by rw [liveS, if_pos (by assumption), if_pos (by omega)]
    rw [e]; simp [cuT]
  · have e : liveS s = (cu0, storeE s) := if_neg (by assumption)
    rw [e]; simp [cuT, cu0]
def seekC (s : Sto) (t : Int) : Cu × Int := if (seekS s t).2 = 0 then (⟨3, (seekS s t).1, 0⟩, 0) else (cu0, (seekS s t).2)
set_option maxHeartbeats 1000000 in
theorem c_cursorSeek (s : Sto) (t : Int) (hs : FitsS s) : PSpec Try.prog 96 [.agg (stC s), I t] (cuT (seekC s t)) := by
  refine v_pspec Try.func96 rfl Try.ntmps96 Try.results96 (by simp) (by repeat constructor) ?_
  repeat' (first
 | (with_reducible first | apply qz0 | (refine h0 _ _ ?_; clear h0 hw) | (refine hw _ _ _ ?_; clear h0 hw) | apply qz1 | apply qz2 | apply qz5 | apply qz6 | (refine hL _ ?_; clear hL))
 | (with_reducible first | refine w_reg (by decide +kernel) fun K1 hK => ?_ )
 | with_reducible refine go_seq ?_
 | ((with_reducible first | apply v_op Try.tab | apply v_op0 Try.tab) <;> first | (intro K' h0 hw; conv => whnf) | (simp only [Nat.reduceAdd, Nat.reduceMul]; rfl))
 | ((with_reducible apply v_nil); (case hm => (simp only [Nat.reduceAdd, Nat.reduceMul]; rfl)); (case' h => with_reducible refine hK _ ?_; clear hK))
 | ((with_reducible refine callV_id (f := 72) ?_); have hcs_ := c_storeSeek s t hs; (with_reducible apply callV_f own72 (hcs_)); (case hx => rfl); (case he => rfl); (case hle => first | ((repeat constructor); done) ); (case hpu => repeat constructor); (case' hK => (try clear hcs_); conv => whnf))
 | ((with_reducible apply go_cond); (case hb => rfl))
 | ((with_reducible first | refine w_ret Try.tab fun K' hL => ?_ ); (conv => whnf))
 | ((with_reducible apply And.intro); (case' right => try (conv => whnf)); (case' left => try first | rfl | decide | (simp; done) ))
 | (first | (guard_hyp g1; intro g2; try simp at g2) | intro g1; try simp at g1))
  · have e : seekC s t = (cu0, (seekS s t).2) := if_neg g1
    rw [e]; simp [cuT, cu0]
  · have e : seekC s t = _ := if_pos g1
    rw [e]; simp [cuT]
def pauseC (c : Cu) : Cu × Int := if cuE c = 0 then (⟨2, c.group, c.frame⟩, 0) else (cu0, cuE c)
set_option maxHeartbeats 1000000 in
theorem c_pause (c : Cu) : PSpec Try.prog 98 [.agg (cuC c)] (cuT (pauseC c)) := by
  refine v_pspec Try.func98 rfl Try.ntmps98 Try.results98 (by simp) (by repeat constructor) ?_
  repeat' (first
 | (with_reducible first | apply qz0 | (refine h0 _ _ ?_; clear h0 hw) | (refine hw _ _ _ ?_; clear h0 hw) | apply qz1 | apply qz2 | apply qz5 | apply qz6 | (refine hL _ ?_; clear hL))
 | (with_reducible first | refine w_reg (by decide +kernel) fun K1 hK => ?_ )
 | with_reducible refine go_seq ?_
 | ((with_reducible first | apply v_op Try.tab | apply v_op0 Try.tab) <;> first | (intro K' h0 hw; conv => whnf) | (simp only [Nat.reduceAdd, Nat.reduceMul]; rfl))
 | ((with_reducible apply v_nil); (case hm => (simp only [Nat.reduceAdd, Nat.reduceMul]; rfl)); (case' h => with_reducible refine hK _ ?_; clear hK))
 | ((with_reducible refine callV_id (f := 99) ?_); have hcs_ := c_cursorCheck c; (with_reducible apply callV_f own99 (hcs_)); (case hx => rfl); (case he => rfl); (case hle => first | ((repeat constructor); done) ); (case hpu => repeat constructor); (case' hK => (try clear hcs_); conv => whnf))
 | ((with_reducible apply go_cond); (case hb => rfl))
 | ((with_reducible first | refine w_ret Try.tab fun K' hL => ?_ ); (conv => whnf))
 | ((with_reducible apply And.intro); (case' right => try (conv => whnf)); (case' left => try first | rfl | decide | (simp; done) ))
 | (first | (guard_hyp g1; intro g2; try simp at g2) | intro g1; try simp at g1))
  · have e : pauseC c = (cu0, cuE c) := if_neg g1
    rw [e]; simp [cuT, cu0]
  · have e : pauseC c = _ := if_pos g1
    rw [e]; simp [cuT]
abbrev wkB (c : Cu) (first : Int) (l : List (List Fr)) (turn : Bool) : Ob := .box [I c.mode, I c.group, I c.frame, I first, grs l, B turn]
def inB (l : List (List Fr)) (first : Int) (c : Cu) : Bool := decide (first ≤ c.group ∧ c.group ≤ first + l.length - 1)
def grpAt (l : List (List Fr)) (first : Int) (c : Cu) : List Fr := l.getD (c.group - first).toNat []
def lostB (l : List (List Fr)) (first : Int) (c : Cu) : Bool := !inB l first c || decide ((grpAt l first c).length < c.frame)
def SmallC (l : List (List Fr)) (first : Int) (c : Cu) : Prop := l.length ≤ 6 ∧ (0 ≤ first ∧ first ≤ 100000) ∧ (0 ≤ c.group ∧ c.group ≤ 200000) ∧ 0 ≤ c.frame ∧ c.frame ≤ 1000
set_option maxHeartbeats 1000000 in
theorem c_frames (c : Cu) (first : Int) (l : List (List Fr)) (turn : Bool) (h : SmallC l first c) (hin : inB l first c = true) :
    CSpec Try.prog 145 [.ptr 0 0] [wkB c first l turn] (frs (grpAt l first c)) [wkB c first l turn] := by
  obtain ⟨h1, h2, h3, h4⟩ := h
  simp [inB] at hin
  have e1 := wrp (n := c.group - first) (by omega) (by omega)
  refine v_cspec Try.func145 rfl Try.ntmps145 Try.results145 (by simp) (k := 1) rfl ?_
  repeat' (first
 | (with_reducible first | apply qz0 | (refine h0 _ _ ?_; clear h0 hw) | apply qz1 )
 | (with_reducible first | refine w_reg (by decide +kernel) fun K1 hK => ?_ )
 | ((with_reducible first | apply d_reg Try.mix (by decide +kernel) ); (case hm => simp only [List.length_cons, List.length_nil, Nat.reduceAdd, Nat.reduceMul]; rfl); (case' h => intro K1 hK))
 | ((with_reducible first | apply v_op Try.tab | apply d_op Try.tab ) <;> first | (intro K' h0 hw; conv => whnf) | (simp only [Nat.reduceAdd, Nat.reduceMul]; rfl))
 | ((with_reducible apply v_nil); (case hm => (simp only [Nat.reduceAdd, Nat.reduceMul]; rfl)); (case' h => with_reducible refine hK _ ?_; clear hK))
 | ((with_reducible apply d_nil); (refine hK _ _ _ _ (by first | decide +kernel ) ?_; clear hK))
 | ((with_reducible apply And.intro); (case' right => try (conv => whnf)); (case' left => try first | rfl | decide | (simp [e1]; done) ))
 | ((with_reducible apply Side.mk); (try simp (disch := omega) only [wrp]); (try simp); (try simp (disch := omega) only [wrp]); (try omega))
 | ((with_reducible refine all_row ?_); (first | intro x1 hx1); conv => whnf)
 )
  rw [e1] at hx1
  have e : grpAt l first c = x1 := by rw [grpAt, List.getD_eq_getElem?_getD, hx1]; rfl
  rw [e]
  ((first | refine w_retO Try.tab [] (by rfl) (by simp) (by simp) (fun K' hL => ?_) ?_ ?_ ?_ | refine w_retO_end Try.tab [] (by rfl) (by simp) (by simp) (fun K' hL => ?_) ?_ ?_ ?_); (conv => whnf); (refine hL _ ?_; clear hL); all_goals simp)
set_option maxHeartbeats 1000000 in
theorem c_lost (c : Cu) (first : Int) (l : List (List Fr)) (turn : Bool) (h : SmallC l first c) :
    CSpec Try.prog 168 [.ptr 0 0] [wkB c first l turn] (B (lostB l first c)) [wkB c first l turn] := by
  have hh := h
  obtain ⟨h1, h2, h3, h4⟩ := hh
  have e1 := wrp (n := first + (l.length : Int)) (by omega) (by omega)
  have e2 := wrp (n := first + (l.length : Int) - 1) (by omega) (by omega)
  refine v_cspec Try.func168 rfl Try.ntmps168 Try.results168 (by simp) (k := 1) rfl ?_
  repeat' (first
 | (with_reducible first | apply qz0 | (refine h0 _ _ ?_; clear h0 hw) | apply qz1 )
 | (with_reducible first | refine w_reg (by decide +kernel) fun K1 hK => ?_ )
 | ((with_reducible first | apply d_reg Try.mix (by decide +kernel) ); (case hm => simp only [List.length_cons, List.length_nil, Nat.reduceAdd, Nat.reduceMul]; rfl); (case' h => intro K1 hK))
 | ((with_reducible first | apply v_op Try.tab | apply d_op Try.tab ) <;> first | (intro K' h0 hw; conv => whnf) | (simp only [Nat.reduceAdd, Nat.reduceMul]; rfl))
 | ((with_reducible apply v_nil); (case hm => (simp only [Nat.reduceAdd, Nat.reduceMul]; rfl)); (case' h => with_reducible refine hK _ ?_; clear hK))
 | ((with_reducible apply d_nil); (refine hK _ _ _ _ (by first | decide +kernel ) ?_; clear hK))
 | (first | refine d_grd_yes (by rfl) (by rfl) ?_ )
 | ((first | (apply d_grd_no; (case hg => rfl); (case hb => rfl)) | (apply d_grd; (case hg => rfl); (case hb => rfl)) ); (case hi => (simp only [Nat.reduceAdd, Nat.reduceMul]; rfl)))
 | ((with_reducible refine callV_id (f := 107) ?_); (with_reducible apply callV_f own107 (c_cwithin _ _ _)); (case hx => rfl); (case he => rfl); (case hle => first | ((repeat constructor); done) ); (case hpu => repeat constructor); (case' hK => conv => whnf))
 | ((with_reducible refine callV_id (f := 145) ?_); have hcs_ := c_frames c first l turn h (by simp [inB, e1, e2] at g1 ⊢; omega); (with_reducible apply w_callR [0] own145 (hcs_)); (case hx => rfl); (case he => rfl); (case hle => first | ((repeat constructor); done) ); (case hm => rfl); (case hnd => decide); (case' hK => (try clear hcs_); conv => whnf); (any_goals first | exact ⟨rfl, trivial⟩ | (simp [e1, e2]; done)))
 | ((with_reducible apply And.intro); (case' right => try (conv => whnf)); (case' left => try first | rfl | decide | (simp [e1, e2]; done) ))
 | (first | (guard_hyp g1; intro g2; try simp at g2) | intro g1; try simp at g1))
  all_goals simp only [e1, e2] at g1
  · have e : lostB l first c = decide ((grpAt l first c).length < c.frame) := by simp [lostB, inB]; omega
    rw [e]
    ((first | refine w_retO Try.tab [] (by rfl) (by simp) (by simp) (fun K' hL => ?_) ?_ ?_ ?_ | refine w_retO_end Try.tab [] (by rfl) (by simp) (by simp) (fun K' hL => ?_) ?_ ?_ ?_); (conv => whnf); (refine hL _ ?_; clear hL); all_goals simp)
  · have e : lostB l first c = true := by simp [lostB, inB]; omega
    rw [e]
    ((first | refine w_retO Try.tab [] (by rfl) (by simp) (by simp) (fun K' hL => ?_) ?_ ?_ ?_ | refine w_retO_end Try.tab [] (by rfl) (by simp) (by simp) (fun K' hL => ?_) ?_ ?_ ?_); (conv => whnf); (refine hL _ ?_; clear hL); all_goals simp)
def setG (l : List (List Fr)) (first : Int) (c : Cu) : Int := if lostB l first c = true then (if c.mode = 1 then first + l.length - 1 else first) else if c.frame = (grpAt l first c).length then c.group + 1 else c.group
def setF (l : List (List Fr)) (first : Int) (c : Cu) : Int := if lostB l first c = true then 0 else if c.frame = (grpAt l first c).length then 0 else c.frame
abbrev setC (l : List (List Fr)) (first : Int) (c : Cu) : Cu := ⟨c.mode, setG l first c, setF l first c⟩
theorem lost_in {l : List (List Fr)} {first : Int} {c : Cu} (h : lostB l first c = false) : inB l first c = true ∧ c.frame ≤ (grpAt l first c).length := by
  simp [lostB] at h; exact ⟨h.1, by omega⟩
set_option maxHeartbeats 1000000 in
theorem c_settle0 (c : Cu) (first : Int) : CSpec Try.prog 144 [.ptr 0 0] [wkB c first [] false] (B false) [wkB c first [] false] := by
  refine v_cspec Try.func144 rfl Try.ntmps144 Try.results144 (by simp) (k := 1) rfl ?_
  repeat' (first
 | (with_reducible first | apply qz0 | (refine h0 _ _ ?_; clear h0 hw) | apply qz1 | apply qz5 )
 | (with_reducible first | refine w_reg (by decide +kernel) fun K1 hK => ?_ )
 | with_reducible refine go_seq ?_
 | ((with_reducible first | apply v_op Try.tab ) <;> first | (intro K' h0 hw; conv => whnf) | (simp only [Nat.reduceAdd, Nat.reduceMul]; rfl))
 | ((with_reducible apply v_nil); (case hm => (simp only [Nat.reduceAdd, Nat.reduceMul]; rfl)); (case' h => with_reducible refine hK _ ?_; clear hK))
 | ((with_reducible apply go_cond); (case hb => rfl))
 | ((with_reducible apply And.intro); (case' right => try (conv => whnf)); (case' left => try first | rfl | decide | (simp; done) ))
 | (first  | intro g1; try simp at g1))
  ((first | refine w_retO Try.tab [] (by rfl) (by simp) (by simp) (fun K' hL => ?_) ?_ ?_ ?_ | refine w_retO_end Try.tab [] (by rfl) (by simp) (by simp) (fun K' hL => ?_) ?_ ?_ ?_); (conv => whnf); (refine hL _ ?_; clear hL); all_goals simp)
set_option maxHeartbeats 1000000 in
theorem c_settle (c : Cu) (first : Int) (l : List (List Fr)) (h : SmallC l first c) (hl : l ≠ []) :
    CSpec Try.prog 144 [.ptr 0 0] [wkB c first l false] (B (decide (setG l first c < first + l.length))) [wkB (setC l first c) first l (lostB l first c)] := by
  have hh := h
  obtain ⟨h1, h2, h3, h4⟩ := hh
  have hp := List.length_pos_iff.2 hl
  have e1 := wrp (n := first + (l.length : Int)) (by omega) (by omega)
  have e2 := wrp (n := first + (l.length : Int) - 1) (by omega) (by omega)
  have e3 := wrp (n := c.group + 1) (by omega) (by omega)
  have hL := c_lost c first l false h
  rcases (by cases lostB l first c <;> simp : lostB l first c = true ∨ lostB l first c = false) with hb | hb
  · rw [hb] at hL
    refine v_cspec Try.func144 rfl Try.ntmps144 Try.results144 (by simp) (k := 1) rfl ?_
    repeat' (first
 | (with_reducible first | apply qz0 | (refine h0 _ _ ?_; clear h0 hw) | (refine hw _ _ _ ?_; clear h0 hw) | apply qz1 | apply qz2 | apply qz3 | apply qz5 | apply qz6 | apply qz9 )
 | (with_reducible first | refine w_reg (by decide +kernel) fun K1 hK => ?_ )
 | ((with_reducible first | apply d_reg Try.mix (by decide +kernel) | apply d_reg_end Try.mix (by decide +kernel)); (case hm => simp only [List.length_cons, List.length_nil, Nat.reduceAdd, Nat.reduceMul]; rfl); (case' h => intro K1 hK))
 | with_reducible refine go_seq ?_
 | ((with_reducible first | apply v_op Try.tab | apply v_op0 Try.tab | apply d_op Try.tab | apply d_op0 Try.tab) <;> first | (intro K' h0 hw; conv => whnf) | (simp only [Nat.reduceAdd, Nat.reduceMul]; rfl))
 | ((with_reducible apply v_nil); (case hm => (simp only [Nat.reduceAdd, Nat.reduceMul]; rfl)); (case' h => with_reducible refine hK _ ?_; clear hK))
 | ((with_reducible apply d_nil); (refine hK _ _ _ _ (by first | decide +kernel | (simp only [List.map_cons, List.map_nil, List.nil_append, List.cons_append]; decide +kernel) ) ?_; clear hK))
 | ((with_reducible refine callV_id (f := 168) ?_); (with_reducible apply w_callO [0] own168 (hL)); (case hx => rfl); (case he => rfl); (case hle => first | ((repeat constructor); done) ); (case hm => rfl); (case hnd => decide); (case' hK => conv => whnf); (any_goals (simp [e1, e2]; done)))
 | ((with_reducible apply go_cond); (case hb => rfl))
 | ((with_reducible apply And.intro); (case' right => try (conv => whnf)); (case' left => try first | rfl | decide | (simp [e1, e2]; done) ))
 | (first | (guard_hyp g1; intro g2; try simp at g2) | intro g1; try simp at g1))
    · exact absurd g1 hl
    · have e4 : setG l first c = first + l.length - 1 := by simp [setG, hb, *]
      have e5 : setF l first c = 0 := by simp [setF, hb, *]
      simp only [setC, e4, e5, hb]
      ((first | refine w_retO Try.tab [] (by rfl) (by simp) (by simp) (fun K' hL => ?_) ?_ ?_ ?_ | refine w_retO_end Try.tab [] (by rfl) (by simp) (by simp) (fun K' hL => ?_) ?_ ?_ ?_); (conv => whnf); (refine hL _ ?_; clear hL); all_goals simp [e1, e2, e3])
    · have e4 : setG l first c = first := by simp [setG, hb, *]
      have e5 : setF l first c = 0 := by simp [setF, hb, *]
      simp only [setC, e4, e5, hb]
      ((first | refine w_retO Try.tab [] (by rfl) (by simp) (by simp) (fun K' hL => ?_) ?_ ?_ ?_ | refine w_retO_end Try.tab [] (by rfl) (by simp) (by simp) (fun K' hL => ?_) ?_ ?_ ?_); (conv => whnf); (refine hL _ ?_; clear hL); all_goals simp [e1, e2, e3])
  · rw [hb] at hL
    have hF := c_frames c first l false h (lost_in hb).1
    refine v_cspec Try.func144 rfl Try.ntmps144 Try.results144 (by simp) (k := 1) rfl ?_
    repeat' (first
 | (with_reducible first | apply qz0 | (refine h0 _ _ ?_; clear h0 hw) | (refine hw _ _ _ ?_; clear h0 hw) | apply qz1 | apply qz2 | apply qz3 | apply qz5 | apply qz6 | apply qz9 )
 | (with_reducible first | refine w_reg (by decide +kernel) fun K1 hK => ?_ | refine w_reg_end (by decide +kernel) fun K1 hK => ?_)
 | ((with_reducible first | apply d_reg Try.mix (by decide +kernel) ); (case hm => simp only [List.length_cons, List.length_nil, Nat.reduceAdd, Nat.reduceMul]; rfl); (case' h => intro K1 hK))
 | with_reducible refine go_seq ?_
 | ((with_reducible first | apply v_op Try.tab | apply v_op0 Try.tab | apply d_op Try.tab ) <;> first | (intro K' h0 hw; conv => whnf) | (simp only [Nat.reduceAdd, Nat.reduceMul]; rfl))
 | ((with_reducible apply v_nil); (case hm => (simp only [Nat.reduceAdd, Nat.reduceMul]; rfl)); (case' h => with_reducible refine hK _ ?_; clear hK))
 | ((with_reducible apply d_nil); (refine hK _ _ _ _ (by first | decide +kernel ) ?_; clear hK))
 | ((with_reducible refine callV_id (f := 168) ?_); (with_reducible apply w_callO [0] own168 (hL)); (case hx => rfl); (case he => rfl); (case hle => first | ((repeat constructor); done) ); (case hm => rfl); (case hnd => decide); (case' hK => conv => whnf); (any_goals (simp [e1, e2, e3]; done)))
 | ((with_reducible refine callV_id (f := 145) ?_); (with_reducible apply w_callR [0] own145 (hF)); (case hx => rfl); (case he => rfl); (case hle => first | ((repeat constructor); done) ); (case hm => rfl); (case hnd => decide); (case' hK => conv => whnf); (any_goals first | exact ⟨rfl, trivial⟩ | (simp [e1, e2, e3]; done)))
 | ((with_reducible apply go_cond); (case hb => rfl))
 | ((with_reducible apply And.intro); (case' right => try (conv => whnf)); (case' left => try first | rfl | decide | (simp [e1, e2, e3]; done) ))
 | (first | (guard_hyp g1; intro g2; try simp at g2) | intro g1; try simp at g1))
    · exact absurd g1 hl
    · have e4 : setG l first c = c.group + 1 := by simp [setG, hb, *]
      have e5 : setF l first c = 0 := by simp [setF, hb, *]
      simp only [setC, e4, e5, hb]
      ((first | refine w_retO Try.tab [] (by rfl) (by simp) (by simp) (fun K' hL => ?_) ?_ ?_ ?_ | refine w_retO_end Try.tab [] (by rfl) (by simp) (by simp) (fun K' hL => ?_) ?_ ?_ ?_); (conv => whnf); (refine hL _ ?_; clear hL); all_goals simp [e1, e2, e3])
    · have e4 : setG l first c = c.group := by simp [setG, hb, *]
      have e5 : setF l first c = c.frame := by simp [setF, hb, *]
      simp only [setC, e4, e5, hb]
      ((first | refine w_retO Try.tab [] (by rfl) (by simp) (by simp) (fun K' hL => ?_) ?_ ?_ ?_ | refine w_retO_end Try.tab [] (by rfl) (by simp) (by simp) (fun K' hL => ?_) ?_ ?_ ?_); (conv => whnf); (refine hL _ ?_; clear hL); all_goals simp [e1, e2, e3])
theorem settle_in {l : List (List Fr)} {first : Int} {c : Cu} (h : SmallC l first c) (hne : ∀ g ∈ l, 0 < g.length) (hl : l ≠ []) (hs : setG l first c < first + l.length) :
    inB l first (setC l first c) = true ∧ 0 ≤ setF l first c ∧ setF l first c < (grpAt l first (setC l first c)).length ∧ first ≤ setG l first c := by
  obtain ⟨h1, h2, h3, h4⟩ := h
  have hp := List.length_pos_iff.2 hl
  have hat : ∀ x : Int, first ≤ x → x < first + l.length → 0 < (l.getD (x - first).toNat []).length := fun x hx hx2 => by
    rw [List.getD_eq_getElem?_getD, List.getElem?_eq_getElem (show (x - first).toNat < l.length by omega)]
    exact hne _ (List.getElem_mem _)
  by_cases hb : lostB l first c = true
  · by_cases hm : c.mode = 1
    · have := hat (first + l.length - 1) (by omega) (by omega)
      have e2 : setG l first c = first + l.length - 1 := by simp [setG, hb, hm]
      have e3 : setF l first c = 0 := by simp [setF, hb, hm]
      have e1 : setC l first c = ⟨c.mode, first + l.length - 1, 0⟩ := by rw [setC, e2, e3]
      rw [e1, e2, e3]
      refine ⟨by simp [inB]; omega, by omega, by simp only [grpAt]; omega, by omega⟩
    · have := hat first (by omega) (by omega)
      have e2 : setG l first c = first := by simp [setG, hb, hm]
      have e3 : setF l first c = 0 := by simp [setF, hb, hm]
      have e1 : setC l first c = ⟨c.mode, first, 0⟩ := by rw [setC, e2, e3]
      rw [e1, e2, e3]
      refine ⟨by simp [inB]; omega, by omega, by simp only [grpAt]; omega, by omega⟩
  · have hb' : lostB l first c = false := by simpa using hb
    have hi := lost_in hb'
    have hi1 := hi.1
    have hi2 := hi.2
    simp only [inB, decide_eq_true_eq] at hi1
    by_cases hm : c.frame = (grpAt l first c).length
    · have e2 : setG l first c = c.group + 1 := by simp [setG, hb', ← hm]
      have e3 : setF l first c = 0 := by simp [setF, hb', ← hm]
      have e1 : setC l first c = ⟨c.mode, c.group + 1, 0⟩ := by rw [setC, e2, e3]
      rw [e2] at hs
      have := hat (c.group + 1) (by omega) (by omega)
      rw [e1, e2, e3]
      refine ⟨by simp [inB]; omega, by omega, by simp only [grpAt]; omega, by omega⟩
    · have e2 : setG l first c = c.group := by simp [setG, hb', hm]
      have e3 : setF l first c = c.frame := by simp [setF, hb', hm]
      have e1 : setC l first c = ⟨c.mode, c.group, c.frame⟩ := by rw [setC, e2, e3]
      rw [e1, e2, e3]
      have h9 : grpAt l first ⟨c.mode, c.group, c.frame⟩ = grpAt l first c := rfl
      refine ⟨by simp [inB]; omega, by omega, by rw [h9]; omega, by omega⟩
theorem grpAt_mem {l : List (List Fr)} {first : Int} {c : Cu} (h : 0 < (grpAt l first c).length) : grpAt l first c ∈ l := by
  unfold grpAt at h ⊢
  rw [List.getD_eq_getElem?_getD] at h ⊢
  cases hq : l[(c.group - first).toNat]? with
  | none => rw [hq] at h; simp at h
  | some g => exact List.mem_of_getElem? hq
def nextR (s : Sto) (c : Cu) (upto : Int) : Cu × Fr × Bool × Bool :=
  if c.mode = 2 ∨ allS s = [] ∨ ¬ setG (allS s) s.first c < s.first + (allS s).length then (c, fr0, false, false)
  else if c.mode = 3 ∧ upto < ((grpAt (allS s) s.first (setC (allS s) s.first c)).getD (setF (allS s) s.first c).toNat fr0).time then (c, fr0, false, false)
  else (⟨c.mode, setG (allS s) s.first c, setF (allS s) s.first c + 1⟩, (grpAt (allS s) s.first (setC (allS s) s.first c)).getD (setF (allS s) s.first c).toNat fr0, true, lostB (allS s) s.first c)
abbrev nxT (r : Cu × Fr × Bool × Bool) : List AV := [.agg (cuC r.1), .agg (frC r.2.1), B r.2.2.1, B r.2.2.2]
theorem right_smallC {s : Sto} {c : Cu} (hr : RightS s) (hc : cuE c = 0) : SmallC (allS s) s.first c := by
  have h1 := hr.all.1
  have h2 := hr.1
  obtain ⟨_, h4, h5⟩ := cuE_ok hc
  exact ⟨h1, h2, by omega, by omega⟩
set_option maxHeartbeats 2000000 in
theorem c_cursorRaw (s : Sto) (c : Cu) (upto : Int) (hr : RightS s) (hc : cuE c = 0) : PSpec Try.prog 108 [.agg (stC s), .agg (cuC c), I upto] (.tup (nxT (nextR s c upto))) := by
  refine v_pspec Try.func108 rfl Try.ntmps108 Try.results108 (by simp) (by repeat constructor) ?_
  have hsc := right_smallC hr hc
  have hne : ∀ g ∈ allS s, 0 < g.length := fun g hg => List.length_pos_iff.2 (groupE_ok (hr.all.2 g hg)).1
  have hAll := c_storeAll s (by have := hr.2.1; omega)
  have hgm : ∀ c', 0 < (grpAt (allS s) s.first c').length → grpAt (allS s) s.first c' ∈ allS s := fun c' h => grpAt_mem h
  by_cases hl : allS s = []
  · have e : nextR s c upto = (c, fr0, false, false) := if_pos (.inr (.inl hl))
    rw [hl] at hAll
    rw [e]
    have hS := c_settle0 c s.first
    repeat' (first
 | (with_reducible first | apply qz0 | (refine h0 _ _ ?_; clear h0 hw) | (refine hw _ _ _ ?_; clear h0 hw) | apply qz1 | apply qz5 | (refine hL _ ?_; clear hL))
 | (with_reducible first | refine w_reg (by decide +kernel) fun K1 hK => ?_ )
 | ((with_reducible first | apply d_reg Try.mix (by decide +kernel) ); (case hm => simp only [List.length_cons, List.length_nil, Nat.reduceAdd, Nat.reduceMul]; rfl); (case' h => intro K1 hK))
 | with_reducible refine go_seq ?_
 | ((with_reducible first | apply v_op Try.tab | apply v_op0 Try.tab | apply d_op Try.tab ) <;> first | (intro K' h0 hw; conv => whnf) | (simp only [Nat.reduceAdd, Nat.reduceMul]; rfl))
 | ((with_reducible apply v_nil); (case hm => (simp only [Nat.reduceAdd, Nat.reduceMul]; rfl)); (case' h => with_reducible refine hK _ ?_; clear hK))
 | ((with_reducible apply d_nil); (refine hK _ _ _ _ (by first | (simp only [List.map_cons, List.map_nil, List.nil_append, List.cons_append]; decide +kernel) ) ?_; clear hK))
 | (first | refine v_grd_yes (by rfl) (by rfl) ?_)
 | ((first | (apply v_grd_no; (case hg => rfl); (case hb => rfl)) | (apply v_grd; (case hg => rfl); (case hb => rfl))); (case hi => (simp only [Nat.reduceAdd, Nat.reduceMul]; rfl)))
 | ((with_reducible refine callV_id (f := 74) ?_); (with_reducible apply callV_f own74 (hAll)); (case hx => rfl); (case he => rfl); (case hle => first | ((repeat constructor); done) ); (case hpu => repeat constructor); (case' hK => conv => whnf))
 | ((with_reducible refine callV_id (f := 144) ?_); (with_reducible apply w_callO [192] own144 (hS)); (case hx => rfl); (case he => rfl); (case hle => first | ((repeat constructor); done) ); (case hm => rfl); (case hnd => decide); (case' hK => conv => whnf); (any_goals (simp; done)))
 | ((with_reducible apply go_cond); (case hb => rfl))
 | ((with_reducible first | refine w_ret Try.tab fun K' hL => ?_ ); (conv => whnf))
 | ((with_reducible apply And.intro); (case' right => try (conv => whnf)); (case' left => try first | rfl | decide | (simp; done) ))
 | (first | (guard_hyp g4; intro g5; try simp at g5) | (guard_hyp g3; intro g4; try simp at g4) | (guard_hyp g2; intro g3; try simp at g3) | (guard_hyp g1; intro g2; try simp at g2) | intro g1; try simp at g1))
    all_goals simp [fr0]
  · by_cases hq : setG (allS s) s.first c < s.first + (allS s).length
    · obtain ⟨q1, q2, q3, q4⟩ := settle_in hsc hne hl hq
      have hS := c_settle c s.first (allS s) hsc hl
      have hqd : decide (setG (allS s) s.first c < s.first + (allS s).length) = true := by simpa using hq
      rw [hqd] at hS
      have hgr := hr.all.2 _ (hgm (setC (allS s) s.first c) (by omega))
      have hg6 := (groupE_ok hgr).2.1
      have hgf := (right_fits hgr).2
      have e3 := wrp (n := setF (allS s) s.first c + 1) (by omega) (by omega)
      have hx' : ∀ {x1 : Fr}, (grpAt (allS s) s.first (setC (allS s) s.first c))[(setC (allS s) s.first c).frame.toNat]? = some x1 → (grpAt (allS s) s.first (setC (allS s) s.first c)).getD (setF (allS s) s.first c).toNat fr0 = x1 := fun h => by
        rw [List.getD_eq_getElem?_getD]; exact congrArg (·.getD fr0) h
      have hn : ¬ c.mode = 2 → ∀ {x1 : Fr}, (grpAt (allS s) s.first (setC (allS s) s.first c))[(setC (allS s) s.first c).frame.toNat]? = some x1 → nextR s c upto = if c.mode = 3 ∧ upto < x1.time then (c, fr0, false, false) else (⟨c.mode, setG (allS s) s.first c, setF (allS s) s.first c + 1⟩, x1, true, lostB (allS s) s.first c) := fun h1 {x1} h2 => by
        rw [nextR, if_neg (by simp [h1, hl]; omega), hx' h2]
      have hF := c_frames (setC (allS s) s.first c) s.first (allS s) (lostB (allS s) s.first c) (by obtain ⟨a1, a2, a3, a4⟩ := hsc; exact ⟨a1, a2, by simp only; omega, by simp only; omega⟩) q1
      repeat' (first
 | (with_reducible first | apply qz0 | (refine h0 _ _ ?_; clear h0 hw) | (refine hw _ _ _ ?_; clear h0 hw) | apply qz1 | apply qz2 | apply qz5 | apply qz6 | (refine hL _ ?_; clear hL))
 | (with_reducible first | refine w_reg (by decide +kernel) fun K1 hK => ?_ )
 | ((with_reducible first | apply d_reg Try.mix (by decide +kernel) ); (case hm => simp only [List.length_cons, List.length_nil, Nat.reduceAdd, Nat.reduceMul]; rfl); (case' h => intro K1 hK))
 | with_reducible refine go_seq ?_
 | ((with_reducible first | apply v_op Try.tab | apply v_op0 Try.tab | apply d_op Try.tab | apply d_op0 Try.tab) <;> first | (intro K' h0 hw; conv => whnf) | (simp only [Nat.reduceAdd, Nat.reduceMul]; rfl))
 | ((with_reducible apply v_nil); (case hm => (simp only [Nat.reduceAdd, Nat.reduceMul]; rfl)); (case' h => with_reducible refine hK _ ?_; clear hK))
 | ((with_reducible apply d_nil); (refine hK _ _ _ _ (by first | (simp only [List.map_cons, List.map_nil, List.nil_append, List.cons_append]; decide +kernel) ) ?_; clear hK))
 | (first | refine v_grd_yes (by rfl) (by rfl) ?_)
 | ((first | (apply v_grd_no; (case hg => rfl); (case hb => rfl)) | (apply v_grd; (case hg => rfl); (case hb => rfl))); (case hi => (simp only [Nat.reduceAdd, Nat.reduceMul]; rfl)))
 | ((with_reducible refine callV_id (f := 74) ?_); (with_reducible apply callV_f own74 (hAll)); (case hx => rfl); (case he => rfl); (case hle => first | ((repeat constructor); done) ); (case hpu => repeat constructor); (case' hK => conv => whnf))
 | ((with_reducible refine callV_id (f := 144) ?_); (with_reducible apply w_callO [192] own144 (hS)); (case hx => rfl); (case he => rfl); (case hle => first | ((repeat constructor); done) ); (case hm => rfl); (case hnd => decide); (case' hK => conv => whnf); (any_goals (simp; done)))
 | ((with_reducible refine callV_id (f := 145) ?_); (with_reducible apply w_callR [192] own145 (hF)); (case hx => rfl); (case he => rfl); (case hle => first | ((repeat constructor); done) ); (case hm => rfl); (case hnd => decide); (case' hK => conv => whnf); (any_goals first | exact ⟨rfl, trivial⟩ | (simp; done)))
 | ((with_reducible refine callV_id (f := 124) ?_); have hcs_ := c_frameOwn x1 (hgf x1 (List.mem_of_getElem? hx1)); (with_reducible apply callV_f own124 (hcs_)); (case hx => rfl); (case he => rfl); (case hle => first | ((repeat constructor); done) ); (case hpu => repeat constructor); (case' hK => (try clear hcs_); conv => whnf))
 | ((with_reducible apply go_cond); (case hb => rfl))
 | ((with_reducible first | refine w_ret Try.tab fun K' hL => ?_ ); (conv => whnf))
 | ((with_reducible apply And.intro); (case' right => try (conv => whnf)); (case' left => try first | rfl | decide | (simp; done) ))
 | ((with_reducible apply Side.mk); (try simp (disch := omega) only [wrp]); (try simp); (try simp (disch := omega) only [wrp]); (try omega))
 | ((with_reducible refine all_row ?_); (first | intro x1 hx1); conv => whnf)
 | (first | (guard_hyp g4; intro g5; try simp at g5) | (guard_hyp g3; intro g4; try simp at g4) | (guard_hyp g2; intro g3; try simp at g3) | (guard_hyp g1; intro g2; try simp at g2) | intro g1; try simp at g1))
      · rw [hn g1 hx1, if_pos ⟨g3, g4⟩]; simp [fr0]
      · rw [hn g1 hx1, if_neg (by omega)]; simp [e3]
      · rw [hn g1 hx1, if_neg (by omega)]; simp [e3]
      · have e : nextR s c upto = (c, fr0, false, false) := if_pos (.inl g1)
        rw [e]; simp [fr0]
    · have e : nextR s c upto = (c, fr0, false, false) := if_pos (.inr (.inr hq))
      rw [e]
      have hS := c_settle c s.first (allS s) hsc hl
      have hqd : decide (setG (allS s) s.first c < s.first + (allS s).length) = false := by simpa using hq
      rw [hqd] at hS
      repeat' (first
 | (with_reducible first | apply qz0 | (refine h0 _ _ ?_; clear h0 hw) | (refine hw _ _ _ ?_; clear h0 hw) | apply qz1 | apply qz5 | (refine hL _ ?_; clear hL))
 | (with_reducible first | refine w_reg (by decide +kernel) fun K1 hK => ?_ )
 | ((with_reducible first | apply d_reg Try.mix (by decide +kernel) ); (case hm => simp only [List.length_cons, List.length_nil, Nat.reduceAdd, Nat.reduceMul]; rfl); (case' h => intro K1 hK))
 | with_reducible refine go_seq ?_
 | ((with_reducible first | apply v_op Try.tab | apply v_op0 Try.tab | apply d_op Try.tab ) <;> first | (intro K' h0 hw; conv => whnf) | (simp only [Nat.reduceAdd, Nat.reduceMul]; rfl))
 | ((with_reducible apply v_nil); (case hm => (simp only [Nat.reduceAdd, Nat.reduceMul]; rfl)); (case' h => with_reducible refine hK _ ?_; clear hK))
 | ((with_reducible apply d_nil); (refine hK _ _ _ _ (by first | (simp only [List.map_cons, List.map_nil, List.nil_append, List.cons_append]; decide +kernel) ) ?_; clear hK))
 | (first | refine v_grd_yes (by rfl) (by rfl) ?_)
 | ((first | (apply v_grd_no; (case hg => rfl); (case hb => rfl)) | (apply v_grd; (case hg => rfl); (case hb => rfl))); (case hi => (simp only [Nat.reduceAdd, Nat.reduceMul]; rfl)))
 | ((with_reducible refine callV_id (f := 74) ?_); (with_reducible apply callV_f own74 (hAll)); (case hx => rfl); (case he => rfl); (case hle => first | ((repeat constructor); done) ); (case hpu => repeat constructor); (case' hK => conv => whnf))
 | ((with_reducible refine callV_id (f := 144) ?_); (with_reducible apply w_callO [192] own144 (hS)); (case hx => rfl); (case he => rfl); (case hle => first | ((repeat constructor); done) ); (case hm => rfl); (case hnd => decide); (case' hK => conv => whnf); (any_goals (simp; done)))
 | ((with_reducible apply go_cond); (case hb => rfl))
 | ((with_reducible first | refine w_ret Try.tab fun K' hL => ?_ ); (conv => whnf))
 | ((with_reducible apply And.intro); (case' right => try (conv => whnf)); (case' left => try first | rfl | decide | (simp; done) ))
 | (first | (guard_hyp g4; intro g5; try simp at g5) | (guard_hyp g3; intro g4; try simp at g4) | (guard_hyp g2; intro g3; try simp at g3) | (guard_hyp g1; intro g2; try simp at g2) | intro g1; try simp at g1))
      all_goals simp [fr0]
end Go.Proofs.Ytbhcjgobapnajaa
end
section
namespace Go.Proofs.Ytbhcjgobapnajaa
open Go Go.Sy
set_option maxRecDepth 4000
set_option linter.unusedSimpArgs false
set_option linter.unusedVariables false
attribute [local irreducible] Reg RegD Later Out CallV Tri Side EqV
def nextE (s : Sto) (c : Cu) (upto : Int) : Int := if storeE s = 0 then (if cuE c = 0 then (if 0 ≤ upto ∧ upto ≤ 1000000 then 0 else 3) else cuE c) else storeE s
def nextS (s : Sto) (c : Cu) (upto : Int) : (Cu × Fr × Bool × Bool) × Int := if nextE s c upto = 0 then (nextR s c upto, 0) else ((cu0, fr0, false, false), nextE s c upto)
theorem nextE_ok {s : Sto} {c : Cu} {upto : Int} (h : nextE s c upto = 0) : RightS s ∧ cuE c = 0 ∧ 0 ≤ upto ∧ upto ≤ 1000000 := by
  unfold nextE at h
  by_cases h1 : storeE s = 0
  · rw [if_pos h1] at h
    by_cases h2 : cuE c = 0
    · rw [if_pos h2] at h
      split at h
      · rename_i h3; exact ⟨storeE_ok h1, h2, h3⟩
      · cases h
    · rw [if_neg h2] at h; exact absurd h h2
  · rw [if_neg h1] at h; exact absurd h h1
abbrev nxT' (r : (Cu × Fr × Bool × Bool) × Int) : AV := .tup [.agg (cuC r.1.1), .agg (frC r.1.2.1), B r.1.2.2.1, B r.1.2.2.2, I r.2]
set_option maxHeartbeats 2000000 in
theorem c_cursorNext (s : Sto) (c : Cu) (upto : Int) (hs : FitsS s) : PSpec Try.prog 51 [.agg (stC s), .agg (cuC c), I upto] (nxT' (nextS s c upto)) := by
  refine v_pspec Try.func51 rfl Try.ntmps51 Try.results51 (by simp) (by repeat constructor) ?_
  by_cases hE : nextE s c upto = 0
  · obtain ⟨h1, h2, h3, h4⟩ := nextE_ok hE
    have hC := c_storeCheck s hs
    rw [right_storeE h1] at hC
    have hD := c_cursorCheck c
    rw [h2] at hD
    have hR := c_cursorRaw s c upto h1 h2
    have e : nextS s c upto = (nextR s c upto, 0) := if_pos hE
    rw [e]
    repeat' (first
 | (with_reducible first | apply qz0 | (refine h0 _ _ ?_; clear h0 hw) | (refine hw _ _ _ ?_; clear h0 hw) | apply qz1 | apply qz2 | apply qz5 | apply qz6 | (refine hL _ ?_; clear hL))
 | (with_reducible first | refine w_reg (by decide +kernel) fun K1 hK => ?_ | refine w_reg_end (by decide +kernel) fun K1 hK => ?_)
 | ((with_reducible first | apply d_reg Try.mix (by decide +kernel) ); (case hm => simp only [List.length_cons, List.length_nil, Nat.reduceAdd, Nat.reduceMul]; rfl); (case' h => intro K1 hK))
 | with_reducible refine go_seq ?_
 | ((with_reducible first | apply v_op Try.tab | apply v_op0 Try.tab | apply d_op Try.tab | apply d_op0 Try.tab) <;> first | (intro K' h0 hw; conv => whnf) | (simp only [Nat.reduceAdd, Nat.reduceMul]; rfl))
 | ((with_reducible apply v_nil); (case hm => (simp only [Nat.reduceAdd, Nat.reduceMul]; rfl)); (case' h => with_reducible refine hK _ ?_; clear hK))
 | ((with_reducible apply d_nil); (refine hK _ _ _ _ (by first | (simp only [List.map_cons, List.map_nil, List.nil_append, List.cons_append]; decide +kernel) ) ?_; clear hK))
 | (first | refine v_grd_yes (by rfl) (by rfl) ?_)
 | ((with_reducible refine callV_id (f := 30) ?_); (with_reducible apply callV_f own30 (hC)); (case hx => rfl); (case he => rfl); (case hle => first | ((repeat constructor); done) ); (case hpu => repeat constructor); (case' hK => conv => whnf))
 | ((with_reducible refine callV_id (f := 99) ?_); (with_reducible apply callV_f own99 (hD)); (case hx => rfl); (case he => rfl); (case hle => first | ((repeat constructor); done) ); (case hpu => repeat constructor); (case' hK => conv => whnf))
 | ((with_reducible refine callV_id (f := 107) ?_); (with_reducible apply callV_f own107 (c_cwithin _ _ _)); (case hx => rfl); (case he => rfl); (case hle => first | ((repeat constructor); done) ); (case hpu => repeat constructor); (case' hK => conv => whnf))
 | ((with_reducible refine callV_id (f := 108) ?_); (with_reducible apply callV_f own108 (hR)); (case hx => rfl); (case he => rfl); (case hle => first | ((repeat constructor); done) ); (case hpu => repeat constructor); (case' hK => conv => whnf))
 | ((with_reducible apply go_cond); (case hb => rfl))
 | ((with_reducible first | refine w_ret Try.tab fun K' hL => ?_ ); (conv => whnf))
 | ((with_reducible apply And.intro); (case' right => try (conv => whnf)); (case' left => try first | rfl | decide | (simp; done) ))
 | (first | (guard_hyp g19; intro g20; try simp at g20) | (guard_hyp g18; intro g19; try simp at g19) | (guard_hyp g17; intro g18; try simp at g18) | (guard_hyp g16; intro g17; try simp at g17) | (guard_hyp g15; intro g16; try simp at g16) | (guard_hyp g14; intro g15; try simp at g15) | (guard_hyp g13; intro g14; try simp at g14) | (guard_hyp g12; intro g13; try simp at g13) | (guard_hyp g11; intro g12; try simp at g12) | (guard_hyp g10; intro g11; try simp at g11) | (guard_hyp g9; intro g10; try simp at g10) | (guard_hyp g8; intro g9; try simp at g9) | (guard_hyp g7; intro g8; try simp at g8) | (guard_hyp g6; intro g7; try simp at g7) | (guard_hyp g5; intro g6; try simp at g6) | (guard_hyp g4; intro g5; try simp at g5) | (guard_hyp g3; intro g4; try simp at g4) | (guard_hyp g2; intro g3; try simp at g3) | (guard_hyp g1; intro g2; try simp at g2) | intro g1; try simp at g1))
    · exfalso; omega
    · simp
  · have e : nextS s c upto = ((cu0, fr0, false, false), nextE s c upto) := if_neg hE
    rw [e]
    have e1 : nextE s c upto = if storeE s = 0 then (if cuE c = 0 then (if 0 ≤ upto ∧ upto ≤ 1000000 then 0 else 3) else cuE c) else storeE s := rfl
    repeat' (first
 | (with_reducible first | apply qz0 | (refine h0 _ _ ?_; clear h0 hw) | (refine hw _ _ _ ?_; clear h0 hw) | apply qz1 | apply qz2 | apply qz5 | apply qz6 | (refine hL _ ?_; clear hL))
 | (with_reducible first | refine w_reg (by decide +kernel) fun K1 hK => ?_ | refine w_reg_end (by decide +kernel) fun K1 hK => ?_)
 | with_reducible refine go_seq ?_
 | ((with_reducible first | apply v_op Try.tab | apply v_op0 Try.tab ) <;> first | (intro K' h0 hw; conv => whnf) | (simp only [Nat.reduceAdd, Nat.reduceMul]; rfl))
 | ((with_reducible apply v_nil); (case hm => (simp only [Nat.reduceAdd, Nat.reduceMul]; rfl)); (case' h => with_reducible refine hK _ ?_; clear hK))
 | (first | refine v_grd_yes (by rfl) (by rfl) ?_)
 | ((first | (apply v_grd_no; (case hg => rfl); (case hb => rfl)) | (apply v_grd; (case hg => rfl); (case hb => rfl))); (case hi => (simp only [Nat.reduceAdd, Nat.reduceMul]; rfl)))
 | ((with_reducible refine callV_id (f := 30) ?_); have hcs_ := c_storeCheck s hs; (with_reducible apply callV_f own30 (hcs_)); (case hx => rfl); (case he => rfl); (case hle => first | ((repeat constructor); done) ); (case hpu => repeat constructor); (case' hK => (try clear hcs_); conv => whnf))
 | ((with_reducible refine callV_id (f := 99) ?_); have hcs_ := c_cursorCheck c; (with_reducible apply callV_f own99 (hcs_)); (case hx => rfl); (case he => rfl); (case hle => first | ((repeat constructor); done) ); (case hpu => repeat constructor); (case' hK => (try clear hcs_); conv => whnf))
 | ((with_reducible refine callV_id (f := 107) ?_); (with_reducible apply callV_f own107 (c_cwithin _ _ _)); (case hx => rfl); (case he => rfl); (case hle => first | ((repeat constructor); done) ); (case hpu => repeat constructor); (case' hK => conv => whnf))
 | ((with_reducible apply go_cond); (case hb => rfl))
 | ((with_reducible first | refine w_ret Try.tab fun K' hL => ?_ ); (conv => whnf))
 | ((with_reducible apply And.intro); (case' right => try (conv => whnf)); (case' left => try first | rfl | decide | (simp; done) ))
 | (first | (guard_hyp g19; intro g20; try simp at g20) | (guard_hyp g18; intro g19; try simp at g19) | (guard_hyp g17; intro g18; try simp at g18) | (guard_hyp g16; intro g17; try simp at g17) | (guard_hyp g15; intro g16; try simp at g16) | (guard_hyp g14; intro g15; try simp at g15) | (guard_hyp g13; intro g14; try simp at g14) | (guard_hyp g12; intro g13; try simp at g13) | (guard_hyp g11; intro g12; try simp at g12) | (guard_hyp g10; intro g11; try simp at g11) | (guard_hyp g9; intro g10; try simp at g10) | (guard_hyp g8; intro g9; try simp at g9) | (guard_hyp g7; intro g8; try simp at g8) | (guard_hyp g6; intro g7; try simp at g7) | (guard_hyp g5; intro g6; try simp at g6) | (guard_hyp g4; intro g5; try simp at g5) | (guard_hyp g3; intro g4; try simp at g4) | (guard_hyp g2; intro g3; try simp at g3) | (guard_hyp g1; intro g2; try simp at g2) | intro g1; try simp at g1))
    all_goals first
      | contradiction
      | (exfalso; exact hE (by rw [e1, if_pos g1, if_pos g2, if_pos g3]))
      | (have e2 : nextE s c upto = 3 := by rw [e1, if_pos g1, if_pos g2, if_neg (by omega)]
         rw [e2]; simp [cu0, fr0]; done)
      | (have e2 : nextE s c upto = cuE c := by rw [e1, if_pos g1, if_neg g2]
         rw [e2]; simp [cu0, fr0]; done)
      | (have e2 : nextE s c upto = storeE s := by rw [e1, if_neg g1]
         rw [e2]; simp [cu0, fr0]; done)
end Go.Proofs.Ytbhcjgobapnajaa
end
section
namespace Go.Proofs.Ytbhcjgobapnajaa
open Go Go.Sy
set_option maxRecDepth 4000
set_option linter.unusedSimpArgs false
set_option linter.unusedVariables false
attribute [local irreducible] Reg RegD Later Out CallV Tri Side EqV
instance : DecidableEq Cu := fun p q => decidable_of_iff (p.mode = q.mode ∧ p.group = q.group ∧ p.frame = q.frame) ⟨fun ⟨h1, h2, h3⟩ => Cu.ext' h1 h2 h3, fun h => by subst h; simp⟩
theorem cb1 : PSpec Try.prog 96 [.agg (stC shelf), I 12] (cuT (⟨3, 3, 0⟩, 0)) := by
  have h := c_cursorSeek shelf 12 shelf_small.fits
  rwa [show seekC shelf 12 = (⟨3, 3, 0⟩, 0) by decide +kernel] at h
theorem cb2 : PSpec Try.prog 51 [.agg (stC shelf), .agg (cuC ⟨3, 3, 0⟩), I 100] (nxT' ((⟨3, 3, 1⟩, pic 10 true, true, false), 0)) := by
  have h := c_cursorNext shelf ⟨3, 3, 0⟩ 100 shelf_small.fits
  rwa [show nextS shelf ⟨3, 3, 0⟩ 100 = ((⟨3, 3, 1⟩, pic 10 true, true, false), 0) by decide +kernel] at h
theorem cb3 : PSpec Try.prog 97 [.agg (stC shelf)] (cuT (⟨1, 5, 0⟩, 0)) := by
  have h := c_live shelf shelf_small.fits
  rwa [show liveS shelf = (⟨1, 5, 0⟩, 0) by decide +kernel] at h
theorem cb4 : PSpec Try.prog 98 [.agg (cuC ⟨3, 3, 1⟩)] (cuT (⟨2, 3, 1⟩, 0)) := by
  have h := c_pause ⟨3, 3, 1⟩
  rwa [show pauseC ⟨3, 3, 1⟩ = (⟨2, 3, 1⟩, 0) by decide +kernel] at h
theorem cb5 : PSpec Try.prog 51 [.agg (stC shelf), .agg (cuC ⟨2, 3, 1⟩), I 100] (nxT' ((⟨2, 3, 1⟩, fr0, false, false), 0)) := by
  have h := c_cursorNext shelf ⟨2, 3, 1⟩ 100 shelf_small.fits
  rwa [show nextS shelf ⟨2, 3, 1⟩ 100 = ((⟨2, 3, 1⟩, fr0, false, false), 0) by decide +kernel] at h
theorem cb6 : PSpec Try.prog 99 [.agg (cuC ⟨3, 3, 0⟩)] (I 0) := c_cursorCheck ⟨3, 3, 0⟩
set_option maxHeartbeats 2000000 in
theorem c_cursorBegun : PSpec Try.prog 43 [] (B true) := by
  refine v_pspec Try.func43 rfl Try.ntmps43 Try.results43 (by simp) (by first | exact .s _ | repeat constructor) ?_
  repeat' (first
 | (with_reducible first | apply qz0 | (refine h0 _ _ ?_; clear h0 hw) | (refine hw _ _ _ ?_; clear h0 hw) | apply qz1 | (refine hL _ ?_; clear hL))
 | (with_reducible first | refine w_reg (by decide +kernel) fun K1 hK => ?_ )
 | ((with_reducible first | apply d_reg Try.mix (by decide +kernel) ); (case hm => simp only [List.length_cons, List.length_nil, Nat.reduceAdd, Nat.reduceMul]; rfl); (case' h => intro K1 hK))
 | ((with_reducible first | apply v_op Try.tab | apply v_op0 Try.tab | apply d_op Try.tab | apply d_op0 Try.tab) <;> first | (intro K' h0 hw; conv => whnf) | (simp only [Nat.reduceAdd, Nat.reduceMul]; rfl))
 | ((with_reducible apply v_nil); (case hm => (simp only [Nat.reduceAdd, Nat.reduceMul]; rfl)); (case' h => with_reducible refine hK _ ?_; clear hK))
 | ((with_reducible apply d_nil); (refine hK _ _ _ _ (by first | decide +kernel ) ?_; clear hK))
 | (first | refine v_grd_yes (by rfl) (by rfl) ?_)
 | ((with_reducible refine callV_id (f := 70) ?_); (with_reducible apply callV_f own70 (c_shelf)); (case hx => rfl); (case he => rfl); (case hle => first | ((repeat constructor); done) ); (case hpu => repeat constructor); (case' hK => conv => whnf))
 | ((with_reducible refine callV_id (f := 96) ?_); (with_reducible apply callV_f own96 (cb1)); (case hx => rfl); (case he => rfl); (case hle => first | ((repeat constructor); done) ); (case hpu => repeat constructor); (case' hK => conv => whnf))
 | ((with_reducible refine callV_id (f := 51) ?_); (with_reducible apply callV_f own51 (cb2)); (case hx => rfl); (case he => rfl); (case hle => first | ((repeat constructor); done) ); (case hpu => repeat constructor); (case' hK => conv => whnf))
 | ((with_reducible refine callV_id (f := 51) ?_); (with_reducible apply callV_f own51 (cb5)); (case hx => rfl); (case he => rfl); (case hle => first | ((repeat constructor); done) ); (case hpu => repeat constructor); (case' hK => conv => whnf))
 | ((with_reducible refine callV_id (f := 97) ?_); (with_reducible apply callV_f own97 (cb3)); (case hx => rfl); (case he => rfl); (case hle => first | ((repeat constructor); done) ); (case hpu => repeat constructor); (case' hK => conv => whnf))
 | ((with_reducible refine callV_id (f := 98) ?_); (with_reducible apply callV_f own98 (cb4)); (case hx => rfl); (case he => rfl); (case hle => first | ((repeat constructor); done) ); (case hpu => repeat constructor); (case' hK => conv => whnf))
 | ((with_reducible refine callV_id (f := 99) ?_); (with_reducible apply callV_f own99 (cb6)); (case hx => rfl); (case he => rfl); (case hle => first | ((repeat constructor); done) ); (case hpu => repeat constructor); (case' hK => conv => whnf))
 | ((with_reducible first | refine w_ret Try.tab fun K' hL => ?_ ); (conv => whnf))
 | ((with_reducible apply And.intro); (case' right => try (conv => whnf)); (case' left => try first | rfl | decide ))
 | (refine ⟨_, eqAT (by rfl) (by rfl) (by rfl) (by rfl), ?_⟩; conv => whnf)
 )
  exact le_of_eq rfl
theorem next_parts (s : Sto) (c : Cu) (upto : Int) : (nextS s c upto).1.2.1.parts.length ≤ 1000000000000000 := by
  unfold nextS
  split
  · rename_i h
    obtain ⟨h1, h2, _⟩ := nextE_ok h
    unfold nextR
    split
    · simp [fr0]
    · split
      · simp [fr0]
      · simp only
        rw [List.getD_eq_getElem?_getD]
        cases hq : (grpAt (allS s) s.first (setC (allS s) s.first c))[(setF (allS s) s.first c).toNat]? with
        | none => simp [fr0]
        | some x =>
          have hm := grpAt_mem (l := allS s) (first := s.first) (c := setC (allS s) s.first c) (by have := (List.getElem?_eq_some_iff.1 hq).1; omega)
          have := (right_fits (h1.all.2 _ hm)).2 x (List.mem_of_getElem? hq)
          simp only [Option.getD_some]; omega
  · simp [fr0]
theorem reads_cu {a : AV} (h : ReadsArg (.agg [.int .i64, .int .i64, .int .i64]) a) : ∃ o : Cu, a = .agg (cuC o) := by
  obtain ⟨_, rfl, _, _, rfl, ⟨x, rfl, _⟩, _, _, rfl, ⟨y, rfl, _⟩, _, _, rfl, ⟨z, rfl, _⟩, rfl⟩ := h
  exact ⟨⟨x, y, z⟩, rfl⟩
end Go.Proofs.Ytbhcjgobapnajaa
end
section
namespace Go.Proofs.Ytbhcjgobapnajaa
open Go Go.Sy
set_option linter.unusedSimpArgs false
set_option linter.unusedVariables false
end Go.Proofs.Ytbhcjgobapnajaa
end
section
namespace Go.Proofs.Ytbhcjgobapnajaa
open Go Go.Sy
set_option maxRecDepth 4000
set_option linter.unusedSimpArgs false
set_option linter.unusedVariables false
attribute [local irreducible] Reg RegD Later Out CallV Tri Side EqV
end Go.Proofs.Ytbhcjgobapnajaa
end

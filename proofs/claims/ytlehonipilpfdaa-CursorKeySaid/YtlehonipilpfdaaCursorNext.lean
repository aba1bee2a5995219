/- What comes next of a cursor, case by case. No condition. -/
import Derived.Test.YtlehonipilpfdaaCursorTells
namespace Go.Proofs.Ytlehonipilpfdaa
open Go Go.Sy
set_option linter.unusedSimpArgs false
set_option linter.unusedVariables false
theorem grpAt_of {l : List (List Fr)} {first : Int} {c : Cu} {g : List Fr} {j : Nat} (hj : c.group = first + j) (h : l[j]? = some g) : grpAt l first c = g ∧ inB l first c = true := by
  have hi := (List.getElem?_eq_some_iff.1 h).1
  refine ⟨?_, by simp [inB, hj]; omega⟩
  rw [grpAt, List.getD_eq_getElem?_getD, show (c.group - first).toNat = j by omega, h]; rfl
theorem next_mid {s : Sto} {c : Cu} {upto : Int} {g : List Fr} {x : Fr} {j i : Nat} (hm : c.mode ≠ 2) (hj : c.group = s.first + j) (h : (allS s)[j]? = some g) (hi : c.frame = i) (hx : g[i]? = some x) (ht : c.mode = 3 → x.time ≤ upto) :
    nextR s c upto = (⟨c.mode, c.group, c.frame + 1⟩, x, true, false) := by
  obtain ⟨h1, h2⟩ := grpAt_of hj h
  have hil := (List.getElem?_eq_some_iff.1 hx).1
  have hjl := (List.getElem?_eq_some_iff.1 h).1
  have hb : lostB (allS s) s.first c = false := by simp [lostB, h1, h2]; omega
  have e4 : setG (allS s) s.first c = c.group := by simp [setG, hb, h1]; omega
  have e5 : setF (allS s) s.first c = c.frame := by simp [setF, hb, h1]; omega
  have hga : grpAt (allS s) s.first (setC (allS s) s.first c) = g := by rw [setC, e4, e5]; exact h1
  have hne : ¬ allS s = [] := fun e => by rw [e] at h; simp at h
  have hgx : g.getD c.frame.toNat fr0 = x := by rw [List.getD_eq_getElem?_getD, hi, Int.toNat_natCast, hx]; rfl
  rw [nextR, if_neg (by simp [hm, hne, e4]; omega), hga, e4, e5, hb, hgx, if_neg]
  intro ⟨q1, q2⟩; have := ht q1; omega
theorem next_over {s : Sto} {c : Cu} {upto : Int} {g g' : List Fr} {x : Fr} {j : Nat} (hm : c.mode ≠ 2) (hj : c.group = s.first + j) (h : (allS s)[j]? = some g) (hi : c.frame = g.length) (h' : (allS s)[j + 1]? = some g') (hx : g'[0]? = some x) (ht : c.mode = 3 → x.time ≤ upto) :
    nextR s c upto = (⟨c.mode, c.group + 1, 1⟩, x, true, false) := by
  obtain ⟨h1, h2⟩ := grpAt_of hj h
  have hjl := (List.getElem?_eq_some_iff.1 h').1
  have hb : lostB (allS s) s.first c = false := by simp [lostB, h1, h2]; omega
  have e4 : setG (allS s) s.first c = c.group + 1 := by simp [setG, hb, h1, hi]
  have e5 : setF (allS s) s.first c = 0 := by simp [setF, hb, h1, hi]
  have hga : grpAt (allS s) s.first (setC (allS s) s.first c) = g' := by rw [setC, e4, e5]; exact (grpAt_of (j := j + 1) (by simp only; omega) h').1
  have hne : ¬ allS s = [] := fun e => by rw [e] at h; simp at h
  have hgx : g'.getD (0 : Int).toNat fr0 = x := by rw [List.getD_eq_getElem?_getD]; exact congrArg (·.getD fr0) hx
  rw [nextR, if_neg (by simp [hm, hne, e4]; omega), hga, e4, e5, hb, hgx, if_neg]
  · simp
  intro ⟨q1, q2⟩; have := ht q1; omega
theorem next_stop {s : Sto} {c : Cu} {upto : Int} {g : List Fr} {j : Nat} (hj : c.group = s.first + j) (h : (allS s)[j]? = some g) (hi : c.frame = g.length) (hl : j + 1 = (allS s).length) : nextR s c upto = (c, fr0, false, false) := by
  obtain ⟨h1, h2⟩ := grpAt_of hj h
  have hb : lostB (allS s) s.first c = false := by simp [lostB, h1, h2]; omega
  have e4 : setG (allS s) s.first c = c.group + 1 := by simp [setG, hb, h1, hi]
  exact if_pos (.inr (.inr (by omega)))
theorem nextS_of {s : Sto} {c : Cu} {upto : Int} (hr : RightS s) (hc : cuOK c) (hu : 0 ≤ upto ∧ upto ≤ 1000000) : nextS s c upto = (nextR s c upto, 0) := by
  have h1 : cuE c = 0 := by unfold cuOK at hc; unfold cuE; rw [if_neg (by omega), if_neg (by omega)]
  exact if_pos (by rw [nextE, if_pos (right_storeE hr), if_pos h1, if_pos hu])
theorem all_op {s : Sto} (h : s.op ≠ []) : allS s = s.gs ++ [s.op] := by
  have := List.length_pos_iff.2 h
  rw [allS, withOpen, if_pos this]
theorem all_no {s : Sto} (h : s.op = []) : allS s = s.gs := by rw [allS, withOpen, if_neg (by simp [h])]
/-- What comes behind the newest frame, when a frame came. -/
theorem live_next {s : Sto} {f : Fr} {m : Int} {g : List Fr} {j : Nat} {upto : Int} (hr : RightS s) (hf : frameE f = 0) (h0 : (storeRaw s f).2.2 = 0) (hm : m ≠ 2) (hj : j + 1 = (allS s).length) (hg : (allS s)[j]? = some g) (ht : m = 3 → f.time ≤ upto) :
    (∃ c', nextR (storeRaw s f).1 ⟨m, s.first + j, g.length⟩ upto = (c', f, true, false)) ∧ ((storeRaw s f).1.op.length ≠ s.op.length ∨ f.key = true) ∨ f.key = false ∧ (storeRaw s f).1.op = s.op ∧ nextR (storeRaw s f).1 ⟨m, s.first + j, g.length⟩ upto = (⟨m, s.first + j, g.length⟩, fr0, false, false) := by
  obtain ⟨k, h1, h2, h3, h4, h5⟩ := raw_right hr hf h0
  rw [h2]
  simp only
  by_cases hop : s.op = []
  · -- no group is open
    have ha := all_no hop
    rw [ha] at hg hj
    have hd : doneS s.op s.gs f = s.gs := by rw [doneS, if_neg (by simp [hop])]
    rw [hd] at h5 ⊢
    have hk0 := h5 hr.2.2.2.2
    subst hk0
    simp only [List.drop_zero]
    by_cases hk : f.key = true
    · have hgr : growS s.op f = [f] := by rw [growS, if_pos hk]
      rw [hgr]
      have hal : allS ⟨s.first + (0 : Nat), s.gs, [f]⟩ = s.gs ++ [[f]] := all_op (by simp)
      refine .inl ⟨⟨_, next_over (j := j) (g := g) (g' := [f]) hm ?_ ?_ rfl ?_ rfl ht⟩, .inr hk⟩
      · simp
      · rw [hal, List.getElem?_append_left (by omega)]; exact hg
      · rw [hal, hj]; simp
    · have hgr : growS s.op f = [] := by rw [growS, if_neg hk, if_neg (by simp [hop]), hop]
      rw [hgr]
      have hal : allS ⟨s.first + (0 : Nat), s.gs, []⟩ = s.gs := all_no rfl
      exact .inr ⟨by simpa using hk, hop.symm, next_stop (j := j) (g := g) (by simp) (by rw [hal]; exact hg) rfl (by rw [hal]; exact hj)⟩
  · have ha := all_op hop
    have hlp := List.length_pos_iff.2 hop
    rw [ha] at hg hj
    have hjg : j = s.gs.length := by simp at hj; omega
    subst hjg
    have hgo : g = s.op := by simp at hg; exact hg.symm
    subst hgo
    by_cases hk : f.key = true
    · have hd : doneS s.op s.gs f = s.gs ++ [s.op] := by rw [doneS, if_pos ⟨hk, hlp⟩]
      rw [hd] at h4 ⊢
      have hkl : k < s.gs.length + 1 := by have := h4 (by simp); simpa using this
      have hdl : ((s.gs ++ [s.op]).drop k).length = s.gs.length + 1 - k := by rw [List.length_drop, List.length_append]; rfl
      have hgr : growS s.op f = [f] := by rw [growS, if_pos hk]
      rw [hgr]
      have hal : allS ⟨s.first + k, (s.gs ++ [s.op]).drop k, [f]⟩ = (s.gs ++ [s.op]).drop k ++ [[f]] := all_op (by simp)
      refine .inl ⟨⟨_, next_over (j := s.gs.length - k) (g := s.op) (g' := [f]) hm ?_ ?_ rfl ?_ rfl ht⟩, .inr hk⟩
      · simp only; omega
      · rw [hal, List.getElem?_append_left (by rw [hdl]; omega), List.getElem?_drop, show k + (s.gs.length - k) = s.gs.length by omega]; simp
      · rw [hal, List.getElem?_append_right (by rw [hdl]; omega), hdl, show s.gs.length - k + 1 - (s.gs.length + 1 - k) = 0 by omega]; rfl
    · have hd : doneS s.op s.gs f = s.gs := by rw [doneS, if_neg (by simp [hk])]
      rw [hd] at h5 ⊢
      have hk0 := h5 hr.2.2.2.2
      subst hk0
      simp only [List.drop_zero]
      by_cases hc : 0 < s.op.length ∧ s.op.length < 6 ∧ lastT s.op ≤ f.time
      · have hgr : growS s.op f = s.op ++ [f] := by rw [growS, if_neg hk, if_pos hc]
        rw [hgr]
        have hal : allS ⟨s.first + (0 : Nat), s.gs, s.op ++ [f]⟩ = s.gs ++ [s.op ++ [f]] := all_op (by simp)
        refine .inl ⟨⟨_, next_mid (j := s.gs.length) (g := s.op ++ [f]) (i := s.op.length) hm ?_ ?_ rfl ?_ ht⟩, .inl ?_⟩
        · simp
        · rw [hal]; simp
        · simp
        · simp
      · have hgr : growS s.op f = s.op := by rw [growS, if_neg hk, if_neg hc]
        rw [hgr]
        have hal : allS ⟨s.first + (0 : Nat), s.gs, s.op⟩ = s.gs ++ [s.op] := all_op hop
        exact .inr ⟨by simpa using hk, rfl, next_stop (j := s.gs.length) (g := s.op) (by simp) (by rw [hal]; simp) rfl (by rw [hal]; simp)⟩
end Go.Proofs.Ytlehonipilpfdaa

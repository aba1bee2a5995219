/- What is opened is a right store; plain. No condition. -/
import Derived.Test.YtbhcjgobapnajaaDisk12
namespace Go.Proofs.Ytbhcjgobapnajaa
open Go Go.Sy
set_option maxRecDepth 4000
set_option linter.unusedSimpArgs false
set_option linter.unusedVariables false
theorem diskL_seq (s : ByteArray) : ∀ (f o : Nat) (last : Option Int) (l : List Rc), diskL s f o last = some l → (∀ (i : Nat) r, l[i]? = some r → r.n = firstOf l + i) ∧ (0 < l.length → ∀ m, last = some m → firstOf l = m + 1)
  | 0, o, last, l, h => by simp [diskL] at h; subst h; simp
  | f + 1, o, last, l, h => by
    unfold diskL at h
    split at h
    · cases h; simp
    split at h
    · cases h; simp
    split at h
    · rename_i hg
      split at h
      · rename_i l' h2
        cases h
        obtain ⟨q1, q2⟩ := diskL_seq s f _ _ _ h2
        have hg2 := (Bool.and_eq_true_iff.1 hg).2
        refine ⟨fun i r hr => ?_, fun _ m hm => ?_⟩
        · cases i with
          | zero => cases hr; simp [firstOf]
          | succ i =>
            rw [List.getElem?_cons_succ] at hr
            have h3 := q1 i r hr
            have hp : 0 < l'.length := by
              have := (List.getElem?_eq_some_iff.1 hr).1; omega
            have h4 := q2 hp _ rfl
            rw [h3, h4, firstOf]; omega
        · subst hm
          simpa [goesB, firstOf] using hg2
      · cases h
    · cases h
theorem gsOf_len (l : List Rc) : (gsOf l).length = l.length := List.length_map _
theorem open_right {d : Dk} (h : dkE d = 0) : RightS (dopS d).1.1 := by
  obtain ⟨hz, l, hd, hs, e⟩ := readR_ok h
  obtain ⟨hr1, hr2⟩ := diskL_right _ _ _ _ _ (Nat.zero_le _) hd
  obtain ⟨hq, _⟩ := diskL_seq _ _ _ _ _ hd
  rw [dopS, if_pos h, e]
  obtain ⟨k, h1, h2, h3, h4, h5⟩ := trimS_drop _ (firstOf l) (gsOf l) rfl
  simp only
  rw [h2]
  have hgr : ∀ g ∈ gsOf l, groupE g = 0 := fun g hg => by
    obtain ⟨r, hr, rfl⟩ := List.mem_map.1 hg
    exact (hr1 r hr).1
  refine ⟨?_, ?_, fun g hg => hgr g (List.mem_of_mem_drop hg), .inl rfl, h3⟩
  · rw [gsOf_len] at h4
    rcases Nat.eq_zero_or_pos l.length with hl | hl
    · have : l = [] := List.length_eq_zero_iff.1 hl
      subst this
      rw [gsOf_len] at h1
      simp only [List.length_nil] at h1
      simp only [firstOf]; omega
    · have hk := h4 hl
      have hy := hq k _ (List.getElem?_eq_getElem hk)
      have := (hr1 _ (List.getElem_mem hk)).2
      simp only; omega
  · simp only
    unfold full at h3
    simp at h3 ⊢
    omega
theorem open_small (d : Dk) : Small (dopS d).1.1 := by
  by_cases h : dkE d = 0
  · exact (open_right h).small
  · rw [dopS, if_neg h]; exact st0_small
end Go.Proofs.Ytbhcjgobapnajaa

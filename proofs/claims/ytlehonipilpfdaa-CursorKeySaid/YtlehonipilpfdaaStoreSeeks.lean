/- StoreSeeks, walked. No condition. -/
import Derived.Test.YtlehonipilpfdaaStoreStays
namespace Go.Proofs.Ytlehonipilpfdaa
open Go Go.Sy
set_option maxRecDepth 4000
set_option linter.unusedSimpArgs false
set_option linter.unusedVariables false
attribute [local irreducible] Reg RegD Later Out CallV Tri Side EqV
theorem atUp_lt (l : List (List Fr)) (t : Int) : ∀ n, 0 < n → atUp l t n < n
  | 0, h => absurd h (by omega)
  | n + 1, _ => by
    rw [atUp]; split
    · omega
    · rcases Nat.eq_zero_or_pos n with rfl | hn
      · simp [atUp]
      · have := atUp_lt l t n hn; omega
theorem atUp_max (l : List (List Fr)) (t : Int) : ∀ n j, j < n → headT (l.getD j []) ≤ t → j ≤ atUp l t n ∧ headT (l.getD (atUp l t n) []) ≤ t
  | 0, j, h, _ => absurd h (by omega)
  | n + 1, j, h, hj => by
    rw [atUp]; split
    · rename_i hn; exact ⟨by omega, hn⟩
    · rename_i hn
      have : j ≠ n := fun e => hn (e ▸ hj)
      exact atUp_max l t n j (by omega) hj
theorem atUp_none (l : List (List Fr)) (t : Int) : ∀ n, ¬ headT (l.getD (atUp l t n) []) ≤ t → atUp l t n = 0
  | 0, _ => rfl
  | n + 1, h => by
    rw [atUp] at h ⊢
    split
    · rename_i hn; rw [if_pos hn] at h; exact absurd hn h
    · rename_i hn; rw [if_neg hn] at h; exact atUp_none l t n h
theorem seek_ok {s : Sto} {t : Int} (h : (seekS s t).2 = 0) : RightS s ∧ 0 < (allS s).length ∧ seekS s t = (s.first + atUp (allS s) t (allS s).length, 0) := by
  unfold seekS at h ⊢
  by_cases h1 : wE1 s t = 0
  · rw [if_pos h1] at h ⊢
    unfold seekR at h ⊢
    by_cases h2 : 0 < (allS s).length
    · rw [if_pos h2]; exact ⟨(wE1_ok h1).1, h2, by simp⟩
    · rw [if_neg h2] at h; simp at h
  · rw [if_neg h1] at h; exact absurd h h1
theorem seek_err {s : Sto} {t : Int} (h : ¬ (seekS s t).2 = 0) : (seekS s t).1 = 0 := by
  unfold seekS at h ⊢
  by_cases h1 : wE1 s t = 0
  · rw [if_pos h1] at h ⊢
    unfold seekR at h ⊢
    by_cases h2 : 0 < (allS s).length
    · rw [if_pos h2] at h; simp at h
    · rw [if_neg h2]
  · rw [if_neg h1]
theorem group_head {g : List Fr} (h : groupE g = 0) : ∃ x, g[0]? = some x ∧ x.key = true ∧ headT g = x.time := by
  obtain ⟨h1, _, h3, _⟩ := groupE_ok h
  cases g with
  | nil => exact absurd rfl h1
  | cons x l =>
    refine ⟨x, rfl, ?_, rfl⟩
    rw [goE] at h3
    split at h3
    · rename_i q; exact absurd h3 q
    · split at h3
      · cases h3
      · rename_i q; simpa [badG] using q
end Go.Proofs.Ytlehonipilpfdaa

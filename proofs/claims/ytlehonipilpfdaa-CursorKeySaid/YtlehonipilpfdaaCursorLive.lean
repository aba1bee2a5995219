/- CursorLive, walked. No condition. -/
import Derived.Test.YtlehonipilpfdaaCursorNext
namespace Go.Proofs.Ytlehonipilpfdaa
open Go Go.Sy
set_option maxRecDepth 4000
set_option linter.unusedSimpArgs false
set_option linter.unusedVariables false
attribute [local irreducible] Reg RegD Later Out CallV Tri Side EqV
theorem goE_key : ∀ {l : List Fr} {p : Option Fr} {i : Nat} {x : Fr}, goE p l = 0 → l[i]? = some x → x.key = (p.isNone && decide (i = 0))
  | [], _, _, _, _, h => by simp at h
  | f :: l, p, i, x, h, hx => by
    rw [goE] at h
    split at h
    · rename_i q; exact absurd h q
    · split at h
      · cases h
      · rename_i q
        cases i with
        | zero =>
          simp at hx; subst hx
          cases p with
          | none => simpa [badG] using q
          | some y => simp [badG] at q; simp [q.1]
        | succ i =>
          have := goE_key (p := some f) (i := i) h (by simpa using hx)
          simpa using this
theorem key_at {g : List Fr} {i : Nat} {x : Fr} (h : groupE g = 0) (hx : g[i]? = some x) : x.key = decide (i = 0) := by
  have := goE_key (groupE_ok h).2.2.1 hx
  simpa using this
theorem live_ok {s : Sto} (h : (liveS s).2 = 0) : RightS s ∧ 0 < (allS s).length ∧ liveS s = (⟨1, s.first + (allS s).length - 1, 0⟩, 0) := by
  unfold liveS at h ⊢
  by_cases h1 : storeE s = 0
  · rw [if_pos h1] at h ⊢
    by_cases h2 : 0 < (allS s).length
    · rw [if_pos h2]; exact ⟨storeE_ok h1, h2, rfl⟩
    · rw [if_neg h2] at h; cases h
  · rw [if_neg h1] at h; exact absurd h h1
theorem live_err {s : Sto} (h : ¬ (liveS s).2 = 0) : liveS s = (cu0, (liveS s).2) := by
  unfold liveS at h ⊢
  by_cases h1 : storeE s = 0
  · rw [if_pos h1] at h ⊢
    by_cases h2 : 0 < (allS s).length
    · rw [if_pos h2] at h; exact absurd rfl h
    · rw [if_neg h2]
  · rw [if_neg h1]
end Go.Proofs.Ytlehonipilpfdaa

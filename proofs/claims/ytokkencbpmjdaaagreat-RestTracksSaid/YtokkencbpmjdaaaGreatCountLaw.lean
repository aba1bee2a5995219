/- Numbers that go round: plain facts. No condition. -/
import Derived.Test.YtokkencbpmjdaaaGreatCount
namespace Go.Proofs.YtokkencbpmjdaaaGreat
open Go Go.Sy
set_option linter.unusedSimpArgs false
set_option linter.unusedVariables false
theorem unwrapS_ok {last seq : Int} (h : (unwrapS last seq).2 = 0) : rightB last = true ∧ 0 ≤ seq ∧ seq ≤ 65535 ∧ (unwrapS last seq).1 = unwrapN last seq ∧ 65536 ≤ unwrapN last seq ∧ unwrapN last seq ≤ 1000000000 := by
  unfold unwrapS at h ⊢
  split at h
  · rename_i hc; rw [if_pos hc]; obtain ⟨h1, h2, h3, h4⟩ := hc; simp [rightB] at h4; exact ⟨h1, h2, h3, rfl, h4⟩
  · cases h
theorem rightB_iff {n : Int} : rightB n = true ↔ 65536 ≤ n ∧ n ≤ 1000000000 := by simp [rightB]
theorem unwrapN_near {last seq : Int} (h1 : 0 ≤ last) (h2 : 0 ≤ seq) (h3 : seq ≤ 65535) : unwrapN last seq % 65536 = seq ∧ last - 32767 ≤ unwrapN last seq ∧ unwrapN last seq ≤ last + 32768 := by
  unfold unwrapN; split <;> omega
end Go.Proofs.YtokkencbpmjdaaaGreat

/- DeskPaused, walked. No condition. -/
import Derived.Test.YtokkencbpmjdaaaGreatDeskW
namespace Go.Proofs.YtokkencbpmjdaaaGreat
open Go Go.Sy
set_option maxRecDepth 4000
set_option linter.unusedSimpArgs false
set_option linter.unusedVariables false
attribute [local irreducible] Reg RegD Later Out CallV Tri Side EqV Pause
theorem reads_vw {a : AV} (h : ReadsArg (.agg [.agg [.int .i64, .int .i64, .int .i64], .agg [.int .i64, .int .i64, .int .i64]]) a) : ∃ v : Vw, a = .agg (vwC v) := by
  obtain ⟨_, rfl, _, _, rfl, ⟨_, _, rfl, ⟨a1, rfl, _⟩, _, _, rfl, ⟨a2, rfl, _⟩, _, _, rfl, ⟨a3, rfl, _⟩, rfl⟩, _, _, rfl, ⟨_, _, rfl, ⟨b1, rfl, _⟩, _, _, rfl, ⟨b2, rfl, _⟩, _, _, rfl, ⟨b3, rfl, _⟩, rfl⟩, rfl⟩ := h
  exact ⟨⟨⟨a1, a2, a3⟩, ⟨b1, b2, b3⟩⟩, rfl⟩
abbrev shVw : Sh := .agg [.agg [.int .i64, .int .i64, .int .i64], .agg [.int .i64, .int .i64, .int .i64]]
end Go.Proofs.YtokkencbpmjdaaaGreat

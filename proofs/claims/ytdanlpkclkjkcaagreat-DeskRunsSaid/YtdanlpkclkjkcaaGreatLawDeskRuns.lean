/- DeskRuns: for every input the law returns true and leaves its arguments as they were. CONDITIONS: none but the given row's own. -/
import Derived.Test.YtdanlpkclkjkcaaGreatDeskLaws
import Derived.Test.YtdanlpkclkjkcaaGreatSy4
namespace Go.Proofs.YtdanlpkclkjkcaaGreat.lawDeskRuns
open Go Go.Sy Go.ChangeShapes Go.WideShapes Go.ChangeAt Go.RowKit
theorem own : ownKnob Tryz.prog.godebug = none := by kernel_rfl
theorem laidOut : laidOutB Tryz.prog = true := by kernel_rfl
set_option maxRecDepth 100000 in
theorem lifted (os : Os) (started : os.Started) (H : Type) (enc : TypeId × Value → H) :
    ReturnsInHanded {} Tryz.checked os 5 .any (Rows.deskRunsSpec.pre6 enc Tryz.prog Tryz.f5 Rows.deskRunsRow.domain false) (Rows.deskRunsSpec.post enc Tryz.prog Tryz.f5 false true false false) := by
  refine returnsInHanded_of_change_sized (C := Tryz.checked) own started (by kernel_rfl) Tryz.func5
    (ChangeSpec.witness6 (enc := enc) (C := Tryz.checked) false ⟨#[], #[.slice none 0 0], []⟩ 12 (by kernel_rfl) (by kernel_rfl) (by kernel_rfl) (by kernel_rfl)) ?_
  intro W base args ds gs before hval hW _ hwt _
  exact law_contract (P := Tryz.prog) (fn := Tryz.f5) (s := Rows.deskRunsSpec) (shs := [.sl 3 32 (.agg [.int .i64, .int .i64, .str])]) (Q := fun _ => True) laidOut rfl (by kernel_rfl) Tryz.underlying4 (fun ds h => by match ds, h with | [_], _ => rfl) (by kernel_rfl) (by kernel_rfl) law_deskRuns hval hW hwt rfl (fun _ _ => trivial)
theorem proved : Rows.DeskRunsSaid :=
  OpenClaim.holds_of_wide 5 Tryz.f5 rfl rfl rfl rfl rfl rfl rfl ⟨rfl, rfl, rfl, rfl, rfl⟩ rfl rfl rfl rfl rfl (by kernel_rfl) Tryz.func5 (by kernel_rfl)
    (of_decide_eq_true (by kernel_rfl)) (by unfold Func.isWrapper; first | (rw [if_pos (by decide +kernel)]; kernel_rfl) | (rw [if_neg (by decide +kernel)]; exact ⟨rfl, rfl⟩))
    (fun os started H enc _ => lifted os started H enc)
end Go.Proofs.YtdanlpkclkjkcaaGreat.lawDeskRuns

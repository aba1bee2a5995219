/- RestTracks: for every input the law returns true and leaves its arguments as they were. CONDITIONS: none but the given row's own. -/
import Derived.Test.YtokkencbpmjdaaaGreatRestTracks
import Derived.Test.YtokkencbpmjdaaaGreatSy4
namespace Go.Proofs.YtokkencbpmjdaaaGreat.lawRestTracks
open Go Go.Sy Go.ChangeShapes Go.WideShapes Go.ChangeAt Go.RowKit
theorem own : ownKnob Tryz.prog.godebug = none := by kernel_rfl
theorem laidOut : laidOutB Tryz.prog = true := by kernel_rfl
set_option maxRecDepth 100000 in
theorem lifted (os : Os) (started : os.Started) (H : Type) (enc : TypeId × Value → H) :
    ReturnsInHanded {} Tryz.checked os 3 .any (Rows.restTracksSpec.pre6 enc Tryz.prog Tryz.f3 Rows.restTracksRow.domain false) (Rows.restTracksSpec.post enc Tryz.prog Tryz.f3 false true false false) := by
  refine returnsInHanded_of_change_sized (C := Tryz.checked) own started (by kernel_rfl) Tryz.func3
    (ChangeSpec.witness6 (enc := enc) (C := Tryz.checked) false ⟨#[], #[.agg #[.int .i64 0, .int .i64 0, .slice none 0 0, .slice none 0 0, .int .i64 0, .slice none 0 0, .slice none 0 0], .agg #[.int .i64 0, .int .i64 0, .int .i64 0, .int .i64 0, .int .i64 0, .int .i64 0], .agg #[.int .i64 0, .int .i64 0, .string ByteArray.empty]], []⟩ 12 (by kernel_rfl) (by kernel_rfl) (by kernel_rfl) (by kernel_rfl)) ?_
  intro W base args ds gs before hval hW _ hwt _
  exact law_contract (P := Tryz.prog) (fn := Tryz.f3) (s := Rows.restTracksSpec) (shs := [.agg [.int .i64, .agg [.int .i64, .sl 7 48 (.agg [.int .i64, .agg [.int .i64, .int .i64, .bool, .bool, .bool, .str]])], .agg [.sl 7 48 (.agg [.int .i64, .agg [.int .i64, .int .i64, .bool, .bool, .bool, .str]])], .agg [.int .i64, .sl 1 24 (.agg [.sl 3 40 (.agg [.int .i64, .bool, .sl 1 16 (.str)])]), .agg [.sl 3 40 (.agg [.int .i64, .bool, .sl 1 16 (.str)])]]], .agg [.agg [.int .i64, .int .i64, .int .i64], .agg [.int .i64, .int .i64, .int .i64]], .agg [.int .i64, .int .i64, .str]]) (Q := fun _ => True) laidOut rfl (by kernel_rfl) Tryz.underlying4 (fun ds h => by match ds, h with | [_, _, _], _ => rfl) (by kernel_rfl) (by kernel_rfl) law_restTracks hval hW hwt rfl (fun _ _ => trivial)
theorem proved : Rows.RestTracksSaid :=
  OpenClaim.holds_of_wide 3 Tryz.f3 rfl rfl rfl rfl rfl rfl rfl ⟨rfl, rfl, rfl, rfl, rfl⟩ rfl rfl rfl rfl rfl (by kernel_rfl) Tryz.func3 (by kernel_rfl)
    (of_decide_eq_true (by kernel_rfl)) (by unfold Func.isWrapper; first | (rw [if_pos (by decide +kernel)]; kernel_rfl) | (rw [if_neg (by decide +kernel)]; exact ⟨rfl, rfl⟩))
    (fun os started H enc _ => lifted os started H enc)
end Go.Proofs.YtokkencbpmjdaaaGreat.lawRestTracks

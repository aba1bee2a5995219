/- RestStores: for every input the law returns true and leaves its arguments as they were. CONDITIONS: none but the given row's own. -/
import Derived.Test.YtbhcjgobapnajaaRestStores
import Derived.Test.YtbhcjgobapnajaaSy4
namespace Go.Proofs.Ytbhcjgobapnajaa.lawRestStores
open Go Go.Sy Go.ChangeShapes Go.WideShapes Go.ChangeAt Go.RowKit
theorem own : ownKnob Try.prog.godebug = none := by kernel_rfl
theorem laidOut : laidOutB Try.prog = true := by kernel_rfl
set_option maxRecDepth 100000 in
theorem lifted (os : Os) (started : os.Started) (H : Type) (enc : TypeId × Value → H) :
    ReturnsInHanded {} Try.checked os 10 .any (Rows.restStoresSpec.pre6 enc Try.prog Try.f10 Rows.restStoresRow.domain false) (Rows.restStoresSpec.post enc Try.prog Try.f10 false true false false) := by
  refine returnsInHanded_of_change_sized (C := Try.checked) own started (by kernel_rfl) Try.func10
    (ChangeSpec.witness6 (enc := enc) (C := Try.checked) false ⟨#[], #[.agg #[.int .i64 0, .slice none 0 0, .slice none 0 0], .agg #[.int .i64 0, .bool false, .slice none 0 0], .agg #[.int .i64 0, .int .i64 0, .int .i64 0], .agg #[.string ByteArray.empty, .int .i64 0]], []⟩ 12 (by kernel_rfl) (by kernel_rfl) (by kernel_rfl) (by kernel_rfl)) ?_
  intro W base args ds gs before hval hW _ hwt _
  exact law_contract (P := Try.prog) (fn := Try.f10) (s := Rows.restStoresSpec) (shs := [.agg [.int .i64, .sl 1 24 (.agg [.sl 3 40 (.agg [.int .i64, .bool, .sl 1 16 (.str)])]), .agg [.sl 3 40 (.agg [.int .i64, .bool, .sl 1 16 (.str)])]], .agg [.int .i64, .bool, .sl 1 16 (.str)], .agg [.int .i64, .int .i64, .int .i64], .agg [.str, .int .i64]]) (Q := fun _ => True) laidOut rfl (by kernel_rfl) Try.underlying4 (fun ds h => by match ds, h with | [_, _, _, _], _ => rfl) (by kernel_rfl) (by kernel_rfl) law_restStores hval hW hwt rfl (fun _ _ => trivial)
theorem proved : Rows.RestStoresSaid :=
  OpenClaim.holds_of_wide 10 Try.f10 rfl rfl rfl rfl rfl rfl rfl ⟨rfl, rfl, rfl, rfl, rfl⟩ rfl rfl rfl rfl rfl (by kernel_rfl) Try.func10 (by kernel_rfl)
    (of_decide_eq_true (by kernel_rfl)) (by unfold Func.isWrapper; first | (rw [if_pos (by decide +kernel)]; kernel_rfl) | (rw [if_neg (by decide +kernel)]; exact ⟨rfl, rfl⟩))
    (fun os started H enc _ => lifted os started H enc)
end Go.Proofs.Ytbhcjgobapnajaa.lawRestStores

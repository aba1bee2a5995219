/- Which struct types are compared cell by cell. No condition. -/
import Derived.Test.YtokkencbpmjdaaaGreatSy3
import Derived.Test.YtokkencbpmjdaaaGreatChecked
import Derived.KernelRfl
namespace Go.Proofs.YtokkencbpmjdaaaGreat
open Go Go.Sy
def flK (t : TypeId) : Option (List Pr) := match t with
  | 36 => some [.int .i64, .int .i64, .int .i64]
  | 38 => some [.int .i64, .int .i64, .int .i64]
  | 40 => some [.int .i64, .int .i64, .int .i64, .int .i64, .int .i64, .int .i64]
  | 42 => some [.int .i64, .int .i64, .str]
  | 66 => some [.int .i64, .int .i64, .bool, .bool, .bool, .str]
  | 102 => some [.int .i64, .int .i64, .int .i64, .bool, .bool, .bool, .str]
  | _ => none
set_option maxRecDepth 100000 in
theorem flK_ok {t : TypeId} {ks : List Pr} (h : flK t = some ks) : flat Tryz.prog 6 t = some ks ∧ Tryz.prog.eqGuardType Tryz.prog.depth t = false ∧ (match Tryz.prog.underlying t with | some d => isAggD d | none => false) = true := by
  unfold flK at h
  split at h
  · cases h; exact ⟨by kernel_rfl, by kernel_rfl, by kernel_rfl⟩
  · cases h; exact ⟨by kernel_rfl, by kernel_rfl, by kernel_rfl⟩
  · cases h; exact ⟨by kernel_rfl, by kernel_rfl, by kernel_rfl⟩
  · cases h; exact ⟨by kernel_rfl, by kernel_rfl, by kernel_rfl⟩
  · cases h; exact ⟨by kernel_rfl, by kernel_rfl, by kernel_rfl⟩
  · cases h; exact ⟨by kernel_rfl, by kernel_rfl, by kernel_rfl⟩
  · cases h
set_option maxRecDepth 100000 in
theorem eqAT {op : BinOp} {t : TypeId} {ks : List Pr} {xs ys : List Value} {e : Bool} (h1 : isEq op = some e) (h2 : flK t = some ks) (hx : kinds ks xs = true) (hy : kinds ks ys = true) : EqV Tryz.prog op t xs ys (cond e (eqC xs ys) (!(eqC xs ys))) := by
  obtain ⟨a, b, c⟩ := flK_ok h2
  cases op <;> simp only [isEq] at h1 <;> first | (cases h1; exact eqV_eql a b c hx hy) | (cases h1; exact eqV_neq a b c hx hy) | cases h1
end Go.Proofs.YtokkencbpmjdaaaGreat

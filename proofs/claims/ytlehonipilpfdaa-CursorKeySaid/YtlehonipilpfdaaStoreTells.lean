/- StoreTells, walked. No condition. -/
import Derived.Test.YtlehonipilpfdaaStoreBase
namespace Go.Proofs.Ytlehonipilpfdaa
open Go Go.Sy
set_option maxRecDepth 4000
set_option linter.unusedSimpArgs false
set_option linter.unusedVariables false
attribute [local irreducible] Reg RegD Later Out CallV Tri Side EqV
theorem cells_grs {cx : List AV} (h : Reads (.sl 1 24 (.agg [.sl 3 40 (.agg [.int .i64, .bool, .sl 1 16 .str])])) cx) : ∃ l : List (List Fr), cx = [grs l] ∧ l.length ≤ 6000000000000 ∧ ∀ g ∈ l, Fits g := by
  obtain ⟨es, h1, h2, h3⟩ := h
  obtain ⟨l, h4, h5⟩ := map_of (f := grC) (Q := Fits) (es := es) fun x hx => by obtain ⟨g, hg, hq⟩ := cells_gr (h2 x hx); exact ⟨g, hg, hq⟩
  subst h1
  refine ⟨l, by rw [h4], ?_, h5⟩
  rw [h4, List.length_map] at h3
  unfold reachBytes at h3; omega
theorem reads_sto {a : AV} (h : ReadsArg (.agg [.int .i64, .sl 1 24 (.agg [.sl 3 40 (.agg [.int .i64, .bool, .sl 1 16 .str])]), .agg [.sl 3 40 (.agg [.int .i64, .bool, .sl 1 16 .str])]]) a) : ∃ s : Sto, a = .agg (stC s) ∧ FitsS s := by
  obtain ⟨_, rfl, _, _, rfl, ⟨n, rfl, _⟩, _, _, rfl, h2, _, _, rfl, h3, rfl⟩ := h
  obtain ⟨l, rfl, h4, h5⟩ := cells_grs h2
  obtain ⟨g, rfl, h6⟩ := cells_gr h3
  exact ⟨⟨n, l, g⟩, rfl, h4, h5, h6⟩
end Go.Proofs.Ytlehonipilpfdaa

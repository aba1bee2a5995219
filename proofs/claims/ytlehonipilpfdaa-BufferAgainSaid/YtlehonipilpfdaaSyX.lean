/- The symbolic layer, twenty-fourth part: arguments as lists of Lean's own. No condition. -/
import Derived.Test.YtlehonipilpfdaaSyW
set_option linter.unusedVariables false
namespace Go.Sy

theorem map_of {α : Type} {f : α → List AV} {Q : α → Prop} : ∀ {es : List (List AV)}, (∀ x ∈ es, ∃ y, x = f y ∧ Q y) → ∃ l : List α, es = l.map f ∧ ∀ y ∈ l, Q y
  | [], _ => ⟨[], rfl, by simp⟩
  | x :: es, h => by
    obtain ⟨y, h1, h2⟩ := h x (by simp)
    obtain ⟨l, h3, h4⟩ := map_of (f := f) (Q := Q) (es := es) fun x hx => h x (by simp [hx])
    exact ⟨y :: l, by simp [h1, h3], fun z hz => by rcases List.mem_cons.1 hz with rfl | hz; exact h2; exact h4 z hz⟩
theorem reads_ints {a : AV} (h : ReadsArg (.sl 1 8 (.int .i64)) a) : ∃ l : List Int, a = .sl 1 (l.map fun n => [.s (.int .i64 n)]) ∧ l.length ≤ 17592186043904 := by
  obtain ⟨es, h1, h2, h3⟩ := h
  obtain ⟨l, h4, _⟩ := map_of (f := fun n => [.s (.int .i64 n)]) (Q := fun _ => True) (es := es) fun x hx => by obtain ⟨n, hn, _⟩ := h2 x hx; exact ⟨n, hn, trivial⟩
  cases h1
  refine ⟨l, by rw [h4], ?_⟩
  rw [h4, List.length_map] at h3
  unfold reachBytes at h3; omega
end Go.Sy

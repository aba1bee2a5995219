/- StoreStays, walked. No condition. -/
import Derived.Test.YtlehonipilpfdaaStoreTells
namespace Go.Proofs.Ytlehonipilpfdaa
open Go Go.Sy
set_option maxRecDepth 4000
set_option linter.unusedSimpArgs false
set_option linter.unusedVariables false
attribute [local irreducible] Reg RegD Later Out CallV Tri Side EqV
theorem goS_right : ∀ {l : List (List Fr)}, (∀ g ∈ l, groupE g = 0) → goS l = 0
  | [], _ => rfl
  | g :: l, h => by rw [goS, if_neg (by simp [h g (by simp)])]; exact goS_right fun x hx => h x (by simp [hx])
theorem right_storeE {s : Sto} (h : RightS s) : storeE s = 0 := by
  obtain ⟨h1, h2, h3, h4, h5⟩ := h
  unfold storeE
  rw [if_neg (by omega), if_neg (by omega), goS_right h3, if_neg (by simp), if_neg (by simp [h5])]
  split
  · rename_i hp
    rcases h4 with h4 | h4
    · rw [h4] at hp; simp at hp
    · exact h4
  · rfl
theorem all_at {s : Sto} {j : Nat} {x : List Fr} (h : s.gs[j]? = some x) : (allS s)[j]? = some x := by
  have hj := (List.getElem?_eq_some_iff.1 h).1
  unfold allS withOpen
  split
  · rw [List.getElem?_append_left hj]; exact h
  · exact h
theorem getS_at {s : Sto} {n : Int} {x : List Fr} (hr : RightS s) (h1 : s.first ≤ n) (h : (allS s)[(n - s.first).toNat]? = some x) : getS s n = (x, 0) := by
  have hj := (List.getElem?_eq_some_iff.1 h).1
  rw [getS, if_pos (right_storeE hr), if_neg (by omega), List.getD_eq_getElem?_getD, h]; rfl
theorem getS_out {s : Sto} {n : Int} (hr : RightS s) (h1 : n < s.first ∨ s.first + (allS s).length ≤ n) : getS s n = ([], 5) := by
  rw [getS, if_pos (right_storeE hr), if_pos h1]
theorem addS_ok {s : Sto} {f : Fr} (h : (addS' s f).2.2 = 0) : RightS s ∧ frameE f = 0 ∧ addS' s f = storeRaw s f := by
  unfold addS' at h ⊢
  split
  · rename_i q; exact ⟨(vE1_ok q).1, (vE1_ok q).2, rfl⟩
  · rename_i q; rw [if_neg q] at h; exact absurd h q
theorem done_at {g : List Fr} {done : List (List Fr)} {f : Fr} {i : Nat} {x : List Fr} (h : done[i]? = some x) : (doneS g done f)[i]? = some x := by
  have hj := (List.getElem?_eq_some_iff.1 h).1
  unfold doneS
  split
  · rw [List.getElem?_append_left hj]; exact h
  · exact h
theorem done_ge (g : List Fr) (done : List (List Fr)) (f : Fr) : done.length ≤ (doneS g done f).length := by
  unfold doneS; split <;> simp
end Go.Proofs.Ytlehonipilpfdaa

/- What a buffer's rules bring about. No condition. -/
import Derived.Test.YtlehonipilpfdaaBufTells
namespace Go.Proofs.Ytlehonipilpfdaa
open Go Go.Sy
set_option linter.unusedSimpArgs false
set_option linter.unusedVariables false
abbrev Rise (l : List Slt) : Prop := l.Pairwise fun x y => x.n < y.n
theorem relS_spec (most : Nat) : ∀ (l : List Slt) (n : Int) (o : List Slt), Rise l → (∀ a ∈ l, n ≤ a.n) →
    ∃ out, (relS most n l o).2.2 = o ++ out ∧ l = out ++ (relS most n l o).2.1 ∧ n ≤ (relS most n l o).1 ∧ (∀ a ∈ out, n ≤ a.n ∧ a.n < (relS most n l o).1) ∧ (∀ a ∈ (relS most n l o).2.1, (relS most n l o).1 < a.n) ∧
      (relS most n l o).2.1.length ≤ most ∧ ((relS most n l o).1 = n ∨ ∃ a ∈ l, (relS most n l o).1 = a.n + 1)
  | [], n, o, _, _ => ⟨[], by simp [relS], rfl, Int.le_refl _, by simp, by simp [relS], by simp [relS], .inl rfl⟩
  | x :: l, n, o, hr, hn => by
    have hr := List.pairwise_cons.1 hr
    have hx := hn x (by simp)
    by_cases c : x.n = n
    · obtain ⟨out, h1, h2, h3, h4, h5, h6, h7⟩ := relS_spec most l (n + 1) (o ++ [x]) hr.2 (fun a ha => by have := hr.1 a ha; omega)
      have e : relS most n (x :: l) o = relS most (n + 1) l (o ++ [x]) := by simp only [relS, if_pos c]
      rw [e]
      refine ⟨x :: out, by rw [h1]; simp, by rw [List.cons_append, ← h2], by omega, fun a ha => ?_, h5, h6, ?_⟩
      · rcases List.mem_cons.1 ha with rfl | ha
        · omega
        · have := h4 a ha; omega
      · rcases h7 with h7 | ⟨a, ha, h7⟩
        · exact .inr ⟨x, by simp, by rw [h7]; omega⟩
        · exact .inr ⟨a, by simp [ha], h7⟩
    · by_cases c2 : l.length + 1 ≤ most
      · have e : relS most n (x :: l) o = (n, x :: l, o) := by simp only [relS, if_neg c, if_pos c2]
        rw [e]
        refine ⟨[], by simp, rfl, Int.le_refl _, by simp, fun a ha => ?_, by simpa using c2, .inl rfl⟩
        rcases List.mem_cons.1 ha with rfl | ha
        · simp only; omega
        · have := hr.1 a ha; simp only; omega
      · obtain ⟨out, h1, h2, h3, h4, h5, h6, h7⟩ := relS_spec most l (x.n + 1) (o ++ [x]) hr.2 (fun a ha => by have := hr.1 a ha; omega)
        have e : relS most n (x :: l) o = relS most (x.n + 1) l (o ++ [x]) := by simp only [relS, if_neg c, if_neg c2]
        rw [e]
        refine ⟨x :: out, by rw [h1]; simp, by rw [List.cons_append, ← h2], by omega, fun a ha => ?_, h5, h6, ?_⟩
        · rcases List.mem_cons.1 ha with rfl | ha
          · omega
          · have := h4 a ha; omega
        · rcases h7 with h7 | ⟨a, ha, h7⟩
          · exact .inr ⟨x, by simp, h7⟩
          · exact .inr ⟨a, by simp [ha], h7⟩
theorem heldE_mk : ∀ {l : List Slt} {a : Int}, (∀ x ∈ l, sltE x = 0 ∧ a < x.n) → Rise l → heldE a l = 0
  | [], a, _, _ => rfl
  | x :: l, a, h, hr => by
    have hr := List.pairwise_cons.1 hr
    have hx := h x (by simp)
    unfold heldE
    rw [if_neg (by simp [hx.1]), if_neg (by omega)]
    exact heldE_mk (fun y hy => ⟨(h y (by simp [hy])).1, hr.1 y hy⟩) hr.2
theorem bufE_mk {n : Int} {l : List Slt} (h1 : 65536 ≤ n ∧ n ≤ 1000000001) (h2 : l.length ≤ 4) (h3 : ∀ x ∈ l, sltE x = 0 ∧ n < x.n) (h4 : Rise l) : bufE ⟨n, l⟩ = 0 := by
  unfold bufE
  simp only
  rw [if_neg (by omega), if_neg (by omega), if_neg (by simp [heldE_mk h3 h4]), if_neg (by omega)]
/-- The rows about the place of a number. -/
theorem insS_rise {l : List Slt} {x : Slt} (hr : Rise l) (hx : ∀ y ∈ l, y.n ≠ x.n) : Rise (insS l x) := by
  unfold insS insL Rise
  have hlt : ∀ a ∈ l.take (posS l x.n), a.n < x.n := fun a ha => by
    obtain ⟨k, hk⟩ := List.mem_iff_getElem?.1 ha
    rw [List.getElem?_take] at hk
    split at hk
    · rename_i h; exact pos_lt h hk
    · cases hk
  have hgt : ∀ a ∈ l.drop (posS l x.n), x.n < a.n := fun a ha => by
    obtain ⟨k, hk⟩ := List.mem_iff_getElem?.1 ha
    rw [List.getElem?_drop] at hk
    have h1 := pos_ge hr (Nat.le_add_right _ k) hk
    have h2 := hx a (List.mem_of_mem_drop ha)
    omega
  rw [List.append_assoc, List.pairwise_append]
  refine ⟨hr.sublist (List.take_sublist _ _), ?_, fun a ha c hc => ?_⟩
  · rw [List.singleton_append, List.pairwise_cons]
    exact ⟨hgt, hr.sublist (List.drop_sublist _ _)⟩
  · have := hlt a ha
    rcases List.mem_append.1 hc with h | h
    · simp at h; subst h; exact this
    · have := hgt c h; omega
theorem insS_has (l : List Slt) (x : Slt) : x ∈ insS l x := by unfold insS insL; simp
/-- What a slot brings about that comes to a right buffer. -/
theorem rawB_spec {b : Bf} {x : Slt} (hb : bufE b = 0) (hx : sltE x = 0) : bufE ⟨(rawB b x).1, (rawB b x).2.1⟩ = 0 ∧ b.next ≤ (rawB b x).1 ∧ Rise (rawB b x).2.2 ∧ (∀ a ∈ (rawB b x).2.2, nextS b x ≤ a.n ∧ a.n < (rawB b x).1) ∧
    (∀ a ∈ (rawB b x).2.2 ++ (rawB b x).2.1, a = x ∨ a ∈ b.held) ∧ (rawB b x).2.2.length ≤ 5 ∧ 65536 ≤ (rawB b x).1 ∧ (x.n < (rawB b x).1 ∨ ∃ y ∈ (rawB b x).2.1, y.n = x.n) := by
  obtain ⟨p1, p2, p3, p4⟩ := bufE_ok hb
  have px := (sltE_ok hx).1
  have hn : b.next ≤ nextS b x ∧ 65536 ≤ nextS b x ∧ nextS b x ≤ 1000000001 := by unfold nextS; split <;> omega
  by_cases hc : nextS b x ≤ x.n ∧ hasS b.held x.n = false
  · have e : rawB b x = relS 4 (nextS b x) (insS b.held x) [] := if_pos hc
    have hne : ∀ y ∈ b.held, y.n ≠ x.n := by simpa [hasS] using hc.2
    have hri := insS_rise p4 hne
    have hge : ∀ a ∈ insS b.held x, nextS b x ≤ a.n := fun a ha => by
      rcases insS_mem ha with rfl | h
      · exact hc.1
      · have := (p3 a h).2
        unfold nextS; split
        · rename_i h0
          rcases p1 with ⟨_, h5⟩ | h5
          · rw [h5] at h; cases h
          · omega
        · omega
    have hok : ∀ a ∈ insS b.held x, sltE a = 0 := fun a ha => by
      rcases insS_mem ha with rfl | h
      · exact hx
      · exact (p3 a h).1
    obtain ⟨out, h1, h2, h3, h4, h5, h6, h7⟩ := relS_spec 4 (insS b.held x) (nextS b x) [] hri hge
    rw [e]
    rw [List.nil_append] at h1
    have hsub : ∀ a ∈ out ++ (relS 4 (nextS b x) (insS b.held x) []).2.1, a ∈ insS b.held x := fun a ha => by rw [h2]; exact ha
    have hri2 : Rise (out ++ (relS 4 (nextS b x) (insS b.held x) []).2.1) := by rw [← h2]; exact hri
    rw [h1]
    refine ⟨bufE_mk ⟨by omega, ?_⟩ h6 (fun a ha => ⟨hok a (hsub a (by simp [ha])), h5 a ha⟩) (List.pairwise_append.1 hri2).2.1, by omega, (List.pairwise_append.1 hri2).1, h4, fun a ha => insS_mem (hsub a ha), ?_, by omega, ?_⟩
    · rcases h7 with h7 | ⟨a, ha, h7⟩
      · omega
      · have := (sltE_ok (hok a ha)).1; omega
    · have := congrArg List.length h2
      rw [insS_len, List.length_append] at this; omega
    · have := insS_has b.held x
      rw [h2] at this
      rcases List.mem_append.1 this with h | h
      · exact .inl (h4 x h).2
      · exact .inr ⟨x, h, rfl⟩
  · have e : rawB b x = (nextS b x, b.held, []) := if_neg hc
    rw [e]
    simp only
    by_cases h0 : b.next = 0
    · have hh : b.held = [] := by
        rcases p1 with h | h
        · exact h.2
        · omega
      exact absurd ⟨by rw [nextS, if_pos h0]; exact Int.le_refl _, by rw [hh]; rfl⟩ hc
    · have e2 : nextS b x = b.next := if_neg h0
      rw [e2]
      have hb' : bufE ⟨b.next, b.held⟩ = 0 := hb
      refine ⟨hb', Int.le_refl _, List.Pairwise.nil, by simp, fun a ha => .inr (by simpa using ha), by simp, by omega, ?_⟩
      by_cases h1 : b.next ≤ x.n
      · have : hasS b.held x.n = true := by
          cases q : hasS b.held x.n with
          | true => rfl
          | false => exact absurd ⟨by rw [e2]; exact h1, q⟩ hc
        exact .inr (by simpa [hasS] using this)
      · exact .inl (by omega)
/-- What came, comes again without a trace. -/
theorem rawB_again {b : Bf} {x : Slt} (hb : bufE b = 0) (hx : sltE x = 0) : rawB ⟨(rawB b x).1, (rawB b x).2.1⟩ x = ((rawB b x).1, (rawB b x).2.1, []) := by
  obtain ⟨h1, h2, h3, h4, h5, h6, h7, h8⟩ := rawB_spec hb hx
  have e : nextS ⟨(rawB b x).1, (rawB b x).2.1⟩ x = (rawB b x).1 := if_neg (by simp only; omega)
  rw [rawB, if_neg]
  · rw [e]
  · rw [e]
    rintro ⟨c1, c2⟩
    rcases h8 with h8 | h8
    · omega
    · simp [hasS] at c2
      obtain ⟨y, hy, hyx⟩ := h8
      exact c2 y hy hyx
end Go.Proofs.Ytlehonipilpfdaa

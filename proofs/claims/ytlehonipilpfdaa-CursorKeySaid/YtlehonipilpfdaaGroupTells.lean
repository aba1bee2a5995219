/- GroupTells, walked. No condition. -/
import Derived.Test.YtlehonipilpfdaaGroup3
import Derived.Test.YtlehonipilpfdaaPic
namespace Go.Proofs.Ytlehonipilpfdaa
open Go Go.Sy
set_option maxRecDepth 4000
set_option linter.unusedSimpArgs false
set_option linter.unusedVariables false
attribute [local irreducible] Reg RegD Later Out CallV Tri Side EqV
abbrev pic (t : Int) (k : Bool) : Fr := ⟨t, k, [abc]⟩
theorem fits_pics {l : List Fr} (h : l.length ≤ 1000) (hp : ∀ f ∈ l, f.parts.length ≤ 1000) : Fits l := ⟨by omega, fun f hf => by have := hp f hf; omega⟩
theorem gb3 : PSpec Try.prog 92 [.agg (grC [pic 4 true])] (I 0) := by
  have h := c_groupCheck [pic 4 true] (fits_pics (by decide) (by simp [pic]))
  rwa [show groupE [pic 4 true] = 0 by decide +kernel] at h
/-- A right group's bytes are few. -/
theorem partsB_big {l : List ByteArray} (h : l.any big = false) : partsB l ≤ 8 * l.length := by
  induction l with
  | nil => simp [partsB]
  | cons s l ih =>
    simp only [List.any_cons, Bool.or_eq_false_iff] at h
    have h1 : s.size ≤ 8 := by have := h.1; simp [big] at this; exact this
    have := ih h.2
    simp only [partsB, List.length_cons]; omega
theorem goE_ok : ∀ {l : List Fr} {p : Option Fr}, goE p l = 0 → ∀ f ∈ l, frameE f = 0
  | [], _, _ => by simp
  | f :: l, p, h => by
    rw [goE] at h
    by_cases h1 : frameE f = 0
    · rw [if_neg (by simp [h1])] at h
      split at h
      · cases h
      · intro x hx
        rcases List.mem_cons.1 hx with rfl | hx
        · exact h1
        · exact goE_ok h x hx
    · rw [if_pos h1] at h; exact absurd h h1
theorem groupB_ok {l : List Fr} (h : ∀ f ∈ l, frameE f = 0) : groupB l ≤ 32 * l.length := by
  induction l with
  | nil => simp [groupB]
  | cons f l ih =>
    have h1 := frameE_ok (h f (by simp))
    have h2 := partsB_big h1.2.2.2.2
    have := ih fun x hx => h x (by simp [hx])
    simp only [groupB, List.length_cons]; omega
theorem groupE_ok {g : List Fr} (h : groupE g = 0) : g ≠ [] ∧ g.length ≤ 6 ∧ goE none g = 0 ∧ ∀ f ∈ g, frameE f = 0 := by
  unfold groupE at h
  split at h
  · cases h
  · rename_i h1
    split at h
    · cases h
    · rename_i h2; exact ⟨h1, by omega, h, goE_ok h⟩
theorem groupE_bytes {g : List Fr} (h : groupE g = 0) : groupB g ≤ 192 := by
  have h1 := groupE_ok h
  have := groupB_ok h1.2.2.2
  omega
theorem growS_mem {g : List Fr} {f x : Fr} (h : x ∈ growS g f) : x ∈ g ∨ x = f := by
  unfold growS at h
  split at h
  · simp at h; exact .inr h
  · split at h
    · simp at h; exact h
    · exact .inl h
/-- What came of a row of frames is of it. -/
def Made (L : List Fr) (done : List (List Fr)) (g : List Fr) : Prop := (∀ f ∈ g, f ∈ L) ∧ g.length ≤ 6 ∧ ∀ x ∈ done, x.length ≤ 6 ∧ ∀ f ∈ x, f ∈ L
theorem eachG_made {L : List Fr} : ∀ (l : List Fr) (g : List Fr) (done : List (List Fr)), (∀ f ∈ l, f ∈ L) → Made L done g → Made L (eachG g done l).2.1 (eachG g done l).1
  | [], _, _, _, h => h
  | f :: l, g, done, hl, h => by
    rw [eachG]
    split
    · refine eachG_made l _ _ (fun x hx => hl x (by simp [hx])) ⟨fun x hx => ?_, ?_, fun x hx => ?_⟩
      · rcases growS_mem hx with h1 | rfl
        · exact h.1 x h1
        · exact hl x (by simp)
      · have := growS_len g f; have := h.2.1; omega
      · unfold doneS at hx
        split at hx
        · rcases List.mem_append.1 hx with h1 | h1
          · exact h.2.2 x h1
          · simp at h1; subst h1; exact ⟨h.2.1, h.1⟩
        · exact h.2.2 x hx
    · exact h
theorem eachG_len : ∀ (l : List Fr) (g : List Fr) (done : List (List Fr)), (eachG g done l).2.1.length ≤ done.length + l.length
  | [], _, _ => by simp [eachG]
  | f :: l, g, done => by
    rw [eachG]
    split
    · have := eachG_len l (growS g f) (doneS g done f); have := doneS_len g done f; simp only [List.length_cons]; omega
    · simp
theorem allG_made (l : List Fr) : Made l (allG l).1 (allG l).2.1 ∧ (allG l).1.length ≤ 100 := by
  have h := eachG_made (L := l) l [] [] (fun _ h => h) ⟨by simp, by simp, by simp⟩
  have h2 := eachG_len l [] []
  unfold allG
  split
  · exact ⟨⟨by simp, by simp, by simp⟩, by simp⟩
  · split
    · refine ⟨h, ?_⟩; simp at h2 ⊢; omega
    · exact ⟨⟨by simp, by simp, by simp⟩, by simp⟩
theorem allG_fits {l : List Fr} (hl : Fits l) : ((allG l).1.length ≤ 4000000000000 ∧ ∀ g ∈ (allG l).1, g.length ≤ 4000000000000 ∧ ∀ f ∈ g, f.parts.length ≤ 1000000000000000) ∧ (allG l).2.1.length ≤ 4000000000000 ∧ ∀ f ∈ (allG l).2.1, f.parts.length ≤ 1000000000000000 := by
  obtain ⟨⟨h1, h2, h3⟩, h4⟩ := allG_made l
  refine ⟨⟨by omega, fun g hg => ⟨by have := (h3 g hg).1; omega, fun f hf => by have := hl.2 f ((h3 g hg).2 f hf); omega⟩⟩, by omega, fun f hf => by have := hl.2 f (h1 f hf); omega⟩
theorem sizeG_e (g : List Fr) : (sizeG g).2 = groupE g := by
  unfold sizeG; split
  · rename_i h; rw [h]
  · rfl
end Go.Proofs.Ytlehonipilpfdaa

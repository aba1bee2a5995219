/- Tracks: what becomes of slots that go out; plain facts. No condition. -/
import Derived.Test.YtokkencbpmjdaaaGreatTrack
import Derived.Test.YtokkencbpmjdaaaGreatCountLaw
import Derived.Test.YtokkencbpmjdaaaGreatFrA
namespace Go.Proofs.YtokkencbpmjdaaaGreat
open Go Go.Sy
set_option linter.unusedSimpArgs false
set_option linter.unusedVariables false
def takenL : List Slt → Tk → Int → Tk × Int × Int
  | [], t, k => (t, k, 0)
  | x :: l, t, k => if (addS t.op x).2.2 = true then
      (if (storeRaw t.st (addS t.op x).2.1).2.2 = 0 then takenL l ⟨t.last, t.buf, (addS t.op x).1, (storeRaw t.st (addS t.op x).2.1).1⟩ (if (storeRaw t.st (addS t.op x).2.1).2.1 = true then k + 1 else k)
        else (⟨t.last, t.buf, (addS t.op x).1, t.st⟩, k, (storeRaw t.st (addS t.op x).2.1).2.2))
    else takenL l ⟨t.last, t.buf, (addS t.op x).1, t.st⟩ k
def doneT (r : Tk × Int × Int) : Tk × Int × Int := if r.2.2 = 0 then r else (tk0, 0, r.2.2)
abbrev tkT (r : Tk × Int × Int) : AV := .tup [.agg (tkC r.1), I r.2.1, I r.2.2]
theorem goB_app : ∀ (l : List Slt) (p : Option Slt) (x : Slt), goB p l = 0 → sltE x = 0 → badS (match l.getLast? with | some a => some a | none => p) x = false → goB p (l ++ [x]) = 0
  | [], p, x, _, h1, h2 => by simp at h2; simp [goB, h1, h2]
  | y :: l, p, x, h, h1, h2 => by
    rw [goB] at h
    by_cases q1 : sltE y = 0
    · rw [if_neg (by simp [q1])] at h
      by_cases q2 : badS p y = true
      · rw [if_pos q2] at h; cases h
      · rw [if_neg q2] at h
        rw [List.cons_append, goB, if_neg (by simp [q1]), if_neg q2]
        refine goB_app l (some y) x h h1 ?_
        cases hl : l.getLast? with
        | none =>
          have : l = [] := by simpa using hl
          subst this; simpa using h2
        | some a =>
          have : (y :: l).getLast? = some a := by rw [List.getLast?_cons, hl]; rfl
          rw [this] at h2; exact h2
    · rw [if_pos q1] at h; exact absurd h q1
theorem buildE_iff {o : List Slt} : buildE o = 0 ↔ o.length ≤ 3 ∧ goB none o = 0 := by
  unfold buildE; split
  · constructor
    · intro h; cases h
    · intro h; omega
  · constructor
    · intro h; exact ⟨by omega, h⟩
    · intro h; exact h.2
theorem add_build {o : List Slt} {x : Slt} (h : buildE o = 0) (hx : sltE x = 0) : buildE (addS o x).1 = 0 := by
  obtain ⟨h1, h2⟩ := buildE_iff.1 h
  have hl := (addS_len o x h1).1
  rw [buildE_iff]
  refine ⟨hl, ?_⟩
  unfold addS
  split
  · rfl
  split
  · rfl
  rename_i q1 q2
  simp only
  by_cases q3 : openS o x = []
  · rw [q3]; rfl
  have hf : x.p.fin = false := by
    cases q : x.p.fin with
    | false => rfl
    | true => exact absurd ⟨q3, q⟩ q1
  rcases (openS_last q3).2 with ⟨e, hx1⟩ | ⟨e, hx1⟩
  · rw [e]; simp [goB, hx, badS, hx1, hf]
  · have he := e
    rw [e]
    refine goB_app o none x h2 hx ?_
    unfold openS at he
    rw [if_neg (by simp [hx1])] at he
    cases ha : o.getLast? with
    | none => rw [ha] at he; simp at he
    | some a =>
      rw [ha] at he
      simp only at he
      by_cases hq : followsB a x = true
      · simp [badS, hf, hq]
      · rw [if_neg hq] at he; simp at he
theorem add_frame {o : List Slt} {x : Slt} (h : OkO o) (hx : sltE x = 0) (hy : (addS o x).2.2 = true) : frameE (addS o x).2.1 = 0 := by
  have hl := addS_len o x h.1
  unfold addS at hy hl ⊢
  split at hy
  · rename_i q
    rw [if_pos q] at hl ⊢
    refine made_right q.1 hl.2.1 fun a ha => ?_
    rcases openS_mem ha with h' | rfl
    · exact h.2 a h'
    · exact hx
  · split at hy <;> cases hy
theorem raw_rightS {s : Sto} {f : Fr} (hs : RightS s) (hf : frameE f = 0) (h : (storeRaw s f).2.2 = 0) : RightS (storeRaw s f).1 := by
  obtain ⟨k, h1, h2, h3⟩ := raw_right hs hf h
  rw [h2]; exact h3.1
end Go.Proofs.YtokkencbpmjdaaaGreat

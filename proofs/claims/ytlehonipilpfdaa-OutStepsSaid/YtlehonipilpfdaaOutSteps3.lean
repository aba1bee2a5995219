/- OutSteps holds. No condition. -/
import Derived.Test.YtlehonipilpfdaaOutSteps2
namespace Go.Proofs.Ytlehonipilpfdaa
open Go Go.Sy
theorem c_outSteps (o : Ou) (f g : Fr) (turn : Bool) (hf : f.parts.length ≤ 17592186043904) (hg : g.parts.length ≤ 17592186043904) : PSpec Try.prog 3 [.agg (ouC o), .agg (frC f), .agg (frC g), B turn] (B true) := by
  rcases h1 : sendS o f turn with ⟨a, l0, e0⟩
  by_cases k0 : e0 = 0
  · subst k0
    rcases h2 : sendS a g false with ⟨b, l, e⟩
    rcases h3 : sendS a g true with ⟨c, m, e'⟩
    by_cases k : e = 0 ∧ e' = 0
    · obtain ⟨rfl, rfl⟩ := k
      obtain ⟨s1, s2, s3, s4, s5⟩ := steps_same h2 h3
      have hd := steps_time h1 h2
      match l, m, h2, h3, s2, s3, s4, s5 with
      | [p1], [q1], h2, h3, _, _, _, s5 => exact c_stepsN1 o f g turn hf hg a b c l0 p1 q1 h1 h2 h3 hd s1 (by rw [s5 0 p1 q1 rfl rfl])
      | [p1, p2], [q1, q2], h2, h3, _, _, _, s5 => exact c_stepsN2 o f g turn hf hg a b c l0 p1 p2 q1 q2 h1 h2 h3 hd s1 (by rw [s5 0 p1 q1 rfl rfl, s5 1 p2 q2 rfl rfl])
      | [p1, p2, p3], [q1, q2, q3], h2, h3, _, _, _, s5 => exact c_stepsN3 o f g turn hf hg a b c l0 p1 p2 p3 q1 q2 q3 h1 h2 h3 hd s1 (by rw [s5 0 p1 q1 rfl rfl, s5 1 p2 q2 rfl rfl, s5 2 p3 q3 rfl rfl])
      | [p1, p2, p3, p4], [q1, q2, q3, q4], h2, h3, _, _, _, s5 => exact c_stepsN4 o f g turn hf hg a b c l0 p1 p2 p3 p4 q1 q2 q3 q4 h1 h2 h3 hd s1 (by rw [s5 0 p1 q1 rfl rfl, s5 1 p2 q2 rfl rfl, s5 2 p3 q3 rfl rfl, s5 3 p4 q4 rfl rfl])
      | [], _, _, _, s2, _, _, _ => exact absurd s2 (by simp)
      | _ :: _ :: _ :: _ :: _ :: _, _, _, _, _, s3, _, _ => exact absurd s3 (by simp)
    · exact c_steps2 o f g turn hf hg a b c l0 l m e e' h1 h2 h3 k (fun he => steps_time h1 (he ▸ h2)) fun he => steps_state h1 (by rw [h2]; exact he)
  · have hb := send_bad (o := o) (f := f) (turn := turn) (by rw [h1]; exact k0)
    rw [h1] at hb
    simp only [Prod.mk.injEq] at hb
    obtain ⟨rfl, rfl, _⟩ := hb
    exact c_steps1 o f g turn hf e0 h1 k0
theorem law_outSteps (args : List AV) (h : ReadsArgs [.agg [.int .i64, .int .i64, .int .i64], .agg [.int .i64, .bool, .sl 1 16 .str], .agg [.int .i64, .bool, .sl 1 16 .str], .bool] args) (_ : True) : PSpec Try.prog 3 args (B true) := by
  obtain ⟨_, _, rfl, h1, _, _, rfl, h2, _, _, rfl, h3, _, _, rfl, ⟨b, hb⟩, rfl⟩ := h
  obtain ⟨o, rfl⟩ := reads_ou h1
  obtain ⟨f, rfl, hf, _⟩ := reads_fr h2
  obtain ⟨g, rfl, hg, _⟩ := reads_fr h3
  cases hb
  exact c_outSteps _ _ _ _ hf hg
end Go.Proofs.Ytlehonipilpfdaa

/- The symbolic layer: a call that reads the objects that it is handed, and leaves them. No condition. -/
import Derived.Test.YtlehonipilpfdaaSyT
set_option linter.unusedVariables false
namespace Go.Sy
def obsIs (σ : St) (φ : Nat → Nat) : List Ob → Nat → Prop
  | [], _ => True
  | x :: l, k => σ.ob (φ k) = some (x.ren φ) ∧ obsIs σ φ l (k + 1)
theorem obsIs_get {σ : St} {φ : Nat → Nat} : ∀ {l : List Ob} {k j : Nat} {x : Ob}, obsIs σ φ l k → l[j]? = some x → σ.ob (φ (k + j)) = some (x.ren φ)
  | y :: l, k, j, x, h, hx => by
    simp only [obsIs] at h
    cases j with
    | zero => simp at hx; subst hx; exact h.1
    | succ j =>
      have := obsIs_get (j := j) h.2 (by simpa using hx)
      rwa [show k + 1 + j = k + (j + 1) by omega] at this
theorem w_callR {P : Program} {nb : Nat} {t : TypeId} {σ : St} {K : Kont} {f : FuncId} {x : Operand} {args : Array Operand} {ts : Array TypeId} {first caps avs args' : List AV} {r : AV} {obs : List Ob} (ps : List Nat) (ho : Own P f) (hs : CSpec P f args' obs r obs)
    (hm : ps.length = obs.length) (hm16 : obs.length ≤ 16) (hnd : ps.Nodup) (hx : σ.ev x = .fn (.func f) first caps) (he : avs = first ++ args.toList.map σ.ev ++ caps)
    (hle : LeL avs (renL (callφ ps nb) args')) (hlt : ltL obs.length args') (hobs : obsBack σ (callφ ps nb) obs 0) (hobl : ltO obs.length obs) (hob2 : obsIs σ (callφ ps nb) obs 0)
    (hK : K (r.ren (callφ ps nb)) ps []) : CallV P nb (.call { callee := .value x, args, argTypes := ts }) t f avs σ K := by
  have h := w_callO (P := P) (nb := nb) (t := t) (σ := σ) (K := fun r' d ws => r' = r.ren (callφ ps nb) ∧ d = ps ∧ ws = callWs (callφ ps nb) obs) (ts := ts) ps ho hs hm hnd ⟨Nat.le_refl _, hm16⟩ (by omega) hx he hle hlt hobs hobl ⟨rfl, rfl, rfl⟩
  obtain ⟨r', d, ws, hok, rfl, rfl, rfl⟩ := h
  refine ⟨_, d, [], fun σ' hx' hob' => ?_, hK⟩
  have := hok σ' hx' hob'
  have e : applyW σ'.ob (callWs (callφ d nb) obs) = σ'.ob := by
    funext i
    rw [applyW_get]
    unfold wsAt
    cases hq : wsLook (callWs (callφ d nb) obs) i with
    | none => rfl
    | some z =>
      obtain ⟨k, y, h1, h2, h3⟩ := callWs_some hq
      have hk : k < d.length := by rw [hm]; exact (List.getElem?_eq_some_iff.1 h1).1
      have h4 := obsIs_get hob2 h1
      rw [Nat.zero_add] at h4
      have h5 : σ'.ob i = σ.ob i := by rw [← h2, callφ_lt hk]; exact hob' _ (List.getElem_mem hk)
      have h6 := obsBack_get hobs h1
      rw [Nat.zero_add, h4] at h6
      simp only
      rw [h5, ← h2, h4, h3]
      cases y with
      | gone => exact absurd h6 (by simp [ObLe, Ob.ren])
      | box cs => rfl
      | perm e sz n => rfl
  rw [e] at this
  exact this
end Go.Sy

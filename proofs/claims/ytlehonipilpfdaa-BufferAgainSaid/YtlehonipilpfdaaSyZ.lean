/- The symbolic layer, twenty-sixth part: contracts with objects taken for contracts without; empty slices told apart. No condition. -/
import Derived.Test.YtlehonipilpfdaaSyU
set_option linter.unusedVariables false
namespace Go.Sy

/-- A contract that hands out new objects, taken for one that hands out data. -/
theorem pspec_of_cspec {P : Program} {f : FuncId} {args : List AV} {r r' : AV} {obs' : List Ob} (h : CSpec P f args [] r obs') (hle : Le r r') (hpu : Pu r') : PSpec P f args r' := by
  intro w H vs hview hvs
  have hm : Mem (callCtx w H (fun _ => none) 0) H (fun _ => none) (obF []) w := by
    refine ⟨hview, fun id x hx => ?_, fun i j hi => ?_, fun id hid => ?_, rfl, rfl, rfl, Nat.le_refl _, fun _ _ _ => rfl, View.le_refl H, fun _ _ _ _ => rfl, Env.le_refl _, fun _ _ => rfl, fun b o hb => View.unseen hview hb⟩
    · cases (obF_some hx)
    · exact absurd (obF_lt hi) (Nat.not_lt_zero _)
    · exact absurd (obF_lt hid) (Nat.not_lt_zero _)
  refine (h w H (fun _ => none) vs hm (RL.of_DL hvs) (fun _ _ => rfl)).mono fun e w' ⟨v, H', ε', he, hH, hε, hdom, hR, hm'⟩ => ?_
  have hS : ∀ b, ¬ (callCtx w H (fun _ => none) 0).S b := fun b ⟨id, hid, _⟩ => Nat.not_lt_zero _ hid
  exact ⟨v, H', he, R.pu hpu (R.le hle hR), hH, hm'.view, fun b o hb => hm'.hold b o hb (hS b), ⟨hm'.os, hm'.tape, hm'.output, hm'.size, fun k hk => hm'.block k hk (hS k)⟩⟩

/-- An empty slice, told exactly. -/
def EmptyV (v : Value) : Prop := v = .slice none 0 0 ∨ ∃ a cap, v = .slice (some a) 0 cap
theorem D.emptyV {H : View} {v : Value} {sz : Nat} (h : D H v (.sl sz [])) : EmptyV v := by
  rcases h.slice with ⟨h, _⟩ | ⟨a, cap, h, _⟩ | ⟨b, off, cap, h, _⟩
  · exact .inl h
  · exact .inr ⟨a, cap, h⟩
  · exact .inr ⟨_, cap, h⟩
theorem cspec_empty {P : Program} {f : FuncId} {sz : Nat} {rest : List AV} {r : AV} {obs obs' : List Ob} (h : ∀ v, EmptyV v → CSpec P f (.s v :: rest) obs r obs') : CSpec P f (.sl sz [] :: rest) obs r obs' := by
  intro w H ε vs hm hvs hdom
  cases hvs with
  | cons v _ vs _ hv ht =>
    have he := hv.sl_inv.emptyV
    exact h v he w H ε (v :: vs) hm (.cons _ _ _ _ (.d _ _ (.s v (by rcases he with rfl | ⟨a, cap, rfl⟩ <;> rfl))) ht) hdom
end Go.Sy

/- The symbolic layer, twenty-first part: regions that draw their order, in the walk's form. No condition. -/
import Derived.Test.YtlehonipilpfdaaSyT
set_option linter.unusedVariables false
namespace Go.Sy
section
variable {P : Program} {T : TypeId → Option TY} {ops : Array Oper} {base nb i i' nx m : Nat} {l : List Oper} {tm : Nat → AV} {ob : Nat → Option Ob} {K : List (List Nat × List Nat) → St → Prop} {d d0 g : Nat} {op : Op} {t : TypeId} {pos : String} {aft : Array Edge} {want : Bool} {acc : List (List Nat × List Nat)}

/-- What comes later in a region that draws its order. -/
def RegD (P : Program) (ops : Array Oper) (base : Nat) (l : List Oper) (i : Nat) (σ : St) (acc : List (List Nat × List Nat)) (K : List (List Nat × List Nat) → St → Prop) : Prop := regVCD P ops base l i σ acc K

theorem d_reg {N id : Nat} {y : Code} {K : Exit → St → Prop} (hmix : P.follows .mixedOrders = true) (hok : drawOK N l.toArray = true) (hm : nx + 16 * l.length = m)
    (h : ∀ K1 : List (List Nat × List Nat) → St → Prop, (∀ acc tm' ob' nx', objsOK (ancT l) acc = true → Later P N y K ⟨tm', ob', m⟩ → K1 acc ⟨tm', ob', nx'⟩) → RegD P l.toArray nx l 0 ⟨tm, ob, nx⟩ [] K1) : Tri P N (.seq (.region id l.toArray true) y) ⟨tm, ob, nx⟩ K := by
  subst hm
  exact tri_seq (tri_draw hmix hok (h _ fun acc tm' ob' nx' h1 h2 => ⟨h1, h2⟩))
theorem d_reg_end {N id : Nat} {K : Exit → St → Prop} (hmix : P.follows .mixedOrders = true) (hok : drawOK N l.toArray = true) (hm : nx + 16 * l.length = m)
    (h : ∀ K1 : List (List Nat × List Nat) → St → Prop, (∀ acc tm' ob' nx', objsOK (ancT l) acc = true → Out K .normal ⟨tm', ob', m⟩ → K1 acc ⟨tm', ob', nx'⟩) → RegD P l.toArray nx l 0 ⟨tm, ob, nx⟩ [] K1) : Tri P N (.region id l.toArray true) ⟨tm, ob, nx⟩ K := by
  subst hm
  exact tri_draw hmix hok (h _ fun acc tm' ob' nx' h1 h2 => ⟨h1, h2⟩)
theorem d_nil (h : K acc ⟨tm, ob, nx⟩) : RegD P ops base [] i ⟨tm, ob, nx⟩ acc K := h
theorem d_op (hT : TabOK P T) (hnb : base + 16 * i = nb) (hi : i + 1 = i')
    (h : ∀ K' : Kont, (∀ r deps, RegD P ops base l i' ⟨wr tm d r, ob, nx⟩ (acc ++ [(deps, [])]) K → K' r deps []) → (∀ r deps ws, RegD P ops base l i' ⟨wr tm d r, wos ob ws, nx⟩ (acc ++ [(deps, ws.map (·.1))]) K → K' r deps ws) → vc T P nb op t ⟨tm, ob, nx⟩ (nfK K')) :
    RegD P ops base (⟨some d, op, t, pos, aft, none⟩ :: l) i ⟨tm, ob, nx⟩ acc K := by
  subst hnb hi
  have := vc_ok hT (h (fun r deps ws => regVCD P ops base l (i + 1) (St.put ⟨tm, ob, nx⟩ (some d) r ws) (acc ++ [(deps, ws.map (·.1))]) K) ?_ ?_)
  · rw [nfK_eq] at this; exact this
  · intro r deps h; unfold RegD at h; rw [← wr_upd] at h; exact h
  · intro r deps ws h; unfold RegD at h; rw [← wr_upd, ← wos_upd] at h; exact h
theorem d_op0 (hT : TabOK P T) (hnb : base + 16 * i = nb) (hi : i + 1 = i')
    (h : ∀ K' : Kont, (∀ r deps, RegD P ops base l i' ⟨tm, ob, nx⟩ (acc ++ [(deps, [])]) K → K' r deps []) → (∀ r deps ws, RegD P ops base l i' ⟨tm, wos ob ws, nx⟩ (acc ++ [(deps, ws.map (·.1))]) K → K' r deps ws) → vc T P nb op t ⟨tm, ob, nx⟩ (nfK K')) :
    RegD P ops base (⟨none, op, t, pos, aft, none⟩ :: l) i ⟨tm, ob, nx⟩ acc K := by
  subst hnb hi
  have := vc_ok hT (h (fun r deps ws => regVCD P ops base l (i + 1) (St.put ⟨tm, ob, nx⟩ none r ws) (acc ++ [(deps, ws.map (·.1))]) K) ?_ ?_)
  · rw [nfK_eq] at this; exact this
  · intro r deps h; exact h
  · intro r deps ws h; unfold RegD at h; rw [← wos_upd] at h; exact h
/-- A guarded operation: the guard is not known. -/
theorem d_grd {b : Bool} (hg : gdst ops g = some d0) (hb : tm d0 = .s (.bool b)) (hi : i + 1 = i') (h1 : b = want → RegD P ops base (⟨some d, op, t, pos, aft, none⟩ :: l) i ⟨wr tm d0 (.s (.bool want)), ob, nx⟩ acc K)
    (h2 : b = (!want) → RegD P ops base l i' ⟨wr (wr tm d0 (.s (.bool (!want)))) d (.tup []), ob, nx⟩ (acc ++ [([], [])]) K) : RegD P ops base (⟨some d, op, t, pos, aft, some (g, want)⟩ :: l) i ⟨tm, ob, nx⟩ acc K := by
  subst hi
  simp only [← wr_upd] at h1 h2
  show regVCD P ops base (⟨some d, op, t, pos, aft, some (g, want)⟩ :: l) i ⟨tm, ob, nx⟩ acc K
  unfold regVCD
  simp only [hg, hb]
  exact ⟨h1, h2⟩
theorem d_grd_yes (hg : gdst ops g = some d0) (hb : tm d0 = .s (.bool want)) (h1 : RegD P ops base (⟨some d, op, t, pos, aft, none⟩ :: l) i ⟨tm, ob, nx⟩ acc K) : RegD P ops base (⟨some d, op, t, pos, aft, some (g, want)⟩ :: l) i ⟨tm, ob, nx⟩ acc K := by
  have hs : wr tm d0 (.s (.bool want)) = tm := by
    rw [← wr_upd]; funext j; unfold upd; split
    · rename_i h; rw [h, hb]
    · rfl
  refine d_grd hg hb rfl (fun _ => by rw [hs]; exact h1) (fun h => ?_)
  cases want <;> cases h
theorem d_grd_no (hg : gdst ops g = some d0) (hb : tm d0 = .s (.bool (!want))) (hi : i + 1 = i') (h2 : RegD P ops base l i' ⟨wr tm d (.tup []), ob, nx⟩ (acc ++ [([], [])]) K) : RegD P ops base (⟨some d, op, t, pos, aft, some (g, want)⟩ :: l) i ⟨tm, ob, nx⟩ acc K := by
  have hs : wr tm d0 (.s (.bool (!want))) = tm := by
    rw [← wr_upd]; funext j; unfold upd; split
    · rename_i h; rw [h, hb]
    · rfl
  refine d_grd hg hb hi (fun h => ?_) (fun _ => by rw [hs]; exact h2)
  cases want <;> cases h
theorem d_grd_undef (hg : gdst ops g = some d0) (hb : tm d0 = .tup []) (hi : i + 1 = i') (h2 : RegD P ops base l i' ⟨wr tm d (.tup []), ob, nx⟩ (acc ++ [([], [])]) K) : RegD P ops base (⟨some d, op, t, pos, aft, some (g, want)⟩ :: l) i ⟨tm, ob, nx⟩ acc K := by
  subst hi
  rw [← wr_upd] at h2
  show regVCD P ops base (⟨some d, op, t, pos, aft, some (g, want)⟩ :: l) i ⟨tm, ob, nx⟩ acc K
  unfold regVCD
  simp only [hg, hb]
  exact h2
end
theorem callV_id {P : Program} {nb : Nat} {op : Op} {t : TypeId} {f : FuncId} {args : List AV} {σ : St} {K : Kont} (h : CallV P nb op t f args σ K) : CallV P nb op t f args σ K := h
end Go.Sy

/- The symbolic layer, twentieth part: loops, and calls with objects, in the walk's form; rows that are written as maps. No condition. -/
import Derived.Test.YtlehonipilpfdaaSyS
set_option linter.unusedVariables false
namespace Go.Sy

def wrs : (Nat → AV) → List (Nat × AV) → Nat → AV
  | tm, [] => tm
  | tm, (d, x) :: l => wr (wrs tm l) d x
def jnk (W : List Nat) (tm : Nat → AV) : Nat → AV := fun j => bif W.contains j then .junk else tm j
def wor : (Nat → Option Ob) → List (Nat × Ob) → Nat → Option Ob
  | ob, [] => ob
  | ob, (d, x) :: l => fun j => bif Nat.beq j d then some x else wor ob l j
theorem wrs_lookup (tm : Nat → AV) : ∀ (S : List (Nat × AV)) (i : Nat), wrs tm S i = (match S.lookup i with | some v => v | none => tm i)
  | [], i => rfl
  | (d, x) :: l, i => by
    simp only [wrs, wr_get, List.lookup_cons]
    by_cases h : i = d
    · subst h; simp
    · have hb : (i == d) = false := by simpa using h
      rw [if_neg h, hb]; exact wrs_lookup tm l i
theorem wor_lookup (ob : Nat → Option Ob) : ∀ (B : List (Nat × Ob)) (i : Nat), wor ob B i = (match B.lookup i with | some v => some v | none => ob i)
  | [], i => rfl
  | (d, x) :: l, i => by
    simp only [wor, beq_dec, Bool.cond_decide, List.lookup_cons]
    by_cases h : i = d
    · subst h; simp
    · have hb : (i == d) = false := by simpa using h
      rw [if_neg h, hb]; exact wor_lookup ob l i
theorem head_eq (tm : Nat → AV) (ob : Nat → Option Ob) (nx : Nat) (W : List Nat) (S : List (Nat × AV)) (B : List (Nat × Ob)) : St.head ⟨tm, ob, nx⟩ W S B = ⟨wrs (jnk W tm) S, wor ob B, nx⟩ := by
  unfold St.head
  congr 1
  · funext i; rw [wrs_lookup]; unfold jnk; cases S.lookup i <;> simp [Bool.cond_eq_ite]
  · funext i; rw [wor_lookup]; cases B.lookup i <;> rfl

/-! ### Keeping -/
theorem kt_refl {W : List Nat} {tm : Nat → AV} : KeepTm W tm tm := fun _ _ => rfl
theorem kt_wr {W : List Nat} {tm tm0 : Nat → AV} {d : Nat} {r : AV} (hd : W.contains d = true) (h : KeepTm W tm tm0) : KeepTm W (wr tm d r) tm0 := by rw [← wr_upd]; exact keepTm_upd hd h
theorem kt_jnk {W V : List Nat} {tm tm0 : Nat → AV} (hd : V.all W.contains = true) (h : KeepTm W tm tm0) : KeepTm W (jnk V tm) tm0 := fun i hi => by
  unfold jnk
  cases hq : V.contains i with
  | false => exact h i hi
  | true =>
    have := (List.all_eq_true.1 hd) i (by simpa using hq)
    rw [hi] at this; cases this
theorem kt_wrs {W : List Nat} {tm tm0 : Nat → AV} : ∀ {S : List (Nat × AV)}, S.all (fun x => W.contains x.1) = true → KeepTm W tm tm0 → KeepTm W (wrs tm S) tm0
  | [], _, h => h
  | (d, x) :: l, hd, h => by
    simp only [List.all_cons, Bool.and_eq_true] at hd
    exact kt_wr hd.1 (kt_wrs hd.2 h)
theorem ko_refl {n : Nat} {Bs : List Nat} {ob : Nat → Option Ob} : KeepOb n Bs ob ob := fun _ _ _ => rfl
theorem ko_wo {n : Nat} {Bs : List Nat} {ob ob0 : Nat → Option Ob} {d : Nat} {x : Ob} (hd : Bs.contains d = true ∨ n ≤ d) (h : KeepOb n Bs ob ob0) : KeepOb n Bs (wo ob d x) ob0 := by
  intro i hi hn
  rw [wo_get, if_neg (fun e => by
    subst e
    rcases hd with hd | hd
    · rw [hd] at hi; cases hi
    · omega)]
  exact h i hi hn
theorem ko_wor {n : Nat} {Bs : List Nat} {ob ob0 : Nat → Option Ob} : ∀ {B : List (Nat × Ob)}, B.all (fun x => Bs.contains x.1) = true → KeepOb n Bs ob ob0 → KeepOb n Bs (wor ob B) ob0
  | [], _, h => h
  | (d, x) :: l, hd, h => by
    simp only [List.all_cons, Bool.and_eq_true] at hd
    intro i hi hn
    simp only [wor, beq_dec, Bool.cond_decide]
    rw [if_neg (fun e => by subst e; rw [hd.1] at hi; cases hi)]
    exact ko_wor hd.2 h i hi hn
theorem ko_wos {n : Nat} {Bs : List Nat} {ob0 : Nat → Option Ob} : ∀ {B : List (Nat × Ob)} {ob : Nat → Option Ob}, (∀ x ∈ B, Bs.contains x.1 = true ∨ n ≤ x.1) → KeepOb n Bs ob ob0 → KeepOb n Bs (wos ob B) ob0
  | [], _, _, h => h
  | (d, x) :: l, _, hd, h => ko_wos (B := l) (fun y hy => hd y (List.mem_cons_of_mem _ hy)) (ko_wo (hd (d, x) List.mem_cons_self) h)

section
variable {P : Program} {N : Nat} {tm : Nat → AV} {ob : Nat → Option Ob} {nx : Nat} {K : Exit → St → Prop}
/-- A loop. W: the slots that a round may write; S, B: what is known at its head of some of them, and of objects. -/
theorem w_loop {body : Code} {X : Type} (W : List Nat) (S : X → List (Nat × AV)) (B : X → List (Nat × Ob)) (rel : X → Prop) (μ : X → Nat) (x0 : X)
    (h0 : rel x0) (hb : Back ⟨tm, ob, nx⟩ ⟨tm, ob, nx⟩ W (S x0) (B x0)) (hr : ∀ x, rel x → Later P N body (LoopK ⟨tm, ob, nx⟩ W S B rel (μ x) μ K) ⟨wrs (jnk W tm) (S x), wor ob (B x), nx⟩) :
    Tri P N (.loop body) ⟨tm, ob, nx⟩ K := tri_loop W S B rel μ ⟨x0, h0, hb⟩ fun x hx => by rw [head_eq]; exact hr x hx
/-- Where ways meet. -/
theorem w_cut {x y : Code} {X : Type} (W : List Nat) (S : X → List (Nat × AV)) (B : X → List (Nat × Ob)) (rel : X → Prop)
    (h1 : Tri P N x ⟨tm, ob, nx⟩ (LoopK ⟨tm, ob, nx⟩ W S B rel 1 (fun _ => 0) K)) (h2 : ∀ z, rel z → Later P N y K ⟨wrs (jnk W tm) (S z), wor ob (B z), nx⟩) :
    Tri P N (.seq x y) ⟨tm, ob, nx⟩ K := go_cut W S B rel h1 fun z hz => by rw [head_eq]; exact h2 z hz
theorem w_next {X : Type} {σ0 σ : St} {W : List Nat} {S : X → List (Nat × AV)} {B : X → List (Nat × Ob)} {rel : X → Prop} {m : Nat} {μ : X → Nat} (x' : X) (rel' : rel x') (mu : μ x' < m)
    (kt : KeepTm W σ.tm σ0.tm) (ko : KeepOb σ0.nx ((B x').map (·.1)) σ.ob σ0.ob) (ls : leS σ (S x')) (lb : leB σ (B x')) (hs : ltS σ0.nx (S x')) (hb : ltB σ0.nx (B x')) (hn : σ0.nx ≤ σ.nx) : Out (LoopK σ0 W S B rel m μ K) .normal σ :=
  out_loop x' rel' mu ⟨kt, ko, ls, lb, hs, hb, hn⟩
end

/-! ### Calls with objects -/
theorem w_callO {P : Program} {nb : Nat} {t : TypeId} {σ : St} {K : Kont} {f : FuncId} {x : Operand} {args : Array Operand} {ts : Array TypeId} {first caps avs args' : List AV} {r : AV} {obs obs' : List Ob} (ps : List Nat) (ho : Own P f) (hs : CSpec P f args' obs r obs')
    (hm : ps.length = obs.length) (hnd : ps.Nodup)
    (hm1 : obs.length ≤ obs'.length ∧ obs.length ≤ 16) (hm2 : obs'.length ≤ obs.length + 16) (hx : σ.ev x = .fn (.func f) first caps) (he : avs = first ++ args.toList.map σ.ev ++ caps)
    (hle : LeL avs (renL (callφ ps nb) args')) (hlt : ltL obs.length args') (hobs : obsBack σ (callφ ps nb) obs 0) (hobl : ltO obs.length obs)
    (hK : K (r.ren (callφ ps nb)) ps (callWs (callφ ps nb) obs')) : CallV P nb (.call { callee := .value x, args, argTypes := ts }) t f avs σ K :=
  callV_obj ps ho hs hm hnd hm1 hm2 hx he hle hlt (fun k y hy => by have := obsBack_get hobs hy; rwa [Nat.zero_add] at this) (fun y hy => by
    obtain ⟨j, hj, rfl⟩ := List.getElem_of_mem hy
    exact ltO_get (j := j) hobl (by simp [hj])) hK

theorem w_retO_end {P : Program} {T : TypeId → Option TY} (hT : TabOK P T) {σ : St} {rs : List ResultVar} {m : Nat} {r : AV} {obs' : List Ob} (new : List Nat) (h1 : m + new.length = obs'.length) (h2 : ∀ k ∈ new, m ≤ k) (h3 : new.Nodup)
    (h4 : ∀ K' : AV → Prop, (∀ a, Le a (r.ren (backN m new)) → K' a) → retN T σ rs K') (h5 : obsRet σ (backN m new) obs' 0) (h6 : r.lt obs'.length) (h7 : ltO obs'.length obs') : Out (retO P rs m r obs') .normal σ := w_retO (P := P) hT new h1 h2 h3 h4 h5 h6 h7
/-! ### Rows that are maps -/
theorem all_row {α : Type} {f : α → List AV} {l : List α} {i : Nat} {K : List AV → Prop} (h : ∀ x, l[i]? = some x → K (f x)) : ∀ el, (l.map f)[i]? = some el → K el := fun el he => by
  rw [List.getElem?_map] at he
  cases hq : l[i]? with
  | none => rw [hq] at he; cases he
  | some x => rw [hq] at he; cases he; exact h x hq
theorem all_rk {α : Type} {f : α → List AV} {l : List α} {i : Nat} {x : α} {K : List AV → Prop} (hx : l[i]? = some x) (h : K (f x)) : ∀ el, (l.map f)[i]? = some el → K el := fun el he => by
  rw [List.getElem?_map, hx] at he; cases he; exact h
theorem all_byte {s : ByteArray} {i : Nat} {K : UInt8 → Prop} (h : ∀ b, s[i]? = some b → K b) : ∀ b, s[i]? = some b → K b := h
theorem take_at {α : Type} {l : List α} {i : Nat} {x : α} (h : l[i]? = some x) : l.take (i + 1) = l.take i ++ [x] := by rw [List.take_add_one, h]; rfl
theorem drop_at {α : Type} {l : List α} {i : Nat} {x : α} (h : l[i]? = some x) : l.drop i = x :: l.drop (i + 1) := by
  obtain ⟨hi, rfl⟩ := List.getElem?_eq_some_iff.1 h
  exact List.drop_eq_getElem_cons hi
theorem wor_nil (ob : Nat → Option Ob) : wor ob [] = ob := rfl
theorem wor_get (ob : Nat → Option Ob) (d : Nat) (x : Ob) (l : List (Nat × Ob)) (j : Nat) : wor ob ((d, x) :: l) j = if j = d then some x else wor ob l j := by
  simp only [wor, beq_dec, Bool.cond_decide]
attribute [simp] wrs wor_nil wor_get jnk slots
end Go.Sy

/- The symbolic layer, sixteenth part: the rules in the form in which a walk uses them: what comes later is not looked into. No condition. -/
import Derived.Test.YtapgdbjlgebjmaaSyO
set_option linter.unusedVariables false
namespace Go.Sy

/-- The code that comes later: simp looks at the state alone. -/
def Later (P : Program) (N : Nat) (y : Code) (K : Exit → St → Prop) (σ : St) : Prop := Tri P N y σ K
@[congr] theorem later_congr (P : Program) (N : Nat) (y : Code) (K : Exit → St → Prop) {σ σ' : St} (h : σ = σ') : Later P N y K σ = Later P N y K σ' := by rw [h]
/-- A way out: simp looks at the state alone. -/
def Out (K : Exit → St → Prop) (e : Exit) (σ : St) : Prop := K e σ
@[congr] theorem out_congr (K : Exit → St → Prop) (e : Exit) {σ σ' : St} (h : σ = σ') : Out K e σ = Out K e σ' := by rw [h]
theorem out_iff (K : Exit → St → Prop) (e : Exit) (σ : St) : Out K e σ = K e σ := rfl

section
variable {P : Program} {N : Nat} {σ : St} {K : Exit → St → Prop} {id : Nat} {ops : Array Oper} {x y : Code}

theorem go_later (h : Tri P N y σ K) : Later P N y K σ := h
theorem go_reg (hN : dstOK N ops = true) (h : ∀ K1 : St → Prop, (∀ σ', Later P N y K σ' → K1 σ') → regVC P ops σ.nx ops.toList 0 σ K1) : Tri P N (.seq (.region id ops false) y) σ K := tri_seq (tri_region hN (h (Later P N y K) fun _ h => h))
theorem go_reg_end (hN : dstOK N ops = true) (h : ∀ K1 : St → Prop, (∀ σ', Out K .normal σ' → K1 σ') → regVC P ops σ.nx ops.toList 0 σ K1) : Tri P N (.region id ops false) σ K := tri_region hN (h (Out K .normal) fun _ h => h)
theorem go_draw (hmix : P.follows .mixedOrders = true) (hok : drawOK N ops = true)
    (h : ∀ K1 : List (List Nat × List Nat) → St → Prop, (∀ acc σ', objsOK (ancT ops.toList) acc = true → Later P N y K { σ' with nx := σ.nx + 16 * ops.size } → K1 acc σ') → regVCD P ops σ.nx ops.toList 0 σ [] K1) : Tri P N (.seq (.region id ops true) y) σ K := tri_seq (tri_draw hmix hok (h (fun acc σ' => objsOK (ancT ops.toList) acc = true ∧ Later P N y K { σ' with nx := σ.nx + 16 * ops.size }) fun _ _ h1 h2 => ⟨h1, h2⟩))
theorem go_draw_end (hmix : P.follows .mixedOrders = true) (hok : drawOK N ops = true)
    (h : ∀ K1 : List (List Nat × List Nat) → St → Prop, (∀ acc σ', objsOK (ancT ops.toList) acc = true → Out K .normal { σ' with nx := σ.nx + 16 * ops.size } → K1 acc σ') → regVCD P ops σ.nx ops.toList 0 σ [] K1) : Tri P N (.region id ops true) σ K := tri_draw hmix hok (h (fun acc σ' => objsOK (ancT ops.toList) acc = true ∧ Out K .normal { σ' with nx := σ.nx + 16 * ops.size }) fun _ _ h1 h2 => ⟨h1, h2⟩)
theorem go_seq (h : Tri P N x σ (SeqK P N y K)) : Tri P N (.seq x y) σ K := tri_seq h
theorem go_block (h : Tri P N x σ (BlockK id K)) : Tri P N (.block id x) σ K := tri_block h
theorem go_cond {o : Operand} {b : Bool} (hb : σ.ev o = .s (.bool b)) (ht : b = true → Tri P N x σ K) (hf : b = false → Tri P N y σ K) : Tri P N (.cond o x y) σ K := tri_cond (by rw [hb]; exact ⟨ht, hf⟩)
theorem go_skip (h : Out K .normal σ) : Tri P N .skip σ K := tri_skip h
theorem go_ret (h : Out K .ret σ) : Tri P N .ret σ K := tri_ret h
theorem go_exit (h : Out K (.exit id) σ) : Tri P N (.exit id) σ K := tri_exit h

theorem out_seq_normal (h : Tri P N y σ K) : Out (SeqK P N y K) .normal σ := h
theorem out_seq_ret (h : Out K .ret σ) : Out (SeqK P N y K) .ret σ := h
theorem out_seq_exit (h : Out K (.exit id) σ) : Out (SeqK P N y K) (.exit id) σ := h
theorem out_block_normal (h : Out K .normal σ) : Out (BlockK id K) .normal σ := h
theorem out_block_ret (h : Out K .ret σ) : Out (BlockK id K) .ret σ := h
theorem out_block_here (h : Out K .normal σ) : Out (BlockK id K) (.exit id) σ := by show BlockK id K (.exit id) σ; simp only [BlockK, if_true]; exact h
theorem out_block_there {id' : Nat} (hne : (id' == id) = false) (h : Out K (.exit id') σ) : Out (BlockK id K) (.exit id') σ := by
  show BlockK id K (.exit id') σ
  have : id' ≠ id := by simpa using hne
  simp only [BlockK, if_neg this]; exact h
section
variable {X : Type} {σ0 : St} {W : List Nat} {S : X → List (Nat × AV)} {B : X → List (Nat × Ob)} {rel : X → Prop} {m : Nat} {μ : X → Nat}
theorem out_loop_ret (h : Out K .ret σ) : Out (LoopK σ0 W S B rel m μ K) .ret σ := h
theorem out_loop_exit (h : Out K (.exit id) σ) : Out (LoopK σ0 W S B rel m μ K) (.exit id) σ := h
theorem out_loop (x' : X) (h1 : rel x') (h2 : μ x' < m) (h3 : Back σ0 σ W (S x') (B x')) : Out (LoopK σ0 W S B rel m μ K) .normal σ := ⟨x', h1, h2, h3⟩
end
theorem out_retK {rs : List ResultVar} {r : AV} (h : retVC P rs σ r) : Out (retK P rs r) .ret σ := h
theorem out_retK_end {rs : List ResultVar} {r : AV} (h : retVC P rs σ r) : Out (retK P rs r) .normal σ := h
theorem out_retO {rs : List ResultVar} {m : Nat} {r : AV} {obs' : List Ob} (new : List Nat) (h : retVO P rs m r obs' σ new) : Out (retO P rs m r obs') .ret σ := ⟨new, h⟩
theorem out_retO_end {rs : List ResultVar} {m : Nat} {r : AV} {obs' : List Ob} (new : List Nat) (h : retVO P rs m r obs' σ new) : Out (retO P rs m r obs') .normal σ := ⟨new, h⟩

/-- A cut: what is known where ways meet: the slots of W are as S says or forgotten. -/
theorem go_cut {X : Type} (W : List Nat) (S : X → List (Nat × AV)) (B : X → List (Nat × Ob)) (rel : X → Prop) (h1 : Tri P N x σ (LoopK σ W S B rel 1 (fun _ => 0) K)) (h2 : ∀ z, rel z → Tri P N y (σ.head W (S z) (B z)) K) : Tri P N (.seq x y) σ K := fun c H ε a w hc hi Q hQ => by
  have hlt : ∀ i, (σ.tm i).lt σ.nx := fun i => R.lt hi.dom (hi.tm i)
  have hltB : ∀ i x, σ.ob i = some x → i < σ.nx ∧ x.lt σ.nx := fun i x hx => by
    have := hi.mem.objs i x hx
    have hi' : ∀ l, ε i = some l → i < σ.nx := fun l hl => by
      rcases Nat.lt_or_ge i σ.nx with h | h
      · exact h
      · rw [hi.dom i h] at hl; cases hl
    cases x with
    | box cs =>
      obtain ⟨b, arr, T, q1, q2, q3, _⟩ := this
      exact ⟨hi' _ q1, RL.lt hi.dom q3⟩
    | perm e sz n =>
      obtain ⟨v, xs, q1, _⟩ := this
      exact ⟨hi' _ q1, trivial⟩
    | gone => exact this.elim
  have hele : ∀ id l, c.E0 id = some l → id < σ.nx := fun id l hl => by
    have h1 := hi.mem.ele id l hl
    rcases Nat.lt_or_ge id σ.nx with h | h
    · exact h
    · have h2 := hi.dom id h
      cases l with
      | blk b => simp only at h1; rw [h2] at h1; cases h1
      | row v n => obtain ⟨_, _, h3, _⟩ := h1; rw [h2] at h3; cases h3
  refine wp_seq (h1 c H ε a w hc hi _ fun e σ' H' ε' a' w' hK hi' => ?_)
  cases e with
  | normal =>
    obtain ⟨z, q1, _, q3⟩ := hK
    exact h2 z q1 c H' _ a' w' hc (q3.inv hi' hlt hltB hele) Q hQ
  | exit id => exact hQ _ σ' H' ε' a' w' hK hi'
  | goto l => exact hQ _ σ' H' ε' a' w' hK hi'
  | ret => exact hQ _ σ' H' ε' a' w' hK hi'
  | panic ch => exact hQ _ σ' H' ε' a' w' hK hi'
  | outgrown => exact hQ _ σ' H' ε' a' w' hK hi'

/-! ### Keeping, step by step -/
theorem keepTm_refl {W : List Nat} {tm : Nat → AV} : KeepTm W tm tm := fun _ _ => rfl
theorem keepTm_upd {W : List Nat} {tm tm0 : Nat → AV} {d : Nat} {r : AV} (hd : W.contains d = true) (h : KeepTm W tm tm0) : KeepTm W (upd tm d r) tm0 := fun i hi => by
  unfold upd
  rw [if_neg (fun e => by subst e; rw [hd] at hi; cases hi)]
  exact h i hi
theorem keepTm_head {W : List Nat} {σ0 : St} {S : List (Nat × AV)} {B : List (Nat × Ob)} (hS : S.all (fun x => W.contains x.1) = true) : KeepTm W (σ0.head W S B).tm σ0.tm := fun i hi => by
  unfold St.head
  simp only
  have : S.lookup i = none := by
    cases hq : S.lookup i with
    | none => rfl
    | some v =>
      have hm : ∀ {S : List (Nat × AV)}, S.lookup i = some v → (i, v) ∈ S := by
        intro S
        induction S with
        | nil => intro h; cases h
        | cons y S ih =>
          intro h
          obtain ⟨s, u⟩ := y
          by_cases he : i = s
          · subst he; simp at h; subst h; exact List.mem_cons_self
          · have hb : (i == s) = false := by simpa using he
            rw [List.lookup_cons, hb] at h
            exact List.mem_cons_of_mem _ (ih h)
      have := (List.all_eq_true.1 hS) (i, v) (hm hq)
      rw [hi] at this; cases this
  rw [this]
  simp only [hi, Bool.false_eq_true, if_false]
theorem keepOb_refl {n : Nat} {Bs : List Nat} {ob : Nat → Option Ob} : KeepOb n Bs ob ob := fun _ _ _ => rfl
theorem keepOb_upd {n : Nat} {Bs : List Nat} {ob ob0 : Nat → Option Ob} {d : Nat} {x : Ob} (hd : (Bs.contains d || decide (n ≤ d)) = true) (h : KeepOb n Bs ob ob0) : KeepOb n Bs (updOb ob d x) ob0 := fun i hi hn => by
  unfold updOb
  rw [if_neg (fun e => by
    subst e
    simp only [Bool.or_eq_true, decide_eq_true_eq] at hd
    rcases hd with hd | hd
    · rw [hd] at hi; cases hi
    · omega)]
  exact h i hi hn
theorem keepOb_head {n : Nat} {W : List Nat} {σ0 : St} {S : List (Nat × AV)} {B : List (Nat × Ob)} : KeepOb n (B.map (·.1)) (σ0.head W S B).ob σ0.ob := fun i hi hn => by
  unfold St.head
  simp only
  have : B.lookup i = none := by
    cases hq : B.lookup i with
    | none => rfl
    | some v =>
      have hm : ∀ {B : List (Nat × Ob)}, B.lookup i = some v → (B.map (·.1)).contains i = true := by
        intro S
        induction S with
        | nil => intro h; cases h
        | cons y S ih =>
          intro h
          obtain ⟨s, u⟩ := y
          by_cases he : i = s
          · subst he; simp
          · have hb : (i == s) = false := by simpa using he
            rw [List.lookup_cons, hb] at h
            simp only [List.map_cons, List.contains_cons, hb, Bool.false_or]
            exact ih h
      rw [hm hq] at hi; cases hi
  rw [this]
/-- Slots and objects at a head. -/
theorem head_tm (σ : St) (W : List Nat) (S : List (Nat × AV)) (B : List (Nat × Ob)) (i : Nat) : (σ.head W S B).tm i = (match S.lookup i with | some v => v | none => if W.contains i then .junk else σ.tm i) := rfl
theorem head_ob (σ : St) (W : List Nat) (S : List (Nat × AV)) (B : List (Nat × Ob)) (i : Nat) : (σ.head W S B).ob i = (match B.lookup i with | some x => some x | none => σ.ob i) := rfl
theorem head_nx (σ : St) (W : List Nat) (S : List (Nat × AV)) (B : List (Nat × Ob)) : (σ.head W S B).nx = σ.nx := rfl
end
end Go.Sy

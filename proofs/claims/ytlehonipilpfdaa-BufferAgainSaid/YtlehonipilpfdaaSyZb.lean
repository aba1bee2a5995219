/- The symbolic layer, twenty-seventh part: loops in which an object is replaced by a new one: the new one takes the number that was laid by for it. No condition. -/
import Derived.Test.YtlehonipilpfdaaSyZ
set_option linter.unusedVariables false
namespace Go.Sy

/-- Two numbers turned. -/
def sw (p q : Nat) : Nat → Nat := fun i => if i = p then q else if i = q then p else i
theorem sw_sw (p q i : Nat) : sw p q (sw p q i) = i := by
  unfold sw
  by_cases h1 : i = p
  · subst h1; simp only [if_true]; by_cases h2 : q = i
    · rw [if_pos h2, h2]
    · rw [if_neg h2]
  · by_cases h2 : i = q
    · subst h2; simp [h1]
    · simp [h1, h2]
theorem sw_ne {p q i : Nat} (h1 : i ≠ p) (h2 : i ≠ q) : sw p q i = i := by simp [sw, h1, h2]
theorem sw_lt {p q i n : Nat} (hp : p < n) (hq : q < n) : sw p q i < n ↔ i < n := by
  unfold sw
  by_cases h1 : i = p
  · subst h1; simp [hp, hq]
  · by_cases h2 : i = q
    · subst h2; simp [h1, hp, hq]
    · simp [h1, h2]

mutual
/-- The numbers of the objects in it are such. -/
def AV.all (P : Nat → Prop) : AV → Prop
  | .osl p _ _ => P p
  | .ptr id _ => P id
  | .bsl id _ _ _ _ => P id
  | .agg cs => allL P cs
  | .tup cs => allL P cs
  | .fn _ f c => allL P f ∧ allL P c
  | .s _ => True
  | .sl _ _ => True
  | .ref _ => True
  | .junk => True
def allL (P : Nat → Prop) : List AV → Prop
  | [] => True
  | a :: l => a.all P ∧ allL P l
end
mutual
theorem D.all {H : View} {P : Nat → Prop} : ∀ {v : Value} {a : AV}, D H v a → a.all P
  | _, _, .s v h => by simp only [AV.all]
  | _, _, .agg vs cs h => by simp only [AV.all]; exact DL.all h
  | _, _, .tup vs cs h => by simp only [AV.all]; exact DL.all h
  | _, _, .nil sz => by simp only [AV.all]
  | _, _, .emp a cap sz => by simp only [AV.all]
  | _, _, .sl b off cap sz es hcap hsz h => by simp only [AV.all]
  | _, _, .ref b off cs h => by simp only [AV.all]
theorem DL.all {H : View} {P : Nat → Prop} : ∀ {vs : List Value} {cs : List AV}, DL H vs cs → allL P cs
  | _, _, .nil => by simp only [allL]
  | _, _, .cons v c vs cs h t => by simp only [allL]; exact ⟨D.all h, DL.all t⟩
end
mutual
theorem R.all {H : View} {ε : Env} {P : Nat → Prop} (hd : ∀ id l, ε id = some l → P id) : ∀ {v : Value} {a : AV}, R H ε v a → a.all P
  | _, _, .d v c h => D.all h
  | _, _, .junk v => by simp only [AV.all]
  | _, _, .ptr id off b h => by simp only [AV.all]; exact hd _ _ h
  | _, _, .bsl id off sz n cap b h hn => by simp only [AV.all]; exact hd _ _ h
  | _, _, .osl p sz es v v0 m h hp hle he => by simp only [AV.all]; exact hd _ _ hp
  | _, _, .agg vs cs h => by simp only [AV.all]; exact RL.all hd h
  | _, _, .tup vs cs h => by simp only [AV.all]; exact RL.all hd h
  | _, _, .fn f f1 c1 f2 c2 hf hc => by simp only [AV.all]; exact ⟨RL.all hd hf, RL.all hd hc⟩
theorem RL.all {H : View} {ε : Env} {P : Nat → Prop} (hd : ∀ id l, ε id = some l → P id) : ∀ {vs : List Value} {cs : List AV}, RL H ε vs cs → allL P cs
  | _, _, .nil => by simp only [allL]
  | _, _, .cons v c vs cs h t => by simp only [allL]; exact ⟨R.all hd h, RL.all hd t⟩
end
mutual
theorem AV.ren_id {φ : Nat → Nat} : ∀ {a : AV}, a.all (fun i => φ i = i) → a.ren φ = a
  | .osl p sz es, h => by simp only [AV.all] at h; simp only [AV.ren, h]
  | .ptr id off, h => by simp only [AV.all] at h; simp only [AV.ren, h]
  | .bsl id off sz n cap, h => by simp only [AV.all] at h; simp only [AV.ren, h]
  | .agg cs, h => by simp only [AV.all] at h; simp only [AV.ren, renL_id h]
  | .tup cs, h => by simp only [AV.all] at h; simp only [AV.ren, renL_id h]
  | .fn f a b, h => by simp only [AV.all] at h; simp only [AV.ren, renL_id h.1, renL_id h.2]
  | .s v, _ => by simp only [AV.ren]
  | .sl sz es, _ => by simp only [AV.ren]
  | .ref cs, _ => by simp only [AV.ren]
  | .junk, _ => by simp only [AV.ren]
theorem renL_id {φ : Nat → Nat} : ∀ {l : List AV}, allL (fun i => φ i = i) l → renL φ l = l
  | [], _ => by simp only [renL]
  | a :: l, h => by simp only [allL] at h; simp only [renL, AV.ren_id h.1, renL_id h.2]
end
def Ob.all (P : Nat → Prop) : Ob → Prop
  | .box cs => allL P cs
  | .perm _ _ _ => True
  | .gone => True
theorem Ob.ren_id {φ : Nat → Nat} {x : Ob} (h : x.all (fun i => φ i = i)) : x.ren φ = x := by
  cases x with
  | box cs => simp only [Ob.ren, renL_id h]
  | perm e sz n => rfl
  | gone => rfl

/-- A state with two objects' numbers turned. -/
def St.swp (σ : St) (p q : Nat) : St := { tm := fun i => (σ.tm i).ren (sw p q), ob := fun i => (σ.ob (sw p q i)).map (Ob.ren (sw p q)), nx := σ.nx }

theorem Inv.swp {c : Ctx} {H : View} {ε : Env} {σ : St} {a : Act} {w : World} {p q : Nat} (hi : Inv c H ε σ a w) (hp : p < σ.nx) (hq : q < σ.nx) (hpE : c.E0 p = none) (hqE : c.E0 q = none) :
    Inv c H (fun i => ε (sw p q i)) (σ.swp p q) a w := by
  have hε : ∀ id l, ε id = some l → (fun i => ε (sw p q i)) (sw p q id) = some l := fun id l h => by simp only [sw_sw]; exact h
  have hne : ∀ i, (σ.swp p q).ob i ≠ none → σ.ob (sw p q i) ≠ none := fun i h e => h (by simp only [St.swp, e, Option.map_none])
  have hinj : ∀ i j, i ≠ j → sw p q i ≠ sw p q j := fun i j h e => h (by rw [← sw_sw p q i, e, sw_sw])
  refine ⟨hi.sz, hi.df, fun i => R.ren (φ := sw p q) (ε' := fun i => ε (sw p q i)) hε (hi.tm i), ?_, fun id hid => ?_⟩
  · exact { hi.mem with
      objs := fun i x hx => by
        simp only [St.swp] at hx
        cases hq : σ.ob (sw p q i) with
        | none => rw [hq] at hx; cases hx
        | some y =>
          rw [hq] at hx
          cases hx
          have := ObOK.reren (φ := sw p q) (ε' := fun i => ε (sw p q i)) (hi.mem.objs _ y hq) hε
          rwa [sw_sw] at this
      dj := fun i j h1 h2 hij b hb => hi.mem.dj _ _ (hne i h1) (hne j h2) (hinj i j hij) b hb
      own := fun i h1 b hb => by
        rcases hi.mem.own _ (hne i h1) b hb with h | ⟨h, h'⟩
        · exact .inl h
        · by_cases e1 : i = p
          · subst e1; rw [show sw i q i = q by simp [sw], hqE] at h'; cases h'
          · by_cases e2 : i = q
            · subst e2; rw [show sw p i i = p by simp [sw, e1], hpE] at h'; cases h'
            · rw [sw_ne e1 e2] at h'; exact .inr ⟨h, h'⟩
      ele := fun id l hl => by
        have h1 : id ≠ p := fun e => by rw [e, hpE] at hl; cases hl
        have h2 : id ≠ q := fun e => by rw [e, hqE] at hl; cases hl
        have := hi.mem.ele id l hl
        simp only [sw_ne h1 h2]
        exact this }
  · have hid' : σ.nx ≤ id := hid
    show ε (sw p q id) = none
    rw [sw_ne (by omega) (by omega)]
    exact hi.dom id hid'

/-- What is to be shown behind a round. -/
structure BackS (σ0 σ : St) (p q : Nat) (W : List Nat) (S : List (Nat × AV)) (B : List (Nat × Ob)) : Prop where
  tm : KeepTm W σ.tm σ0.tm
  ob : KeepOb σ0.nx (B.map (·.1)) σ.ob σ0.ob
  hp : (B.map (·.1)).contains p = true
  q1 : σ0.nx ≤ q
  q2 : q < σ.nx
  leS : leS (σ.swp p q) S
  leB : leB (σ.swp p q) B
  ltS : ltS σ0.nx S
  ltB : ltB σ0.nx B

def LoopKR {X : Type} (σ0 : St) (p : Nat) (W : List Nat) (S : X → List (Nat × AV)) (B : X → List (Nat × Ob)) (rel : X → Prop) (m : Nat) (μ : X → Nat) (K : Exit → St → Prop) : Exit → St → Prop
  | .normal, σ => (∃ x, rel x ∧ μ x < m ∧ Back σ0 σ W (S x) (B x)) ∨ ∃ x q, rel x ∧ μ x < m ∧ BackS σ0 σ p q W (S x) (B x)
  | e, σ => K e σ

theorem tri_loopR {P : Program} {N : Nat} {σ : St} {K : Exit → St → Prop} {body : Code} {X : Type} (W : List Nat) (S : X → List (Nat × AV)) (B : X → List (Nat × Ob)) (rel : X → Prop) (μ : X → Nat)
    (h0 : ∃ x, rel x ∧ Back { σ with nx := σ.nx + 16 } { σ with nx := σ.nx + 16 } W (S x) (B x)) (hr : ∀ x, rel x → Tri P N body ({ σ with nx := σ.nx + 16 }.head W (S x) (B x)) (LoopKR { σ with nx := σ.nx + 16 } σ.nx W S B rel (μ x) μ K)) : Tri P N (.loop body) σ K := fun c H ε a w hc hi0 Q hQ => by
  let σ1 : St := { σ with nx := σ.nx + 16 }
  have hi : Inv c H ε σ1 a w := ⟨hi0.sz, hi0.df, hi0.tm, hi0.mem, fun id hid => hi0.dom id (by have : σ.nx + 16 ≤ id := hid; omega)⟩
  have hlt : ∀ i, (σ1.tm i).lt σ1.nx := fun i => R.lt hi.dom (hi.tm i)
  have hε : ∀ id l, ε id = some l → id < σ.nx := fun id l hl => by
    rcases Nat.lt_or_ge id σ.nx with h | h
    · exact h
    · rw [hi0.dom id h] at hl; cases hl
  have hltB : ∀ i x, σ1.ob i = some x → i < σ1.nx ∧ x.lt σ1.nx := fun i x hx => by
    have := hi.mem.objs i x hx
    have hi' : ∀ l, ε i = some l → i < σ1.nx := fun l hl => by have := hε i l hl; show i < σ.nx + 16; omega
    cases x with
    | box cs =>
      obtain ⟨b, arr, T, q1, q2, q3, _⟩ := this
      exact ⟨hi' _ q1, RL.lt hi.dom q3⟩
    | perm e sz n =>
      obtain ⟨v, xs, q1, _⟩ := this
      exact ⟨hi' _ q1, trivial⟩
    | gone => exact this.elim
  have hE0 : ∀ id l, c.E0 id = some l → id < σ.nx := fun id l hl => by
    have h1 := hi.mem.ele id l hl
    cases l with
    | blk b => exact hε _ _ h1
    | row v n => obtain ⟨_, _, h3, _⟩ := h1; exact hε _ _ h3
  have hele : ∀ id l, c.E0 id = some l → id < σ1.nx := fun id l hl => by have := hE0 id l hl; show id < σ.nx + 16; omega
  -- what stands there names neither the number that was laid by nor a new one
  have hav : ∀ q, σ1.nx ≤ q → ∀ i, (σ1.tm i).ren (sw σ.nx q) = σ1.tm i := fun q hq i => by
    refine AV.ren_id (R.all (fun id l hl => ?_) (hi.tm i))
    have h1 := hε id l hl
    have : σ.nx + 16 ≤ q := hq
    exact sw_ne (by omega) (by omega)
  have havO : ∀ q, σ1.nx ≤ q → ∀ i, (σ1.ob i).map (Ob.ren (sw σ.nx q)) = σ1.ob i := fun q hq i => by
    cases hx : σ1.ob i with
    | none => rfl
    | some x =>
      have hok := hi.mem.objs i x hx
      have hq' : σ.nx + 16 ≤ q := hq
      rw [Option.map_some, Ob.ren_id]
      cases x with
      | box cs =>
        obtain ⟨b, arr, T, q1, q2, q3, _⟩ := hok
        exact RL.all (fun id l hl => by have h1 := hε id l hl; exact sw_ne (by omega) (by omega)) q3
      | perm e sz n => trivial
      | gone => trivial
  have backS : ∀ {σ' : St} {q : Nat} {S : List (Nat × AV)} {B : List (Nat × Ob)} {H' : View} {ε' : Env} {a' : Act} {w' : World}, BackS σ1 σ' σ.nx q W S B → Inv c H' ε' σ' a' w' → Inv c H' (Env.below (fun i => ε' (sw σ.nx q i)) σ1.nx) (σ1.head W S B) a' w' := by
    intro σ' q S B H' ε' a' w' hb hi'
    have hq1 : σ.nx + 16 ≤ q := hb.q1
    have hpE : c.E0 σ.nx = none := by
      cases h : c.E0 σ.nx with
      | none => rfl
      | some l => exact absurd (hE0 _ _ h) (Nat.lt_irrefl _)
    have hqE : c.E0 q = none := by
      cases h : c.E0 q with
      | none => rfl
      | some l => have := hE0 _ _ h; omega
    have h2 := hi'.swp (p := σ.nx) (q := q) (by have := hb.q2; omega) hb.q2 hpE hqE
    refine Back.inv (σ0 := σ1) (σ := σ'.swp σ.nx q) ⟨fun i hi => ?_, fun i hi hn => ?_, hb.leS, hb.leB, hb.ltS, hb.ltB, ?_⟩ h2 hlt hltB hele
    · show (σ'.tm i).ren _ = _
      rw [hb.tm i hi]; exact hav q hb.q1 i
    · have hip : i ≠ σ.nx := fun e => by rw [e, hb.hp] at hi; cases hi
      have hn' : i < σ.nx + 16 := hn
      show (σ'.ob (sw σ.nx q i)).map _ = _
      rw [sw_ne hip (by omega), hb.ob i hi hn]; exact havO q hb.q1 i
    · show σ.nx + 16 ≤ σ'.nx
      have := hb.q2; omega
  obtain ⟨x0, hx0, hb0⟩ := h0
  refine wp_loop_rel (fun x a w => rel x ∧ ∃ H' ε', Inv c H' ε' (σ1.head W (S x) (B x)) a w) μ x0 ⟨hx0, H, ε.below σ1.nx, hb0.inv hi hlt hltB hele⟩ ?_
  rintro x a1 w1 ⟨hx, H1, ε1, hi1⟩
  refine hr x hx c H1 ε1 a1 w1 hc hi1 _ fun e σ' H' ε' a' w' hK hi' => ?_
  cases e with
  | normal =>
    rcases hK with ⟨x', h1, h2, h3⟩ | ⟨x', q, h1, h2, h3⟩
    · exact ⟨x', ⟨h1, H', ε'.below σ1.nx, h3.inv hi' hlt hltB hele⟩, h2⟩
    · exact ⟨x', ⟨h1, H', _, backS h3 hi'⟩, h2⟩
  | exit id => exact hQ _ σ' H' ε' a' w' hK hi'
  | goto l => exact hQ _ σ' H' ε' a' w' hK hi'
  | ret => exact hQ _ σ' H' ε' a' w' hK hi'
  | panic ch => exact hQ _ σ' H' ε' a' w' hK hi'
  | outgrown => exact hQ _ σ' H' ε' a' w' hK hi'

section
variable {P : Program} {N : Nat} {tm : Nat → AV} {ob : Nat → Option Ob} {nx p m' : Nat} {K : Exit → St → Prop}
/-- A loop in which the object 'p' may be replaced. -/
theorem w_loopR {body : Code} {X : Type} (W : List Nat) (S : X → List (Nat × AV)) (B : X → List (Nat × Ob)) (rel : X → Prop) (μ : X → Nat) (x0 : X) (hp : nx = p) (hm : nx + 16 = m')
    (h0 : rel x0) (hb : Back ⟨tm, ob, m'⟩ ⟨tm, ob, m'⟩ W (S x0) (B x0)) (hr : ∀ x, rel x → Later P N body (LoopKR ⟨tm, ob, m'⟩ p W S B rel (μ x) μ K) ⟨wrs (jnk W tm) (S x), wor ob (B x), m'⟩) :
    Tri P N (.loop body) ⟨tm, ob, nx⟩ K := by
  subst hp hm
  exact tri_loopR W S B rel μ ⟨x0, h0, hb⟩ fun x hx => by
    have := hr x hx
    rw [← head_eq] at this
    exact this
variable {X : Type} {σ0 σ : St} {W : List Nat} {S : X → List (Nat × AV)} {B : X → List (Nat × Ob)} {rel : X → Prop} {m : Nat} {μ : X → Nat}
theorem w_nextK (x' : X) (rel' : rel x') (mu : μ x' < m)
    (kt : KeepTm W σ.tm σ0.tm) (ko : KeepOb σ0.nx ((B x').map (·.1)) σ.ob σ0.ob) (ls : leS σ (S x')) (lb : leB σ (B x')) (hs : ltS σ0.nx (S x')) (hb : ltB σ0.nx (B x')) (hn : σ0.nx ≤ σ.nx) : Out (LoopKR σ0 p W S B rel m μ K) .normal σ :=
  .inl ⟨x', rel', mu, ⟨kt, ko, ls, lb, hs, hb, hn⟩⟩
theorem w_nextR (x' : X) (q : Nat) (rel' : rel x') (mu : μ x' < m)
    (kt : KeepTm W σ.tm σ0.tm) (ko : KeepOb σ0.nx ((B x').map (·.1)) σ.ob σ0.ob) (hp : ((B x').map (·.1)).contains p = true) (hn : σ0.nx ≤ q) (hq : q < σ.nx) (ls : leS (σ.swp p q) (S x')) (lb : leB (σ.swp p q) (B x')) (hs : ltS σ0.nx (S x')) (hb : ltB σ0.nx (B x')) : Out (LoopKR σ0 p W S B rel m μ K) .normal σ :=
  .inr ⟨x', q, rel', mu, ⟨kt, ko, hp, hn, hq, ls, lb, hs, hb⟩⟩
theorem out_loopR_ret (h : Out K .ret σ) : Out (LoopKR σ0 p W S B rel m μ K) .ret σ := h
theorem out_loopR_exit {id : Nat} (h : Out K (.exit id) σ) : Out (LoopKR σ0 p W S B rel m μ K) (.exit id) σ := h
end
attribute [simp] sw
theorem swp_tm (σ : St) (p q i : Nat) : (σ.swp p q).tm i = (σ.tm i).ren (sw p q) := rfl
theorem swp_ob (σ : St) (p q i : Nat) : (σ.swp p q).ob i = (σ.ob (sw p q i)).map (Ob.ren (sw p q)) := rfl
theorem swp_nx (σ : St) (p q : Nat) : (σ.swp p q).nx = σ.nx := rfl
attribute [simp] swp_tm swp_ob swp_nx
end Go.Sy

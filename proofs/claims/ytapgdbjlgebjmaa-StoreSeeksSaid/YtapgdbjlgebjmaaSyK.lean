/- The symbolic layer, eleventh part: loops, and contracts of functions out of their bodies. No condition. -/
import Derived.Test.YtapgdbjlgebjmaaSyJ
set_option linter.unusedVariables false
namespace Go.Sy

mutual
/-- The numbers of the objects in it are below n. -/
def AV.lt (n : Nat) : AV → Prop
  | .osl p _ _ => p < n
  | .ptr id _ => id < n
  | .agg cs => ltL n cs
  | .tup cs => ltL n cs
  | .fn _ f c => ltL n f ∧ ltL n c
  | .s _ => True
  | .sl _ _ => True
  | .ref _ => True
  | .junk => True
def ltL (n : Nat) : List AV → Prop
  | [] => True
  | a :: l => a.lt n ∧ ltL n l
end

/-- Of an environment what is below n. -/
def Env.below (ε : Env) (n : Nat) : Env := fun id => if id < n then ε id else none

mutual
theorem R.under {H : View} {ε : Env} {n : Nat} : ∀ {v : Value} {a : AV}, R H ε v a → a.lt n → R H (ε.below n) v a
  | _, _, .d v c h, _ => .d v c h
  | _, _, .junk v, _ => .junk v
  | _, _, .ptr id off b h, hl => .ptr id off b (by simp only [AV.lt] at hl; simp [Env.below, hl, h])
  | _, _, .osl p sz es v v0 m h hp hle he, hl => .osl p sz es v v0 m h (by simp only [AV.lt] at hl; simp [Env.below, hl, hp]) hle he
  | _, _, .agg vs cs h, hl => .agg vs cs (RL.under h (by simpa only [AV.lt] using hl))
  | _, _, .tup vs cs h, hl => .tup vs cs (RL.under h (by simpa only [AV.lt] using hl))
  | _, _, .fn f f1 c1 f2 c2 hf hc, hl => by
    simp only [AV.lt] at hl
    exact .fn f f1 c1 f2 c2 (RL.under hf hl.1) (RL.under hc hl.2)
theorem RL.under {H : View} {ε : Env} {n : Nat} : ∀ {vs : List Value} {cs : List AV}, RL H ε vs cs → ltL n cs → RL H (ε.below n) vs cs
  | _, _, .nil, _ => .nil
  | _, _, .cons v c vs cs h t, hl => by
    simp only [ltL] at hl
    exact .cons _ _ _ _ (R.under h hl.1) (RL.under t hl.2)
end

/-- A reading that holds where no object has a number from n on names none from n on: it may be read below n. -/
theorem R.under_of {H : View} {ε ε0 : Env} {n : Nat} {v : Value} {a : AV} (h : R H ε v a) (hε : ε.below n = ε0) (hl : a.lt n) : R H ε0 v a := hε ▸ h.under hl

mutual
theorem D.lt {H : View} {n : Nat} : ∀ {v : Value} {a : AV}, D H v a → a.lt n
  | _, _, .s v h => by simp only [AV.lt]
  | _, _, .agg vs cs h => by simp only [AV.lt]; exact DL.lt h
  | _, _, .tup vs cs h => by simp only [AV.lt]; exact DL.lt h
  | _, _, .nil sz => by simp only [AV.lt]
  | _, _, .emp a cap sz => by simp only [AV.lt]
  | _, _, .sl b off cap sz es hcap hsz h => by simp only [AV.lt]
  | _, _, .ref b off cs h => by simp only [AV.lt]
theorem DL.lt {H : View} {n : Nat} : ∀ {vs : List Value} {cs : List AV}, DL H vs cs → ltL n cs
  | _, _, .nil => by simp only [ltL]
  | _, _, .cons v c vs cs h t => by simp only [ltL]; exact ⟨D.lt h, DL.lt t⟩
end
mutual
theorem R.lt {H : View} {ε : Env} {n : Nat} (hd : ∀ id, n ≤ id → ε id = none) : ∀ {v : Value} {a : AV}, R H ε v a → a.lt n
  | _, _, .d v c h => D.lt h
  | _, _, .junk v => by simp only [AV.lt]
  | _, _, .ptr id off b h => by
    simp only [AV.lt]
    rcases Nat.lt_or_ge id n with h' | h'
    · exact h'
    · rw [hd id h'] at h; cases h
  | _, _, .osl p sz es v v0 m h hp hle he => by
    simp only [AV.lt]
    rcases Nat.lt_or_ge p n with h' | h'
    · exact h'
    · rw [hd p h'] at hp; cases hp
  | _, _, .agg vs cs h => by simp only [AV.lt]; exact RL.lt hd h
  | _, _, .tup vs cs h => by simp only [AV.lt]; exact RL.lt hd h
  | _, _, .fn f f1 c1 f2 c2 hf hc => by simp only [AV.lt]; exact ⟨RL.lt hd hf, RL.lt hd hc⟩
theorem RL.lt {H : View} {ε : Env} {n : Nat} (hd : ∀ id, n ≤ id → ε id = none) : ∀ {vs : List Value} {cs : List AV}, RL H ε vs cs → ltL n cs
  | _, _, .nil => by simp only [ltL]
  | _, _, .cons v c vs cs h t => by simp only [ltL]; exact ⟨R.lt hd h, RL.lt hd t⟩
end

/-- The state at a loop's head: what the loop writes is as S and B say, or forgotten. -/
def St.head (σ : St) (W : List Nat) (S : List (Nat × AV)) (B : List (Nat × Ob)) : St :=
  { tm := fun i => match S.lookup i with | some v => v | none => if W.contains i then .junk else σ.tm i, ob := fun i => match B.lookup i with | some x => some x | none => σ.ob i, nx := σ.nx }

/-- Slots but those of W are as they were. -/
def KeepTm (W : List Nat) (tm tm0 : Nat → AV) : Prop := ∀ i, W.contains i = false → tm i = tm0 i
/-- Objects below n but those of B are as they were. -/
def KeepOb (n : Nat) (B : List Nat) (ob ob0 : Nat → Option Ob) : Prop := ∀ i, B.contains i = false → i < n → ob i = ob0 i

def ObLe : Option Ob → Ob → Prop
  | some (.box cs), .box ds => LeL cs ds
  | some (.perm e sz n), .perm e' sz' n' => e = e' ∧ sz = sz' ∧ n = n'
  | _, _ => False
def Ob.lt (n : Nat) : Ob → Prop
  | .box cs => ltL n cs
  | .perm _ _ _ => True
  | .gone => True

def leS (σ : St) : List (Nat × AV) → Prop
  | [] => True
  | (s, v) :: l => Le (σ.tm s) v ∧ leS σ l
def leB (σ : St) : List (Nat × Ob) → Prop
  | [] => True
  | (s, v) :: l => ObLe (σ.ob s) v ∧ leB σ l
def ltS (n : Nat) : List (Nat × AV) → Prop
  | [] => True
  | (s, v) :: l => v.lt n ∧ ltS n l
def ltB (n : Nat) : List (Nat × Ob) → Prop
  | [] => True
  | (s, v) :: l => (s < n ∧ v.lt n) ∧ ltB n l

theorem leS_lookup {σ : St} : ∀ {S : List (Nat × AV)} {i : Nat} {v : AV}, leS σ S → S.lookup i = some v → Le (σ.tm i) v
  | (s, u) :: l, i, v, h, hl => by
    simp only [leS] at h
    by_cases hi : i = s
    · subst hi; simp at hl; subst hl; exact h.1
    · have : (i == s) = false := by simpa using hi
      rw [List.lookup_cons, this] at hl
      exact leS_lookup h.2 hl
theorem ltS_lookup {n : Nat} : ∀ {S : List (Nat × AV)} {i : Nat} {v : AV}, ltS n S → S.lookup i = some v → v.lt n
  | (s, u) :: l, i, v, h, hl => by
    simp only [ltS] at h
    by_cases hi : i = s
    · subst hi; simp at hl; subst hl; exact h.1
    · have : (i == s) = false := by simpa using hi
      rw [List.lookup_cons, this] at hl
      exact ltS_lookup h.2 hl
theorem leB_lookup {σ : St} : ∀ {S : List (Nat × Ob)} {i : Nat} {v : Ob}, leB σ S → S.lookup i = some v → ObLe (σ.ob i) v
  | (s, u) :: l, i, v, h, hl => by
    simp only [leB] at h
    by_cases hi : i = s
    · subst hi; simp at hl; subst hl; exact h.1
    · have : (i == s) = false := by simpa using hi
      rw [List.lookup_cons, this] at hl
      exact leB_lookup h.2 hl
theorem ltB_lookup {n : Nat} : ∀ {S : List (Nat × Ob)} {i : Nat} {v : Ob}, ltB n S → S.lookup i = some v → i < n ∧ v.lt n
  | (s, u) :: l, i, v, h, hl => by
    simp only [ltB] at h
    by_cases hi : i = s
    · subst hi; simp at hl; subst hl; exact h.1
    · have : (i == s) = false := by simpa using hi
      rw [List.lookup_cons, this] at hl
      exact ltB_lookup h.2 hl

theorem lookup_none {α : Type} : ∀ {B : List (Nat × α)} {i : Nat}, B.lookup i = none → (B.map (·.1)).contains i = false
  | [], _, _ => rfl
  | (s, u) :: l, i, h => by
    by_cases hi : i = s
    · subst hi; simp at h
    · have hb : (i == s) = false := by simpa using hi
      rw [List.lookup_cons, hb] at h
      simp only [List.map_cons, List.contains_cons, hb, Bool.false_or]
      exact lookup_none h

/-- Everything that a state says of what was there at a loop's first head, said of it now. -/
structure Back (σ0 σ : St) (W : List Nat) (S : List (Nat × AV)) (B : List (Nat × Ob)) : Prop where
  tm : KeepTm W σ.tm σ0.tm
  ob : KeepOb σ0.nx (B.map (·.1)) σ.ob σ0.ob
  leS : leS σ S
  leB : leB σ B
  ltS : ltS σ0.nx S
  ltB : ltB σ0.nx B
  nx : σ0.nx ≤ σ.nx

theorem ObLe.ok {H : View} {ε : Env} {w : World} {id : Nat} {y : Option Ob} {x : Ob} (h : ObLe y x) (hy : ∀ z, y = some z → ObOK H ε w id z) : ObOK H ε w id x := by
  unfold ObLe at h
  split at h
  · obtain ⟨b, arr, T, h1, h2, h3, h4, h5⟩ := hy _ rfl
    exact ⟨b, arr, T, h1, h2, RL.le h h3, h4, h5⟩
  · obtain ⟨rfl, rfl, rfl⟩ := h
    exact hy _ rfl
  · exact h.elim

/-- Going back to the head. -/
theorem Back.inv {c : Ctx} {H : View} {ε : Env} {σ0 σ : St} {W : List Nat} {S : List (Nat × AV)} {B : List (Nat × Ob)} {a : Act} {w : World} (hb : Back σ0 σ W S B) (hi : Inv c H ε σ a w) (hlt : ∀ i, (σ0.tm i).lt σ0.nx) (hltB : ∀ i x, σ0.ob i = some x → i < σ0.nx ∧ x.lt σ0.nx) (hele : ∀ id l, c.E0 id = some l → id < σ0.nx) :
    Inv c H (ε.below σ0.nx) (σ0.head W S B) a w := by
  have hob : ∀ i x, (σ0.head W S B).ob i = some x → i < σ0.nx ∧ x.lt σ0.nx ∧ ObLe (σ.ob i) x ∨ (i < σ0.nx ∧ x.lt σ0.nx ∧ σ.ob i = some x) := by
    intro i x hx
    unfold St.head at hx
    simp only at hx
    split at hx
    · rename_i y hy
      cases hx
      have := ltB_lookup hb.ltB hy
      exact .inl ⟨this.1, this.2, leB_lookup hb.leB hy⟩
    · rename_i hy
      have h1 := hltB i x hx
      exact .inr ⟨h1.1, h1.2, (hb.ob i (lookup_none hy) h1.1).trans hx⟩
  have hne : ∀ i, (σ0.head W S B).ob i ≠ none → i < σ0.nx ∧ σ.ob i ≠ none := by
    intro i hi'
    cases hq : (σ0.head W S B).ob i with
    | none => exact absurd hq hi'
    | some x =>
      rcases hob i x hq with ⟨h1, _, h2⟩ | ⟨h1, _, h2⟩
      · refine ⟨h1, fun h => ?_⟩
        rw [h] at h2; exact h2
      · exact ⟨h1, by rw [h2]; simp⟩
  have heb : ∀ i, i < σ0.nx → ε.below σ0.nx i = ε i := fun i h => by simp [Env.below, h]
  refine ⟨hi.sz, hi.df, fun i => ?_, ?_, fun id hid => ?_⟩
  · unfold St.head
    simp only
    split
    · rename_i v hv
      exact (R.le (leS_lookup hb.leS hv) (hi.tm i)).under (ltS_lookup hb.ltS hv)
    · split
      · exact .junk _
      · rename_i hW
        have := hb.tm i (by simpa using hW)
        have h2 := hi.tm i
        rw [this] at h2
        exact h2.under (hlt i)
  · exact { hi.mem with
      ele := fun id l hl => by
        have h1 := hi.mem.ele id l hl
        have h2 := hele id l hl
        cases l with
        | blk b => simp only at h1 ⊢; rw [heb id h2]; exact h1
        | row v n => simp only at h1 ⊢; rw [heb id h2]; exact h1
      objs := fun i x hx => by
        have hlow : i < σ0.nx ∧ x.lt σ0.nx ∧ ObOK H ε w i x := by
          rcases hob i x hx with ⟨h1, h2, h3⟩ | ⟨h1, h2, h3⟩
          · exact ⟨h1, h2, h3.ok fun z hz => hi.mem.objs i z hz⟩
          · exact ⟨h1, h2, hi.mem.objs i x h3⟩
        obtain ⟨h1, h2, h3⟩ := hlow
        cases x with
        | box cs =>
          obtain ⟨b, arr, T, q1, q2, q3, q4, q5⟩ := h3
          exact ⟨b, arr, T, (heb i h1).trans q1, q2, RL.under q3 h2, q4, q5⟩
        | perm e sz n =>
          obtain ⟨v, xs, q1, q2⟩ := h3
          exact ⟨v, xs, (heb i h1).trans q1, q2⟩
        | gone => exact h3.elim
      dj := fun i j hi' hj' hij b hbi => by
        obtain ⟨l1, n1⟩ := hne i hi'
        obtain ⟨l2, n2⟩ := hne j hj'
        rw [heb i l1] at hbi
        rw [heb j l2]
        exact hi.mem.dj i j n1 n2 hij b hbi
      own := fun i hi' b hbi => by
        obtain ⟨l1, n1⟩ := hne i hi'
        rw [heb i l1] at hbi
        exact hi.mem.own i n1 b hbi }
  · have : ¬ id < σ0.nx := by simp only [St.head] at hid; omega
    simp [Env.below, this]

theorem wp_loop_rel {P : Program} {c : Code} {X : Type} {Q : Exit → Act → World → Prop} {a : Act} {w : World} (I : X → Act → World → Prop) (μ : X → Nat) (x0 : X) (h₀ : I x0 a w)
    (round : ∀ x a w, I x a w → c.wp P (Exit.then (fun a' w' => ∃ x', I x' a' w' ∧ μ x' < μ x) Q) a w) : (Code.loop c).wp P Q a w := by
  intro b k cs
  have key : ∀ n x a w, μ x = n → I x a w →
      ∃ e a' w', Q e a' w' ∧ Arrives P (lone (b.at a (.code c :: .inLoop c :: k)) cs w) b k cs e a' w' := by
    intro n
    induction n using Nat.strongRecOn with
    | _ n ih =>
      intro x a w hn hI
      obtain ⟨e, a₁, w₁, hq, harr⟩ := round x a w hI b (.inLoop c :: k) cs
      cases e with
      | normal =>
        obtain ⟨x₁, hI₁, hlt⟩ := hq
        obtain ⟨e₂, a₂, w₂, hq₂, harr₂⟩ := ih (μ x₁) (hn ▸ hlt) x₁ a₁ w₁ rfl hI₁
        exact ⟨e₂, a₂, w₂, hq₂, .of_steps (Steps.trans harr (.one step_inLoop)) harr₂⟩
      | exit id => exact ⟨_, a₁, w₁, hq, .pass (x := .inLoop c) rfl (fun _ _ => .inl (by simp)) harr⟩
      | goto l => exact ⟨_, a₁, w₁, hq, .pass (x := .inLoop c) rfl (fun _ _ => .inl (by simp)) harr⟩
      | ret => exact ⟨_, a₁, w₁, hq, .pass (x := .inLoop c) rfl (fun _ _ => .inl (by simp)) harr⟩
      | panic ch => exact ⟨_, a₁, w₁, hq, .pass (x := .inLoop c) rfl (fun _ _ => .inl (by simp)) harr⟩
      | outgrown => exact ⟨_, a₁, w₁, hq, .pass (x := .inLoop c) rfl (fun _ _ => .inl (by simp)) harr⟩
  obtain ⟨e, a', w', hq, harr⟩ := key _ x0 a w rfl h₀
  exact ⟨e, a', w', hq, .of_steps (.one step_loop) harr⟩

def LoopK {X : Type} (σ0 : St) (W : List Nat) (S : X → List (Nat × AV)) (B : X → List (Nat × Ob)) (rel : X → Prop) (m : Nat) (μ : X → Nat) (K : Exit → St → Prop) : Exit → St → Prop
  | .normal, σ => ∃ x, rel x ∧ μ x < m ∧ Back σ0 σ W (S x) (B x)
  | e, σ => K e σ

/-- A LOOP: W: the slots that it may write; S, B: what is known at its head of some of them, and of objects; rel: for which x; μ: what every round lowers. -/
theorem tri_loop {P : Program} {N : Nat} {σ : St} {K : Exit → St → Prop} {body : Code} {X : Type} (W : List Nat) (S : X → List (Nat × AV)) (B : X → List (Nat × Ob)) (rel : X → Prop) (μ : X → Nat)
    (h0 : ∃ x, rel x ∧ Back σ σ W (S x) (B x)) (hr : ∀ x, rel x → Tri P N body (σ.head W (S x) (B x)) (LoopK σ W S B rel (μ x) μ K)) : Tri P N (.loop body) σ K := fun c H ε a w hc hi Q hQ => by
  have hlt : ∀ i, (σ.tm i).lt σ.nx := fun i => R.lt hi.dom (hi.tm i)
  have hltB : ∀ i x, σ.ob i = some x → i < σ.nx ∧ x.lt σ.nx := fun i x hx => by
    have := hi.mem.objs i x hx
    have hi' : ∀ l, ε i = some l → i < σ.nx := fun l hl => by
      rcases Nat.lt_or_ge i σ.nx with h | h
      · exact h
      · rw [hi.dom i h] at hl; cases hl
    cases x with
    | box cs =>
      obtain ⟨b, arr, T, q1, q2, q3, _⟩ := this
      exact ⟨hi' _ q1, RL.lt hi.dom q3⟩
    | perm e sz n =>
      obtain ⟨v, xs, q1, _⟩ := this
      exact ⟨hi' _ q1, trivial⟩
    | gone => exact this.elim
  have hele : ∀ id l, c.E0 id = some l → id < σ.nx := fun id l hl => by
    have h1 := hi.mem.ele id l hl
    rcases Nat.lt_or_ge id σ.nx with h | h
    · exact h
    · have h2 := hi.dom id h
      cases l with
      | blk b => simp only at h1; rw [h2] at h1; cases h1
      | row v n => obtain ⟨_, _, h3, _⟩ := h1; rw [h2] at h3; cases h3
  obtain ⟨x0, hx0, hb0⟩ := h0
  refine wp_loop_rel (fun x a w => rel x ∧ ∃ H' ε', Inv c H' ε' (σ.head W (S x) (B x)) a w) μ x0 ⟨hx0, H, ε.below σ.nx, hb0.inv hi hlt hltB hele⟩ ?_
  rintro x a1 w1 ⟨hx, H1, ε1, hi1⟩
  refine hr x hx c H1 ε1 a1 w1 hc hi1 _ fun e σ' H' ε' a' w' hK hi' => ?_
  cases e with
  | normal =>
    obtain ⟨x', h1, h2, h3⟩ := hK
    exact ⟨x', ⟨h1, H', ε'.below σ.nx, h3.inv hi' hlt hltB hele⟩, h2⟩
  | exit id => exact hQ _ σ' H' ε' a' w' hK hi'
  | goto l => exact hQ _ σ' H' ε' a' w' hK hi'
  | ret => exact hQ _ σ' H' ε' a' w' hK hi'
  | panic ch => exact hQ _ σ' H' ε' a' w' hK hi'
  | outgrown => exact hQ _ σ' H' ε' a' w' hK hi'

/-- A slot that is nil may be taken for a row of its own, without elements. -/
def St.ownNil (σ : St) (s : Nat) (e : TypeId) (sz : Nat) : St :=
  { tm := fun i => if i = s then .osl σ.nx sz [] else σ.tm i, ob := updOb σ.ob σ.nx (.perm e sz 0), nx := σ.nx + 16 }
theorem tri_ownNil {P : Program} {N : Nat} {σ : St} {K : Exit → St → Prop} {code : Code} (s : Nat) (e : TypeId) (sz : Nat) (hs : σ.tm s = .s (.slice none 0 0)) (hsz : 0 < sz) (h : Tri P N code (σ.ownNil s e sz) K) : Tri P N code σ K :=
  fun c H ε a w hc hi Q hQ => by
    have hf : ε σ.nx = none := hi.dom _ (Nat.le_refl _)
    have hm := hi.mem.add (l := .row (.slice none 0 0) 0) (x := .perm e sz 0) hf ⟨.slice none 0 0, [], updEnv_same _ _ _, World.ownsRow_nil w 0 e sz, hsz, fun g hg => by cases hg⟩ (fun b hb => by cases hb) (fun b hb => by cases hb)
    refine h c H (updEnv ε σ.nx (.row (.slice none 0 0) 0)) a w hc ⟨hi.sz, hi.df, fun i => ?_, hm, fun id hid => ?_⟩ Q hQ
    · unfold St.ownNil
      simp only
      split
      · rename_i hi'
        subst hi'
        have hv := hi.tm i
        rw [hs] at hv
        rw [hv.s_inv.1]
        exact .osl _ _ _ _ _ 0 (.nil _) (updEnv_same _ _ _) (Nat.le_refl _) (fun _ => rfl)
      · exact (hi.tm i).mono (View.le_refl H) (Env.le_new hf)
    · simp only [St.ownNil] at hid
      unfold updEnv
      rw [if_neg (by omega)]
      exact hi.dom id (by omega)

/-- What a function's result reads as. -/
def resAV (P : Program) (σ : St) : ResultVar → Option AV
  | .tmp t => some (σ.tm t)
  | .cell a t => match ty P t, σ.tm a with
    | some T, .ptr id off => (match σ.ob id with | some (.box cs) => if (T.kd.agg || T.n == 1) && decide (off + T.n ≤ cs.length) then some (ofCells T.kd.agg ((cs.drop off).take T.n)) else none | _ => none)
    | _, _ => none
def resL (P : Program) (σ : St) : List ResultVar → Option (List AV)
  | [] => some []
  | r :: l => match resAV P σ r, resL P σ l with
    | some a, some m => some (a :: m)
    | _, _ => none
def retVC (P : Program) (rs : List ResultVar) (σ : St) (r : AV) : Prop := match resL P σ rs with
  | some [a] => Le a r
  | some l => Le (.tup l) r
  | none => False
def retK (P : Program) (rs : List ResultVar) (r : AV) : Exit → St → Prop
  | .normal, σ | .ret, σ => retVC P rs σ r
  | _, _ => False

/-- One result. -/
def resSem (tmps : Array Value) : ResultVar → Sem Value
  | .tmp t => pure (tmps.getD t undef)
  | .cell a t => do loadVar t (← asAddr (tmps.getD a undef))

theorem results_eq (fn : Func) (tmps : Array Value) : results fn tmps = (do let vs ← fn.results.toList.mapM (resSem tmps); pure (match vs with | [v] => v | _ => .tuple vs.toArray)) := by
  have h : fn.results.mapM (resSem tmps) = List.toArray <$> fn.results.toList.mapM (resSem tmps) := by
    rw [← List.mapM_toArray, Array.toArray_toList]
  have h2 : results fn tmps = (fn.results.mapM (resSem tmps) >>= fun vs => pure (if h : vs.size = 1 then vs[0] else .tuple vs)) := by
    unfold results
    congr 1
  rw [h2, h]
  simp only [bind_map_left]
  congr 1
  funext vs
  match vs with
  | [] => rfl
  | [v] => rfl
  | _ :: _ :: _ => simp

theorem res_run {P : Program} {c : Ctx} {H : View} {ε : Env} {σ : St} {a : Act} {w : World} (hi : Inv c H ε σ a w) : ∀ {rs : List ResultVar} {l : List AV}, resL P σ rs = some l → ∃ vs, (rs.mapM (resSem a.tmps)).run P w = .ok vs w ∧ RL H ε vs l
  | [], l, h => by
    simp [resL] at h; subst h
    exact ⟨[], by simp, .nil⟩
  | r :: rs, l, h => by
    unfold resL at h
    split at h
    · rename_i b m hb hm
      cases h
      obtain ⟨vs, h1, h2⟩ := res_run hi hm
      have hv : ∃ v, (resSem a.tmps r).run P w = .ok v w ∧ R H ε v b := by
        cases r with
        | tmp t => simp [resAV] at hb; subst hb; exact ⟨_, rfl, hi.tm t⟩
        | cell p t =>
          unfold resAV at hb
          simp only at hb
          split at hb
          · rename_i T id off hT hp
            split at hb
            · rename_i cs hob
              split at hb
              · rename_i hc
                cases hb
                simp only [Bool.and_eq_true, Bool.or_eq_true, decide_eq_true_eq, beq_iff_eq] at hc
                have hv := hi.tm p
                rw [hp] at hv
                obtain ⟨b, hv, hε⟩ := hv.ptr_inv
                obtain ⟨arr, T', hh, hrl, _, _⟩ := (hi.mem.objs id _ hob).box hε
                have hlen := hrl.length_eq
                have hrl' := (hrl.drop off).take T.n
                have hl' : ((arr.toList.drop off).take T.n).length = T.n := by rw [List.length_take, List.length_drop]; omega
                refine ⟨_, ?_, R_ofCells (agg := T.kd.agg) hrl'⟩
                have hcell : ∀ j u, ((arr.toList.drop off).take T.n)[j]? = some u → w.cell? ⟨b, off + j, none⟩ = some u := by
                  intro j u hj
                  rw [cell_of_row w b (off + j) arr T' (0, 0) hh]
                  rw [List.getElem?_take] at hj
                  split at hj
                  · simpa using hj
                  · cases hj
                have h1 : T.kd.agg = false → T.n = 1 := fun h => by
                  rcases hc.1 with h' | h'
                  · rw [h] at h'; cases h'
                  · exact h'
                simp only [resSem, hv, asAddr, Sem.run_bind, Sem.run_pure, Result.andThen_ok, run_loadVar' hT hl' h1 hcell]
              · cases hb
            · cases hb
          · cases hb
      obtain ⟨v, h3, h4⟩ := hv
      exact ⟨v :: vs, by simp only [List.mapM_cons, Sem.run_bind, h3, h1, Result.andThen_ok, Sem.run_pure], .cons _ _ _ _ h4 h2⟩
    · cases h

def St.start (args : List AV) : St := { tm := fun i => args.getD i (.tup []), ob := fun _ => none, nx := 0 }

theorem R_start {H : View} {ε : Env} : ∀ {vs : List Value} {args : List AV}, RL H ε vs args → ∀ i, R H ε (vs.getD i undef) (args.getD i (.tup []))
  | _, _, .nil, i => by simpa [undef] using R.d _ _ (.tup [] [] .nil)
  | _, _, .cons v c vs cs h t, i => by
    cases i with
    | zero => exact h
    | succ i => simpa using R_start t i

/-- THE CONTRACT OF A FUNCTION OUT OF ITS BODY. -/
theorem pspec_of_tri {P : Program} {f : FuncId} {fn : Func} {code : Code} {args : List AV} {r : AV} {N : Nat} (hf : P.funcs[f]? = some fn) (hb : fn.body = some code) (hN : fn.ntmps = N) (hn : args.length ≤ N) (hpu : Pu r)
    (h : Tri P N code (St.start args) (retK P fn.results.toList r)) : PSpec P f args r := by
  intro w H vs hview hD
  refine calls_of_wp hf hb ?_
  let c : Ctx := { N := N, w0 := w, H0 := H, E0 := fun _ => none, S := fun _ => False }
  have hlen : vs.length = args.length := hD.length_eq
  have hinv : Inv c H (fun _ => none) (St.start args) { tmps := vs.toArray ++ Array.replicate (fn.ntmps - vs.toArray.size) undef, defers := [] } w := by
    refine ⟨by simp [c, hN, hlen]; omega, rfl, fun i => ?_, ?_, fun _ _ => rfl⟩
    · have := R_start (ε := fun _ => none) (RL.of_DL hD) i
      have e : (vs.toArray ++ Array.replicate (fn.ntmps - vs.toArray.size) undef).getD i undef = vs.getD i undef := by
        rw [Array.getD_eq_getD_getElem?, Array.getElem?_append]
        simp only [List.size_toArray, List.getElem?_toArray, List.getD_eq_getElem?_getD]
        split
        · rfl
        · rename_i hi
          rw [List.getElem?_eq_none (by omega), Array.getElem?_replicate]
          split <;> rfl
      rw [e]; exact this
    · exact { view := hview, objs := fun id x hx => (by cases hx), dj := fun i j hi => absurd rfl hi, own := fun i hi => absurd rfl hi, os := rfl, tape := rfl, output := rfl, size := Nat.le_refl _, block := fun _ _ _ => rfl, hle := View.le_refl H, hold := fun _ _ _ _ => rfl, ele := Env.le_refl _ }
  have fin : ∀ σ' H' ε' a' w', retVC P fn.results.toList σ' r → Inv c H' ε' σ' a' w' → ∃ v, (results fn a'.tmps).run P w' = .ok v w' ∧
      (∃ v' H', Ending.returned v = .returned v' ∧ D H' v' r ∧ H.le H' ∧ (∀ b o v, H' b o = some v → w'.cell? ⟨b, o, none⟩ = some v) ∧ (∀ b o, b < w.heap.size → H' b o = H b o) ∧ RowKit.Below w.heap.size w w') := by
    intro σ' H' ε' a' w' hr hi
    unfold retVC at hr
    have hrest : H.le H' ∧ (∀ b o v, H' b o = some v → w'.cell? ⟨b, o, none⟩ = some v) ∧ (∀ b o, b < w.heap.size → H' b o = H b o) ∧ RowKit.Below w.heap.size w w' :=
      ⟨hi.mem.hle, hi.mem.view, fun b o hb' => hi.mem.hold b o hb' (fun h => h), ⟨hi.mem.os, hi.mem.tape, hi.mem.output, hi.mem.size, fun k hk => hi.mem.block k hk (fun h => h)⟩⟩
    split at hr
    · rename_i b hb'
      obtain ⟨vs', h1, h2⟩ := res_run hi hb'
      cases h2 with
      | cons v _ vs'' _ h3 h4 =>
        cases h4
        exact ⟨v, by rw [results_eq]; simp only [Sem.run_bind, h1, Result.andThen_ok, Sem.run_pure], v, H', rfl, (R.le hr h3).pu hpu, hrest⟩
    · rename_i l hne hb'
      obtain ⟨vs', h1, h2⟩ := res_run hi hb'
      refine ⟨.tuple vs'.toArray, ?_, _, H', rfl, (R.le hr (.tup _ _ h2)).pu hpu, hrest⟩
      rw [results_eq]
      simp only [Sem.run_bind, h1, Result.andThen_ok, Sem.run_pure]
      match vs', h2 with
      | [], _ => rfl
      | [v], h2 =>
        cases h2 with
        | cons _ b _ _ _ h4 => cases h4; exact absurd rfl (hne b)
      | _ :: _ :: _, _ => rfl
    · exact hr.elim
  refine h c H _ _ w rfl hinv _ fun e σ' H' ε' a' w' hK hi => ?_
  cases e with
  | normal => exact ⟨hi.df, fin σ' H' ε' a' w' hK hi⟩
  | ret => exact ⟨hi.df, fin σ' H' ε' a' w' hK hi⟩
  | exit id => exact hK.elim
  | goto l => exact hK.elim
  | panic ch => exact hK.elim
  | outgrown => exact hK.elim
end Go.Sy

/- The symbolic layer, twelfth part: a region that draws its order: it suffices to look at it in the order of the text, if what is not ordered touches different slots and objects. No condition. -/
import Derived.Test.YtapgdbjlgebjmaaSyK
import Derived.Orders
set_option linter.unusedVariables false
namespace Go.Sy

/-! ### Writes in order, some left out -/
section
variable {L V : Type}
def repF (wr : Nat → L → Option V) (D : Nat → Bool) (f : L → V) : Nat → L → V
  | 0 => f
  | m + 1 => if D m then (fun x => (wr m x).getD (repF wr D f m x)) else repF wr D f m

theorem repF_agree {wr : Nat → L → Option V} {D : Nat → Bool} {f : L → V} {x : L} {k : Nat} (hk : D k = false) (h1 : ∀ i, i < k → D i = false → wr i x = none) :
    ∀ {n : Nat}, k ≤ n → (∀ i, k < i → i < n → D i = true → wr i x = none) → repF wr D f n x = repF wr (fun _ => true) f k x := by
  have hB : ∀ m, m ≤ k → repF wr D f m x = repF wr (fun _ => true) f m x := by
    intro m
    induction m with
    | zero => intro _; rfl
    | succ m ih =>
      intro hm
      have := ih (by omega)
      simp only [repF, if_true]
      cases hD : D m
      · simp [h1 m (by omega) hD, this]
      · simp [this]
  intro n hn
  induction n with
  | zero => intro _; have : k = 0 := by omega
            subst this; rfl
  | succ n ih =>
    intro h2
    by_cases he : k = n + 1
    · subst he; exact hB _ (Nat.le_refl _)
    · have ih' := ih (by omega) (fun i a b c => h2 i a (by omega) c)
      by_cases hkn : k = n
      · subst hkn
        simp only [repF, hk, Bool.false_eq_true, if_false]; exact ih'
      · simp only [repF]
        cases hD : D n
        · simpa using ih'
        · simp [h2 n (by omega) (by omega) hD, ih']

theorem repF_insert {wr : Nat → L → Option V} {D : Nat → Bool} {f : L → V} {k : Nat} (hk : D k = false) (h2 : ∀ i x, k < i → D i = true → (wr k x).isSome → wr i x = none) :
    ∀ n, repF wr (fun i => i == k || D i) f n = if k < n then (fun x => (wr k x).getD (repF wr D f n x)) else repF wr D f n := by
  intro n
  induction n with
  | zero => simp [repF]
  | succ n ih =>
    by_cases hkn : n = k
    · subst hkn
      have : repF wr (fun i => i == n || D i) f n = repF wr D f n := by rw [ih]; simp
      simp [repF, hk, this]
    · have e : (n == k || D n) = D n := by
        have : (n == k) = false := by simpa using hkn
        rw [this]; simp
      simp only [repF, e, ih]
      by_cases hlt : k < n
      · have hlt' : k < n + 1 := by omega
        simp only [hlt, hlt', if_true]
        cases hD : D n
        · simp
        · simp only [if_true]
          funext x
          cases hq : wr k x with
          | none => simp
          | some v =>
            have := h2 n x hlt hD (by simp [hq])
            simp [this]
      · have hlt' : ¬ k < n + 1 := by omega
        simp only [hlt, hlt', if_false]

theorem repF_congr {wr : Nat → L → Option V} {D D' : Nat → Bool} {f : L → V} : ∀ {n : Nat}, (∀ i, i < n → D i = D' i) → repF wr D f n = repF wr D' f n
  | 0, _ => rfl
  | n + 1, h => by
    simp only [repF]
    rw [h n (by omega), repF_congr (n := n) (fun i hi => h i (by omega))]
end

def wsLook (ws : List (Nat × Ob)) (id : Nat) : Option Ob := ws.foldl (fun acc x => if x.1 = id then some x.2 else acc) none

theorem wsLook_acc (id : Nat) : ∀ (ws : List (Nat × Ob)) (acc : Option Ob), ws.foldl (fun acc x => if x.1 = id then some x.2 else acc) acc = (ws.foldl (fun acc x => if x.1 = id then some x.2 else acc) none).or acc
  | [], acc => by simp
  | x :: ws, acc => by
    simp only [List.foldl_cons]
    rw [wsLook_acc id ws, wsLook_acc id ws (if x.1 = id then some x.2 else none)]
    by_cases h : x.1 = id
    · simp only [h, if_true]
      cases ws.foldl (fun acc x => if x.1 = id then some x.2 else acc) none <;> rfl
    · simp only [h, if_false, Option.or_none]
theorem wsLook_cons (x : Nat × Ob) (ws : List (Nat × Ob)) (id : Nat) : wsLook (x :: ws) id = (wsLook ws id).or (if x.1 = id then some x.2 else none) := by
  show (x :: ws).foldl _ none = _
  rw [List.foldl_cons, wsLook_acc]; rfl
def wsAt (ws : List (Nat × Ob)) (id : Nat) (o : Option Ob) : Option Ob := match wsLook ws id with
  | some x => x.opt
  | none => o
theorem applyW_get (id : Nat) : ∀ (ws : List (Nat × Ob)) (ob : Nat → Option Ob), applyW ob ws id = wsAt ws id (ob id)
  | [], ob => rfl
  | x :: ws, ob => by
    have := applyW_get id ws (updG ob x.1 x.2)
    have h0 : applyW ob (x :: ws) id = applyW (updG ob x.1 x.2) ws id := rfl
    rw [h0, this]
    unfold wsAt
    rw [wsLook_cons]
    unfold updG
    by_cases h : id = x.1
    · subst h
      simp only [if_true]
      cases wsLook ws x.1 <;> rfl
    · have h' : ¬ x.1 = id := fun e => h e.symm
      simp only [h, h', if_false, Option.or_none]
theorem wsLook_none {ws : List (Nat × Ob)} {id : Nat} (h : (ws.map (·.1)).contains id = false) : wsLook ws id = none := by
  induction ws with
  | nil => rfl
  | cons x ws ih =>
    simp only [List.map_cons, List.contains_cons, Bool.or_eq_false_iff] at h
    have h' : ¬ x.1 = id := fun e => by subst e; simp at h
    rw [wsLook_cons, ih h.2]
    simp [h']
theorem wsLook_isSome {ws : List (Nat × Ob)} {id : Nat} (h : (wsLook ws id).isSome) : (ws.map (·.1)).contains id = true := by
  cases hc : (ws.map (·.1)).contains id
  · rw [wsLook_none hc] at h; cases h
  · rfl

/-- What an operation of a region was seen to do. -/
inductive Rec where
  | skip
  | did (r : AV) (deps : List Nat) (ws : List (Nat × Ob))
def Rec.val : Rec → AV
  | .skip => .tup []
  | .did r _ _ => r
def Rec.ws : Rec → List (Nat × Ob)
  | .skip => []
  | .did _ _ ws => ws
def Rec.deps : Rec → List Nat
  | .skip => []
  | .did _ deps _ => deps
def Rec.ids (r : Rec) : List Nat × List Nat := (r.deps, r.ws.map (·.1))

/-- Is it wanted? -/
def wantedAV (ops : Array Oper) (σ : St) (o : Oper) : Option Bool :=
  match o.guard with
  | none => some true
  | some (g, want) =>
    match gdst ops g with
    | some d => (match σ.tm d with
      | .s (.bool b) => some (b == want)
      | .tup [] => some false
      | _ => none)
    | none => none

def Valid (P : Program) (ops : Array Oper) (nb : Nat) (o : Oper) (σ : St) : Rec → Prop
  | .skip => wantedAV ops σ o = some false
  | .did r deps ws => wantedAV ops σ o = some true ∧ OpK P nb o.op o.type σ deps r ws

/-- What is to be shown of operations in order, what they look at and write kept. -/
def regVCD (P : Program) (ops : Array Oper) (base : Nat) : List Oper → Nat → St → List (List Nat × List Nat) → (List (List Nat × List Nat) → St → Prop) → Prop
  | [], _, σ, acc, K => K acc σ
  | o :: l, i, σ, acc, K =>
    match o.guard with
    | none => opVC P (base + 16 * i) o.op o.type σ fun r deps ws => regVCD P ops base l (i + 1) (σ.put o.dst r ws) (acc ++ [(deps, ws.map (·.1))]) K
    | some (g, want) =>
      match gdst ops g with
      | some d =>
        match σ.tm d with
        | .s (.bool b) =>
          (b = want → opVC P (base + 16 * i) o.op o.type (σ.know d (.s (.bool want))) fun r deps ws => regVCD P ops base l (i + 1) ((σ.know d (.s (.bool want))).put o.dst r ws) (acc ++ [(deps, ws.map (·.1))]) K) ∧
          (b = (!want) → regVCD P ops base l (i + 1) ((σ.know d (.s (.bool (!want)))).put o.dst (.tup []) []) (acc ++ [([], [])]) K)
        | .tup [] => regVCD P ops base l (i + 1) (σ.put o.dst (.tup []) []) (acc ++ [([], [])]) K
        | _ => False
      | none => False

inductive Run (P : Program) (ops : Array Oper) (base : Nat) : List Oper → Nat → St → List Rec → St → Prop
  | nil (i : Nat) (σ : St) : Run P ops base [] i σ [] σ
  | cons (o : Oper) (l : List Oper) (i : Nat) (σ : St) (q : Rec) (qs : List Rec) (σ' : St) (h : Valid P ops (base + 16 * i) o σ q) (t : Run P ops base l (i + 1) (σ.put o.dst q.val q.ws) qs σ') : Run P ops base (o :: l) i σ (q :: qs) σ'

theorem regVCD_run {P : Program} {ops : Array Oper} {base : Nat} : ∀ {l : List Oper} {i : Nat} {σ : St} {acc : List (List Nat × List Nat)} {K : List (List Nat × List Nat) → St → Prop}, regVCD P ops base l i σ acc K →
    ∃ qs σ', Run P ops base l i σ qs σ' ∧ K (acc ++ qs.map Rec.ids) σ'
  | [], i, σ, acc, K, h => ⟨[], σ, .nil i σ, by simpa [regVCD] using h⟩
  | o :: l, i, σ, acc, K, h => by
    have did : wantedAV ops σ o = some true → (opVC P (base + 16 * i) o.op o.type σ fun r deps ws => regVCD P ops base l (i + 1) (σ.put o.dst r ws) (acc ++ [(deps, ws.map (·.1))]) K) → ∃ qs σ', Run P ops base (o :: l) i σ qs σ' ∧ K (acc ++ qs.map Rec.ids) σ' := by
      intro hw hv
      obtain ⟨r, deps, ws, hok, hK⟩ := opVC_sound hv
      obtain ⟨qs, σ', h1, h2⟩ := regVCD_run hK
      exact ⟨.did r deps ws :: qs, σ', .cons o l i σ (.did r deps ws) qs σ' ⟨hw, hok⟩ h1, by simpa [Rec.ids, Rec.deps, Rec.ws] using h2⟩
    have skip : wantedAV ops σ o = some false → regVCD P ops base l (i + 1) (σ.put o.dst (.tup []) []) (acc ++ [([], [])]) K → ∃ qs σ', Run P ops base (o :: l) i σ qs σ' ∧ K (acc ++ qs.map Rec.ids) σ' := by
      intro hw hK
      obtain ⟨qs, σ', h1, h2⟩ := regVCD_run hK
      exact ⟨.skip :: qs, σ', .cons o l i σ .skip qs σ' hw h1, by simpa [Rec.ids, Rec.deps, Rec.ws] using h2⟩
    unfold regVCD at h
    split at h
    · rename_i hg
      exact did (by simp [wantedAV, hg]) h
    · rename_i g want hg
      split at h
      · rename_i d hgd
        split at h
        · rename_i b hb
          by_cases hbw : b = want
          · have hk : σ.know d (.s (.bool want)) = σ := know_same (by rw [hb, hbw])
            have h1 := h.1 hbw
            rw [hk] at h1
            exact did (by simp [wantedAV, hg, hgd, hb, hbw]) h1
          · have hbn : b = (!want) := by cases b <;> cases want <;> simp_all
            have hk : σ.know d (.s (.bool (!want))) = σ := know_same (by rw [hb, hbn])
            have h2 := h.2 hbn
            rw [hk] at h2
            exact skip (by simp [wantedAV, hg, hgd, hb, hbw]) h2
        · rename_i hb
          exact skip (by simp [wantedAV, hg, hgd, hb]) h
        · exact h.elim
      · exact h.elim

/-! ### The check: what is not ordered touches different slots; and different objects -/
def predsOf (o : Oper) : List Nat := o.after.toList.filterMap fun e => if Region.binds .any e then some e.on else none
def ancT (ops : List Oper) : List (List Nat) := ops.foldl (fun acc o => acc ++ [((predsOf o) ++ (predsOf o).flatMap (fun q => acc.getD q [])).eraseDups]) []
/-- Edges go back; the table of what is ahead is one. -/
def ancOK (ops : List Oper) (anc : List (List Nat)) : Bool :=
  (List.range ops.length).all fun k => match ops[k]? with
    | some o => (predsOf o).all (fun p => decide (p < k)) && (anc.getD k []).all fun i => (predsOf o).contains i || (predsOf o).any fun p => (anc.getD p []).contains i
    | none => false
def apartS (ops : Array Oper) (x y : Oper) : Bool :=
  (match x.dst with | some d => !(y.looksAt ops).contains d && y.dst != some d | none => true) && (match y.dst with | some d => !(x.looksAt ops).contains d | none => true)
def slotsOK (ops : Array Oper) (anc : List (List Nat)) : Bool :=
  (List.range ops.size).all fun j => (List.range j).all fun i => (anc.getD j []).contains i || (match ops[i]?, ops[j]? with | some x, some y => apartS ops x y | _, _ => false)
def drawOK (N : Nat) (ops : Array Oper) : Bool := dstOK N ops && ancOK ops.toList (ancT ops.toList) && slotsOK ops (ancT ops.toList)
def apartO (x y : List Nat × List Nat) : Bool := x.2.all (fun i => !y.1.contains i && !y.2.contains i) && y.2.all (fun i => !x.1.contains i)
def objsOK (anc : List (List Nat)) (acc : List (List Nat × List Nat)) : Bool :=
  (List.range acc.length).all fun j => (List.range j).all fun i => (anc.getD j []).contains i || apartO (acc.getD i ([], [])) (acc.getD j ([], []))

theorem anc_closed {ops : List Oper} {anc : List (List Nat)} (h : ancOK ops anc = true) {D : Nat → Bool} (hD : ∀ k o, ops[k]? = some o → D k = true → ∀ p ∈ predsOf o, D p = true) :
    ∀ k, k < ops.length → D k = true → ∀ i ∈ anc.getD k [], D i = true := by
  intro k
  induction k using Nat.strongRecOn with
  | _ k ih =>
    intro hk hDk i hi
    have hc := (List.all_eq_true.1 h) k (by simpa using hk)
    have ho : ops[k]? = some ops[k] := by simp [hk]
    rw [ho] at hc
    simp only [Bool.and_eq_true] at hc
    have hi' := (List.all_eq_true.1 hc.2) i hi
    simp only [Bool.or_eq_true] at hi'
    rcases hi' with h1 | h1
    · exact hD k _ ho hDk i (by simpa using h1)
    · obtain ⟨p, hp, hpi⟩ := List.any_eq_true.1 h1
      have hpk : p < k := by simpa using (List.all_eq_true.1 hc.1) p hp
      exact ih p hpk (by omega) (hD k _ ho hDk p hp) i (by simpa using hpi)
theorem anc_ready {ops : List Oper} {anc : List (List Nat)} (h : ancOK ops anc = true) {D : Nat → Bool} (hD : ∀ k o, ops[k]? = some o → D k = true → ∀ p ∈ predsOf o, D p = true) {k : Nat} {o : Oper} (ho : ops[k]? = some o)
    (hr : ∀ p ∈ predsOf o, D p = true) : ∀ i ∈ anc.getD k [], D i = true := by
  intro i hi
  have hk : k < ops.length := (List.getElem?_eq_some_iff.1 ho).1
  have hc := (List.all_eq_true.1 h) k (by simpa using hk)
  rw [ho] at hc
  simp only [Bool.and_eq_true] at hc
  have hi' := (List.all_eq_true.1 hc.2) i hi
  simp only [Bool.or_eq_true] at hi'
  rcases hi' with h1 | h1
  · exact hr i (by simpa using h1)
  · obtain ⟨p, hp, hpi⟩ := List.any_eq_true.1 h1
    have hpk : p < k := by simpa using (List.all_eq_true.1 hc.1) p hp
    exact anc_closed h hD p (by omega) (hr p hp) i (by simpa using hpi)
end Go.Sy

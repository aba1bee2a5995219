/- The symbolic layer, first part: symbolic values, what it means that a value reads as one, and that this stays so when memory grows. No condition. -/
import Derived.WalkKit
namespace Go.Sy

/-- Symbolic values: exact one-cell values, aggregates, tuples, slices that read as rows of elements, slices that own their row, addresses of memory that reads so, addresses of variables of the call's own, function values, anything. -/
inductive AV where
  | s (v : Value)
  | agg (cs : List AV)
  | tup (cs : List AV)
  | sl (sz : Nat) (es : List (List AV))
  | osl (p sz : Nat) (es : List (List AV))
  | ref (cs : List AV)
  | ptr (id off : Nat)
  | fn (f : Fn) (first caps : List AV)
  | junk

abbrev View := Nat → Nat → Option Value

def View.le (H H' : View) : Prop := ∀ b o v, H b o = some v → H' b o = some v
theorem View.le_refl (H : View) : H.le H := fun _ _ _ h => h
theorem View.le_trans {H H' H'' : View} (h : H.le H') (h' : H'.le H'') : H.le H'' := fun b o v k => h' b o v (h b o v k)

mutual
/-- A value reads as data. -/
inductive D (H : View) : Value → AV → Prop
  | s (v : Value) (h : v.oneCell' = true) : D H v (.s v)
  | agg (vs : List Value) (cs : List AV) (h : DL H vs cs) : D H (.agg vs.toArray) (.agg cs)
  | tup (vs : List Value) (cs : List AV) (h : DL H vs cs) : D H (.tuple vs.toArray) (.tup cs)
  | nil (sz : Nat) : D H (.slice none 0 0) (.sl sz [])
  | emp (a : Addr) (cap sz : Nat) : D H (.slice (some a) 0 cap) (.sl sz [])
  | sl (b off cap sz : Nat) (es : List (List AV)) (hcap : es.length ≤ cap) (hsz : ∀ e ∈ es, e.length = sz) (h : DM H b off es.flatten) :
      D H (.slice (some ⟨b, off, none⟩) es.length cap) (.sl sz es)
  | ref (b off : Nat) (cs : List AV) (h : DM H b off cs) : D H (.pointer (some ⟨b, off, none⟩)) (.ref cs)
inductive DL (H : View) : List Value → List AV → Prop
  | nil : DL H [] []
  | cons (v : Value) (c : AV) (vs : List Value) (cs : List AV) (h : D H v c) (t : DL H vs cs) : DL H (v :: vs) (c :: cs)
inductive DM (H : View) : Nat → Nat → List AV → Prop
  | nil (b o : Nat) : DM H b o []
  | cons (b o : Nat) (v : Value) (c : AV) (cs : List AV) (hv : H b o = some v) (h1 : v.oneCell' = true) (h : D H v c) (t : DM H b (o + 1) cs) : DM H b o (c :: cs)
end

mutual
theorem D.mono {H H' : View} (hH : H.le H') : ∀ {v : Value} {c : AV}, D H v c → D H' v c
  | _, _, .s v h => .s v h
  | _, _, .agg vs cs h => .agg vs cs (DL.mono hH h)
  | _, _, .tup vs cs h => .tup vs cs (DL.mono hH h)
  | _, _, .nil sz => .nil sz
  | _, _, .emp a cap sz => .emp a cap sz
  | _, _, .sl b off cap sz es hcap hsz h => .sl b off cap sz es hcap hsz (DM.mono hH h)
  | _, _, .ref b off cs h => .ref b off cs (DM.mono hH h)
theorem DL.mono {H H' : View} (hH : H.le H') : ∀ {vs : List Value} {cs : List AV}, DL H vs cs → DL H' vs cs
  | _, _, .nil => .nil
  | _, _, .cons v c vs cs h t => .cons v c vs cs (D.mono hH h) (DL.mono hH t)
theorem DM.mono {H H' : View} (hH : H.le H') : ∀ {b o : Nat} {cs : List AV}, DM H b o cs → DM H' b o cs
  | _, _, _, .nil b o => .nil b o
  | _, _, _, .cons b o v c cs hv h1 h t => .cons b o v c cs (hH _ _ _ hv) h1 (D.mono hH h) (DM.mono hH t)
end

/-- What an object of the call's own is in memory: a variable's block, or the row that a slice owns, with how many elements it has. -/
inductive Loc where
  | blk (b : Nat)
  | row (v : Value) (n : Nat)

abbrev Env := Nat → Option Loc

/-- Objects stay where they are; rows grow, and one that has not grown is as it was. -/
def Env.le (ε ε' : Env) : Prop := ∀ id l, ε id = some l → match l with
  | .blk b => ε' id = some (.blk b)
  | .row v n => ∃ v' n', ε' id = some (.row v' n') ∧ n ≤ n' ∧ (n' = n → v' = v)

theorem Env.le_refl (ε : Env) : ε.le ε := fun id l h => by
  cases l with
  | blk b => exact h
  | row v n => exact ⟨v, n, h, Nat.le_refl _, fun _ => rfl⟩
theorem Env.le_trans {ε ε' ε'' : Env} (h : ε.le ε') (h' : ε'.le ε'') : ε.le ε'' := fun id l hl => by
  cases l with
  | blk b => exact h' id (.blk b) (h id (.blk b) hl)
  | row v n =>
    obtain ⟨v', n', e1, l1, q1⟩ := h id (.row v n) hl
    obtain ⟨v'', n'', e2, l2, q2⟩ := h' id (.row v' n') e1
    refine ⟨v'', n'', e2, by omega, fun he => ?_⟩
    have : n'' = n' := by omega
    have : n' = n := by omega
    rw [q2 (by omega), q1 (by omega)]
/-- A new object. -/
theorem Env.le_new {ε : Env} {id : Nat} {l : Loc} (h : ε id = none) : ε.le (fun i => if i = id then some l else ε i) := fun i l' hl => by
  have hne : i ≠ id := fun e => by rw [e, h] at hl; cases hl
  cases l' with
  | blk b => simp [hne, hl]
  | row v n => exact ⟨v, n, by simp [hne, hl], Nat.le_refl _, fun _ => rfl⟩

mutual
/-- A value reads as a symbolic value. -/
inductive R (H : View) (ε : Env) : Value → AV → Prop
  | d (v : Value) (c : AV) (h : D H v c) : R H ε v c
  | junk (v : Value) : R H ε v .junk
  | ptr (id off b : Nat) (h : ε id = some (.blk b)) : R H ε (.pointer (some ⟨b, off, none⟩)) (.ptr id off)
  | osl (p sz : Nat) (es : List (List AV)) (v v0 : Value) (n : Nat) (h : D H v (.sl sz es)) (hp : ε p = some (.row v0 n)) (hle : es.length ≤ n) (he : es.length = n → v = v0) : R H ε v (.osl p sz es)
  | agg (vs : List Value) (cs : List AV) (h : RL H ε vs cs) : R H ε (.agg vs.toArray) (.agg cs)
  | tup (vs : List Value) (cs : List AV) (h : RL H ε vs cs) : R H ε (.tuple vs.toArray) (.tup cs)
  | fn (f : Fn) (f1 c1 : List Value) (f2 c2 : List AV) (hf : RL H ε f1 f2) (hc : RL H ε c1 c2) : R H ε (.func f f1.toArray c1.toArray) (.fn f f2 c2)
inductive RL (H : View) (ε : Env) : List Value → List AV → Prop
  | nil : RL H ε [] []
  | cons (v : Value) (c : AV) (vs : List Value) (cs : List AV) (h : R H ε v c) (t : RL H ε vs cs) : RL H ε (v :: vs) (c :: cs)
end

mutual
theorem R.mono {H H' : View} {ε ε' : Env} (hH : H.le H') (hε : ε.le ε') : ∀ {v : Value} {c : AV}, R H ε v c → R H' ε' v c
  | _, _, .d v c h => .d v c (h.mono hH)
  | _, _, .junk v => .junk v
  | _, _, .ptr id off b h => .ptr id off b (hε id _ h)
  | _, _, .osl p sz es v v0 n h hp hle he => by
    obtain ⟨v', n', e1, l1, q1⟩ := hε p _ hp
    refine .osl p sz es v v' n' (h.mono hH) e1 (by omega) (fun hn => ?_)
    have hn' : n' = n := by omega
    rw [q1 hn']; exact he (by omega)
  | _, _, .agg vs cs h => .agg vs cs (RL.mono hH hε h)
  | _, _, .tup vs cs h => .tup vs cs (RL.mono hH hε h)
  | _, _, .fn f f1 c1 f2 c2 hf hc => .fn f f1 c1 f2 c2 (RL.mono hH hε hf) (RL.mono hH hε hc)
theorem RL.mono {H H' : View} {ε ε' : Env} (hH : H.le H') (hε : ε.le ε') : ∀ {vs : List Value} {cs : List AV}, RL H ε vs cs → RL H' ε' vs cs
  | _, _, .nil => .nil
  | _, _, .cons v c vs cs h t => .cons v c vs cs (R.mono hH hε h) (RL.mono hH hε t)
end

theorem RL.of_DL {H : View} {ε : Env} : ∀ {vs : List Value} {cs : List AV}, DL H vs cs → RL H ε vs cs
  | _, _, .nil => .nil
  | _, _, .cons v c vs cs h t => .cons v c vs cs (.d v c h) (RL.of_DL t)

theorem RL.length_eq {H : View} {ε : Env} {vs : List Value} {cs : List AV} (h : RL H ε vs cs) : vs.length = cs.length := by
  induction cs generalizing vs with
  | nil => cases h; rfl
  | cons c cs ih => cases h with | cons v _ vs _ _ t => simp [ih t]
theorem DL.length_eq {H : View} {vs : List Value} {cs : List AV} (h : DL H vs cs) : vs.length = cs.length := RL.length_eq (ε := fun _ => none) (RL.of_DL h)

theorem RL.get {H : View} {ε : Env} {vs : List Value} {cs : List AV} (h : RL H ε vs cs) {i : Nat} {c : AV} (hc : cs[i]? = some c) : ∃ v, vs[i]? = some v ∧ R H ε v c := by
  induction cs generalizing vs i with
  | nil => simp at hc
  | cons c' cs ih =>
    cases h with
    | cons v _ vs _ h t =>
      cases i with
      | zero => simp at hc; subst hc; exact ⟨v, rfl, h⟩
      | succ i => simp at hc; obtain ⟨v', e, r⟩ := ih t hc; exact ⟨v', by simpa using e, r⟩
theorem RL.drop {H : View} {ε : Env} {vs : List Value} {cs : List AV} (h : RL H ε vs cs) (n : Nat) : RL H ε (vs.drop n) (cs.drop n) := by
  induction n generalizing vs cs with
  | zero => simpa using h
  | succ n ih => cases h with
    | nil => simpa using RL.nil
    | cons v c vs cs h t => simpa using ih t
theorem RL.take {H : View} {ε : Env} {vs : List Value} {cs : List AV} (h : RL H ε vs cs) (n : Nat) : RL H ε (vs.take n) (cs.take n) := by
  induction n generalizing vs cs with
  | zero => simpa using RL.nil
  | succ n ih => cases h with
    | nil => simpa using RL.nil
    | cons v c vs cs h t => simpa using RL.cons _ _ _ _ h (ih t)
theorem RL.append {H : View} {ε : Env} {vs vs' : List Value} {cs cs' : List AV} (h : RL H ε vs cs) (h' : RL H ε vs' cs') : RL H ε (vs ++ vs') (cs ++ cs') := by
  induction cs generalizing vs with
  | nil => cases h; simpa using h'
  | cons c cs ih => cases h with | cons v _ vs _ h t => exact .cons _ _ _ _ h (ih t)

/-- A state: what each slot reads as, the objects, the first number that is no object's. -/
inductive Ob where
  | box (cs : List AV)
  | perm (e : TypeId) (sz n : Nat)
  | gone
/-- What stands where it was written: nothing, if it is gone. -/
def Ob.opt : Ob → Option Ob
  | .gone => none
  | .box cs => some (.box cs)
  | .perm e sz n => some (.perm e sz n)

structure St where
  tm : Nat → AV
  ob : Nat → Option Ob
  nx : Nat

def blkOf : Option Loc → Option Nat
  | some (.blk b) => some b
  | some (.row v _) => v.ownBlock
  | none => none

/-- An object is in memory what the state says. -/
def ObOK (H : View) (ε : Env) (w : World) (id : Nat) : Ob → Prop
  | .box cs => ∃ b arr T, ε id = some (.blk b) ∧ w.heap[b]? = some (.cells arr T (0, 0)) ∧ RL H ε arr.toList cs ∧ (∀ v ∈ arr.toList, v.oneCell' = true) ∧ ∀ o, H b o = none
  | .perm e sz n => ∃ v xs, ε id = some (.row v n) ∧ w.ownsRow 0 e sz v n xs ∧ 0 < sz ∧ ∀ g, v.ownBlock = some g → ∀ o, n * sz ≤ o → H g o = none
  | .gone => False
theorem ObOK.opt {H : View} {ε : Env} {w : World} {id : Nat} {x : Ob} (h : ObOK H ε w id x) : x.opt = some x := by cases x <;> first | rfl | exact h.elim
theorem Ob.opt_some {x y : Ob} (h : x.opt = some y) : x = y := by cases x <;> first | (cases h; rfl) | cases h

/-- The call's frame: how many slots; the world in which it began, what was seen there, which blocks it may turn. -/
structure Ctx where
  N : Nat
  w0 : World
  H0 : View
  E0 : Env
  S : Nat → Prop

/-- Memory is what the state says, and the frame holds. -/
structure Mem (c : Ctx) (H : View) (ε : Env) (ob : Nat → Option Ob) (w : World) : Prop where
  view : ∀ b o v, H b o = some v → w.cell? ⟨b, o, none⟩ = some v
  objs : ∀ id x, ob id = some x → ObOK H ε w id x
  dj : ∀ i j, ob i ≠ none → ob j ≠ none → i ≠ j → ∀ b, blkOf (ε i) = some b → blkOf (ε j) ≠ some b
  own : ∀ id, ob id ≠ none → ∀ b, blkOf (ε id) = some b → c.w0.heap.size ≤ b ∨ c.S b
  os : w.os = c.w0.os
  tape : w.tape = c.w0.tape
  output : w.output = c.w0.output
  size : c.w0.heap.size ≤ w.heap.size
  block : ∀ k, k < c.w0.heap.size → ¬ c.S k → w.heap[k]? = c.w0.heap[k]?
  hle : c.H0.le H
  hold : ∀ b o, b < c.w0.heap.size → ¬ c.S b → H b o = c.H0 b o
  ele : c.E0.le ε

structure Inv (c : Ctx) (H : View) (ε : Env) (σ : St) (a : Act) (w : World) : Prop where
  sz : a.tmps.size = c.N
  df : a.defers = []
  tm : ∀ i, R H ε (a.tmps.getD i undef) (σ.tm i)
  mem : Mem c H ε σ.ob w
  dom : ∀ id, σ.nx ≤ id → ε id = none

theorem R.s_inv {H : View} {ε : Env} {v u : Value} (h : R H ε v (.s u)) : v = u ∧ u.oneCell' = true := by
  cases h with
  | d _ _ h => cases h with | s _ h => exact ⟨rfl, h⟩
theorem R.agg_inv {H : View} {ε : Env} {v : Value} {cs : List AV} (h : R H ε v (.agg cs)) : ∃ vs : List Value, v = .agg vs.toArray ∧ RL H ε vs cs := by
  cases h with
  | d _ _ h => cases h with | agg vs _ h => exact ⟨vs, rfl, .of_DL h⟩
  | agg vs _ h => exact ⟨vs, rfl, h⟩
theorem R.tup_inv {H : View} {ε : Env} {v : Value} {cs : List AV} (h : R H ε v (.tup cs)) : ∃ vs : List Value, v = .tuple vs.toArray ∧ RL H ε vs cs := by
  cases h with
  | d _ _ h => cases h with | tup vs _ h => exact ⟨vs, rfl, .of_DL h⟩
  | tup vs _ h => exact ⟨vs, rfl, h⟩
theorem R.sl_inv {H : View} {ε : Env} {v : Value} {sz : Nat} {es : List (List AV)} (h : R H ε v (.sl sz es)) : D H v (.sl sz es) := by
  cases h with | d _ _ h => exact h
theorem R.ref_inv {H : View} {ε : Env} {v : Value} {cs : List AV} (h : R H ε v (.ref cs)) : ∃ b off, v = .pointer (some ⟨b, off, none⟩) ∧ DM H b off cs := by
  cases h with | d _ _ h => cases h with | ref b off _ h => exact ⟨b, off, rfl, h⟩
theorem R.ptr_inv {H : View} {ε : Env} {v : Value} {id off : Nat} (h : R H ε v (.ptr id off)) : ∃ b, v = .pointer (some ⟨b, off, none⟩) ∧ ε id = some (.blk b) := by
  cases h with
  | d _ _ h => cases h
  | ptr _ _ b h => exact ⟨b, rfl, h⟩
theorem R.osl_inv {H : View} {ε : Env} {v : Value} {p sz : Nat} {es : List (List AV)} (h : R H ε v (.osl p sz es)) :
    D H v (.sl sz es) ∧ ∃ v0 n, ε p = some (.row v0 n) ∧ es.length ≤ n ∧ (es.length = n → v = v0) := by
  cases h with
  | d _ _ h => cases h
  | osl _ _ _ _ v0 n h hp hle he => exact ⟨h, v0, n, hp, hle, he⟩
theorem R.fn_inv {H : View} {ε : Env} {v : Value} {f : Fn} {f2 c2 : List AV} (h : R H ε v (.fn f f2 c2)) :
    ∃ f1 c1 : List Value, v = .func f f1.toArray c1.toArray ∧ RL H ε f1 f2 ∧ RL H ε c1 c2 := by
  cases h with
  | d _ _ h => cases h
  | fn _ f1 c1 _ _ hf hc => exact ⟨f1, c1, rfl, hf, hc⟩

/-- What fits into one cell. -/
def AV.one : AV → Bool
  | .s _ | .sl .. | .osl .. | .ref _ | .ptr .. | .fn .. => true
  | _ => false
def AV.cells : AV → List AV
  | .agg cs => cs
  | a => [a]
theorem R.one {H : View} {ε : Env} {v : Value} {a : AV} (h : R H ε v a) (h1 : a.one = true) : v.oneCell' = true := by
  cases h with
  | d _ _ h => cases h with
    | s _ h => exact h
    | nil => rfl
    | emp => rfl
    | sl => rfl
    | ref => rfl
    | agg => cases h1
    | tup => cases h1
  | ptr => rfl
  | osl _ _ _ _ _ _ h => cases h <;> rfl
  | fn => rfl
  | junk => cases h1
  | agg => cases h1
  | tup => cases h1
theorem RL.one {H : View} {ε : Env} {vs : List Value} {cs : List AV} (h : RL H ε vs cs) (h1 : ∀ c ∈ cs, c.one = true) : ∀ v ∈ vs, v.oneCell' = true := by
  induction cs generalizing vs with
  | nil => cases h; simp
  | cons c cs ih =>
    cases h with
    | cons v _ vs _ h t =>
      intro u hu
      rcases List.mem_cons.1 hu with rfl | hu
      · exact h.one (h1 _ (by simp))
      · exact ih t (fun c hc => h1 c (by simp [hc])) u hu
theorem cells_one {v : Value} (h : v.oneCell' = true) : v.cells = #[v] := by
  cases v <;> first | rfl | (simp [Value.oneCell'] at h)
/-- The cells of a value that reads so. -/
theorem R.cells {H : View} {ε : Env} {v : Value} {a : AV} (h : R H ε v a) (h1 : a.one = true ∨ ∃ cs, a = .agg cs) : RL H ε v.cells.toList a.cells := by
  rcases h1 with h1 | ⟨cs, rfl⟩
  · rw [cells_one (h.one h1)]
    have : a.cells = [a] := by cases a <;> first | rfl | (simp [AV.one] at h1)
    rw [this]; exact .cons _ _ _ _ h .nil
  · obtain ⟨vs, rfl, hr⟩ := h.agg_inv
    simpa [Value.cells, AV.cells] using hr

end Go.Sy

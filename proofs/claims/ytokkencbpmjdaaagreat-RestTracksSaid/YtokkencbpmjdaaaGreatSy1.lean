/- The symbolic layer, first part: symbolic values, what it means that a value reads as one, and that this stays so when memory grows. No condition. -/
import Derived.WalkKit
import Derived.OrdersIn
import Derived.RangeFuncIn
import Derived.WalkSpells
section
namespace Go.Sy

inductive AV where
  | s (v : Value)
  | agg (cs : List AV)
  | tup (cs : List AV)
  | sl (sz : Nat) (es : List (List AV))
  | ol (sz : Nat) (es : List (List AV))
  | wsl (sz : Nat) (es : List (List AV))
  | wref (cs : List AV)
  | hole
  | mark (id : Nat)
  | osl (p sz : Nat) (es : List (List AV))
  | ref (cs : List AV)
  | ptr (id off : Nat)
  | bsl (id off sz n cap : Nat)
  | fn (f : Fn) (first caps : List AV)
  | junk

structure View where
  f : Nat → Nat → Option Value
  lo : Nat
  lo2 : Nat
  wr : Nat → Nat → Prop
instance : CoeFun View (fun _ => Nat → Nat → Option Value) := ⟨View.f⟩

structure View.le (H H' : View) : Prop where
  cells : ∀ b o v, H b o = some v → H' b o = some v
  lo : H'.lo = H.lo
  lo2 : H'.lo2 = H.lo2
  wr : H'.wr = H.wr
def View.wb (H : View) (b : Nat) : Prop := ∃ o, H.wr b o
instance {H H' : View} : CoeFun (H.le H') (fun _ => ∀ b o v, H b o = some v → H' b o = some v) := ⟨View.le.cells⟩
theorem View.le_refl (H : View) : H.le H := ⟨fun _ _ _ h => h, rfl, rfl, rfl⟩
theorem View.le_trans {H H' H'' : View} (h : H.le H') (h' : H'.le H'') : H.le H'' := ⟨fun b o v k => h' b o v (h b o v k), h'.lo.trans h.lo, h'.lo2.trans h.lo2, h'.wr.trans h.wr⟩

mutual
inductive D (H : View) : Value → AV → Prop
  | s (v : Value) (h : v.oneCell' = true) : D H v (.s v)
  | agg (vs : List Value) (cs : List AV) (h : DL H vs cs) : D H (.agg vs.toArray) (.agg cs)
  | tup (vs : List Value) (cs : List AV) (h : DL H vs cs) : D H (.tuple vs.toArray) (.tup cs)
  | nil (sz : Nat) : D H (.slice none 0 0) (.sl sz [])
  | emp (a : Addr) (cap sz : Nat) : D H (.slice (some a) 0 cap) (.sl sz [])
  | sl (b off cap sz : Nat) (es : List (List AV)) (hcap : es.length ≤ cap) (hsz : ∀ e ∈ es, e.length = sz) (hlo : es.flatten ≠ [] → H.lo ≤ b) (h : DM H b off es.flatten) :
      D H (.slice (some ⟨b, off, none⟩) es.length cap) (.sl sz es)
  | onil (sz : Nat) : D H (.slice none 0 0) (.ol sz [])
  | oemp (a : Addr) (cap sz : Nat) : D H (.slice (some a) 0 cap) (.ol sz [])
  | ol (b off cap sz : Nat) (es : List (List AV)) (hcap : es.length ≤ cap) (hsz : ∀ e ∈ es, e.length = sz) (hlo : es.flatten ≠ [] → H.lo2 ≤ b ∧ b < H.lo) (h : DM H b off es.flatten) :
      D H (.slice (some ⟨b, off, none⟩) es.length cap) (.ol sz es)
  | wnil (sz : Nat) : D H (.slice none 0 0) (.wsl sz [])
  | wemp (a : Addr) (cap sz : Nat) : D H (.slice (some a) 0 cap) (.wsl sz [])
  | wsl (b off cap sz : Nat) (es : List (List AV)) (hcap : es.length ≤ cap) (hsz : ∀ e ∈ es, e.length = sz) (h : WM H b off es.flatten) :
      D H (.slice (some ⟨b, off, none⟩) es.length cap) (.wsl sz es)
  | wref (b off : Nat) (cs : List AV) (h : WM H b off cs) : D H (.pointer (some ⟨b, off, none⟩)) (.wref cs)
  | ref (b off : Nat) (cs : List AV) (h : DM H b off cs) : D H (.pointer (some ⟨b, off, none⟩)) (.ref cs)
inductive DL (H : View) : List Value → List AV → Prop
  | nil : DL H [] []
  | cons (v : Value) (c : AV) (vs : List Value) (cs : List AV) (h : D H v c) (t : DL H vs cs) : DL H (v :: vs) (c :: cs)
inductive DM (H : View) : Nat → Nat → List AV → Prop
  | nil (b o : Nat) : DM H b o []
  | cons (b o : Nat) (v : Value) (c : AV) (cs : List AV) (hv : H b o = some v) (h1 : v.oneCell' = true) (h : D H v c) (t : DM H b (o + 1) cs) : DM H b o (c :: cs)
inductive WM (H : View) : Nat → Nat → List AV → Prop
  | nil (b o : Nat) : WM H b o []
  | hole (b o : Nat) (cs : List AV) (hw : H.wr b o) (t : WM H b (o + 1) cs) : WM H b o (.hole :: cs)
  | cons (b o : Nat) (v : Value) (c : AV) (cs : List AV) (hv : H b o = some v) (h1 : v.oneCell' = true) (h : D H v c) (t : WM H b (o + 1) cs) : WM H b o (c :: cs)
end

mutual
theorem D.mono {H H' : View} (hH : H.le H') : ∀ {v : Value} {c : AV}, D H v c → D H' v c
  | _, _, .s v h => .s v h
  | _, _, .agg vs cs h => .agg vs cs (DL.mono hH h)
  | _, _, .tup vs cs h => .tup vs cs (DL.mono hH h)
  | _, _, .nil sz => .nil sz
  | _, _, .emp a cap sz => .emp a cap sz
  | _, _, .sl b off cap sz es hcap hsz hlo h => .sl b off cap sz es hcap hsz (by rw [hH.lo]; exact hlo) (DM.mono hH h)
  | _, _, .onil sz => .onil sz
  | _, _, .oemp a cap sz => .oemp a cap sz
  | _, _, .ol b off cap sz es hcap hsz hlo h => .ol b off cap sz es hcap hsz (by rw [hH.lo2, hH.lo]; exact hlo) (DM.mono hH h)
  | _, _, .wnil sz => .wnil sz
  | _, _, .wemp a cap sz => .wemp a cap sz
  | _, _, .wsl b off cap sz es hcap hsz h => .wsl b off cap sz es hcap hsz (WM.mono hH h)
  | _, _, .wref b off cs h => .wref b off cs (WM.mono hH h)
  | _, _, .ref b off cs h => .ref b off cs (DM.mono hH h)
theorem DL.mono {H H' : View} (hH : H.le H') : ∀ {vs : List Value} {cs : List AV}, DL H vs cs → DL H' vs cs
  | _, _, .nil => .nil
  | _, _, .cons v c vs cs h t => .cons v c vs cs (D.mono hH h) (DL.mono hH t)
theorem DM.mono {H H' : View} (hH : H.le H') : ∀ {b o : Nat} {cs : List AV}, DM H b o cs → DM H' b o cs
  | _, _, _, .nil b o => .nil b o
  | _, _, _, .cons b o v c cs hv h1 h t => .cons b o v c cs (hH _ _ _ hv) h1 (D.mono hH h) (DM.mono hH t)
theorem WM.mono {H H' : View} (hH : H.le H') : ∀ {b o : Nat} {cs : List AV}, WM H b o cs → WM H' b o cs
  | _, _, _, .nil b o => .nil b o
  | _, _, _, .hole b o cs hw t => .hole b o cs (hH.wr ▸ hw) (WM.mono hH t)
  | _, _, _, .cons b o v c cs hv h1 h t => .cons b o v c cs (hH _ _ _ hv) h1 (D.mono hH h) (WM.mono hH t)
end

inductive Loc where
  | blk (b : Nat)
  | row (v : Value) (n : Nat)

abbrev Env := Nat → Option Loc

def Env.le (ε ε' : Env) : Prop := ∀ id l, ε id = some l → match l with
  | .blk b => ε' id = some (.blk b)
  | .row v n => ∃ v' n', ε' id = some (.row v' n') ∧ n ≤ n' ∧ (n' = n → v' = v)

theorem Env.le_refl (ε : Env) : ε.le ε := fun id l h => by
  cases l with
  | blk b => exact h
  | row v n => exact ⟨v, n, h, Nat.le_refl _, fun _ => rfl⟩
theorem Env.le_trans {ε ε' ε'' : Env} (h : ε.le ε') (h' : ε'.le ε'') : ε.le ε'' := fun id l hl => by
  cases l with
  | blk b => exact h' id (.blk b) (h id (.blk b) hl)
  | row v n =>
    obtain ⟨v', n', e1, l1, q1⟩ := h id (.row v n) hl
    obtain ⟨v'', n'', e2, l2, q2⟩ := h' id (.row v' n') e1
    refine ⟨v'', n'', e2, by omega, fun he => ?_⟩
    have : n'' = n' := by omega
    have : n' = n := by omega
    rw [q2 (by omega), q1 (by omega)]
theorem Env.le_new {ε : Env} {id : Nat} {l : Loc} (h : ε id = none) : ε.le (fun i => if i = id then some l else ε i) := fun i l' hl => by
  have hne : i ≠ id := fun e => by rw [e, h] at hl; cases hl
  cases l' with
  | blk b => simp [hne, hl]
  | row v n => exact ⟨v, n, by simp [hne, hl], Nat.le_refl _, fun _ => rfl⟩

mutual
inductive R (H : View) (ε : Env) : Value → AV → Prop
  | d (v : Value) (c : AV) (h : D H v c) : R H ε v c
  | junk (v : Value) : R H ε v .junk
  | mark (v : Value) (id b : Nat) (h : ε id = some (.blk b)) (hb : b ≤ H.lo) : R H ε v (.mark id)
  | ptr (id off b : Nat) (h : ε id = some (.blk b)) : R H ε (.pointer (some ⟨b, off, none⟩)) (.ptr id off)
  | bsl (id off sz n cap b : Nat) (h : ε id = some (.blk b)) (hn : n ≤ cap) (hlo : H.lo ≤ b) : R H ε (.slice (some ⟨b, off, none⟩) n cap) (.bsl id off sz n cap)
  | osl (p sz : Nat) (es : List (List AV)) (v v0 : Value) (n : Nat) (h : D H v (.sl sz es)) (hp : ε p = some (.row v0 n)) (hle : es.length ≤ n) (he : es.length = n → v = v0) : R H ε v (.osl p sz es)
  | agg (vs : List Value) (cs : List AV) (h : RL H ε vs cs) : R H ε (.agg vs.toArray) (.agg cs)
  | tup (vs : List Value) (cs : List AV) (h : RL H ε vs cs) : R H ε (.tuple vs.toArray) (.tup cs)
  | fn (f : Fn) (f1 c1 : List Value) (f2 c2 : List AV) (hf : RL H ε f1 f2) (hc : RL H ε c1 c2) : R H ε (.func f f1.toArray c1.toArray) (.fn f f2 c2)
inductive RL (H : View) (ε : Env) : List Value → List AV → Prop
  | nil : RL H ε [] []
  | cons (v : Value) (c : AV) (vs : List Value) (cs : List AV) (h : R H ε v c) (t : RL H ε vs cs) : RL H ε (v :: vs) (c :: cs)
end

mutual
theorem R.mono {H H' : View} {ε ε' : Env} (hH : H.le H') (hε : ε.le ε') : ∀ {v : Value} {c : AV}, R H ε v c → R H' ε' v c
  | _, _, .d v c h => .d v c (h.mono hH)
  | _, _, .junk v => .junk v
  | _, _, .mark v id b h hb => .mark v id b (hε id _ h) (by rw [hH.lo]; exact hb)
  | _, _, .ptr id off b h => .ptr id off b (hε id _ h)
  | _, _, .bsl id off sz n cap b h hn hlo => .bsl id off sz n cap b (hε id _ h) hn (hH.lo ▸ hlo)
  | _, _, .osl p sz es v v0 n h hp hle he => by
    obtain ⟨v', n', e1, l1, q1⟩ := hε p _ hp
    refine .osl p sz es v v' n' (h.mono hH) e1 (by omega) (fun hn => ?_)
    have hn' : n' = n := by omega
    rw [q1 hn']; exact he (by omega)
  | _, _, .agg vs cs h => .agg vs cs (RL.mono hH hε h)
  | _, _, .tup vs cs h => .tup vs cs (RL.mono hH hε h)
  | _, _, .fn f f1 c1 f2 c2 hf hc => .fn f f1 c1 f2 c2 (RL.mono hH hε hf) (RL.mono hH hε hc)
theorem RL.mono {H H' : View} {ε ε' : Env} (hH : H.le H') (hε : ε.le ε') : ∀ {vs : List Value} {cs : List AV}, RL H ε vs cs → RL H' ε' vs cs
  | _, _, .nil => .nil
  | _, _, .cons v c vs cs h t => .cons v c vs cs (R.mono hH hε h) (RL.mono hH hε t)
end

theorem RL.of_DL {H : View} {ε : Env} : ∀ {vs : List Value} {cs : List AV}, DL H vs cs → RL H ε vs cs
  | _, _, .nil => .nil
  | _, _, .cons v c vs cs h t => .cons v c vs cs (.d v c h) (RL.of_DL t)

theorem RL.length_eq {H : View} {ε : Env} {vs : List Value} {cs : List AV} (h : RL H ε vs cs) : vs.length = cs.length := by
  induction cs generalizing vs with
  | nil => cases h; rfl
  | cons c cs ih => cases h with | cons v _ vs _ _ t => simp [ih t]
theorem DL.length_eq {H : View} {vs : List Value} {cs : List AV} (h : DL H vs cs) : vs.length = cs.length := RL.length_eq (ε := fun _ => none) (RL.of_DL h)

theorem RL.get {H : View} {ε : Env} {vs : List Value} {cs : List AV} (h : RL H ε vs cs) {i : Nat} {c : AV} (hc : cs[i]? = some c) : ∃ v, vs[i]? = some v ∧ R H ε v c := by
  induction cs generalizing vs i with
  | nil => simp at hc
  | cons c' cs ih =>
    cases h with
    | cons v _ vs _ h t =>
      cases i with
      | zero => simp at hc; subst hc; exact ⟨v, rfl, h⟩
      | succ i => simp at hc; obtain ⟨v', e, r⟩ := ih t hc; exact ⟨v', by simpa using e, r⟩
theorem RL.drop {H : View} {ε : Env} {vs : List Value} {cs : List AV} (h : RL H ε vs cs) (n : Nat) : RL H ε (vs.drop n) (cs.drop n) := by
  induction n generalizing vs cs with
  | zero => simpa using h
  | succ n ih => cases h with
    | nil => simpa using RL.nil
    | cons v c vs cs h t => simpa using ih t
theorem RL.take {H : View} {ε : Env} {vs : List Value} {cs : List AV} (h : RL H ε vs cs) (n : Nat) : RL H ε (vs.take n) (cs.take n) := by
  induction n generalizing vs cs with
  | zero => simpa using RL.nil
  | succ n ih => cases h with
    | nil => simpa using RL.nil
    | cons v c vs cs h t => simpa using RL.cons _ _ _ _ h (ih t)
theorem RL.append {H : View} {ε : Env} {vs vs' : List Value} {cs cs' : List AV} (h : RL H ε vs cs) (h' : RL H ε vs' cs') : RL H ε (vs ++ vs') (cs ++ cs') := by
  induction cs generalizing vs with
  | nil => cases h; simpa using h'
  | cons c cs ih => cases h with | cons v _ vs _ h t => exact .cons _ _ _ _ h (ih t)

structure LpS where
  fn : FuncId
  ps : Array Tmp
  assign : Code
  body : Code
inductive RawO where
  | lp (s : LoopState) (pe : Option Code) (k : LpS)
  | df
def RawO.obj : RawO → List Value → Nat → Obj
  | .lp s pe k, vs, d => .loop { state := s, pending := pe, fn := k.fn, tmps := vs.toArray, params := k.ps, assign := k.assign, body := k.body, defers := d }
  | .df, _, _ => .deferred (some [])
inductive Ob where
  | box (cs : List AV)
  | perm (e : TypeId) (sz n : Nat)
  | raw (b : Nat) (o : RawO) (cs : List AV)
  | gone
def Ob.opt : Ob → Option Ob
  | .gone => none
  | .box cs => some (.box cs)
  | .perm e sz n => some (.perm e sz n)
  | .raw b o cs => some (.raw b o cs)

structure St where
  tm : Nat → AV
  ob : Nat → Option Ob
  nx : Nat

def blkOf : Option Loc → Option Nat
  | some (.blk b) => some b
  | some (.row v _) => v.ownBlock
  | none => none

def ObOK (H : View) (ε : Env) (w : World) (id : Nat) : Ob → Prop
  | .box cs => ∃ b arr T, ε id = some (.blk b) ∧ w.heap[b]? = some (.cells arr T (0, 0)) ∧ RL H ε arr.toList cs ∧ True ∧ ∀ o, H b o = none
  | .perm e sz n => ∃ v xs, ε id = some (.row v n) ∧ w.ownsRow 0 e sz v n xs ∧ 0 < sz ∧ ∀ g, v.ownBlock = some g → H.lo ≤ g ∧ ∀ o, n * sz ≤ o → H g o = none
  | .raw b q cs => ∃ vs d, ε id = some (.blk b) ∧ w.heap[b]? = some (q.obj vs d) ∧ RL H ε vs cs ∧ ∀ o, H b o = none
  | .gone => False
theorem ObOK.opt {H : View} {ε : Env} {w : World} {id : Nat} {x : Ob} (h : ObOK H ε w id x) : x.opt = some x := by cases x <;> first | rfl | exact h.elim
theorem Ob.opt_some {x y : Ob} (h : x.opt = some y) : x = y := by cases x <;> first | (cases h; rfl) | cases h

structure Ctx where
  N : Nat
  w0 : World
  H0 : View
  E0 : Env
  S : Nat → Prop
  D : List Deferred := []
  ro : Option Nat := none

structure Mem (c : Ctx) (H : View) (ε : Env) (ob : Nat → Option Ob) (w : World) : Prop where
  view : ∀ b o v, H b o = some v → w.cell? ⟨b, o, none⟩ = some v
  objs : ∀ id x, ob id = some x → ObOK H ε w id x
  dj : ∀ i j, ob i ≠ none → ob j ≠ none → i ≠ j → ∀ b, blkOf (ε i) = some b → blkOf (ε j) ≠ some b
  own : ∀ id, ob id ≠ none → ∀ b, blkOf (ε id) = some b → c.w0.heap.size ≤ b ∨ (c.S b ∧ blkOf (c.E0 id) = some b)
  os : w.os = c.w0.os
  tape : w.tape = c.w0.tape
  output : w.output = c.w0.output
  size : c.w0.heap.size ≤ w.heap.size
  block : ∀ k, k < c.w0.heap.size → ¬ c.S k → ¬ H.wb k → w.heap[k]? = c.w0.heap[k]?
  hle : c.H0.le H
  hold : ∀ b o, b < c.w0.heap.size → ¬ c.S b → ¬ H.wb b → H b o = c.H0 b o
  ele : c.E0.le ε
  low : ∀ id, 16 ≤ id → c.E0 id = none
  top : ∀ b o, c.w0.heap.size ≤ b → c.H0 b o = none
  lo : H.lo ≤ w.heap.size ∧ H.lo2 ≤ H.lo
  fz : ∀ b o v, H b o = some v → c.w0.heap.size ≤ b ∨ c.S b ∨ H.wb b → w.frozen? ⟨b, o, none⟩ = false
  wr : ∀ b o, H.wr b o → H b o = none ∧ (∃ v, w.cell? ⟨b, o, none⟩ = some v ∧ v.oneCell' = true ∧ w.frozen? ⟨b, o, none⟩ = false) ∧ ∀ id, ob id ≠ none → blkOf (ε id) ≠ some b

structure Inv (c : Ctx) (H : View) (ε : Env) (σ : St) (a : Act) (w : World) : Prop where
  sz : a.tmps.size = c.N
  df : a.defers = c.D
  tm : ∀ i, R H ε (a.tmps.getD i undef) (σ.tm i)
  mem : Mem c H ε σ.ob w
  dom : ∀ id, σ.nx ≤ id → ε id = none

theorem R.s_inv {H : View} {ε : Env} {v u : Value} (h : R H ε v (.s u)) : v = u ∧ u.oneCell' = true := by
  cases h with
  | d _ _ h => cases h with | s _ h => exact ⟨rfl, h⟩
theorem R.agg_inv {H : View} {ε : Env} {v : Value} {cs : List AV} (h : R H ε v (.agg cs)) : ∃ vs : List Value, v = .agg vs.toArray ∧ RL H ε vs cs := by
  cases h with
  | d _ _ h => cases h with | agg vs _ h => exact ⟨vs, rfl, .of_DL h⟩
  | agg vs _ h => exact ⟨vs, rfl, h⟩
theorem R.tup_inv {H : View} {ε : Env} {v : Value} {cs : List AV} (h : R H ε v (.tup cs)) : ∃ vs : List Value, v = .tuple vs.toArray ∧ RL H ε vs cs := by
  cases h with
  | d _ _ h => cases h with | tup vs _ h => exact ⟨vs, rfl, .of_DL h⟩
  | tup vs _ h => exact ⟨vs, rfl, h⟩
theorem R.sl_inv {H : View} {ε : Env} {v : Value} {sz : Nat} {es : List (List AV)} (h : R H ε v (.sl sz es)) : D H v (.sl sz es) := by
  cases h with | d _ _ h => exact h
theorem R.mark_inv {H : View} {ε : Env} {v : Value} {id : Nat} (h : R H ε v (.mark id)) : ∃ b, ε id = some (.blk b) ∧ b ≤ H.lo := by
  cases h with
  | d _ _ h => cases h
  | mark _ _ b h hb => exact ⟨b, h, hb⟩
theorem R.ol_inv {H : View} {ε : Env} {v : Value} {sz : Nat} {es : List (List AV)} (h : R H ε v (.ol sz es)) : D H v (.ol sz es) := by
  cases h with | d _ _ h => exact h
theorem R.wsl_inv {H : View} {ε : Env} {v : Value} {sz : Nat} {es : List (List AV)} (h : R H ε v (.wsl sz es)) : D H v (.wsl sz es) := by
  cases h with | d _ _ h => exact h
theorem R.wref_inv {H : View} {ε : Env} {v : Value} {cs : List AV} (h : R H ε v (.wref cs)) : ∃ b off, v = .pointer (some ⟨b, off, none⟩) ∧ WM H b off cs := by
  cases h with | d _ _ h => cases h with | wref b off _ h => exact ⟨b, off, rfl, h⟩
theorem R.ref_inv {H : View} {ε : Env} {v : Value} {cs : List AV} (h : R H ε v (.ref cs)) : ∃ b off, v = .pointer (some ⟨b, off, none⟩) ∧ DM H b off cs := by
  cases h with | d _ _ h => cases h with | ref b off _ h => exact ⟨b, off, rfl, h⟩
theorem R.ptr_inv {H : View} {ε : Env} {v : Value} {id off : Nat} (h : R H ε v (.ptr id off)) : ∃ b, v = .pointer (some ⟨b, off, none⟩) ∧ ε id = some (.blk b) := by
  cases h with
  | d _ _ h => cases h
  | ptr _ _ b h => exact ⟨b, rfl, h⟩
theorem R.bsl_inv {H : View} {ε : Env} {v : Value} {id off sz n cap : Nat} (h : R H ε v (.bsl id off sz n cap)) : ∃ b, v = .slice (some ⟨b, off, none⟩) n cap ∧ ε id = some (.blk b) ∧ n ≤ cap ∧ H.lo ≤ b := by
  cases h with
  | d _ _ h => cases h
  | bsl _ _ _ _ _ b h hn hlo => exact ⟨b, rfl, h, hn, hlo⟩
theorem R.osl_inv {H : View} {ε : Env} {v : Value} {p sz : Nat} {es : List (List AV)} (h : R H ε v (.osl p sz es)) :
    D H v (.sl sz es) ∧ ∃ v0 n, ε p = some (.row v0 n) ∧ es.length ≤ n ∧ (es.length = n → v = v0) := by
  cases h with
  | d _ _ h => cases h
  | osl _ _ _ _ v0 n h hp hle he => exact ⟨h, v0, n, hp, hle, he⟩
theorem R.fn_inv {H : View} {ε : Env} {v : Value} {f : Fn} {f2 c2 : List AV} (h : R H ε v (.fn f f2 c2)) :
    ∃ f1 c1 : List Value, v = .func f f1.toArray c1.toArray ∧ RL H ε f1 f2 ∧ RL H ε c1 c2 := by
  cases h with
  | d _ _ h => cases h
  | fn _ f1 c1 _ _ hf hc => exact ⟨f1, c1, rfl, hf, hc⟩

def AV.one : AV → Bool
  | .s _ | .sl .. | .ol .. | .wsl .. | .wref _ | .osl .. | .ref _ | .ptr .. | .bsl .. | .fn .. => true
  | _ => false
def AV.cells : AV → List AV
  | .agg cs => cs
  | a => [a]
theorem R.one {H : View} {ε : Env} {v : Value} {a : AV} (h : R H ε v a) (h1 : a.one = true) : v.oneCell' = true := by
  cases h with
  | d _ _ h => cases h with
    | s _ h => exact h
    | nil => rfl
    | emp => rfl
    | sl => rfl
    | ol => rfl
    | onil => rfl
    | oemp => rfl
    | wsl => rfl
    | wnil => rfl
    | wemp => rfl
    | wref => rfl
    | ref => rfl
    | agg => cases h1
    | tup => cases h1
  | ptr => rfl
  | bsl => rfl
  | osl _ _ _ _ _ _ h => cases h <;> rfl
  | fn => rfl
  | junk => cases h1
  | mark => cases h1
  | agg => cases h1
  | tup => cases h1
theorem RL.one {H : View} {ε : Env} {vs : List Value} {cs : List AV} (h : RL H ε vs cs) (h1 : ∀ c ∈ cs, c.one = true) : ∀ v ∈ vs, v.oneCell' = true := by
  induction cs generalizing vs with
  | nil => cases h; simp
  | cons c cs ih =>
    cases h with
    | cons v _ vs _ h t =>
      intro u hu
      rcases List.mem_cons.1 hu with rfl | hu
      · exact h.one (h1 _ (by simp))
      · exact ih t (fun c hc => h1 c (by simp [hc])) u hu
theorem cells_one {v : Value} (h : v.oneCell' = true) : v.cells = #[v] := by
  cases v <;> first | rfl | (simp [Value.oneCell'] at h)
theorem R.cells {H : View} {ε : Env} {v : Value} {a : AV} (h : R H ε v a) (h1 : a.one = true ∨ ∃ cs, a = .agg cs) : RL H ε v.cells.toList a.cells := by
  rcases h1 with h1 | ⟨cs, rfl⟩
  · rw [cells_one (h.one h1)]
    have : a.cells = [a] := by cases a <;> first | rfl | (simp [AV.one] at h1)
    rw [this]; exact .cons _ _ _ _ h .nil
  · obtain ⟨vs, rfl, hr⟩ := h.agg_inv
    simpa [Value.cells, AV.cells] using hr

end Go.Sy
end
section
namespace Go.Sy

inductive Kd where
  | slice (e : TypeId) | struct | array | str | int (k : IntKind) | bool | ptr (e : TypeId) | other
  deriving DecidableEq

def kdOf : TypeDesc → Kd
  | .slice e => .slice e
  | .struct _ => .struct
  | .array _ _ => .array
  | .string => .str
  | .int k => .int k
  | .bool => .bool
  | .pointer e => .ptr e
  | _ => .other

def isAggD : TypeDesc → Bool
  | .struct _ | .array _ _ => true
  | _ => false

structure TY where
  n : Nat
  bytes : Nat
  kd : Kd
  zero : List Value
  fields : List (Option (Nat × Nat × Bool))

def tyField (P : Program) (f : Field) : Option (Nat × Nat × Bool) :=
  match P.info? f.type, P.underlying f.type with
  | some i, some d => some (f.offset, i.size, isAggD d)
  | _, _ => none

def ty (P : Program) (t : TypeId) : Option TY :=
  match P.info? t, P.underlying t with
  | some i, some d =>
    match i.zero with
    | some z => some { n := i.size, bytes := i.bytes, kd := kdOf d, zero := z.cells.toList, fields := match d with | .struct fs => fs.toList.map (tyField P) | _ => [] }
    | none => none
  | _, _ => none

def Kd.agg : Kd → Bool
  | .struct | .array => true
  | _ => false
theorem kdOf_agg (d : TypeDesc) : (kdOf d).agg = isAggD d := by cases d <;> rfl

theorem ty_inv {P : Program} {t : TypeId} {T : TY} (h : ty P t = some T) : ∃ i d z, P.info? t = some i ∧ P.underlying t = some d ∧ i.zero = some z ∧ T.n = i.size ∧ T.bytes = i.bytes ∧ T.kd = kdOf d ∧
    T.zero = z.cells.toList ∧ T.fields = (match d with | .struct fs => fs.toList.map (tyField P) | _ => []) := by
  unfold ty at h
  split at h
  · rename_i i d hi hd
    split at h
    · rename_i z hz
      cases h
      exact ⟨i, d, z, hi, hd, hz, rfl, rfl, rfl, rfl, rfl⟩
    · cases h
  · cases h

theorem run_typeInfo' {P : Program} {t : TypeId} {i : TypeInfo} (h : P.info? t = some i) (w : World) : (typeInfo t).run P w = .ok i w := by
  simp [typeInfo, h]
theorem run_underlying' {P : Program} {t : TypeId} {d : TypeDesc} (h : P.underlying t = some d) (w : World) : (underlying t).run P w = .ok d w := by
  simp [underlying, h]
theorem run_sizeOf' {P : Program} {t : TypeId} {i : TypeInfo} (h : P.info? t = some i) (w : World) : (sizeOf t).run P w = .ok i.size w := by
  simp [sizeOf, run_typeInfo' h]
theorem run_isAgg' {P : Program} {t : TypeId} {d : TypeDesc} (h : P.underlying t = some d) (w : World) : (isAgg t).run P w = .ok (isAggD d) w := by
  simp only [isAgg, Sem.run_bind, run_underlying' h, Result.andThen_ok]
  cases d <;> rfl
theorem run_zeroValue' {P : Program} {t : TypeId} {i : TypeInfo} {z : Value} (h : P.info? t = some i) (hz : i.zero = some z) (w : World) : (zeroValue t).run P w = .ok z w := by
  simp [zeroValue, run_typeInfo' h, hz]

def constAV : Value → AV
  | .agg cs => if cs.toList.all (·.oneCell') then .agg (cs.toList.map .s) else .junk
  | .tuple vs => if vs.size = 0 then .tup [] else .junk
  | v => .s v

def St.ev (σ : St) : Operand → AV
  | .tmp t => σ.tm t
  | .const v => constAV v
  | .global _ => .junk
  | .func f => .fn (.func f) [] []

theorem DL_consts (H : View) : ∀ (vs : List Value), vs.all (·.oneCell') = true → DL H vs (vs.map .s)
  | [], _ => .nil
  | v :: vs, h => by simp at h; exact .cons _ _ _ _ (.s v h.1) (DL_consts H vs (by simpa using h.2))

theorem R_const (H : View) (ε : Env) (v : Value) : R H ε v (constAV v) := by
  unfold constAV
  split
  · rename_i cs
    split
    · rename_i h
      have := R.d (H := H) (ε := ε) _ _ (.agg _ _ (DL_consts H cs.toList h))
      simpa using this
    · exact .junk _
  · rename_i vs
    split
    · rename_i h
      have : vs = #[] := by simpa using h
      subst this
      exact .d _ _ (.tup [] [] .nil)
    · exact .junk _
  · rename_i h1 h2
    refine .d _ _ (.s v ?_)
    cases v <;> first | rfl | exact absurd rfl (h1 _) | exact absurd rfl (h2 _)

theorem R_ev {H : View} {ε : Env} {σ : St} {a : Act} (h : ∀ i, R H ε (a.tmps.getD i undef) (σ.tm i)) (x : Operand) : R H ε (a.eval x) (σ.ev x) := by
  cases x with
  | tmp t => exact h t
  | const v => exact R_const H ε v
  | global g => exact .junk _
  | func f => exact .fn (.func f) [] [] [] [] .nil .nil

def Fresh (ε : Env) (nb : Nat) : Prop := ∀ id, nb ≤ id → id < nb + 16 → ε id = none

def wf (ro : Option Nat) : Fence := { Fence.wide with round := ro }
theorem wpIn_of_wp {P : Program} {ro : Option Nat} {o : Oper} {a : Act} {w : World} {next : Act → World → Prop} {Q : Exit → Act → World → Prop} (hd : ∀ c, o.op ≠ .defer c) (h : o.wp P a w next Q) : o.wpIn (wf ro) 0 P a w next Q := by
  refine ⟨fun _ _ => trivial, ?_⟩
  rw [Oper.semAt_eq _ _ _ hd]
  unfold Oper.wp at h
  generalize (execOp a.eval o).run P w = r at h ⊢
  unfold Oper.upon at h
  split at h
  · exact h
  · exact h
  · exact h
  · exact ⟨fun h => by simp [wf, Fence.wide] at h, callsIn_wide.2 h⟩
  · exact ⟨fun h => by simp [wf, Fence.wide] at h, fun c cs _ => let ⟨v, w', q, s⟩ := h c cs; ⟨v, w', q, stepsIn_wide.2 s⟩⟩
  · exact h
  · exact h.elim
theorem no_defer {P : Program} {o : Oper} {ρ : Operand → Value} {w w' : World} {v : Value} (h : (execOp ρ o).run P w = .ok (.value v) w') : ∀ c, o.op ≠ .defer c := by
  intro c hc
  simp only [execOp, hc, Sem.run_bind] at h
  cases hr : (resolve ρ c o.type).run P w <;> rw [hr] at h <;> simp [Result.andThen] at h

def OpS (P : Program) (nb : Nat) (op : Op) (t : TypeId) (σ : St) (r : AV) (ob' : Nat → Option Ob) : Prop :=
  ∀ (c : Ctx) (H : View) (ε : Env) (a : Act) (w : World) (o : Oper), o.op = op → o.type = t → Mem c H ε σ.ob w → (∀ i, R H ε (a.tmps.getD i undef) (σ.tm i)) → Fresh ε nb →
    ∀ (next : Act → World → Prop) (Q : Exit → Act → World → Prop),
      (∀ v w' H' ε', H.le H' → ε.le ε' → (∀ id, ε id = none → ¬ (nb ≤ id ∧ id < nb + 16) → ε' id = none) → R H' ε' v r → Mem c H' ε' ob' w' → next (a.put o.dst v) w') → o.wpIn (wf c.ro) 0 P a w next Q

theorem OpS.pure {P : Program} {nb : Nat} {op : Op} {t : TypeId} {σ : St} {r : AV}
    (h : ∀ (c : Ctx) (H : View) (ε : Env) (ρ : Operand → Value) (w : World) (o : Oper), o.op = op → o.type = t → Mem c H ε σ.ob w → (∀ x, R H ε (ρ x) (σ.ev x)) →
      ∃ v, (execOp ρ o).run P w = .ok (.value v) w ∧ R H ε v r) : OpS P nb op t σ r σ.ob := by
  intro c H ε a w o ho ht hm hr _ next Q hn
  obtain ⟨v, hv, hR⟩ := h c H ε a.eval w o ho ht hm (R_ev hr)
  refine wpIn_of_wp (no_defer hv) ?_
  unfold Oper.wp
  rw [hv]
  exact hn v w H ε (View.le_refl H) (Env.le_refl ε) (fun _ h _ => h) hR hm

theorem OpS.run {P : Program} {nb : Nat} {op : Op} {t : TypeId} {σ : St} {r : AV} {ob' : Nat → Option Ob}
    (h : ∀ (c : Ctx) (H : View) (ε : Env) (ρ : Operand → Value) (w : World) (o : Oper), o.op = op → o.type = t → Mem c H ε σ.ob w → (∀ x, R H ε (ρ x) (σ.ev x)) → Fresh ε nb →
      ∃ v w' H' ε', (execOp ρ o).run P w = .ok (.value v) w' ∧ H.le H' ∧ ε.le ε' ∧ (∀ id, ε id = none → ¬ (nb ≤ id ∧ id < nb + 16) → ε' id = none) ∧ R H' ε' v r ∧ Mem c H' ε' ob' w') :
    OpS P nb op t σ r ob' := by
  intro c H ε a w o ho ht hm hr hf next Q hn
  obtain ⟨v, w', H', ε', hv, h1, h2, h3, h4, h5⟩ := h c H ε a.eval w o ho ht hm (R_ev hr) hf
  refine wpIn_of_wp (no_defer hv) ?_
  unfold Oper.wp
  rw [hv]
  exact hn v w' H' ε' h1 h2 h3 h4 h5

section pureops
variable {P : Program} {nb : Nat} {t : TypeId} {σ : St}

theorem opS_move (x : Operand) : OpS P nb (.move x) t σ (σ.ev x) σ.ob :=
  .pure fun _ _ _ ρ _ o ho _ _ hr => ⟨ρ x, by simp [execOp, ho], hr x⟩
theorem opS_assign (x : Operand) : OpS P nb (.assign x) t σ (σ.ev x) σ.ob :=
  .pure fun _ _ _ ρ _ o ho _ _ hr => ⟨ρ x, by simp [execOp, ho], hr x⟩
theorem opS_pick (c x y : Operand) (b : Bool) (h : σ.ev c = .s (.bool b)) : OpS P nb (.pick c x y) t σ (if b then σ.ev x else σ.ev y) σ.ob :=
  .pure fun _ _ _ ρ _ o ho _ _ hr => by
    have hc := hr c; rw [h] at hc
    refine ⟨if b then ρ x else ρ y, by simp [execOp, ho, hc.s_inv.1, asBool], ?_⟩
    cases b
    · exact hr y
    · exact hr x
theorem opS_extract (x : Operand) (i : Nat) (cs : List AV) (r : AV) (h : σ.ev x = .tup cs) (hr' : cs[i]? = some r) : OpS P nb (.extract x i) t σ r σ.ob :=
  .pure fun _ _ _ ρ _ o ho _ _ hr => by
    have hc := hr x; rw [h] at hc
    obtain ⟨vs, hv, hl⟩ := hc.tup_inv
    obtain ⟨v, he, hR⟩ := hl.get hr'
    exact ⟨v, by simp [execOp, ho, hv, Instr.extract, he], hR⟩
theorem opS_not (t' : TypeId) (x : Operand) (b : Bool) (h : σ.ev x = .s (.bool b)) : OpS P nb (.unOp .not t' x) t σ (.s (.bool (!b))) σ.ob :=
  .pure fun _ _ _ ρ _ o ho _ _ hr => by
    have hc := hr x; rw [h] at hc
    exact ⟨.bool (!b), by simp [execOp, ho, hc.s_inv.1, Op.unary], .d _ _ (.s _ rfl)⟩
theorem opS_neg (t' : TypeId) (x : Operand) (k : IntKind) (n : Int) (h : σ.ev x = .s (.int k n)) : OpS P nb (.unOp .neg t' x) t σ (.s (.int k (k.wrap (0 - n)))) σ.ob :=
  .pure fun _ _ _ ρ _ o ho _ _ hr => by
    have hc := hr x; rw [h] at hc
    exact ⟨.int k (k.wrap (0 - n)), by simp [execOp, ho, hc.s_inv.1, Op.unary, Op.intArith], .d _ _ (.s _ rfl)⟩

def intOp (op : BinOp) (k : IntKind) (a b : Int) : Option Value :=
  match op with
  | .add => some (.int k (k.wrap (a + b)))
  | .sub => some (.int k (k.wrap (a - b)))
  | .mul => some (.int k (k.wrap (a * b)))
  | .quo => if b = 0 then none else some (.int k (k.wrap (a.tdiv b)))
  | .rem => if b = 0 then none else some (.int k (a.tmod b))
  | .and => some (.int k (k.wrap (BitVec.ofInt k.bits a &&& BitVec.ofInt k.bits b).toNat))
  | .or => some (.int k (k.wrap (BitVec.ofInt k.bits a ||| BitVec.ofInt k.bits b).toNat))
  | .shl => if b < 0 then none else some (.int k (k.wrap (a * 2 ^ min b.toNat k.bits)))
  | .shr => if b < 0 then none else some (.int k (a.fdiv (2 ^ min b.toNat k.bits)))
  | .eql => some (.bool (decide (a = b)))
  | .neq => some (.bool (decide (a ≠ b)))
  | .lss => some (.bool (decide (a < b)))
  | .leq => some (.bool (decide (a ≤ b)))
  | .gtr => some (.bool (decide (b < a)))
  | .geq => some (.bool (decide (b ≤ a)))
  | _ => none

theorem intOp_one {op : BinOp} {k : IntKind} {a b : Int} {v : Value} (h : intOp op k a b = some v) : v.oneCell' = true := by
  unfold intOp at h
  cases op <;> simp at h <;> first | (subst h; rfl) | (obtain ⟨_, h⟩ := h; subst h; rfl)

theorem run_intOp {op : BinOp} {k : IntKind} {a b : Int} {v : Value} (h : intOp op k a b = some v) (t' : TypeId) (w : World) (hne : op ≠ .shl) (hnr : op ≠ .shr) :
    (binOp op t' (.int k a) (.int k b)).run P w = .ok v w := by
  unfold intOp at h
  cases op <;> simp at h <;> first
    | exact absurd rfl hne
    | exact absurd rfl hnr
    | (subst h; simp [binOp, Op.intArith, Op.intBits, Op.intCmp, bne, BEq.beq]; done)
    | (obtain ⟨h0, h⟩ := h; subst h; simp [binOp, Op.intDiv, h0]; done)

theorem opS_int (op : BinOp) (t' u : TypeId) (x y : Operand) (k : IntKind) (a b : Int) (v : Value) (hx : σ.ev x = .s (.int k a)) (hy : σ.ev y = .s (.int k b)) (h : intOp op k a b = some v)
    (hne : op ≠ .shl) (hnr : op ≠ .shr) : OpS P nb (.binOp op t' x y u) t σ (.s v) σ.ob :=
  .pure fun _ _ _ ρ w o ho _ _ hr => by
    have h1 := hr x; have h2 := hr y; rw [hx] at h1; rw [hy] at h2
    refine ⟨v, ?_, .d _ _ (.s _ (intOp_one h))⟩
    simp [execOp, ho, h1.s_inv.1, h2.s_inv.1, eqGuard, run_intOp h t' w hne hnr]

theorem opS_shift (op : BinOp) (t' u : TypeId) (x y : Operand) (k k' : IntKind) (a b : Int) (v : Value) (hx : σ.ev x = .s (.int k a)) (hy : σ.ev y = .s (.int k' b)) (h : intOp op k a b = some v)
    (hop : op = .shl ∨ op = .shr) : OpS P nb (.binOp op t' x y u) t σ (.s v) σ.ob :=
  .pure fun _ _ _ ρ w o ho _ _ hr => by
    have h1 := hr x; have h2 := hr y; rw [hx] at h1; rw [hy] at h2
    refine ⟨v, ?_, .d _ _ (.s _ (intOp_one h))⟩
    unfold intOp at h
    rcases hop with rfl | rfl <;> simp at h <;> obtain ⟨h0, h⟩ := h <;> subst h <;> simp [execOp, ho, h1.s_inv.1, h2.s_inv.1, eqGuard, binOp, Op.shift, show ¬ b < 0 by omega]

def strOp (op : BinOp) (a b : ByteArray) : Option Value :=
  match op with
  | .add => if a.size + b.size ≤ 9223372036854775807 then some (.string (a ++ b)) else none
  | .eql => some (.bool (decide (a = b)))
  | .neq => some (.bool (decide (a ≠ b)))
  | _ => none

theorem beq_bytes (a b : ByteArray) : (a.toList == b.toList) = decide (a = b) := by
  rw [← beq_toListBytes, Bool.eq_iff_iff]
  have h : (a == b) = (a.data == b.data) := rfl
  rw [h]; simp [ByteArray.ext_iff]

theorem opS_str (op : BinOp) (t' u : TypeId) (x y : Operand) (a b : ByteArray) (v : Value) (hx : σ.ev x = .s (.string a)) (hy : σ.ev y = .s (.string b)) (h : strOp op a b = some v) :
    OpS P nb (.binOp op t' x y u) t σ (.s v) σ.ob :=
  .pure fun _ _ _ ρ w o ho _ _ hr => by
    have h1 := hr x; have h2 := hr y; rw [hx] at h1; rw [hy] at h2
    unfold strOp at h
    cases op <;> simp at h
    · obtain ⟨h0, h⟩ := h
      subst h
      refine ⟨_, ?_, .d _ _ (.s _ rfl)⟩
      have hm : ¬ ((a.size + b.size : Nat) : Int) > IntKind.i64.max := by
        have : IntKind.i64.max = 9223372036854775807 := by decide
        omega
      simp only [execOp, ho, h1.s_inv.1, h2.s_inv.1]
      simp [eqGuard, binOp, Op.stringOp]
      omega
    · subst h
      exact ⟨_, by simp [execOp, ho, h1.s_inv.1, h2.s_inv.1, eqGuard, binOp, Op.stringOp, beq_bytes], .d _ _ (.s _ rfl)⟩
    · subst h
      exact ⟨_, by simp [execOp, ho, h1.s_inv.1, h2.s_inv.1, eqGuard, binOp, Op.stringOp, beq_bytes], .d _ _ (.s _ rfl)⟩

theorem opS_bool (op : BinOp) (t' u : TypeId) (x y : Operand) (a b : Bool) (T : TY) (hT : ty P t' = some T) (hk : T.kd = .bool) (hx : σ.ev x = .s (.bool a)) (hy : σ.ev y = .s (.bool b)) (hop : op = .eql ∨ op = .neq) :
    OpS P nb (.binOp op t' x y u) t σ (.s (.bool (if op = .eql then a == b else !(a == b)))) σ.ob :=
  .pure fun _ _ _ ρ w o ho _ _ hr => by
    have h1 := hr x; have h2 := hr y; rw [hx] at h1; rw [hy] at h2
    obtain ⟨i, d, z, hi, hd, _, _, _, hkd, _⟩ := ty_inv hT
    have hd' : P.underlying t' = some .bool := by
      rw [hkd] at hk; cases d <;> simp [kdOf] at hk; exact hd
    refine ⟨_, ?_, .d _ _ (.s _ rfl)⟩
    rcases hop with rfl | rfl
    · simp [execOp, ho, h1.s_inv.1, h2.s_inv.1, eqGuard, run_eql_bool w t' a b hd']
    · simp [execOp, ho, h1.s_inv.1, h2.s_inv.1, eqGuard, run_neq_bool w t' a b hd']
end pureops
end Go.Sy
end
section
namespace Go.Sy

theorem DM.to_list {H : View} {b : Nat} : ∀ {cs : List AV} {o : Nat}, DM H b o cs → ∃ vs : List Value, vs.length = cs.length ∧ (∀ j u, vs[j]? = some u → H b (o + j) = some u) ∧ DL H vs cs ∧ ∀ u ∈ vs, u.oneCell' = true
  | [], o, _ => ⟨[], rfl, by simp, .nil, by simp⟩
  | c :: cs, o, h => by
    cases h with
    | cons _ _ v _ _ hv h1 h t =>
      obtain ⟨vs, hl, hc, hd, ho⟩ := DM.to_list t
      refine ⟨v :: vs, by simp [hl], ?_, .cons _ _ _ _ h hd, by simpa using ⟨h1, ho⟩⟩
      intro j u hj
      cases j with
      | zero => simp at hj; subst hj; simpa using hv
      | succ j => simp at hj; rw [show o + (j + 1) = o + 1 + j by omega]; exact hc j u hj

theorem DM.of_list {H : View} {b : Nat} : ∀ {vs : List Value} {cs : List AV} {o : Nat}, DL H vs cs → (∀ j u, vs[j]? = some u → H b (o + j) = some u) → (∀ u ∈ vs, u.oneCell' = true) → DM H b o cs
  | [], cs, o, h, _, _ => by cases h; exact .nil _ _
  | v :: vs, cs, o, h, hc, h1 => by
    cases h with
    | cons _ c _ cs h t =>
      refine .cons _ _ v _ _ (by simpa using hc 0 v rfl) (h1 v (by simp)) h (DM.of_list t (fun j u hj => ?_) (fun u hu => h1 u (by simp [hu])))
      rw [show o + 1 + j = o + (j + 1) by omega]; exact hc (j + 1) u (by simpa using hj)

theorem DM.append_left {H : View} {b : Nat} : ∀ {cs ds : List AV} {o : Nat}, DM H b o (cs ++ ds) → DM H b o cs
  | [], _, _, _ => .nil _ _
  | c :: cs, ds, o, h => by cases h with | cons _ _ v _ _ hv h1 h t => exact .cons _ _ v _ _ hv h1 h (DM.append_left t)
theorem DM.append_right {H : View} {b : Nat} : ∀ {cs ds : List AV} {o : Nat}, DM H b o (cs ++ ds) → DM H b (o + cs.length) ds
  | [], _, _, h => by simpa using h
  | c :: cs, ds, o, h => by
    cases h with | cons _ _ v _ _ hv h1 h t =>
      have := DM.append_right t
      simpa [Nat.add_assoc, Nat.add_comm 1] using this
theorem DM.drop {H : View} {b : Nat} {cs : List AV} {o : Nat} (h : DM H b o cs) (n : Nat) (hn : n ≤ cs.length) : DM H b (o + n) (cs.drop n) := by
  have h' := h
  rw [← List.take_append_drop n cs] at h'
  have := DM.append_right h'
  rwa [List.length_take, Nat.min_eq_left hn] at this
theorem DM.take {H : View} {b : Nat} {cs : List AV} {o : Nat} (h : DM H b o cs) (n : Nat) : DM H b o (cs.take n) := by
  rw [← List.take_append_drop n cs] at h
  exact DM.append_left h

theorem flatten_length {sz : Nat} : ∀ {es : List (List AV)}, (∀ e ∈ es, e.length = sz) → es.flatten.length = es.length * sz
  | [], _ => by simp
  | e :: es, h => by
    rw [List.flatten_cons, List.length_append, h e (by simp), flatten_length (es := es) (fun x hx => h x (by simp [hx])), List.length_cons, Nat.add_mul]
    omega
theorem DM.elem {H : View} {b : Nat} {sz : Nat} : ∀ {es : List (List AV)} {o i : Nat} {e : List AV}, DM H b o es.flatten → (∀ e ∈ es, e.length = sz) → es[i]? = some e → DM H b (o + i * sz) e
  | [], _, _, _, _, _, hi => by simp at hi
  | e0 :: es, o, i, e, h, hs, hi => by
    rw [List.flatten_cons] at h
    cases i with
    | zero => simp at hi; subst hi; simpa using DM.append_left h
    | succ i =>
      have h2 := DM.append_right h
      rw [hs e0 (by simp)] at h2
      have := DM.elem h2 (fun x hx => hs x (by simp [hx])) (by simpa using hi)
      rw [show o + (i + 1) * sz = o + sz + i * sz by rw [Nat.add_mul]; omega]
      exact this
theorem DM.dropRows {H : View} {b : Nat} {sz : Nat} : ∀ {es : List (List AV)} {o n : Nat}, DM H b o es.flatten → (∀ e ∈ es, e.length = sz) → n ≤ es.length → DM H b (o + n * sz) (es.drop n).flatten
  | es, o, 0, h, _, _ => by simpa using h
  | [], o, n + 1, h, _, hn => by simp at hn
  | e0 :: es, o, n + 1, h, hs, hn => by
    rw [List.flatten_cons] at h
    have h2 := DM.append_right h
    rw [hs e0 (by simp)] at h2
    have := DM.dropRows (n := n) h2 (fun x hx => hs x (by simp [hx])) (by simpa using hn)
    rw [show o + (n + 1) * sz = o + sz + n * sz by rw [Nat.add_mul]; omega]
    simpa using this
theorem DM.takeRows {H : View} {b : Nat} {es : List (List AV)} {o n : Nat} (h : DM H b o es.flatten) : DM H b o (es.take n).flatten := by
  rw [← List.take_append_drop n es, List.flatten_append] at h
  exact DM.append_left h

theorem add_eq (b o j : Nat) : (⟨b, o, none⟩ : Addr).add j = ⟨b, o + j, none⟩ := by
  unfold Addr.add; split <;> simp_all

theorem run_loadCells' {P : Program} {w : World} {b o : Nat} {vs : List Value} (h : ∀ j u, vs[j]? = some u → w.cell? ⟨b, o + j, none⟩ = some u) : (loadCells ⟨b, o, none⟩ vs.length).run P w = .ok vs.toArray w :=
  run_loadCells_list w ⟨b, o, none⟩ vs fun j v hj => by rw [add_eq]; exact h j v hj

def ofCells (agg : Bool) (cs : List AV) : AV := if agg then .agg cs else cs.headD .junk

theorem run_loadVar' {P : Program} {w : World} {t : TypeId} {T : TY} (hT : ty P t = some T) {b o : Nat} {vs : List Value} (hl : vs.length = T.n) (h1 : T.kd.agg = false → T.n = 1)
    (h : ∀ j u, vs[j]? = some u → w.cell? ⟨b, o + j, none⟩ = some u) :
    (loadVar t ⟨b, o, none⟩).run P w = .ok (if T.kd.agg then .agg vs.toArray else vs.headD undef) w := by
  obtain ⟨i, d, z, hi, hd, hz, hn, hb, hk, _⟩ := ty_inv hT
  have ha : isAggD d = T.kd.agg := by rw [hk, kdOf_agg]
  unfold loadVar
  simp only [Sem.run_bind, run_isAgg' hd, Result.andThen_ok, ha]
  cases hagg : T.kd.agg
  · have := h1 hagg
    obtain ⟨v, rfl⟩ : ∃ v, vs = [v] := by
      match vs, hl with
      | [v], _ => exact ⟨v, rfl⟩
      | [], hl => simp at hl; omega
      | _ :: _ :: _, hl => simp at hl; omega
    have hc := h 0 v rfl
    simp at hc
    simp [run_load, hc]
  · simp only [if_true, Sem.run_bind, run_sizeOf' hi, Result.andThen_ok, ← hn, ← hl, run_loadCells' h]
    rfl

theorem R_ofCells {H : View} {ε : Env} {agg : Bool} {vs : List Value} {cs : List AV} (h : RL H ε vs cs) : R H ε (if agg then .agg vs.toArray else vs.headD undef) (ofCells agg cs) := by
  unfold ofCells
  cases agg
  · cases h with
    | nil => exact .junk _
    | cons v c _ _ h _ => exact h
  · exact .agg _ _ h

section
variable {P : Program} {nb : Nat} {t : TypeId} {σ : St}

theorem opS_load_ref (t' : TypeId) (x : Operand) (T : TY) (cs : List AV) (hT : ty P t' = some T) (h1 : T.kd.agg = false → T.n = 1) (hx : σ.ev x = .ref cs) (hn : T.n ≤ cs.length) :
    OpS P nb (.load t' x) t σ (ofCells T.kd.agg (cs.take T.n)) σ.ob :=
  .pure fun c H ε ρ w o ho _ hm hr => by
    have hc := hr x; rw [hx] at hc
    obtain ⟨b, off, hv, hd⟩ := hc.ref_inv
    obtain ⟨vs, hl, hcell, hdl, _⟩ := (hd.take T.n).to_list
    have hl' : vs.length = T.n := by rw [hl, List.length_take]; omega
    refine ⟨_, ?_, R_ofCells (agg := T.kd.agg) (.of_DL hdl)⟩
    simp only [execOp, ho, Instr.loadAt, hv, Instr.sureAddr, Sem.run_bind, Sem.run_pure, Result.andThen_ok, run_loadVar' hT hl' h1 fun j u hj => hm.view _ _ _ (hcell j u hj)]

theorem View.unseen {H : View} {w : World} (hv : ∀ b o v, H b o = some v → w.cell? ⟨b, o, none⟩ = some v) {b o : Nat} (hb : w.heap.size ≤ b) : H b o = none := by
  cases hq : H b o with
  | none => rfl
  | some v => exact absurd (World.block_lt_of_cell? w ⟨b, o, Option.none⟩ (hv b o v hq)) (Nat.not_lt.2 hb)
theorem ObOK.box {H : View} {ε : Env} {w : World} {id : Nat} {cs : List AV} (h : ObOK H ε w id (.box cs)) {b : Nat} (hb : ε id = some (.blk b)) :
    ∃ arr T, w.heap[b]? = some (.cells arr T (0, 0)) ∧ RL H ε arr.toList cs ∧ True ∧ ∀ o, H b o = none := by
  obtain ⟨b', arr, T, hb', h⟩ := h
  rw [hb] at hb'; cases hb'
  exact ⟨arr, T, h⟩

theorem opS_load_ptr (t' : TypeId) (x : Operand) (T : TY) (id off : Nat) (cs : List AV) (hT : ty P t' = some T) (h1 : T.kd.agg = false → T.n = 1) (hx : σ.ev x = .ptr id off) (hb : σ.ob id = some (.box cs)) (hn : off + T.n ≤ cs.length) :
    OpS P nb (.load t' x) t σ (ofCells T.kd.agg ((cs.drop off).take T.n)) σ.ob :=
  .pure fun c H ε ρ w o ho _ hm hr => by
    have hc := hr x; rw [hx] at hc
    obtain ⟨b, hv, hε⟩ := hc.ptr_inv
    obtain ⟨arr, T', hh, hrl, _, _⟩ := (hm.objs id _ hb).box hε
    have hlen := hrl.length_eq
    have hrl' := (hrl.drop off).take T.n
    have hl' : ((arr.toList.drop off).take T.n).length = T.n := by rw [List.length_take, List.length_drop]; omega
    refine ⟨_, ?_, R_ofCells (agg := T.kd.agg) hrl'⟩
    have hcell : ∀ j u, ((arr.toList.drop off).take T.n)[j]? = some u → w.cell? ⟨b, off + j, none⟩ = some u := by
      intro j u hj
      rw [cell_of_row w b (off + j) arr T' (0, 0) hh]
      rw [List.getElem?_take] at hj
      split at hj
      · simpa using hj
      · cases hj
    simp only [execOp, ho, Instr.loadAt, hv, Instr.sureAddr, Sem.run_bind, Sem.run_pure, Result.andThen_ok, run_loadVar' hT hl' h1 hcell]

theorem opS_nilCheck_ref (x : Operand) (cs : List AV) (hx : σ.ev x = .ref cs) : OpS P nb (.nilCheck x) t σ (.ref cs) σ.ob :=
  .pure fun _ _ _ ρ _ o ho _ _ hr => by
    have hc := hr x; rw [hx] at hc
    obtain ⟨b, off, hv, _⟩ := hc.ref_inv
    exact ⟨ρ x, by simp [execOp, ho, hv], hc⟩
theorem opS_nilCheck_ptr (x : Operand) (id off : Nat) (hx : σ.ev x = .ptr id off) : OpS P nb (.nilCheck x) t σ (.ptr id off) σ.ob :=
  .pure fun _ _ _ ρ _ o ho _ _ hr => by
    have hc := hr x; rw [hx] at hc
    obtain ⟨b, hv, _⟩ := hc.ptr_inv
    exact ⟨ρ x, by simp [execOp, ho, hv], hc⟩

theorem run_fieldAt' {w : World} {s : TypeId} {T : TY} (hT : ty P s = some T) (hk : T.kd = .struct) {i off n : Nat} {ag : Bool} (hf : T.fields[i]? = some (some (off, n, ag))) (hn : 0 < n) (b o : Nat) :
    (Instr.fieldAt s (.pointer (some ⟨b, o, none⟩)) i).run P w = .ok (.pointer (some ⟨b, o + off, none⟩)) w := by
  obtain ⟨inf, d, z, hi, hd, hz, _, _, hkd, _, hfs⟩ := ty_inv hT
  rw [hkd] at hk
  cases d <;> simp [kdOf] at hk
  rename_i fs
  simp only at hfs
  rw [hfs, List.getElem?_map] at hf
  cases hq : fs.toList[i]? with
  | none => rw [hq] at hf; cases hf
  | some f =>
    rw [hq] at hf
    simp only [Option.map_some, Option.some.injEq] at hf
    unfold tyField at hf
    split at hf
    · rename_i fi fd hfi hfd
      cases hf
      have hq' : fs[i]? = some f := by simpa using hq
      simp only [Instr.fieldAt, Sem.run_bind, run_underlying' hd, Result.andThen_ok, hq', Instr.sureAddr, Sem.run_pure, fieldPlace, run_sizeOf' hfi, if_neg (show ¬ fi.size = 0 by omega), add_eq]
    · cases hf

theorem opS_fieldAddr_ref (s : TypeId) (x : Operand) (i off n : Nat) (ag : Bool) (T : TY) (cs : List AV) (hT : ty P s = some T) (hk : T.kd = .struct) (hf : T.fields[i]? = some (some (off, n, ag))) (hn : 0 < n)
    (hx : σ.ev x = .ref cs) (ho' : off ≤ cs.length) : OpS P nb (.fieldAddr s x i) t σ (.ref (cs.drop off)) σ.ob :=
  .pure fun _ _ _ ρ _ o ho _ _ hr => by
    have hc := hr x; rw [hx] at hc
    obtain ⟨b, off', hv, hd⟩ := hc.ref_inv
    exact ⟨_, by simp only [execOp, ho, hv, Sem.run_bind, run_fieldAt' hT hk hf hn, Result.andThen_ok, Sem.run_pure], .d _ _ (.ref _ _ _ (hd.drop off ho'))⟩
theorem opS_fieldAddr_ptr (s : TypeId) (x : Operand) (i off n : Nat) (ag : Bool) (T : TY) (id o' : Nat) (hT : ty P s = some T) (hk : T.kd = .struct) (hf : T.fields[i]? = some (some (off, n, ag))) (hn : 0 < n)
    (hx : σ.ev x = .ptr id o') : OpS P nb (.fieldAddr s x i) t σ (.ptr id (o' + off)) σ.ob :=
  .pure fun _ _ _ ρ _ o ho _ _ hr => by
    have hc := hr x; rw [hx] at hc
    obtain ⟨b, hv, hd⟩ := hc.ptr_inv
    exact ⟨_, by simp only [execOp, ho, hv, Sem.run_bind, run_fieldAt' hT hk hf hn, Result.andThen_ok, Sem.run_pure], .ptr _ _ _ hd⟩

def AV.rows : AV → Option (Nat × List (List AV))
  | .sl sz es | .osl _ sz es | .ol sz es => some (sz, es)
  | .s (.slice none 0 0) => some (0, [])
  | _ => none

def Sl (H : View) (v : Value) (sz : Nat) (es : List (List AV)) : Prop :=
  (v = .slice none 0 0 ∧ es = []) ∨ (∃ a cap, v = .slice (some a) 0 cap ∧ es = []) ∨ ∃ b off cap, v = .slice (some ⟨b, off, none⟩) es.length cap ∧ es.length ≤ cap ∧ (∀ e ∈ es, e.length = sz) ∧ DM H b off es.flatten
theorem Sl.slice {H : View} {v : Value} {sz : Nat} {es : List (List AV)} (h : Sl H v sz es) :
    (v = .slice none 0 0 ∧ es = []) ∨ (∃ a cap, v = .slice (some a) 0 cap ∧ es = []) ∨ ∃ b off cap, v = .slice (some ⟨b, off, none⟩) es.length cap ∧ es.length ≤ cap ∧ (∀ e ∈ es, e.length = sz) ∧ DM H b off es.flatten := h
theorem D.slice2 {H : View} {v : Value} {sz : Nat} {es : List (List AV)} (h : D H v (.sl sz es)) :
    (v = .slice none 0 0 ∧ es = []) ∨ (∃ a cap, v = .slice (some a) 0 cap ∧ es = []) ∨ ∃ b off cap, v = .slice (some ⟨b, off, none⟩) es.length cap ∧ es.length ≤ cap ∧ (∀ e ∈ es, e.length = sz) ∧ (es.flatten ≠ [] → H.lo ≤ b) ∧ DM H b off es.flatten := by
  cases h with
  | nil => exact .inl ⟨rfl, rfl⟩
  | emp a cap => exact .inr (.inl ⟨a, cap, rfl, rfl⟩)
  | sl b off cap _ _ hc hs hl h => exact .inr (.inr ⟨b, off, cap, rfl, hc, hs, hl, h⟩)
theorem D.oslice2 {H : View} {v : Value} {sz : Nat} {es : List (List AV)} (h : D H v (.ol sz es)) :
    (v = .slice none 0 0 ∧ es = []) ∨ (∃ a cap, v = .slice (some a) 0 cap ∧ es = []) ∨ ∃ b off cap, v = .slice (some ⟨b, off, none⟩) es.length cap ∧ es.length ≤ cap ∧ (∀ e ∈ es, e.length = sz) ∧ (es.flatten ≠ [] → H.lo2 ≤ b ∧ b < H.lo) ∧ DM H b off es.flatten := by
  cases h with
  | onil => exact .inl ⟨rfl, rfl⟩
  | oemp a cap => exact .inr (.inl ⟨a, cap, rfl, rfl⟩)
  | ol b off cap _ _ hc hs hl h => exact .inr (.inr ⟨b, off, cap, rfl, hc, hs, hl, h⟩)
theorem D.slice {H : View} {v : Value} {sz : Nat} {es : List (List AV)} (h : D H v (.sl sz es)) : Sl H v sz es := by
  rcases h.slice2 with h | h | ⟨b, off, cap, h1, h2, h3, _, h4⟩
  · exact .inl h
  · exact .inr (.inl h)
  · exact .inr (.inr ⟨b, off, cap, h1, h2, h3, h4⟩)
theorem D.oslice {H : View} {v : Value} {sz : Nat} {es : List (List AV)} (h : D H v (.ol sz es)) : Sl H v sz es := by
  rcases h.oslice2 with h | h | ⟨b, off, cap, h1, h2, h3, _, h4⟩
  · exact .inl h
  · exact .inr (.inl h)
  · exact .inr (.inr ⟨b, off, cap, h1, h2, h3, h4⟩)

theorem R.rows {H : View} {ε : Env} {v : Value} {a : AV} {sz : Nat} {es : List (List AV)} (h : R H ε v a) (ha : a.rows = some (sz, es)) : Sl H v sz es := by
  unfold AV.rows at ha
  split at ha
  · cases ha; exact h.sl_inv.slice
  · cases ha; exact h.osl_inv.1.slice
  · cases ha; exact h.ol_inv.oslice
  · cases ha
    rw [h.s_inv.1]; exact .inl ⟨rfl, rfl⟩
  · cases ha

theorem opS_len_slice (x : Operand) (t' : TypeId) (T : TY) (e : TypeId) (sz : Nat) (es : List (List AV)) (hT : ty P t' = some T) (hk : T.kd = .slice e) (hx : (σ.ev x).rows = some (sz, es)) :
    OpS P nb (.call { callee := .builtin .len, args := #[x], argTypes := #[t'] }) t σ (.s (.int .i64 es.length)) σ.ob :=
  .pure fun _ _ _ ρ w o ho _ _ hr => by
    have hc := (hr x).rows hx
    obtain ⟨inf, d, z, hi', hd, _, _, _, hkd, _⟩ := ty_inv hT
    rw [hkd] at hk
    cases d <;> simp [kdOf] at hk
    refine ⟨_, ?_, .d _ _ (.s _ rfl)⟩
    rcases hc.slice with ⟨hv, rfl⟩ | ⟨a, cap, hv, rfl⟩ | ⟨b, off, cap, hv, _⟩ <;>
      simp [execOp, ho, resolve, invoke, builtin, hv, Builtin.len_, run_underlying' hd, goInt]
theorem opS_len_str (x : Operand) (t' : TypeId) (T : TY) (s : ByteArray) (hT : ty P t' = some T) (hk : T.kd = .str) (hx : σ.ev x = .s (.string s)) :
    OpS P nb (.call { callee := .builtin .len, args := #[x], argTypes := #[t'] }) t σ (.s (.int .i64 s.size)) σ.ob :=
  .pure fun _ _ _ ρ w o ho _ _ hr => by
    have hc := hr x; rw [hx] at hc
    obtain ⟨inf, d, z, hi', hd, _, _, _, hkd, _⟩ := ty_inv hT
    rw [hkd] at hk
    cases d <;> simp [kdOf] at hk
    refine ⟨_, ?_, .d _ _ (.s _ rfl)⟩
    simp [execOp, ho, resolve, invoke, builtin, hc.s_inv.1, Builtin.len_, run_underlying' hd, goInt]
def nilIs : AV → Option Bool
  | .s (.slice none 0 0) => some true
  | .s (.slice (some _) _ _) => some false
  | .sl _ (_ :: _) => some false
  | .osl _ _ (_ :: _) => some false
  | .ol _ (_ :: _) => some false
  | _ => none
theorem nilIs_R {H : View} {ε : Env} {v : Value} {a : AV} {b : Bool} (h : R H ε v a) (hb : nilIs a = some b) : ∃ x n c, v = .slice x n c ∧ x.isNone = b := by
  unfold nilIs at hb
  split at hb
  · cases hb; exact ⟨_, _, _, h.s_inv.1, rfl⟩
  · cases hb; exact ⟨_, _, _, h.s_inv.1, rfl⟩
  · cases hb
    rcases h.sl_inv.slice with ⟨_, h⟩ | ⟨_, _, _, h⟩ | ⟨b, off, cap, hv, _⟩
    · cases h
    · cases h
    · exact ⟨_, _, _, hv, rfl⟩
  · cases hb
    rcases h.osl_inv.1.slice with ⟨_, h⟩ | ⟨_, _, _, h⟩ | ⟨b, off, cap, hv, _⟩
    · cases h
    · cases h
    · exact ⟨_, _, _, hv, rfl⟩
  · cases hb
    rcases h.ol_inv.oslice with ⟨_, h⟩ | ⟨_, _, _, h⟩ | ⟨b, off, cap, hv, _⟩
    · cases h
    · cases h
    · exact ⟨_, _, _, hv, rfl⟩
  · cases hb
theorem opS_nilEq (op : BinOp) (t' u : TypeId) (x y : Operand) (T : TY) (e : TypeId) (b : Bool) (hT : ty P t' = some T) (hk : T.kd = .slice e) (hx : nilIs (σ.ev x) = some b) (hy : σ.ev y = .s (.slice none 0 0)) (hop : op = .eql ∨ op = .neq) :
    OpS P nb (.binOp op t' x y u) t σ (.s (.bool (if op = .eql then b else !b))) σ.ob :=
  .pure fun _ _ _ ρ w o ho _ _ hr => by
    have h2 := hr y; rw [hy] at h2
    obtain ⟨i, d, z, hi, hd, _, _, _, hkd, _⟩ := ty_inv hT
    rw [hkd] at hk
    cases d <;> simp [kdOf] at hk
    obtain ⟨v, n, c, hv, hb⟩ := nilIs_R (hr x) hx
    refine ⟨_, ?_, .d _ _ (.s _ rfl)⟩
    rcases hop with rfl | rfl
    · simp only [execOp, ho, hv, h2.s_inv.1]
      simp [eqGuard, Lib.run_eql_slice_nil w t' _ v n c 0 0 hd, hb]
    · simp only [execOp, ho, hv, h2.s_inv.1]
      simp [eqGuard, run_neq_slice_nil_any w t' _ v n c 0 0 hd, hb]
end
end Go.Sy
end
section
namespace Go.Sy

def updOb (ob : Nat → Option Ob) (id : Nat) (x : Ob) : Nat → Option Ob := fun i => if i = id then some x else ob i
def updEnv (ε : Env) (id : Nat) (l : Loc) : Env := fun i => if i = id then some l else ε i
theorem updEnv_same (ε : Env) (id : Nat) (l : Loc) : updEnv ε id l id = some l := if_pos rfl

theorem ownsRow_heap {w w' : World} {base : Nat} {e : TypeId} {size : Nat} {v : Value} {n : Nat} {xs : List Value} (h : w.ownsRow base e size v n xs) (hw : ∀ g, v.ownBlock = some g → w'.heap[g]? = w.heap[g]?) :
    w'.ownsRow base e size v n xs := by
  refine ⟨h.1, ?_⟩
  rcases h.2 with h2 | ⟨g, cap, cur, rfl, hb, hg, r⟩
  · exact .inl h2
  · exact .inr ⟨g, cap, cur, rfl, hb, by rw [hw g rfl]; exact hg, r⟩

theorem ObOK.lt {H : View} {ε : Env} {w : World} {id : Nat} {x : Ob} (h : ObOK H ε w id x) {b : Nat} (hb : blkOf (ε id) = some b) : b < w.heap.size := by
  cases x with
  | box cs =>
    obtain ⟨b', arr, T, hε, hh, _⟩ := h
    rw [hε] at hb; cases hb
    exact (Array.getElem?_eq_some_iff.1 hh).1
  | perm e sz n =>
    obtain ⟨v, xs, hε, ho, _⟩ := h
    rw [hε] at hb
    exact (World.ownsRow.lt ho b hb).2
  | raw b' o cs =>
    obtain ⟨vs, d, hε, hh, _⟩ := h
    rw [hε] at hb; cases hb
    exact (Array.getElem?_eq_some_iff.1 hh).1
  | gone => exact h.elim

theorem ObOK.ext {H H' : View} {ε ε' : Env} {w w' : World} {id : Nat} {x : Ob} (h : ObOK H ε w id x) (hH : H.le H') (hε : ε.le ε') (hid : ε' id = ε id)
    (hw : ∀ b, blkOf (ε id) = some b → w'.heap[b]? = w.heap[b]?) (hn : ∀ b, blkOf (ε id) = some b → ∀ o, H' b o = H b o) : ObOK H' ε' w' id x := by
  cases x with
  | box cs =>
    obtain ⟨b, arr, T, h1, h2, h3, h4, h5⟩ := h
    have hb : blkOf (ε id) = some b := by rw [h1]; rfl
    exact ⟨b, arr, T, hid.trans h1, (hw b hb).trans h2, h3.mono hH hε, h4, fun o => (hn b hb o).trans (h5 o)⟩
  | perm e sz n =>
    obtain ⟨v, xs, h1, h2, h3, h4⟩ := h
    exact ⟨v, xs, hid.trans h1, ownsRow_heap h2 (fun g hg => hw g (by rw [h1]; exact hg)), h3, fun g hg => ⟨by rw [hH.lo]; exact (h4 g hg).1, fun o ho => (hn g (by rw [h1]; exact hg) o).trans ((h4 g hg).2 o ho)⟩⟩
  | raw b q cs =>
    obtain ⟨vs, d, h1, h2, h3, h5⟩ := h
    have hb : blkOf (ε id) = some b := by rw [h1]; rfl
    exact ⟨vs, d, hid.trans h1, (hw b hb).trans h2, h3.mono hH hε, fun o => (hn b hb o).trans (h5 o)⟩
  | gone => exact h.elim

theorem View.lt {H : View} {w : World} (hv : ∀ b o v, H b o = some v → w.cell? ⟨b, o, none⟩ = some v) {b o : Nat} {v : Value} (h : H b o = some v) : b < w.heap.size :=
  World.block_lt_of_cell? w ⟨b, o, none⟩ (hv b o v h)

theorem View.le.wb {H H' : View} (h : H.le H') {b : Nat} : H'.wb b ↔ H.wb b := by unfold View.wb; rw [h.wr]
theorem frozen_same {w w' : World} {b o : Nat} (h : w'.heap[b]? = w.heap[b]?) : w'.frozen? ⟨b, o, none⟩ = w.frozen? ⟨b, o, none⟩ := by simp only [World.frozen?, h]
theorem frozen_row {w : World} {b o : Nat} {arr : Array Value} {T : TypeId} (h : w.heap[b]? = some (.cells arr T (0, 0))) : w.frozen? ⟨b, o, none⟩ = false := by simp [World.frozen?, h]
theorem Mem.wr_lt {c : Ctx} {H : View} {ε : Env} {ob : Nat → Option Ob} {w : World} (hm : Mem c H ε ob w) {b o : Nat} (h : H.wr b o) : b < w.heap.size := by
  obtain ⟨_, ⟨v, hv, _⟩, _⟩ := hm.wr b o h
  exact World.block_lt_of_cell? w ⟨b, o, none⟩ hv
theorem cell_same {w w' : World} {b o : Nat} {v : Value} (h : w'.heap[b]? = w.heap[b]?) (hv : w.cell? ⟨b, o, none⟩ = some v) : w'.cell? ⟨b, o, none⟩ = some v := by
  rw [← hv]; simp only [World.cell?, h]
theorem Mem.wr_keep {c : Ctx} {H H' : View} {ε ε' : Env} {ob ob' : Nat → Option Ob} {w w' : World} (hm : Mem c H ε ob w) (hH : H.le H') (hh : ∀ b o, H.wr b o → H b o = none → H' b o = none)
    (hw : ∀ b o, H.wr b o → w'.heap[b]? = w.heap[b]?) (hob : ∀ b o, H.wr b o → ∀ id, ob' id ≠ none → blkOf (ε' id) ≠ some b) :
    ∀ b o, H'.wr b o → H' b o = none ∧ (∃ v, w'.cell? ⟨b, o, none⟩ = some v ∧ v.oneCell' = true ∧ w'.frozen? ⟨b, o, none⟩ = false) ∧ ∀ id, ob' id ≠ none → blkOf (ε' id) ≠ some b := by
  intro b o h
  have h' : H.wr b o := by rw [← hH.wr]; exact h
  obtain ⟨h1, ⟨v, h2, h3, h5⟩, _⟩ := hm.wr b o h'
  exact ⟨hh b o h' h1, ⟨v, cell_same (hw b o h') h2, h3, (frozen_same (hw b o h')).trans h5⟩, hob b o h'⟩

theorem Mem.ext {c : Ctx} {H H' : View} {ε : Env} {ob : Nat → Option Ob} {w w' : World} (hm : Mem c H ε ob w) (hH : H.le H') (hold : ∀ b o, b < w.heap.size → H' b o = H b o)
    (hview : ∀ b o v, H' b o = some v → w'.cell? ⟨b, o, none⟩ = some v) (hfz : ∀ b o v, w.heap.size ≤ b → H' b o = some v → w'.frozen? ⟨b, o, none⟩ = false) (hw : ∀ k, k < w.heap.size → w'.heap[k]? = w.heap[k]?) (hs : w.heap.size ≤ w'.heap.size)
    (ho : w'.os = w.os) (ht : w'.tape = w.tape) (hu : w'.output = w.output) : Mem c H' ε ob w' where
  view := hview
  objs := fun id x hx => (hm.objs id x hx).ext hH (Env.le_refl ε) rfl (fun b hb => hw b ((hm.objs id x hx).lt hb)) (fun b hb o => hold b o ((hm.objs id x hx).lt hb))
  dj := hm.dj
  own := hm.own
  os := ho.trans hm.os
  tape := ht.trans hm.tape
  output := hu.trans hm.output
  size := Nat.le_trans hm.size hs
  block := fun k hk hS hz => (hw k (Nat.lt_of_lt_of_le hk hm.size)).trans (hm.block k hk hS (fun h => hz (hH.wb.2 h)))
  hle := View.le_trans hm.hle hH
  hold := fun b o hb hS hz => (hold b o (Nat.lt_of_lt_of_le hb hm.size)).trans (hm.hold b o hb hS (fun h => hz (hH.wb.2 h)))
  ele := hm.ele
  low := hm.low
  top := hm.top
  lo := by rw [hH.lo, hH.lo2]; exact ⟨Nat.le_trans hm.lo.1 hs, hm.lo.2⟩
  fz := fun b o v h hz => by
    rcases Nat.lt_or_ge b w.heap.size with hb | hb
    · rw [frozen_same (hw b hb)]
      exact hm.fz b o v (by rw [← hold b o hb]; exact h) (hz.imp_right (Or.imp_right hH.wb.1))
    · exact hfz b o v hb h
  wr := hm.wr_keep hH (fun b o h h1 => (hold b o (hm.wr_lt h)).trans h1) (fun b o h => hw b (hm.wr_lt h)) (fun b o h => (hm.wr b o h).2.2)

theorem Mem.add {c : Ctx} {H : View} {ε : Env} {ob : Nat → Option Ob} {w : World} (hm : Mem c H ε ob w) {id : Nat} {l : Loc} {x : Ob} (hid : ε id = none) (hx : ObOK H (updEnv ε id l) w id x)
    (hnw : ∀ b o, blkOf (some l) = some b → ¬ H.wr b o) (hnew : ∀ b, blkOf (some l) = some b → ∀ j, ob j ≠ none → blkOf (ε j) ≠ some b) (hown : ∀ b, blkOf (some l) = some b → c.w0.heap.size ≤ b ∨ (c.S b ∧ blkOf (c.E0 id) = some b)) : Mem c H (updEnv ε id l) (updOb ob id x) w := by
  have hobid : ob id = none := by
    cases hq : ob id with
    | none => rfl
    | some y =>
      have := hm.objs id y hq
      cases y with
      | box cs => obtain ⟨b, _, _, h1, _⟩ := this; rw [hid] at h1; cases h1
      | perm e sz n => obtain ⟨v, _, h1, _⟩ := this; rw [hid] at h1; cases h1
      | raw b o cs => obtain ⟨_, _, h1, _⟩ := this; rw [hid] at h1; cases h1
      | gone => exact this.elim
  exact { hm with
    ele := Env.le_trans hm.ele (Env.le_new hid)
    objs := fun i y hy => by
      unfold updOb at hy
      split at hy
      · rename_i hi; subst hi; cases hy; exact hx
      · rename_i hi
        exact (hm.objs i y hy).ext (View.le_refl H) (Env.le_new hid) (by simp [updEnv, hi]) (fun _ _ => rfl) (fun _ _ _ => rfl)
    dj := fun i j hi hj hij b hb => by
      unfold updOb at hi hj
      unfold updEnv at hb ⊢
      by_cases h1 : i = id
      · subst h1
        simp only [if_true] at hb
        have h2 : j ≠ i := fun e => hij e.symm
        simp only [h2, if_false] at hj ⊢
        exact hnew b hb j hj
      · simp only [h1, if_false] at hi hb
        by_cases h2 : j = id
        · subst h2
          simp only [if_true]
          intro hb'
          exact hnew b hb' i hi hb
        · simp only [h2, if_false] at hj ⊢
          exact hm.dj i j hi hj hij b hb
    own := fun i hi b hb => by
      unfold updOb at hi
      unfold updEnv at hb
      by_cases h1 : i = id
      · subst h1; simp only [if_true] at hb; exact hown b hb
      · simp only [h1, if_false] at hi hb; exact hm.own i hi b hb
    wr := hm.wr_keep (View.le_refl H) (fun _ _ _ h => h) (fun _ _ _ => rfl) (fun b o h i hi hb => by
      unfold updOb at hi
      unfold updEnv at hb
      by_cases h1 : i = id
      · subst h1; simp only [if_true] at hb; exact hnw b o hb h
      · simp only [h1, if_false] at hi hb; exact (hm.wr b o h).2.2 i hi hb) }

theorem Mem.blk_lt {c : Ctx} {H : View} {ε : Env} {ob : Nat → Option Ob} {w : World} (hm : Mem c H ε ob w) {j : Nat} (hj : ob j ≠ none) {b : Nat} (hb : blkOf (ε j) = some b) : b < w.heap.size := by
  cases hq : ob j with
  | none => exact absurd hq hj
  | some x => exact (hm.objs j x hq).lt hb

theorem cell_alloc_lt {w : World} {o : Obj} {b k : Nat} {v : Value} (h : w.cell? ⟨b, k, none⟩ = some v) : (w.alloc o).cell? ⟨b, k, none⟩ = some v := by
  rw [World.cell?_alloc_lt w o ⟨b, k, none⟩ (World.block_lt_of_cell? w ⟨b, k, none⟩ h)]; exact h

theorem heap_old (w : World) (o : Obj) (k : Nat) (h : k < w.heap.size) : (w.alloc o).heap[k]? = w.heap[k]? := Go.RowKit.Below.heap_alloc w o k h

theorem Mem.newBox {c : Ctx} {H : View} {ε : Env} {ob : Nat → Option Ob} {w : World} (hm : Mem c H ε ob w) {id : Nat} (hid : ε id = none) {arr : Array Value} {cs : List AV} (T : TypeId) (hr : RL H ε arr.toList cs) (h1 : ∀ v ∈ arr.toList, v.oneCell' = true) :
    Mem c H (updEnv ε id (.blk w.heap.size)) (updOb ob id (.box cs)) (w.alloc (.cells arr T)) := by
  have _ := h1
  have hm' : Mem c H ε ob (w.alloc (.cells arr T)) := hm.ext (View.le_refl H) (fun _ _ _ => rfl) (fun b o v h => cell_alloc_lt (hm.view b o v h)) (fun b o v hb h => absurd (View.lt hm.view h) (Nat.not_lt.2 hb)) (fun k hk => heap_old w _ k hk) (by simp) rfl rfl rfl
  refine hm'.add hid ⟨w.heap.size, arr, T, by simp [updEnv], heap_alloc_new w _, hr.mono (View.le_refl H) (Env.le_new hid), trivial, fun o => ?_⟩ (fun b o hb h => by cases hb; exact absurd (hm.wr_lt h) (Nat.lt_irrefl _)) ?_ ?_
  · cases hq : H w.heap.size o with
    | none => rfl
    | some v => exact absurd (View.lt hm.view hq) (Nat.lt_irrefl _)
  · intro b hb j hj hb'
    cases hb
    exact absurd (hm.blk_lt hj hb') (Nat.lt_irrefl _)
  · intro b hb; cases hb; exact .inl hm.size

def View.put (H : View) (g n : Nat) (vs : List Value) : View := { H with f := fun b o => if b = g ∧ o < n then vs[o]? else H b o }
theorem View.put_f (H : View) (g n : Nat) (vs : List Value) (b o : Nat) : (H.put g n vs) b o = if b = g ∧ o < n then vs[o]? else H b o := rfl

theorem View.le_put {H : View} {g n : Nat} {vs : List Value} (h : ∀ o v, o < n → H g o = some v → vs[o]? = some v) : H.le (H.put g n vs) := by
  refine ⟨fun b o v hv => ?_, rfl, rfl, rfl⟩
  rw [View.put_f]
  split
  · rename_i hb; obtain ⟨rfl, ho⟩ := hb; exact h o v ho hv
  · exact hv

theorem Mem.newRow {c : Ctx} {H : View} {ε : Env} {ob : Nat → Option Ob} {w : World} (hm : Mem c H ε ob w) {id : Nat} (hid : ε id = none) {vs : List Value} {es : List (List AV)} {sz n : Nat} (e : TypeId)
    (hn : n = es.length) (hs : ∀ x ∈ es, x.length = sz) (hr : DL H vs es.flatten) (h1 : ∀ v ∈ vs, v.oneCell' = true) (hsz : 0 < sz) (hlen : n ≤ maxLen) :
    ∃ H', H.le H' ∧ R H' (updEnv ε id (.row (.slice (some ⟨w.heap.size, 0, none⟩) n n) n)) (.slice (some ⟨w.heap.size, 0, none⟩) n n) (.osl id sz es) ∧
      Mem c H' (updEnv ε id (.row (.slice (some ⟨w.heap.size, 0, none⟩) n n) n)) (updOb ob id (.perm e sz n)) (w.alloc (.cells vs.toArray e)) := by
  subst hn
  have hvl : vs.length = es.length * sz := by rw [hr.length_eq, flatten_length hs]
  have hno : ∀ o, H w.heap.size o = none := fun o => by
    cases hq : H w.heap.size o with
    | none => rfl
    | some v => exact absurd (View.lt hm.view hq) (Nat.lt_irrefl _)
  have hH : H.le (H.put w.heap.size vs.length vs) := View.le_put fun o v _ h => by rw [hno] at h; cases h
  have hview : ∀ b o v, (H.put w.heap.size vs.length vs) b o = some v → (w.alloc (.cells vs.toArray e)).cell? ⟨b, o, none⟩ = some v := by
    intro b o v h
    rw [View.put_f] at h
    split at h
    · rename_i hb; obtain ⟨rfl, ho⟩ := hb
      rw [cell_of_row _ _ _ vs.toArray e (0, 0) (heap_alloc_new w _)]
      simpa using h
    · exact cell_alloc_lt (hm.view b o v h)
  have hfz : ∀ b o v, w.heap.size ≤ b → (H.put w.heap.size vs.length vs) b o = some v → (w.alloc (.cells vs.toArray e)).frozen? ⟨b, o, none⟩ = false := by
    intro b o v hb h
    rw [View.put_f] at h
    split at h
    · rename_i hq; obtain ⟨rfl, _⟩ := hq; exact frozen_row (heap_alloc_new w _)
    · exact absurd (View.lt hm.view h) (Nat.not_lt.2 hb)
  have hm' : Mem c (H.put w.heap.size vs.length vs) ε ob (w.alloc (.cells vs.toArray e)) :=
    hm.ext hH (fun b o hb => by rw [View.put_f, if_neg (by omega)]) hview hfz (fun k hk => heap_old w _ k hk) (by simp) rfl rfl rfl
  have hdm : DM (H.put w.heap.size vs.length vs) w.heap.size 0 es.flatten :=
    DM.of_list (hr.mono hH) (fun j u hj => by
      have : j < vs.length := (List.getElem?_eq_some_iff.1 hj).1
      simp only [View.put_f, Nat.zero_add, this, and_self, if_true]; exact hj) h1
  have hD : D (H.put w.heap.size vs.length vs) (.slice (some ⟨w.heap.size, 0, none⟩) es.length es.length) (.sl sz es) := .sl _ _ _ _ _ (Nat.le_refl _) hs (fun _ => hm.lo.1) hdm
  refine ⟨_, hH, .osl _ _ _ _ _ _ hD (updEnv_same _ _ _) (Nat.le_refl _) (fun _ => rfl), hm'.add hid ⟨_, vs, updEnv_same _ _ _, ?_, hsz, ?_⟩ (fun b o hb h => by cases hb; exact absurd (hm.wr_lt h) (Nat.lt_irrefl _)) ?_ ?_⟩
  · exact ⟨hvl, .inr ⟨w.heap.size, es.length, vs.toArray, rfl, Nat.zero_le _, heap_alloc_new w _, Nat.le_refl _, hlen, by simp [hvl], by simp [List.take_of_length_le, hvl]⟩⟩
  · intro g hg
    simp [Value.ownBlock] at hg
    subst hg
    refine ⟨hm.lo.1, fun o ho => ?_⟩
    rw [View.put_f, if_neg (by omega)]
    exact hno o
  · intro b hb j hj hb'
    simp [blkOf, Value.ownBlock] at hb
    subst hb
    exact absurd (hm.blk_lt hj hb') (Nat.lt_irrefl _)
  · intro b hb; simp [blkOf, Value.ownBlock] at hb; subst hb; exact .inl hm.size

section
variable {P : Program} {nb : Nat} {t : TypeId} {σ : St}

theorem fresh_here {ε : Env} (hf : Fresh ε nb) : ε nb = none := hf nb (Nat.le_refl _) (by omega)
theorem keep_new {ε : Env} {l : Loc} : ∀ id, ε id = none → ¬ (nb ≤ id ∧ id < nb + 16) → updEnv ε nb l id = none := by
  intro id h hn
  unfold updEnv
  split
  · rename_i he; subst he; exact absurd ⟨Nat.le_refl _, by omega⟩ hn
  · exact h

theorem opS_alloc (t' : TypeId) (T : TY) (hT : ty P t' = some T) (h1 : T.zero.all (·.oneCell') = true) : OpS P nb (.alloc t') t σ (.ptr nb 0) (updOb σ.ob nb (.box (T.zero.map .s))) :=
  .run fun c H ε ρ w o ho _ hm hr hf => by
    obtain ⟨inf, d, z, hi, hd, hz, _, _, _, hzs, _⟩ := ty_inv hT
    refine ⟨.pointer (some ⟨w.heap.size, 0, none⟩), w.alloc (.cells z.cells t'), H, updEnv ε nb (.blk w.heap.size), ?_, View.le_refl H, Env.le_new (fresh_here hf), keep_new, .ptr _ _ _ (by simp [updEnv]), ?_⟩
    · simp [execOp, ho, Instr.alloc, run_zeroValue' hi hz, newVar, newRow]
    · refine hm.newBox (fresh_here hf) t' ?_ ?_
      · rw [hzs] at h1 ⊢; exact .of_DL (DL_consts H _ h1)
      · rw [hzs] at h1; exact fun v hv => List.all_eq_true.1 h1 v hv

theorem opS_box (t' : TypeId) (x : Operand) (h1 : (σ.ev x).one = true ∨ ∃ cs, σ.ev x = .agg cs) (h2 : (σ.ev x).cells.all AV.one = true) : OpS P nb (.box t' x) t σ (.ptr nb 0) (updOb σ.ob nb (.box (σ.ev x).cells)) :=
  .run fun c H ε ρ w o ho _ hm hr hf => by
    have hc := (hr x).cells h1
    refine ⟨.pointer (some ⟨w.heap.size, 0, none⟩), w.alloc (.cells (ρ x).cells t'), H, updEnv ε nb (.blk w.heap.size), ?_, View.le_refl H, Env.le_new (fresh_here hf), keep_new, .ptr _ _ _ (by simp [updEnv]), ?_⟩
    · simp [execOp, ho, Instr.box, newVar, newRow]
    · exact hm.newBox (fresh_here hf) t' hc (hc.one (by simpa using h2))
end
end Go.Sy
end
section
namespace Go.Sy

theorem setRow_cell_other {w : World} {g b o : Nat} {cs : Array Value} (h : b ≠ g) : (w.setRow g cs).cell? ⟨b, o, none⟩ = w.cell? ⟨b, o, none⟩ := cell_setRow_other w g cs ⟨b, o, none⟩ h

theorem Mem.setBox {c : Ctx} {H : View} {ε : Env} {ob : Nat → Option Ob} {w : World} (hm : Mem c H ε ob w) {id b : Nat} {cs0 cs : List AV} {arr0 arr : Array Value} {T : TypeId} (hid : ob id = some (.box cs0)) (hε : ε id = some (.blk b))
    (hh : w.heap[b]? = some (.cells arr0 T (0, 0))) (hr : RL H ε arr.toList cs) : Mem c H ε (updOb ob id (.box cs)) (w.setRow b arr) := by
  have hne : ob id ≠ none := by rw [hid]; simp
  have hbk : blkOf (ε id) = some b := by rw [hε]; rfl
  obtain ⟨_, _, _, _, _, hnone⟩ := (hm.objs id _ hid).box hε
  have hup : ∀ i, updOb ob id (.box cs) i ≠ none → ob i ≠ none := fun i hi => by
    unfold updOb at hi; split at hi
    · rename_i h; subst h; exact hne
    · exact hi
  exact {
    view := fun b' o v h => by
      have hb : b' ≠ b := fun e => by subst e; rw [hnone o] at h; cases h
      rw [setRow_cell_other hb]; exact hm.view b' o v h
    objs := fun i y hy => by
      unfold updOb at hy
      split at hy
      · rename_i hi; subst hi; cases hy
        exact ⟨b, arr, T, hε, setRow_heap w b arr0 arr T (0, 0) hh, hr, trivial, hnone⟩
      · rename_i hi
        refine (hm.objs i y hy).ext (View.le_refl H) (Env.le_refl ε) rfl (fun b' hb' => setRow_other w b b' arr ?_) (fun _ _ _ => rfl)
        intro e; subst e
        exact hm.dj i id (by rw [hy]; simp) hne hi b' hb' hbk
    dj := fun i j hi hj => hm.dj i j (hup i hi) (hup j hj)
    own := fun i hi => hm.own i (hup i hi)
    os := hm.os
    tape := hm.tape
    output := hm.output
    size := by rw [setRow_size]; exact hm.size
    block := fun k hk hS hz => by
      rw [setRow_other w b k arr]
      · exact hm.block k hk hS hz
      · intro e; subst e
        rcases hm.own id hne k hbk with h | h
        · omega
        · exact hS h.1
    hle := hm.hle
    hold := hm.hold
    ele := hm.ele
    low := hm.low
    top := hm.top
    lo := by rw [setRow_size]; exact hm.lo
    fz := fun b' o v h hz => by
      have hb : b' ≠ b := fun e => by subst e; rw [hnone o] at h; cases h
      rw [frozen_same (setRow_other w b b' arr hb)]; exact hm.fz b' o v h hz
    wr := hm.wr_keep (View.le_refl H) (fun _ _ _ h => h) (fun b' o h => setRow_other w b b' arr fun e => (hm.wr b' o h).2.2 id hne (by rw [hbk, e])) (fun b' o h i hi' => (hm.wr b' o h).2.2 i (hup i hi')) }

section
variable {P : Program} {nb : Nat} {t : TypeId} {σ : St}

theorem opS_store (t' : TypeId) (x y : Operand) (T : TY) (id off : Nat) (cs : List AV) (hT : ty P t' = some T) (hx : σ.ev x = .ptr id off) (hb : σ.ob id = some (.box cs)) (hy : (σ.ev y).one = true ∨ ∃ ds, σ.ev y = .agg ds)
    (h1 : (σ.ev y).cells.all AV.one = true) (hl : (σ.ev y).cells.length = T.n) (hn : off + T.n ≤ cs.length) :
    OpS P nb (.store t' x y) t σ .junk (updOb σ.ob id (.box (cs.take off ++ (σ.ev y).cells ++ cs.drop (off + T.n)))) := by
  intro c H ε a w o ho _ hm hr hf next Q hnx
  have hx' := R_ev hr x; rw [hx] at hx'
  obtain ⟨b, hv, hε⟩ := hx'.ptr_inv
  have hc := (R_ev hr y).cells hy
  have hone := hc.one (by simpa using h1)
  obtain ⟨arr, T', hh, hrl, ho1, hnone⟩ := (hm.objs id _ hb).box hε
  obtain ⟨inf, d, z, hi, hd, hz, hTn, _⟩ := ty_inv hT
  have hlen := hrl.length_eq
  have hlc : (a.eval y).cells.toList.length = T.n := by rw [hc.length_eq, hl]
  have hst := run_storeCells_at P b off T' (a.eval y).cells.toList 0 arr w hh (by simp at hlc hlen ⊢; omega) hone
  have hrun : (execOp a.eval o).run P w = .ok .skip (w.setRow b (arr.toList.take off ++ (a.eval y).cells.toList ++ arr.toList.drop (off + T.n)).toArray) := by
    simp only [Nat.add_zero, hlc] at hst
    have hsz : ¬ ((a.eval y).cells.size ≠ inf.size) := by rw [← hTn]; simp at hlc; omega
    simp only [execOp, ho, Instr.storeAt, hv, Instr.sureAddr, Sem.run_bind, Sem.run_pure, Result.andThen_ok, storeVar, run_sizeOf' hi, if_neg hsz, hst]
  refine wpIn_of_wp (fun c hc => by rw [ho] at hc; cases hc) ?_
  unfold Oper.wp
  rw [hrun]
  refine hnx undef _ H ε (View.le_refl H) (Env.le_refl ε) (fun _ h _ => h) (.junk _) (hm.setBox hb hε hh ?_)
  · simpa using ((hrl.take off).append hc).append (hrl.drop (off + T.n))
end

theorem append_cases {P : Program} (w : World) (t ty' e : TypeId) (i : TypeInfo) (z : Value) (ht : P.underlying t = some (.slice e)) (hi : P.info? e = some i) (hz : i.zero = some z) (hzs : z.cells.size = i.size)
    (v : Value) (n : Nat) (xs : List Value) (hown : w.ownsRow 0 e i.size v n xs)
    (a : Addr) (m c : Nat) (hm : 0 < m) (news : List Value) (hl : news.length = m * i.size) (hnews : ∀ j u, news[j]? = some u → w.cell? (a.add j) = some u) (h1 : ∀ u ∈ news, u.oneCell' = true)
    (h63 : n + m ≤ maxLen) (hbytes : (n + m) * i.bytes ≤ 140737488355328) :
    ∃ v' w', (Builtin.append_ #[t, t] ty' #[v, .slice (some a) m c]).run P w = .ok v' w' ∧ w'.ownsRow 0 e i.size v' (n + m) (xs ++ news) ∧ w.grownBy w' v.ownBlock ∧
      (∀ b o u, w.cell? ⟨b, o, none⟩ = some u → (v.ownBlock = some b → o < n * i.size) → w'.cell? ⟨b, o, none⟩ = some u) ∧ (v'.ownBlock = v.ownBlock ∨ v'.ownBlock = some w.heap.size) ∧ (∀ b o, b < w.heap.size → w.frozen? ⟨b, o, none⟩ = false → w'.frozen? ⟨b, o, none⟩ = false) := by
  have hsmall : n + m ≤ 9223372036854775807 := by simp only [maxLen] at h63; omega
  have hlen : (xs ++ news).length = (n + m) * i.size := by rw [List.length_append, hown.1, hl, Nat.add_mul]
  have grown : ∀ (old : Nat), old < n + m → ∀ (row : Option Nat),
      (w.drew.alloc (.cells (xs.toArray ++ news.toArray ++ Builtin.zeroCells z.cells (grownCap w (n + m) old e - (n + m))) e)).ownsRow 0 e i.size
        (.slice (some ⟨w.heap.size, 0, none⟩) (n + m) (grownCap w (n + m) old e)) (n + m) (xs ++ news) ∧
      w.grownBy (w.drew.alloc (.cells (xs.toArray ++ news.toArray ++ Builtin.zeroCells z.cells (grownCap w (n + m) old e - (n + m))) e)) row := by
    intro old ho row
    have hge := grownCap_ge w (n + m) old e
    have hcm : grownCap w (n + m) old e ≤ maxLen := grownCap_le_maxLen w (n + m) old e h63
    refine ⟨⟨hlen, .inr ⟨w.heap.size, _, _, rfl, Nat.zero_le _, heap_alloc_new w.drew _, hge, hcm, ?_, ?_⟩⟩, ⟨rfl, rfl, rfl, by simp, fun k hk _ => heap_old w.drew _ k hk⟩⟩
    · simp only [Array.size_append, List.size_toArray, size_zeroCells, hzs, hown.1, hl, ← Nat.add_mul]
      congr 1
      omega
    · simp only [Array.toList_append, List.append_assoc]
      rw [← List.append_assoc, ← hlen]
      exact List.take_left
  have keep : ∀ (ob : Obj) b o u, w.cell? ⟨b, o, none⟩ = some u → (w.drew.alloc ob).cell? ⟨b, o, none⟩ = some u := fun ob b o u h => cell_alloc_lt (w := w.drew) (by simpa using h)
  have keepf : ∀ (ob : Obj) b o, b < w.heap.size → w.frozen? ⟨b, o, none⟩ = false → (w.drew.alloc ob).frozen? ⟨b, o, none⟩ = false := fun ob b o hb h => by
    rw [frozen_same (heap_old w.drew ob b (by simpa using hb))]; exact h
  rcases hown.2 with ⟨rfl, rfl⟩ | ⟨g, cap, cur, rfl, hbg, hg, hnc, hcm, hcs, htake⟩
  · have hx : xs = [] := List.eq_nil_of_length_eq_zero (by simpa using hown.1)
    subst hx
    have hr := run_append_nil (P := P) w t ty' e i z ht hi hz a m c news hl hnews (by omega) (by omega) (by have hb := hbytes; simp only [Nat.zero_add] at hb; omega)
    have hgr := grown 0 (by omega) (Value.ownBlock (.slice none 0 0))
    simp only [Nat.zero_add, List.nil_append, Array.empty_append] at hgr ⊢
    exact ⟨_, _, hr, hgr.1, hgr.2, fun b o u h _ => keep _ b o u h, .inr rfl, keepf _⟩
  · by_cases hroom : n + m ≤ cap
    · have hfit : n * i.size + news.length ≤ cur.size := by rw [hl, hcs, ← Nat.add_mul]; exact Nat.mul_le_mul_right _ hroom
      have hr := run_append_room (P := P) w t ty' e i ht hi g n cap cur hg a m c news hl hnews h1 hroom hfit
      refine ⟨_, _, hr, ⟨hlen, .inr ⟨g, cap, _, rfl, hbg, setRow_heap w g cur _ e _ hg, hroom, hcm, ?_, ?_⟩⟩, ⟨rfl, rfl, rfl, by simp, fun k _ hk => setRow_other w g k _ (fun e => hk (by simp [Value.ownBlock, e]))⟩, ?_, .inl rfl, fun b o hb h => ?_⟩
      · simp only [List.size_toArray, List.length_append, List.length_take, List.length_drop, Array.length_toList]
        omega
      · rw [htake, ← hlen]
        exact List.take_left
      · intro b o u h hb
        by_cases hbg' : b = g
        · subst hbg'
          have ho := hb rfl
          rw [cell_setRow_same w b o cur _ e (0, 0) hg]
          rw [cell_of_row w b o cur e (0, 0) hg] at h
          have hol : o < (cur.toList.take (n * i.size)).length := by
            have := (Array.getElem?_eq_some_iff.1 h).1
            simp only [List.length_take, Array.length_toList]; omega
          simp only [List.getElem?_toArray, List.append_assoc]
          rw [List.getElem?_append_left hol, List.getElem?_take, if_pos ho]
          simpa using h
        · rw [setRow_cell_other hbg']; exact h
      · by_cases hbg' : b = g
        · subst hbg'; exact frozen_row (setRow_heap w b cur _ e _ hg)
        · rw [frozen_same (setRow_other w g b _ hbg')]; exact h
    · have holds : ∀ j u, xs[j]? = some u → w.cell? ((⟨g, 0, none⟩ : Addr).add j) = some u := World.ownsRow.cells hown (g := g) rfl
      have hr := run_append_grow (P := P) w t ty' e i z ht hi hz ⟨g, 0, none⟩ n cap xs hown.1 holds a m c news hl hnews (by omega) (by omega) (growslice_fits (by omega) hbytes)
      have hgr := grown cap (by omega) (Value.ownBlock (.slice (some ⟨g, 0, none⟩) n cap))
      exact ⟨_, _, hr, hgr.1, hgr.2, fun b o u h _ => keep _ b o u h, .inr rfl, keepf _⟩

theorem Mem.growRow {c : Ctx} {H : View} {ε : Env} {ob : Nat → Option Ob} {w w' : World} (hm : Mem c H ε ob w) {p : Nat} {e : TypeId} {v v' : Value} {n n' sz : Nat} {xs' : List Value} {es' : List (List AV)}
    (hp : ob p = some (.perm e sz n)) (hε : ε p = some (.row v n)) (hsz : 0 < sz) (hnn : n < n')
    (hHn : ∀ g, v.ownBlock = some g → H.lo ≤ g ∧ ∀ o, n * sz ≤ o → H g o = none)
    (hown : w'.ownsRow 0 e sz v' n' xs') (hg : w.grownBy w' v.ownBlock)
    (hkeep : ∀ b o u, w.cell? ⟨b, o, none⟩ = some u → (v.ownBlock = some b → o < n * sz) → w'.cell? ⟨b, o, none⟩ = some u) (hblk : v'.ownBlock = v.ownBlock ∨ v'.ownBlock = some w.heap.size) (hfr : ∀ b o, b < w.heap.size → w.frozen? ⟨b, o, none⟩ = false → w'.frozen? ⟨b, o, none⟩ = false)
    (hr : DL H xs' es'.flatten) (hs : ∀ x ∈ es', x.length = sz) (hn' : n' = es'.length) (h1 : ∀ u ∈ xs', u.oneCell' = true) :
    ∃ H', H.le H' ∧ ε.le (updEnv ε p (.row v' n')) ∧ R H' (updEnv ε p (.row v' n')) v' (.osl p sz es') ∧ Mem c H' (updEnv ε p (.row v' n')) (updOb ob p (.perm e sz n')) w' := by
  have hne : ob p ≠ none := by rw [hp]; simp
  have hbkp : blkOf (ε p) = v.ownBlock := by rw [hε]; rfl
  obtain ⟨g', hg'⟩ : ∃ g', v'.ownBlock = some g' := by
    rcases hown.2 with ⟨_, h0⟩ | ⟨g, cap, cur, rfl, _⟩
    · omega
    · exact ⟨g, rfl⟩
  have hv' : ∃ cap, v' = .slice (some ⟨g', 0, none⟩) n' cap ∧ n' ≤ cap := by
    rcases hown.2 with ⟨_, h0⟩ | ⟨g, cap, cur, hv, _, _, hc, _⟩
    · omega
    · subst hv; simp [Value.ownBlock] at hg'; subst hg'; exact ⟨cap, rfl, hc⟩
  have hcells : ∀ o u, xs'[o]? = some u → w'.cell? ⟨g', o, none⟩ = some u := fun o u h => by
    have := World.ownsRow.cells hown hg' o u h
    rwa [add_eq, Nat.zero_add] at this
  have hold : ∀ b o u, H b o = some u → w'.cell? ⟨b, o, none⟩ = some u := fun b o u h => hkeep b o u (hm.view b o u h) fun hb => by
    rcases Nat.lt_or_ge o (n * sz) with h' | h'
    · exact h'
    · rw [(hHn b hb).2 o h'] at h; cases h
  have hlx : xs'.length = n' * sz := hown.1
  have hH : H.le (H.put g' (n' * sz) xs') := View.le_put fun o u ho h => by
    have hlt : o < xs'.length := by rw [hlx]; exact ho
    have h2 := hcells o xs'[o] (by simp [hlt])
    rw [hold g' o u h] at h2
    simp [hlt, Option.some.inj h2]
  have hg'lt : g' < w'.heap.size := (World.ownsRow.lt hown g' hg').2
  have hle : ε.le (updEnv ε p (.row v' n')) := by
    intro id l hl
    by_cases hid : id = p
    · subst hid
      rw [hε] at hl; cases hl
      exact ⟨v', n', updEnv_same _ _ _, by omega, fun h => by omega⟩
    · cases l with
      | blk b => show updEnv ε p _ id = _; unfold updEnv; rw [if_neg hid]; exact hl
      | row v0 n0 => exact ⟨v0, n0, by unfold updEnv; rw [if_neg hid]; exact hl, Nat.le_refl _, fun _ => rfl⟩
  have hdm : DM (H.put g' (n' * sz) xs') g' 0 es'.flatten := DM.of_list (hr.mono hH) (fun j u hj => by
    have hlt : j < xs'.length := (List.getElem?_eq_some_iff.1 hj).1
    have : j < n' * sz := by rw [← hlx]; exact hlt
    simp only [View.put_f, Nat.zero_add, this, and_self, if_true]; exact hj) h1
  obtain ⟨cap, hv'e, hcap⟩ := hv'
  have hlog : H.lo ≤ g' := by
    rcases hblk with h | h
    · exact (hHn g' (by rw [← h]; exact hg')).1
    · rw [hg'] at h; cases h; exact hm.lo.1
  have hD : D (H.put g' (n' * sz) xs') v' (.sl sz es') := by
    have h := D.sl (H := H.put g' (n' * sz) xs') g' 0 cap sz es' (by omega) hs (fun _ => hlog) hdm
    rw [← hn'] at h
    rw [hv'e]; exact h
  -- the row's block is no other object's
  have hoth : ∀ i, i ≠ p → ob i ≠ none → ∀ b, blkOf (ε i) = some b → b ≠ g' ∧ some b ≠ v.ownBlock ∧ b < w.heap.size := by
    intro i hi hoi b hb
    have hlt := hm.blk_lt hoi hb
    have h2 : some b ≠ v.ownBlock := fun e => hm.dj i p hoi hne hi b hb (by rw [hbkp]; exact e.symm)
    refine ⟨fun e => ?_, h2, hlt⟩
    subst e
    rcases hblk with h | h
    · exact h2 (hg'.symm.trans h)
    · rw [hg'] at h; cases h; omega
  have hputo : ∀ b o, b ≠ g' → (H.put g' (n' * sz) xs') b o = H b o := fun b o hb => by rw [View.put_f, if_neg (by simp [hb])]
  have hup : ∀ i, updOb ob p (.perm e sz n') i ≠ none → ob i ≠ none := fun i hi => by
    unfold updOb at hi; split at hi
    · rename_i h; subst h; exact hne
    · exact hi
  have hue : ∀ i, i ≠ p → updEnv ε p (.row v' n') i = ε i := fun i hi => by unfold updEnv; rw [if_neg hi]
  have hownp : ∀ b, v.ownBlock = some b → c.w0.heap.size ≤ b ∨ (c.S b ∧ blkOf (c.E0 p) = some b) := fun b hb => hm.own p hne b (by rw [hbkp]; exact hb)
  have hg'own : c.w0.heap.size ≤ g' ∨ (c.S g' ∧ blkOf (c.E0 p) = some g') := by
    rcases hblk with h | h
    · exact hownp g' (by rw [← h]; exact hg')
    · rw [hg'] at h; cases h; exact .inl hm.size
  refine ⟨_, hH, hle, .osl _ _ _ _ _ _ hD (updEnv_same _ _ _) (by omega) (fun _ => rfl), ?_⟩
  exact {
    view := fun b o u h => by
      rw [View.put_f] at h
      split at h
      · rename_i hb; obtain ⟨rfl, _⟩ := hb; exact hcells o u h
      · exact hold b o u h
    objs := fun i y hy => by
      by_cases hi : i = p
      · subst hi
        simp only [updOb, if_true] at hy
        cases hy
        refine ⟨v', xs', updEnv_same _ _ _, hown, hsz, fun g hgg => ?_⟩
        rw [hg'] at hgg; cases hgg
        refine ⟨hlog, fun o ho => ?_⟩
        rw [View.put_f, if_neg (by omega)]
        rcases hblk with h | h
        · have : n * sz ≤ n' * sz := Nat.mul_le_mul_right _ (by omega)
          exact (hHn g' (by rw [← h]; exact hg')).2 o (by omega)
        · rw [hg'] at h; cases h
          cases hq : H w.heap.size o with
          | none => rfl
          | some u => exact absurd (View.lt hm.view hq) (Nat.lt_irrefl _)
      · have hy' : ob i = some y := by simpa [updOb, hi] using hy
        have hoi : ob i ≠ none := by rw [hy']; simp
        exact (hm.objs i y hy').ext hH hle (hue i hi) (fun b hb => hg.block b (hoth i hi hoi b hb).2.2 (hoth i hi hoi b hb).2.1) (fun b hb o => hputo b o (hoth i hi hoi b hb).1)
    dj := fun i j hi hj hij b hb hb' => by
      have h1 := hup i hi
      have h2 := hup j hj
      by_cases hip : i = p
      · subst hip
        rw [updEnv_same] at hb
        rw [hue j (fun e => hij e.symm)] at hb'
        have : b = g' := by have := (show v'.ownBlock = some b from hb); rw [hg'] at this; exact (Option.some.inj this).symm
        exact (hoth j (fun e => hij e.symm) h2 b hb').1 this
      · rw [hue i hip] at hb
        by_cases hjp : j = p
        · subst hjp
          rw [updEnv_same] at hb'
          have : b = g' := by have := (show v'.ownBlock = some b from hb'); rw [hg'] at this; exact (Option.some.inj this).symm
          exact (hoth i hip h1 b hb).1 this
        · rw [hue j hjp] at hb'
          exact hm.dj i j h1 h2 hij b hb hb'
    own := fun i hi b hb => by
      have h1 := hup i hi
      by_cases hip : i = p
      · subst hip
        rw [updEnv_same] at hb
        have : b = g' := by have := (show v'.ownBlock = some b from hb); rw [hg'] at this; exact (Option.some.inj this).symm
        rw [this]; exact hg'own
      · rw [hue i hip] at hb; exact hm.own i h1 b hb
    os := hg.os.trans hm.os
    tape := hg.tape.trans hm.tape
    output := hg.output.trans hm.output
    size := Nat.le_trans hm.size hg.size
    block := fun k hk hS hz => by
      rw [hg.block k (Nat.lt_of_lt_of_le hk hm.size) (fun e => by
        rcases hownp k e.symm with h | h
        · omega
        · exact hS h.1)]
      exact hm.block k hk hS (fun h => hz (hH.wb.2 h))
    hle := View.le_trans hm.hle hH
    hold := fun b o hb hS hz => by
      have hbg : b ≠ g' := by
        intro e; subst e
        rcases hg'own with h | h
        · omega
        · exact hS h.1
      rw [hputo b o hbg]
      exact hm.hold b o hb hS (fun h => hz (hH.wb.2 h))
    ele := Env.le_trans hm.ele hle
    low := hm.low
    top := hm.top
    lo := ⟨Nat.le_trans hm.lo.1 hg.size, hm.lo.2⟩
    fz := fun b o u h hz => by
      by_cases hbg : b = g'
      · subst hbg
        rcases hown.2 with ⟨_, h0⟩ | ⟨g, cap, cur, hv2, _, hgh, _⟩
        · omega
        · have : g = b := by rw [hv2] at hg'; simpa [Value.ownBlock] using hg'
          subst this; exact frozen_row hgh
      · rw [hputo b o hbg] at h
        have hlt := View.lt hm.view h
        exact hfr b o hlt (hm.fz b o u h (hz.imp_right (Or.imp_right hH.wb.1)))
    wr := by
      have hwg : ∀ b o, H.wr b o → b ≠ g' ∧ some b ≠ v.ownBlock := by
        intro b o h
        have h2 : some b ≠ v.ownBlock := fun e => (hm.wr b o h).2.2 p hne (by rw [hbkp]; exact e.symm)
        refine ⟨fun e => ?_, h2⟩
        rcases hblk with h3 | h3
        · exact h2 (by rw [e, ← hg', h3])
        · rw [hg'] at h3; cases h3; have := hm.wr_lt h; omega
      exact hm.wr_keep hH (fun b o h h1 => (hputo b o (hwg b o h).1).trans h1) (fun b o h => hg.block b (hm.wr_lt h) (hwg b o h).2) (fun b o h i hi hb => by
        have h1 := hup i hi
        by_cases hip : i = p
        · subst hip
          rw [updEnv_same] at hb
          have : b = g' := by have := (show v'.ownBlock = some b from hb); rw [hg'] at this; exact (Option.some.inj this).symm
          exact (hwg b o h).1 this
        · rw [hue i hip] at hb; exact (hm.wr b o h).2.2 i h1 hb) }
end Go.Sy
end
section
set_option linter.unusedVariables false
namespace Go.Sy

theorem DL.append {H : View} : ∀ {vs vs' : List Value} {cs cs' : List AV}, DL H vs cs → DL H vs' cs' → DL H (vs ++ vs') (cs ++ cs')
  | [], _, cs, _, h, h' => by cases h; simpa using h'
  | v :: vs, _, cs, _, h, h' => by cases h with | cons _ c _ cs h t => exact .cons _ _ _ _ h (DL.append t h')

theorem run_append_zero {P : Program} (w : World) (t ty' e : TypeId) (i : TypeInfo) (ht : P.underlying t = some (.slice e)) (hi : P.info? e = some i) (base : Option Addr) (n cap : Nat) (hc : n ≤ cap) (x : Value)
    (hx : x = .slice none 0 0 ∨ ∃ b c, x = .slice (some b) 0 c) : (Builtin.append_ #[t, t] ty' #[.slice base n cap, x]).run P w = .ok (.slice base n cap) w := by
  have hf : (Builtin.firstCells i.size 0 x).run P w = .ok #[] w := by
    rcases hx with rfl | ⟨b, c, rfl⟩
    · simp [Builtin.firstCells]
    · simp [Builtin.firstCells, loadCells, loadCellsFrom]
  have hl : (Builtin.lenOf x).run P w = .ok 0 w := by rcases hx with rfl | ⟨b, c, rfl⟩ <;> simp [Builtin.lenOf]
  cases base with
  | none => simp [Builtin.append_, run_underlying' ht, run_sizeOf' hi, hl, hc, hf]
  | some a => simp [Builtin.append_, run_underlying' ht, run_sizeOf' hi, hl, hc, hf, storeCells]

theorem ownsRow_slice {w : World} {base : Nat} {e : TypeId} {size : Nat} {v : Value} {n : Nat} {xs : List Value} (h : w.ownsRow base e size v n xs) : ∃ b cap, v = .slice b n cap ∧ n ≤ cap := by
  rcases h.2 with ⟨rfl, rfl⟩ | ⟨g, cap, cur, rfl, _, _, hc, _⟩
  · exact ⟨none, 0, rfl, Nat.le_refl _⟩
  · exact ⟨some ⟨g, 0, none⟩, cap, rfl, hc⟩

theorem Env.le.trans' {ε ε' ε'' : Env} (h : ε.le ε') (h' : ε'.le ε'') : ε.le ε'' := Env.le_trans h h'

theorem updOb_same {ob : Nat → Option Ob} {id : Nat} {x : Ob} (h : ob id = some x) : updOb ob id x = ob := by
  funext i; unfold updOb; split
  · rename_i hi; rw [hi, h]
  · rfl

theorem row_values {H : View} {w : World} {e : TypeId} {sz : Nat} {v : Value} {es : List (List AV)} {xs : List Value} (hview : ∀ b o v, H b o = some v → w.cell? ⟨b, o, none⟩ = some v) (hown : w.ownsRow 0 e sz v es.length xs)
    (hd : Sl H v sz es) (hs : ∀ x ∈ es, x.length = sz) : DL H xs es.flatten ∧ ∀ u ∈ xs, u.oneCell' = true := by
  have hxl : xs.length = es.length * sz := hown.1
  rcases hd.slice with ⟨_, rfl⟩ | ⟨_, _, _, rfl⟩ | ⟨b, off, cap, hv, hc, _, hm⟩
  · have : xs = [] := List.eq_nil_of_length_eq_zero (by simpa using hxl)
    subst this; exact ⟨.nil, by simp⟩
  · have : xs = [] := List.eq_nil_of_length_eq_zero (by simpa using hxl)
    subst this; exact ⟨.nil, by simp⟩
  · rcases hown.2 with ⟨hv', _⟩ | ⟨g, cap', cur, hv', _, _⟩
    · rw [hv] at hv'; cases hv'
    · rw [hv] at hv'
      cases hv'
      obtain ⟨vs, hl, hcell, hdl, h1⟩ := hm.to_list
      have hcs := World.ownsRow.cells hown (g := b) (by rw [hv]; rfl)
      have : xs = vs := by
        apply List.ext_getElem?
        intro j
        have hle : vs.length = es.length * sz := by rw [hl, flatten_length hs]
        rcases Nat.lt_or_ge j xs.length with hj | hj
        · have h2 := hcs j xs[j] (by simp [hj])
          have hj' : j < vs.length := by omega
          have h3 := hview _ _ _ (hcell j vs[j] (by simp [hj']))
          rw [add_eq] at h2
          rw [h2] at h3
          simp [hj, hj', Option.some.inj h3]
        · rw [List.getElem?_eq_none hj, List.getElem?_eq_none (by omega)]
      subst this; exact ⟨hdl, h1⟩

section
variable {P : Program} {nb : Nat} {t : TypeId} {σ : St}

theorem run_append_call {o : Oper} {ρ : Operand → Value} {w w' : World} {s x : Operand} {t' : TypeId} {v' : Value} (ho : o.op = .call { callee := .builtin .append, args := #[s, x], argTypes := #[t', t'] })
    (h : (Builtin.append_ #[t', t'] o.type #[ρ s, ρ x]).run P w = .ok v' w') : (execOp ρ o).run P w = .ok (.value v') w' := by
  simp only [execOp, ho, resolve, invoke, builtin, Sem.run_bind, Sem.run_pure, Result.andThen_ok, List.map_toArray, List.map_cons, List.map_nil, h]

def rowsOK (sz : Nat) (a : AV) : Option (List (List AV)) :=
  match a with
  | .sl sz' es | .osl _ sz' es | .ol sz' es => if sz' = sz then some es else none
  | .s (.slice none 0 0) => some []
  | .s (.slice (some _) 0 _) => some []
  | _ => none

theorem rowsOK_D {H : View} {ε : Env} {v : Value} {a : AV} {sz : Nat} {es : List (List AV)} (h : R H ε v a) (ha : rowsOK sz a = some es) : Sl H v sz es := by
  unfold rowsOK at ha
  split at ha
  · split at ha
    · rename_i hz; cases ha; subst hz; exact h.sl_inv.slice
    · cases ha
  · split at ha
    · rename_i hz; cases ha; subst hz; exact h.osl_inv.1.slice
    · cases ha
  · split at ha
    · rename_i hz; cases ha; subst hz; exact h.ol_inv.oslice
    · cases ha
  · cases ha; rw [h.s_inv.1]; exact .inl ⟨rfl, rfl⟩
  · cases ha; rw [h.s_inv.1]; exact .inr (.inl ⟨_, _, rfl, rfl⟩)
  · cases ha

theorem append_mem {c : Ctx} {H : View} {ε : Env} {ob : Nat → Option Ob} {w : World} (hm : Mem c H ε ob w) {t' : TypeId} {T U : TY} {e : TypeId} {p : Nat} {es fs : List (List AV)} {v x : Value}
    (hT : ty P t' = some T) (hk : T.kd = .slice e) (hU : ty P e = some U) (hzl : U.zero.length = U.n) (hp : ob p = some (.perm e U.n es.length)) (hR : R H ε v (.osl p U.n es)) (hD : Sl H x U.n fs)
    (h63 : es.length + fs.length ≤ 9223372036854775807) (hb : (es.length + fs.length) * U.bytes ≤ 140737488355328) (ty' : TypeId) :
    ∃ v' w' H' ε', (Builtin.append_ #[t', t'] ty' #[v, x]).run P w = .ok v' w' ∧ H.le H' ∧ ε.le ε' ∧ (∀ id, ε id = none → ε' id = none) ∧ R H' ε' v' (.osl p U.n (es ++ fs)) ∧
      Mem c H' ε' (updOb ob p (.perm e U.n (es.length + fs.length))) w' := by
  obtain ⟨inf, d, z, hi, hd, hz, _, _, hkd, _⟩ := ty_inv hT
  obtain ⟨inf2, d2, z2, hi2, hd2, hz2, hn2, hb2, _, hzs2, _⟩ := ty_inv hU
  rw [hkd] at hk
  cases d <;> simp [kdOf] at hk
  subst hk
  obtain ⟨hDv, v0, n, hε, hle, he⟩ := hR.osl_inv
  obtain ⟨vp, xs, hε', hown, hsz, hHn⟩ := hm.objs p _ hp
  rw [hε] at hε'
  cases hε'
  have hve := he rfl
  subst hve
  obtain ⟨base, cap, hvs, hcap⟩ := ownsRow_slice hown
  by_cases hf : fs = []
  · subst hf
    refine ⟨v, w, H, ε, ?_, View.le_refl H, Env.le_refl ε, fun _ h => h, by simpa using hR, by rw [List.length_nil, Nat.add_zero, updOb_same hp]; exact hm⟩
    rw [hvs]
    refine run_append_zero w _ ty' _ inf2 hd hi2 base _ cap hcap x ?_
    rcases hD.slice with ⟨h, _⟩ | ⟨a, cap2, h, _⟩ | ⟨b, off, cap', h, _⟩
    · exact .inl h
    · exact .inr ⟨_, _, h⟩
    · exact .inr ⟨_, _, h⟩
  · rcases hD.slice with ⟨_, h⟩ | ⟨_, _, _, h⟩ | ⟨b, off, cap', hx, hc', hs', hmem⟩
    · exact absurd h hf
    · exact absurd h hf
    · have hs : ∀ y ∈ es, y.length = U.n := by
        rcases hDv.slice with ⟨_, h⟩ | ⟨_, _, _, h⟩ | ⟨_, _, _, _, _, h, _⟩
        · subst h; simp
        · subst h; simp
        · exact h
      obtain ⟨hdx, hx1⟩ := row_values hm.view hown hDv.slice hs
      obtain ⟨news, hnl, hncell, hnd, hn1⟩ := hmem.to_list
      have hnl' : news.length = fs.length * inf2.size := by rw [hnl, flatten_length hs', hn2]
      have hfp : 0 < fs.length := List.length_pos_iff.2 hf
      rw [hn2] at hown hsz
      have hzs : z2.cells.size = inf2.size := by
        have : z2.cells.toList.length = inf2.size := by rw [← hzs2, hzl, hn2]
        simpa using this
      obtain ⟨v', w', hrun, hown', hgr, hkeep, hblk, hfr⟩ := append_cases (P := P) w t' ty' _ inf2 z2 hd hi2 hz2 hzs v es.length xs hown ⟨b, off, none⟩ fs.length cap' hfp news hnl'
        (fun j u hj => by rw [add_eq]; exact hm.view _ _ _ (hncell j u hj)) hn1 (by unfold maxLen; omega) (by rw [hb2] at hb; exact hb)
      have hflat : (es ++ fs).flatten = es.flatten ++ fs.flatten := List.flatten_append
      rw [hn2] at hHn hs hs'
      rw [hn2] at hp
      obtain ⟨H', q1, q2, q3, q4⟩ := hm.growRow (es' := es ++ fs) hp hε hsz (by omega) hHn hown' hgr hkeep hblk hfr (by rw [hflat]; exact DL.append hdx hnd) (by
        intro y hy
        rcases List.mem_append.1 hy with h | h
        · exact hs y h
        · exact hs' y h) (by simp) (by
        intro u hu
        rcases List.mem_append.1 hu with h | h
        · exact hx1 u h
        · exact hn1 u h)
      refine ⟨v', w', H', _, ?_, q1, q2, ?_, by rw [hn2]; exact q3, by rw [hn2]; exact q4⟩
      · rw [hx]; exact hrun
      · intro id hid
        unfold updEnv
        split
        · rename_i h; subst h; rw [hε] at hid; cases hid
        · exact hid

theorem opS_append (s x : Operand) (t' : TypeId) (T U : TY) (e : TypeId) (p : Nat) (es fs : List (List AV)) (hT : ty P t' = some T) (hk : T.kd = .slice e) (hU : ty P e = some U) (hzl : U.zero.length = U.n)
    (hs : σ.ev s = .osl p U.n es) (hp : σ.ob p = some (.perm e U.n es.length)) (hx : rowsOK U.n (σ.ev x) = some fs) (h63 : es.length + fs.length ≤ 9223372036854775807) (hb : (es.length + fs.length) * U.bytes ≤ 140737488355328) :
    OpS P nb (.call { callee := .builtin .append, args := #[s, x], argTypes := #[t', t'] }) t σ (.osl p U.n (es ++ fs)) (updOb σ.ob p (.perm e U.n (es.length + fs.length))) :=
  .run fun c H ε ρ w o ho ht hm hr hf => by
    have h1 := hr s; rw [hs] at h1
    obtain ⟨v', w', H', ε', q1, q2, q3, q4, q5, q6⟩ := append_mem hm hT hk hU hzl hp h1 (rowsOK_D (hr x) hx) h63 hb o.type
    exact ⟨v', w', H', ε', run_append_call ho q1, q2, q3, fun id h _ => q4 id h, q5, q6⟩

theorem opS_append_nil (s x : Operand) (t' : TypeId) (T U : TY) (e : TypeId) (fs : List (List AV)) (hT : ty P t' = some T) (hk : T.kd = .slice e) (hU : ty P e = some U) (hn0 : 0 < U.n) (hzl : U.zero.length = U.n)
    (hs : σ.ev s = .s (.slice none 0 0)) (hx : rowsOK U.n (σ.ev x) = some fs) (h63 : fs.length ≤ 9223372036854775807) (hb : fs.length * U.bytes ≤ 140737488355328) :
    OpS P nb (.call { callee := .builtin .append, args := #[s, x], argTypes := #[t', t'] }) t σ (.osl nb U.n fs) (updOb σ.ob nb (.perm e U.n fs.length)) :=
  .run fun c H ε ρ w o ho ht hm hr hf => by
    have h1 := hr s; rw [hs] at h1
    have hnew : Mem c H (updEnv ε nb (.row (.slice none 0 0) 0)) (updOb σ.ob nb (.perm e U.n 0)) w :=
      hm.add (fresh_here hf) ⟨.slice none 0 0, [], updEnv_same _ _ _, World.ownsRow_nil w 0 e U.n, hn0, fun g hg => by cases hg⟩ (fun b o hb => by cases hb) (fun b hb => by cases hb) (fun b hb => by cases hb)
    have hR : R H (updEnv ε nb (.row (.slice none 0 0) 0)) (ρ s) (.osl nb U.n []) := .osl _ _ _ _ _ 0 (by rw [h1.s_inv.1]; exact .nil _) (updEnv_same _ _ _) (Nat.le_refl _) (fun _ => h1.s_inv.1)
    obtain ⟨v', w', H', ε', q1, q2, q3, q4, q5, q6⟩ := append_mem hnew hT hk hU hzl (es := []) (by simp [updOb]) hR (rowsOK_D (hr x) hx) (by simpa using h63) (by simpa using hb) o.type
    refine ⟨v', w', H', ε', run_append_call ho q1, q2, (Env.le_new (fresh_here hf)).trans' q3, fun id h hn => q4 id (keep_new id h hn), by simpa using q5, ?_⟩
    have he : updOb (updOb σ.ob nb (.perm e U.n 0)) nb (.perm e U.n (([] : List (List AV)).length + fs.length)) = updOb σ.ob nb (.perm e U.n fs.length) := by
      funext i; unfold updOb; split <;> simp
    rw [← he]; exact q6
end
end Go.Sy
end
section
set_option linter.unusedVariables false
namespace Go.Sy

theorem foldl_write' (off : Nat) (C : List Value) : ∀ (l : List Value) (k : Nat) (A B : List Value), A.length = off + k → B.length = l.length →
    (l.zipIdx k).foldl (fun cs (x : Value × Nat) => cs.setIfInBounds (off + x.2) x.1) (A ++ (B ++ C)).toArray = (A ++ (l ++ C)).toArray
  | [], k, A, B, _, hB => by
    have : B = [] := List.eq_nil_of_length_eq_zero (by simpa using hB)
    subst this; simp
  | v :: l, k, A, B, hA, hB => by
    match B, hB with
    | b :: B, hB =>
      have h : (A ++ (b :: B ++ C)).toArray.setIfInBounds (off + k) v = ((A ++ [v]) ++ (B ++ C)).toArray := by
        rw [← hA]; simp
      simp only [List.zipIdx_cons, List.foldl_cons]
      rw [h, foldl_write' off C l (k + 1) (A ++ [v]) B (by simp; omega) (by simpa using hB)]
      simp

theorem foldl_write (off : Nat) (l : List Value) (cs : Array Value) (h : off + l.length ≤ cs.size) :
    l.zipIdx.foldl (fun cs (x : Value × Nat) => cs.setIfInBounds (off + x.2) x.1) cs = (cs.toList.take off ++ l ++ cs.toList.drop (off + l.length)).toArray := by
  have h1 := foldl_write' off (cs.toList.drop (off + l.length)) l 0 (cs.toList.take off) ((cs.toList.drop off).take l.length) (by simp; omega) (by simp; omega)
  have h2 : (cs.toList.take off ++ ((cs.toList.drop off).take l.length ++ cs.toList.drop (off + l.length))).toArray = cs := by
    rw [← List.drop_drop, List.take_append_drop, List.take_append_drop]
  rw [h2] at h1
  rw [h1, List.append_assoc]

theorem fill_cons (place : Nat → Option (Nat × Nat)) (cells : Array Value) (i off size : Nat) (v : Value) (rest : List (Nat × Value)) (hp : place i = some (off, size)) (h1 : v.cells.size = size) (h2 : off + size ≤ cells.size) :
    Instr.fill place cells ((i, v) :: rest) = Instr.fill place (cells.toList.take off ++ v.cells.toList ++ cells.toList.drop (off + size)).toArray rest := by
  subst h1
  have hc : ¬ ((v.cells.size ≠ v.cells.size || off + v.cells.size > cells.size) = true) := by simp; omega
  have hw : v.cells.zipIdx.foldl (fun cs (x : Value × Nat) => cs.setIfInBounds (off + x.2) x.1) cells = (cells.toList.take off ++ v.cells.toList ++ cells.toList.drop (off + v.cells.size)).toArray := by
    have := foldl_write off v.cells.toList cells (by simpa using h2)
    rw [← Array.foldl_toList, Array.toList_zipIdx, this]
    simp
  rw [Instr.fill]
  simp only [hp, if_neg hc]
  exact congrArg (fun c => Instr.fill place c rest) hw

def buildAV (fields : List (Option (Nat × Nat × Bool))) : List AV → List (Nat × AV) → Option (List AV)
  | cs, [] => some cs
  | cs, (i, a) :: rest =>
    match fields[i]? with
    | some (some (off, n, _)) => if a.cells.length = n ∧ off + n ≤ cs.length ∧ a.cells.all AV.one = true then buildAV fields (cs.take off ++ a.cells ++ cs.drop (off + n)) rest else none
    | _ => none

theorem one_or_agg {a : AV} (h : a.cells.all AV.one = true) : a.one = true ∨ ∃ cs, a = .agg cs := by
  cases a <;> first | exact .inr ⟨_, rfl⟩ | (left; simpa [AV.cells] using h)

theorem fill_build {H : View} {ε : Env} {fields : List (Option (Nat × Nat × Bool))} {place : Nat → Option (Nat × Nat)} (hpl : ∀ i off n ag, fields[i]? = some (some (off, n, ag)) → place i = some (off, n)) :
    ∀ (parts : List (Nat × AV)) (vs : List (Nat × Value)) (cs : List AV) (cells : Array Value) (r : List AV), RL H ε cells.toList cs → vs.map (·.1) = parts.map (·.1) → (∀ (j : Nat) (x : Nat × Value) (y : Nat × AV), vs[j]? = some x → parts[j]? = some y → R H ε x.2 y.2) →
      buildAV fields cs parts = some r → ∃ out, Instr.fill place cells vs = some out ∧ RL H ε out.toList r
  | [], [], cs, cells, r, hr, _, _, h => by
    simp [buildAV] at h; subst h
    exact ⟨cells, rfl, hr⟩
  | [], _ :: _, _, _, _, _, hm, _, _ => by simp at hm
  | _ :: _, [], _, _, _, _, hm, _, _ => by simp at hm
  | (i, a) :: parts, (i', v) :: vs, cs, cells, r, hr, hm, hx, h => by
    simp at hm
    obtain ⟨rfl, hm⟩ := hm
    unfold buildAV at h
    split at h
    · rename_i off n ag hf
      split at h
      · rename_i hc
        obtain ⟨h1, h2, h3⟩ := hc
        have hv : R H ε v a := hx 0 (i', v) (i', a) rfl rfl
        have hcl := hv.cells (one_or_agg h3)
        have hlen := hr.length_eq
        have hvl := hcl.length_eq
        rw [fill_cons place cells i' off n v vs (hpl _ _ _ _ hf) (by simp at hvl; omega) (by simp at hlen; omega)]
        refine fill_build hpl parts vs _ _ r ?_ hm (fun j x y h4 h5 => hx (j + 1) x y (by simpa using h4) (by simpa using h5)) h
        simpa using ((hr.take off).append hcl).append (hr.drop (off + n))
      · cases h
    · cases h

theorem places_of {P : Program} : ∀ (fs : List Field), (fs.map (tyField P)).all Option.isSome = true → ∃ places, fs.mapM (fun f => (P.info? f.type).map fun i => (f.offset, i.size)) = some places ∧
    ∀ (i off n : Nat) (ag : Bool), (fs.map (tyField P))[i]? = some (some (off, n, ag)) → places[i]? = some (off, n)
  | [], _ => ⟨[], rfl, by simp⟩
  | f :: fs, h => by
    simp only [List.map_cons, List.all_cons, Bool.and_eq_true] at h
    obtain ⟨places, h1, h2⟩ := places_of fs h.2
    obtain ⟨q, hq⟩ := Option.isSome_iff_exists.1 h.1
    have hq' := hq
    unfold tyField at hq'
    split at hq'
    · rename_i fi fd hfi hfd
      cases hq'
      refine ⟨(f.offset, fi.size) :: places, by simp [List.mapM_cons, hfi, h1], ?_⟩
      intro i off n ag hi
      cases i with
      | zero => simp [hq] at hi; obtain ⟨rfl, rfl, _⟩ := hi; rfl
      | succ i => simp at hi; simpa using h2 i off n ag (by simpa using hi)
    · cases hq'

theorem slice_inv {P : Program} {t e : TypeId} {T : TY} (hT : ty P t = some T) (hk : T.kd = .slice e) : P.underlying t = some (.slice e) := by
  obtain ⟨inf, d, z, hi, hd, hz, _, _, hkd, _⟩ := ty_inv hT
  rw [hkd] at hk
  cases d <;> simp [kdOf] at hk
  subst hk; exact hd

section
variable {P : Program} {nb : Nat} {t : TypeId} {σ : St}

theorem opS_build (t' : TypeId) (parts : Array (Nat × Operand)) (T : TY) (r : List AV) (hT : ty P t' = some T) (hk : T.kd = .struct) (hz1 : T.zero.all (·.oneCell') = true) (hf : T.fields.all Option.isSome = true)
    (h : buildAV T.fields (T.zero.map .s) (parts.toList.map fun x => (x.1, σ.ev x.2)) = some r) : OpS P nb (.build t' parts) t σ (.agg r) σ.ob :=
  .pure fun c H ε ρ w o ho _ hm hr => by
    obtain ⟨inf, d, z, hi, hd, hz, _, _, hkd, hzs, hfs⟩ := ty_inv hT
    rw [hkd] at hk
    cases d <;> simp [kdOf] at hk
    rename_i fs
    simp only at hfs
    rw [hfs] at hf h
    obtain ⟨places, hp1, hp2⟩ := places_of fs.toList hf
    have hRz : RL H ε z.cells.toList (T.zero.map .s) := by rw [hzs] at hz1 ⊢; exact .of_DL (DL_consts H _ hz1)
    obtain ⟨out, ho1, ho2⟩ := fill_build (H := H) (ε := ε) (place := (places.toArray[·]?)) (fun i off n ag hi' => by simpa using hp2 i off n ag hi') (parts.toList.map fun x => (x.1, σ.ev x.2)) (parts.toList.map fun x => (x.1, ρ x.2)) _ z.cells r hRz (by simp)
      (fun j x y h1 h2 => by
        simp only [List.getElem?_map, Option.map_eq_some_iff] at h1 h2
        obtain ⟨q, hq, rfl⟩ := h1
        obtain ⟨q', hq', rfl⟩ := h2
        rw [hq] at hq'; cases hq'
        exact hr q.2) h
    refine ⟨.agg out, ?_, ?_⟩
    · have hb : P.built t' (parts.map fun x => (x.1, ρ x.2)).toList = some out := by
        unfold Program.built
        simp only [hi, hd, hz, hp1]
        simpa using ho1
      have := run_build w t' (parts.map fun x => (x.1, ρ x.2)) out hb
      simp only [execOp, ho, Sem.run_bind, this, Result.andThen_ok, Sem.run_pure]
    · have := R.agg (H := H) (ε := ε) _ _ ho2
      simpa using this

def AV.dat : AV → Option AV
  | .s v => some (.s v)
  | .sl sz es => some (.sl sz es)
  | .osl _ sz es => some (.sl sz es)
  | .ol sz es => some (.ol sz es)
  | .wsl sz es => some (.wsl sz es)
  | .ref cs => some (.ref cs)
  | _ => none

def datL : List AV → Option (List AV)
  | [] => some []
  | a :: l => match a.dat, datL l with
    | some a', some l' => some (a' :: l')
    | _, _ => none

theorem R.dat {H : View} {ε : Env} {v : Value} {a a' : AV} (h : R H ε v a) (ha : a.dat = some a') : D H v a' := by
  cases a <;> simp [AV.dat] at ha <;> subst ha
  · have := h.s_inv; rw [this.1]; exact .s _ this.2
  · exact h.sl_inv
  · exact h.ol_inv
  · exact h.wsl_inv
  · exact h.osl_inv.1
  · obtain ⟨b, off, rfl, hd⟩ := h.ref_inv; exact .ref _ _ _ hd
theorem RL.dat {H : View} {ε : Env} : ∀ {vs : List Value} {l l' : List AV}, RL H ε vs l → datL l = some l' → DL H vs l'
  | _, [], l', h, ha => by simp [datL] at ha; subst ha; cases h; exact .nil
  | _, a :: l, l', h, ha => by
    unfold datL at ha
    split at ha
    · rename_i a' l'' h1 h2
      cases ha
      cases h with | cons v _ vs _ h t => exact .cons _ _ _ _ (h.dat h1) (RL.dat t h2)
    · cases ha
theorem datL_one : ∀ {l l' : List AV}, datL l = some l' → l.all AV.one = true ∧ l'.length = l.length
  | [], l', h => by simp [datL] at h; subst h; simp
  | a :: l, l', h => by
    unfold datL at h
    split at h
    · rename_i a' l'' h1 h2
      cases h
      have := datL_one h2
      refine ⟨?_, by simp [this.2]⟩
      simp only [List.all_cons, Bool.and_eq_true]
      exact ⟨by cases a <;> simp [AV.dat] at h1 <;> rfl, this.1⟩
    · cases h

def litRows (sz : Nat) : List AV → Option (List (List AV))
  | [] => some []
  | a :: l => match datL a.cells, litRows sz l with
    | some cs, some r => if cs.length = sz then some (cs :: r) else none
    | _, _ => none

theorem fill_lit {H : View} {ε : Env} {sz : Nat} {place : Nat → Option (Nat × Nat)} (hpl : ∀ i, place i = some (i * sz, sz)) : ∀ (as : List AV) (vs : List Value) (k : Nat) (done : List Value) (dcs : List AV) (zs : List Value) (es : List (List AV)),
    done.length = k * sz → zs.length = vs.length * sz → RL H ε vs as → litRows sz as = some es → DL H done dcs → (∀ u ∈ done, u.oneCell' = true) →
      ∃ out, Instr.fill place (done ++ zs).toArray ((vs.zipIdx k).map fun x => (x.2, x.1)) = some out ∧ DL H out.toList (dcs ++ es.flatten) ∧ (∀ u ∈ out.toList, u.oneCell' = true) ∧ (∀ e ∈ es, e.length = sz) ∧ es.length = vs.length
  | [], vs, k, done, dcs, zs, es, hd, hz, hr, hl, hdl, h1 => by
    cases hr
    simp [litRows] at hl; subst hl
    have : zs = [] := List.eq_nil_of_length_eq_zero (by simpa using hz)
    subst this
    exact ⟨done.toArray, by simp [Instr.fill], by simpa using hdl, by simpa using h1, by simp, rfl⟩
  | a :: as, vs, k, done, dcs, zs, es, hd, hz, hr, hl, hdl, h1 => by
    cases hr with
    | cons v _ vs _ h t =>
      unfold litRows at hl
      split at hl
      · rename_i cs r hcs hrest
        split at hl
        · rename_i hcl
          cases hl
          have ho := datL_one hcs
          have hc := h.cells (one_or_agg ho.1)
          have hcD := hc.dat hcs
          have hcone := hc.one (by simpa using ho.1)
          have hvl : v.cells.toList.length = sz := by rw [hc.length_eq, ← ho.2, hcl]
          have hzl : sz ≤ zs.length := by rw [hz, List.length_cons, Nat.add_mul]; omega
          obtain ⟨out, q1, q2, q3, q4, q5⟩ := fill_lit hpl as vs (k + 1) (done ++ v.cells.toList) (dcs ++ cs) (zs.drop sz) r (by rw [List.length_append, hd, hvl, Nat.add_mul]; omega) (by rw [List.length_drop, hz, List.length_cons, Nat.add_mul]; omega) t hrest (DL.append hdl hcD)
            (by intro u hu; rcases List.mem_append.1 hu with h' | h'; · exact h1 u h'
                · exact hcone u h')
          refine ⟨out, ?_, by simpa using q2, q3, by simpa [hcl] using q4, by simp [q5]⟩
          rw [List.zipIdx_cons, List.map_cons, fill_cons place _ k (k * sz) sz v _ (hpl k) (by simpa using hvl) (by simp; omega), ← q1]
          congr 1
          simp [← hd, List.drop_append, Nat.add_sub_cancel_left]
        · cases hl
      · cases hl

theorem opS_buildSlice (t' : TypeId) (len : Nat) (xs : List Operand) (parts : Array (Nat × Operand)) (T U : TY) (e : TypeId) (es : List (List AV)) (hT : ty P t' = some T) (hk : T.kd = .slice e) (hU : ty P e = some U)
    (hn0 : 0 < U.n) (hp : parts.toList = xs.zipIdx.map fun x => (x.2, x.1)) (hlen : xs.length = len) (hbig : len * U.n ≤ 16777216)
    (h : litRows U.n (xs.map σ.ev) = some es) : OpS P nb (.buildSlice t' len parts) t σ (.osl nb U.n es) (updOb σ.ob nb (.perm e U.n len)) :=
  .run fun c H ε ρ w o ho _ hm hr hf => by
    have hd := slice_inv hT hk
    obtain ⟨inf2, d2, z2, hi2, hd2, hz2, hn2, hb2, _, hzs2, _⟩ := ty_inv hU
    have hRL : RL H ε (xs.map ρ) (xs.map σ.ev) := by
      clear h hp hlen
      induction xs with
      | nil => exact .nil
      | cons x xs ih => exact .cons _ _ _ _ (hr x) ih
    let zero : Array Value := if len * inf2.size = 0 then #[] else z2.cells
    obtain ⟨zs, hzs⟩ : ∃ zs, zs = (Array.range (len * inf2.size)).map (fun i => zero[i % zero.size]!) := ⟨_, rfl⟩
    have hzl : zs.size = len * U.n := by rw [hzs, Array.size_map, Array.size_range, hn2]
    obtain ⟨out, q1, q2, q3, q4, q5⟩ := fill_lit (H := H) (ε := ε) (place := fun i => some (i * inf2.size, inf2.size)) (sz := U.n) (fun i => by rw [hn2]) (xs.map σ.ev) (xs.map ρ) 0 [] [] zs.toList es (by simp) (by simp [hzl, hlen]) hRL h .nil (by simp)
    have hesl : es.length = len := by rw [q5, List.length_map, hlen]
    have hq1 : Instr.fill (fun i => some (i * inf2.size, inf2.size)) zs (parts.map fun x => (x.1, ρ x.2)).toList = some out := by
      rw [← q1]
      congr 1
      rw [Array.toList_map, hp]
      simp [List.zipIdx_map, Function.comp_def]
    obtain ⟨H', r1, r2, r3⟩ := hm.newRow (fresh_here hf) (n := len) e hesl.symm q4 (by simpa using q2) q3 hn0 (by unfold maxLen; have : len ≤ len * U.n := Nat.le_mul_of_pos_right _ hn0; omega)
    refine ⟨.slice (some ⟨w.heap.size, 0, none⟩) len len, w.alloc (.cells out e), H', _, ?_, r1, Env.le_new (fresh_here hf), keep_new, r2, r3⟩
    have hbig' : ¬ len * inf2.size > 2 ^ 24 := by rw [← hn2]; omega
    have hrun : (Instr.buildSlice t' len (parts.map fun x => (x.1, ρ x.2))).run P w = .ok (.slice (some ⟨w.heap.size, 0, none⟩) len len) (w.alloc (.cells out e)) := by
      by_cases h0 : len * inf2.size = 0
      · have hz0 : zs = #[] := by rw [hzs, h0]; simp
        rw [hz0] at hq1
        have hz1 : ∀ f : Nat → Value, (Array.range 0).map f = #[] := fun f => by simp
        unfold Instr.buildSlice
        simp only [Sem.run_bind, run_underlying' hd, run_sizeOf' hi2, Result.andThen_ok, h0, if_true, hz1, hq1, newRow]
        rfl
      · simp only [zero, h0, if_false] at hzs
        rw [hzs] at hq1
        have hb : ¬ 16777216 < len * inf2.size := by omega
        simp [Instr.buildSlice, run_underlying' hd, run_sizeOf' hi2, h0, hb, run_zeroValue' hi2 hz2, newRow]
        simp at hq1
        simp [hq1]
    simp only [execOp, ho, Sem.run_bind, hrun, Result.andThen_ok, Sem.run_pure]
end
end Go.Sy
end
section
set_option linter.unusedVariables false
namespace Go.Sy

structure View.ok (H : View) (w : World) : Prop where
  view : ∀ b o v, H b o = some v → w.cell? ⟨b, o, none⟩ = some v
  lo : H.lo ≤ w.heap.size ∧ H.lo2 ≤ H.lo
  fz : ∀ b o v, H b o = some v → H.wb b → w.frozen? ⟨b, o, none⟩ = false
  wr : ∀ b o, H.wr b o → H b o = none ∧ ∃ v, w.cell? ⟨b, o, none⟩ = some v ∧ v.oneCell' = true ∧ w.frozen? ⟨b, o, none⟩ = false
theorem Mem.ok {c : Ctx} {H : View} {ε : Env} {ob : Nat → Option Ob} {w : World} (hm : Mem c H ε ob w) : H.ok w :=
  ⟨hm.view, hm.lo, fun b o v h hz => hm.fz b o v h (.inr (.inr hz)), fun b o h => ⟨(hm.wr b o h).1, (hm.wr b o h).2.1⟩⟩
structure BelowW (Z : Nat → Prop) (w w' : World) : Prop where
  os : w'.os = w.os
  tape : w'.tape = w.tape
  output : w'.output = w.output
  size : w.heap.size ≤ w'.heap.size
  block : ∀ k, k < w.heap.size → ¬ Z k → w'.heap[k]? = w.heap[k]?
theorem Mem.extW {c : Ctx} {H H' : View} {ε : Env} {ob : Nat → Option Ob} {w w' : World} (hm : Mem c H ε ob w) (hH : H.le H') (hold : ∀ b o, b < w.heap.size → ¬ H.wb b → H' b o = H b o)
    (hok : H'.ok w') (hfz : ∀ b o v, H' b o = some v → w.heap.size ≤ b → w'.frozen? ⟨b, o, none⟩ = false) (hw : BelowW H.wb w w') : Mem c H' ε ob w' where
  view := hok.view
  objs := fun id x hx => by
    have hz : ∀ b, blkOf (ε id) = some b → ¬ H.wb b := fun b hb ⟨o, h⟩ => (hm.wr b o h).2.2 id (by rw [hx]; simp) hb
    exact (hm.objs id x hx).ext hH (Env.le_refl ε) rfl (fun b hb => hw.block b ((hm.objs id x hx).lt hb) (hz b hb)) (fun b hb o => hold b o ((hm.objs id x hx).lt hb) (hz b hb))
  dj := hm.dj
  own := hm.own
  os := hw.os.trans hm.os
  tape := hw.tape.trans hm.tape
  output := hw.output.trans hm.output
  size := Nat.le_trans hm.size hw.size
  block := fun k hk hS hz => (hw.block k (Nat.lt_of_lt_of_le hk hm.size) (fun h => hz (hH.wb.2 h))).trans (hm.block k hk hS (fun h => hz (hH.wb.2 h)))
  hle := View.le_trans hm.hle hH
  hold := fun b o hb hS hz => (hold b o (Nat.lt_of_lt_of_le hb hm.size) (fun h => hz (hH.wb.2 h))).trans (hm.hold b o hb hS (fun h => hz (hH.wb.2 h)))
  ele := hm.ele
  low := hm.low
  top := hm.top
  lo := hok.lo
  fz := fun b o v h hz => by
    by_cases hwb : H'.wb b
    · exact hok.fz b o v h hwb
    · rcases Nat.lt_or_ge b w.heap.size with hb | hb
      · have hwb' : ¬ H.wb b := fun h => hwb (hH.wb.2 h)
        rw [frozen_same (hw.block b hb hwb')]
        exact hm.fz b o v (by rw [← hold b o hb hwb']; exact h) (hz.imp_right (Or.imp_right hH.wb.1))
      · exact hfz b o v h hb
  wr := fun b o h => by
    have h' : H.wr b o := by rw [← hH.wr]; exact h
    exact ⟨(hok.wr b o h).1, (hok.wr b o h).2, (hm.wr b o h').2.2⟩

mutual
inductive Le : AV → AV → Prop
  | refl (a : AV) : Le a a
  | junk (a : AV) : Le a .junk
  | nil (sz : Nat) : Le (.s (.slice none 0 0)) (.sl sz [])
  | onil (sz : Nat) : Le (.s (.slice none 0 0)) (.ol sz [])
  | osl (p sz : Nat) (es : List (List AV)) : Le (.osl p sz es) (.sl sz es)
  | agg (cs ds : List AV) (h : LeL cs ds) : Le (.agg cs) (.agg ds)
  | tup (cs ds : List AV) (h : LeL cs ds) : Le (.tup cs) (.tup ds)
inductive LeL : List AV → List AV → Prop
  | nil : LeL [] []
  | cons (a b : AV) (l m : List AV) (h : Le a b) (t : LeL l m) : LeL (a :: l) (b :: m)
end

mutual
theorem R.le {H : View} {ε : Env} : ∀ {a b : AV} {v : Value}, Le a b → R H ε v a → R H ε v b
  | _, _, _, .refl _, h => h
  | _, _, _, .junk _, _ => .junk _
  | _, _, _, .nil sz, h => by rw [h.s_inv.1]; exact .d _ _ (.nil sz)
  | _, _, _, .onil sz, h => by rw [h.s_inv.1]; exact .d _ _ (.onil sz)
  | _, _, _, .osl p sz es, h => .d _ _ h.osl_inv.1
  | _, _, _, .agg cs ds hl, h => by
    obtain ⟨vs, rfl, hr⟩ := h.agg_inv
    exact .agg _ _ (RL.le hl hr)
  | _, _, _, .tup cs ds hl, h => by
    obtain ⟨vs, rfl, hr⟩ := h.tup_inv
    exact .tup _ _ (RL.le hl hr)
theorem RL.le {H : View} {ε : Env} : ∀ {l m : List AV} {vs : List Value}, LeL l m → RL H ε vs l → RL H ε vs m
  | _, _, _, .nil, h => h
  | _, _, _, .cons a b l m hab hl, h => by
    cases h with | cons v _ vs _ h t => exact .cons _ _ _ _ (R.le hab h) (RL.le hl t)
end

mutual
inductive Pu : AV → Prop
  | s (v : Value) : Pu (.s v)
  | sl (sz : Nat) (es : List (List AV)) : Pu (.sl sz es)
  | ol (sz : Nat) (es : List (List AV)) : Pu (.ol sz es)
  | wsl (sz : Nat) (es : List (List AV)) : Pu (.wsl sz es)
  | ref (cs : List AV) : Pu (.ref cs)
  | agg (cs : List AV) (h : PuL cs) : Pu (.agg cs)
  | tup (cs : List AV) (h : PuL cs) : Pu (.tup cs)
inductive PuL : List AV → Prop
  | nil : PuL []
  | cons (a : AV) (l : List AV) (h : Pu a) (t : PuL l) : PuL (a :: l)
end

mutual
theorem R.pu {H : View} {ε : Env} : ∀ {a : AV} {v : Value}, Pu a → R H ε v a → D H v a
  | _, _, .s u, h => by have := h.s_inv; rw [this.1]; exact .s _ this.2
  | _, _, .sl sz es, h => h.sl_inv
  | _, _, .ol sz es, h => h.ol_inv
  | _, _, .wsl sz es, h => h.wsl_inv
  | _, _, .ref cs, h => by obtain ⟨b, off, rfl, hd⟩ := h.ref_inv; exact .ref _ _ _ hd
  | _, _, .agg cs hp, h => by obtain ⟨vs, rfl, hr⟩ := h.agg_inv; exact .agg _ _ (RL.pu hp hr)
  | _, _, .tup cs hp, h => by obtain ⟨vs, rfl, hr⟩ := h.tup_inv; exact .tup _ _ (RL.pu hp hr)
theorem RL.pu {H : View} {ε : Env} : ∀ {l : List AV} {vs : List Value}, PuL l → RL H ε vs l → DL H vs l
  | _, _, .nil, h => by cases h; exact .nil
  | _, _, .cons a l ha hl, h => by cases h with | cons v _ vs _ h t => exact .cons _ _ _ _ (R.pu ha h) (RL.pu hl t)
end

def PSpec (P : Program) (f : FuncId) (args : List AV) (r : AV) : Prop :=
  ∀ (w : World) (H : View) (vs : List Value), H.ok w → DL H vs args →
    Calls P f vs.toArray w fun e w' => ∃ v H', e = .returned v ∧ D H' v r ∧ H.le H' ∧ (H'.ok w' ∧ ∀ b o v, H' b o = some v → w.heap.size ≤ b → w'.frozen? ⟨b, o, none⟩ = false) ∧ (∀ b o, b < w.heap.size → ¬ H.wb b → H' b o = H b o) ∧ BelowW H.wb w w'

section
variable {P : Program} {nb : Nat} {t : TypeId} {σ : St}

theorem callFunc_enter {f : FuncId} {fn : Func} (hf : P.funcs[f]? = some fn) (hn : (fn.name == "runtime.NumGoroutine") = false) (hb : fn.body.isNone = false) (args : Array Value) (w : World) :
    (callFunc f args).run P w = .ok (.enter f args) w := by
  simp only [callFunc, Sem.run_bind, run_program, Result.andThen_ok, hf, hn, hb, Bool.false_eq_true, if_false, Sem.run_pure]

theorem opS_callPure (f : FuncId) (fn : Func) (x : Operand) (xs : List Operand) (ts : Array TypeId) (first caps args : List AV) (r : AV) (hf : P.funcs[f]? = some fn) (hn : (fn.name == "runtime.NumGoroutine") = false) (hb : fn.body.isNone = false)
    (hx : σ.ev x = .fn (.func f) first caps) (hle : LeL (first ++ xs.map σ.ev ++ caps) args) (hpu : PuL args) (hs : PSpec P f args r) :
    OpS P nb (.call { callee := .value x, args := xs.toArray, argTypes := ts }) t σ r σ.ob := by
  intro c H ε a w o ho _ hm hr hf' next Q hn'
  have hx' := R_ev hr x; rw [hx] at hx'
  obtain ⟨f1, c1, hv, hf1, hc1⟩ := hx'.fn_inv
  have hxs : RL H ε (xs.map a.eval) (xs.map σ.ev) := by
    clear hle hpu hs ho
    induction xs with
    | nil => exact .nil
    | cons y ys ih => exact .cons _ _ _ _ (R_ev hr y) ih
  have hD : DL H (f1 ++ xs.map a.eval ++ c1) args := RL.pu hpu (RL.le hle ((hf1.append hxs).append hc1))
  have hrun : (execOp a.eval o).run P w = .ok (.enter f (f1 ++ xs.map a.eval ++ c1).toArray) w := by
    simp [execOp, ho, resolve, hv, Deferred.ofValue, invoke, callFunc_enter hf hn hb]
  refine wpIn_of_wp (fun c hc => by rw [ho] at hc; cases hc) ?_
  unfold Oper.wp
  rw [hrun, Oper.upon_enter]
  refine (hs w H _ hm.ok hD).mono fun e w' ⟨v, H', he, hDv, hH, ⟨hok, hfz⟩, hold, hbel⟩ => ?_
  subst he
  exact hn' v w' H' ε hH (Env.le_refl ε) (fun _ h _ => h) (.d _ _ hDv) (hm.extW hH hold hok hfz hbel)

theorem opS_slice_str (t' : TypeId) (x : Operand) (lo hi : Option Operand) (T : TY) (s : ByteArray) (l h : Nat) (hT : ty P t' = some T) (hk : T.kd = .str) (hx : σ.ev x = .s (.string s))
    (hlo : match lo with | some y => ∃ k, σ.ev y = .s (.int k l) | none => l = 0) (hhi : match hi with | some y => ∃ k, σ.ev y = .s (.int k h) | none => h = s.size) (h1 : l ≤ h) (h2 : h ≤ s.size) :
    OpS P nb (.slice t' x lo hi none) t σ (.s (.string (s.extract l h))) σ.ob :=
  .pure fun c H ε ρ w o ho _ hm hr => by
    have hc := hr x; rw [hx] at hc
    obtain ⟨inf, d, z, hi', hd, _, _, _, hkd, _⟩ := ty_inv hT
    rw [hkd] at hk
    cases d <;> simp [kdOf] at hk
    refine ⟨_, ?_, .d _ _ (.s _ rfl)⟩
    have h3 := Nat.le_trans h1 h2
    cases lo with
    | none =>
      simp only at hlo; subst hlo
      cases hi with
      | none =>
        simp only at hhi; subst hhi
        simp [execOp, ho, hc.s_inv.1, Instr.sliceAt, Instr.slice, run_underlying' hd, Instr.sliceBounds]
      | some y =>
        obtain ⟨k, hy⟩ := hhi
        have hy' := hr y; rw [hy] at hy'
        simp [execOp, ho, hc.s_inv.1, hy'.s_inv.1, Instr.sliceAt, Instr.slice, run_underlying' hd, Instr.sliceBounds, Instr.sliceBound, asIntOf, h2]
    | some x' =>
      obtain ⟨k', hx'⟩ := hlo
      have hx'' := hr x'; rw [hx'] at hx''
      cases hi with
      | none =>
        simp only at hhi; subst hhi
        simp [execOp, ho, hc.s_inv.1, hx''.s_inv.1, Instr.sliceAt, Instr.slice, run_underlying' hd, Instr.sliceBounds, Instr.sliceBound, asIntOf, h3]
      | some y =>
        obtain ⟨k, hy⟩ := hhi
        have hy' := hr y; rw [hy] at hy'
        simp [execOp, ho, hc.s_inv.1, hx''.s_inv.1, hy'.s_inv.1, Instr.sliceAt, Instr.slice, run_underlying' hd, Instr.sliceBounds, Instr.sliceBound, asIntOf, h1, h2]

def sliceAV (a : AV) (sz : Nat) (es : List (List AV)) : AV := match a with
  | .ol _ _ => .ol sz es
  | _ => .sl sz es
def okBlk (H : View) (a : AV) (b : Nat) : Prop := match a with
  | .ol _ _ => H.lo2 ≤ b ∧ b < H.lo
  | _ => H.lo ≤ b
theorem rowsOK_P {H : View} {ε : Env} {v : Value} {a : AV} {sz : Nat} {es : List (List AV)} (h : R H ε v a) (ha : rowsOK sz a = some es) :
    (v = .slice none 0 0 ∧ es = []) ∨ (∃ a cap, v = .slice (some a) 0 cap ∧ es = []) ∨ ∃ b off cap, v = .slice (some ⟨b, off, none⟩) es.length cap ∧ es.length ≤ cap ∧ (∀ e ∈ es, e.length = sz) ∧ (es.flatten ≠ [] → okBlk H a b) ∧ DM H b off es.flatten := by
  unfold rowsOK at ha
  split at ha
  · split at ha
    · rename_i hz; cases ha; subst hz; exact h.sl_inv.slice2
    · cases ha
  · split at ha
    · rename_i hz; cases ha; subst hz; exact h.osl_inv.1.slice2
    · cases ha
  · split at ha
    · rename_i hz; cases ha; subst hz
      exact h.ol_inv.oslice2
    · cases ha
  · cases ha; rw [h.s_inv.1]; exact .inl ⟨rfl, rfl⟩
  · cases ha; rw [h.s_inv.1]; exact .inr (.inl ⟨_, _, rfl, rfl⟩)
  · cases ha
theorem sliceAV_nil {H : View} (a : AV) (sz : Nat) : D H (.slice none 0 0) (sliceAV a sz []) := by unfold sliceAV; split; exact .onil sz; exact .nil sz
theorem sliceAV_emp {H : View} (a : AV) (x : Addr) (cap sz : Nat) : D H (.slice (some x) 0 cap) (sliceAV a sz []) := by unfold sliceAV; split; exact .oemp _ _ sz; exact .emp _ _ sz
theorem sliceAV_at {H : View} {a : AV} {b : Nat} (off cap sz : Nat) (es : List (List AV)) (hb : es.flatten ≠ [] → okBlk H a b) (hcap : es.length ≤ cap) (hsz : ∀ e ∈ es, e.length = sz) (h : DM H b off es.flatten) :
    D H (.slice (some ⟨b, off, none⟩) es.length cap) (sliceAV a sz es) := by
  unfold okBlk at hb
  unfold sliceAV
  split at hb
  · exact .ol b off cap sz es hcap hsz hb h
  · exact .sl b off cap sz es hcap hsz hb h

theorem opS_slice_rows (t' : TypeId) (x : Operand) (lo hi : Option Operand) (T U : TY) (e : TypeId) (sz : Nat) (es : List (List AV)) (l h : Nat) (hT : ty P t' = some T) (hk : T.kd = .slice e) (hU : ty P e = some U) (hsz : U.n = sz)
    (hx : rowsOK sz (σ.ev x) = some es)
    (hlo : match lo with | some y => ∃ k, σ.ev y = .s (.int k l) | none => l = 0) (hhi : match hi with | some y => ∃ k, σ.ev y = .s (.int k h) | none => h = es.length) (h1 : l ≤ h) (h2 : h ≤ es.length) :
    OpS P nb (.slice t' x lo hi none) t σ (sliceAV (σ.ev x) sz ((es.take h).drop l)) σ.ob :=
  .pure fun c H ε ρ w o ho _ hm hr => by
    have hD := rowsOK_P (hr x) hx
    have hd := slice_inv hT hk
    obtain ⟨inf2, d2, z2, hi2, hd2, hz2, hn2, hb2, _, hzs2, _⟩ := ty_inv hU
    have hrun : ∀ (base : Option Addr) (cap : Nat), ρ x = .slice base es.length cap → es.length ≤ cap →
        (execOp ρ o).run P w = .ok (.value (.slice (if cap = l then base else base.map (·.add (l * inf2.size))) (h - l) (cap - l))) w := by
      intro base cap hv hcap
      have e2 : h ≤ cap := by omega
      have e3 : l ≤ es.length := by omega
      cases lo with
      | none =>
        simp only at hlo; subst hlo
        cases hi with
        | none =>
          simp only at hhi; subst hhi
          simp [execOp, ho, hv, Instr.sliceAt, Instr.slice, run_underlying' hd, Instr.sliceBounds, run_sizeOf' hi2]
        | some y =>
          obtain ⟨k, hy⟩ := hhi
          have hy' := hr y; rw [hy] at hy'
          simp [execOp, ho, hv, hy'.s_inv.1, Instr.sliceAt, Instr.slice, run_underlying' hd, Instr.sliceBounds, Instr.sliceBound, asIntOf, e2, run_sizeOf' hi2]
      | some x' =>
        obtain ⟨k', hx'⟩ := hlo
        have hx'' := hr x'; rw [hx'] at hx''
        cases hi with
        | none =>
          simp only at hhi; subst hhi
          simp [execOp, ho, hv, hx''.s_inv.1, Instr.sliceAt, Instr.slice, run_underlying' hd, Instr.sliceBounds, Instr.sliceBound, asIntOf, e3, run_sizeOf' hi2]
        | some y =>
          obtain ⟨k, hy⟩ := hhi
          have hy' := hr y; rw [hy] at hy'
          simp [execOp, ho, hv, hx''.s_inv.1, hy'.s_inv.1, Instr.sliceAt, Instr.slice, run_underlying' hd, Instr.sliceBounds, Instr.sliceBound, asIntOf, h1, e2, run_sizeOf' hi2]
    rcases hD with ⟨hv, hes⟩ | ⟨a, cap, hv, hes⟩ | ⟨b, off, cap, hv, hcap, hs, hbk, hmem⟩
    · subst hes
      have hl0 : l = 0 := by simp at h2; omega
      have hh0 : h = 0 := by simp at h2; omega
      subst hl0; subst hh0
      refine ⟨_, hrun none 0 (by simpa using hv) (Nat.le_refl _), ?_⟩
      simpa using R.d (H := H) (ε := ε) _ _ (sliceAV_nil (σ.ev x) sz)
    · subst hes
      have hl0 : l = 0 := by simp at h2; omega
      have hh0 : h = 0 := by simp at h2; omega
      subst hl0; subst hh0
      refine ⟨_, hrun (some a) cap (by simpa using hv) (Nat.zero_le _), ?_⟩
      by_cases hc0 : cap = 0
      · simp only [hc0, if_true, Nat.sub_self, List.take_zero, List.drop_zero]; exact .d _ _ (sliceAV_emp _ _ _ sz)
      · simp only [hc0, if_false, Option.map_some, Nat.sub_self, Nat.sub_zero, List.take_zero, List.drop_zero]; exact .d _ _ (sliceAV_emp _ _ _ sz)
    · refine ⟨_, hrun _ cap hv hcap, .d _ _ ?_⟩
      have hlen : ((es.take h).drop l).length = h - l := by simp; omega
      have hs' : ∀ y ∈ (es.take h).drop l, y.length = sz := fun y hy => hs y (List.mem_of_mem_take (List.mem_of_mem_drop hy))
      have hm1 : DM H b off (es.take h).flatten := DM.takeRows hmem
      have hm2 := DM.dropRows (n := l) hm1 (fun y hy => hs y (List.mem_of_mem_take hy)) (by simp; omega)
      by_cases hcl : cap = l
      · have hh : h = l := by omega
        subst hh
        have hnil : (es.take h).drop h = [] := List.drop_eq_nil_of_le (by simp; omega)
        rw [hnil]
        simp only [hcl, if_true, Nat.sub_self]
        exact sliceAV_emp _ _ 0 sz
      · simp only [hcl, if_false, Option.map_some, add_eq]
        have := sliceAV_at (off + l * sz) (cap - l) sz ((es.take h).drop l) (fun hne => hbk (fun e => hne (by
          rw [List.flatten_eq_nil_iff] at e ⊢
          exact fun x hx => e x (List.mem_of_mem_take (List.mem_of_mem_drop hx))))) (by rw [hlen]; omega) hs' hm2
        rw [hlen] at this
        rw [← hn2, hsz]
        exact this

theorem opS_indexStr (t' : TypeId) (x y : Operand) (T : TY) (s : ByteArray) (k : IntKind) (i : Int) (b : UInt8) (hT : ty P t' = some T) (hk : T.kd = .str) (hx : σ.ev x = .s (.string s)) (hy : σ.ev y = .s (.int k i)) (h0 : 0 ≤ i) (hb : s[i.toNat]? = some b) :
    OpS P nb (.index t' x y) t σ (.s (.int .u8 b.toNat)) σ.ob :=
  .pure fun c H ε ρ w o ho _ hm hr => by
    have h1 := hr x; have h2 := hr y; rw [hx] at h1; rw [hy] at h2
    obtain ⟨inf, d, z, hi', hd, _, _, _, hkd, _⟩ := ty_inv hT
    rw [hkd] at hk
    cases d <;> simp [kdOf] at hk
    refine ⟨_, ?_, .d _ _ (.s _ rfl)⟩
    simp [execOp, ho, h1.s_inv.1, h2.s_inv.1, Instr.index, asIntOf, run_underlying' hd, h0, hb]

theorem opS_convInt (src dst : TypeId) (x : Operand) (S T : TY) (k k' : IntKind) (n : Int) (hS : ty P src = some S) (hT : ty P dst = some T) (hk : T.kd = .int k') (hx : σ.ev x = .s (.int k n)) :
    OpS P nb (.convert src dst x) t σ (.s (.int k' (k'.wrap n))) σ.ob :=
  .pure fun c H ε ρ w o ho _ hm hr => by
    have h1 := hr x; rw [hx] at h1
    obtain ⟨inf, d, z, hi', hd, _, _, _, hkd, _⟩ := ty_inv hT
    obtain ⟨_, d0, _, _, hd0, _⟩ := ty_inv hS
    rw [hkd] at hk
    cases d <;> simp [kdOf] at hk
    subst hk
    refine ⟨_, ?_, .d _ _ (.s _ rfl)⟩
    simp [execOp, ho, h1.s_inv.1, convert, run_underlying' hd, run_underlying' hd0, Conv.intToInt]

theorem opS_field (t' : TypeId) (x : Operand) (i off n : Nat) (ag : Bool) (T : TY) (cs : List AV) (hT : ty P t' = some T) (hk : T.kd = .struct) (hf : T.fields[i]? = some (some (off, n, ag))) (hx : σ.ev x = .agg cs) (hn : off + n ≤ cs.length) (h1 : ag = false → n = 1) :
    OpS P nb (.field t' x i) t σ (ofCells ag ((cs.drop off).take n)) σ.ob :=
  .pure fun c H ε ρ w o ho _ hm hr => by
    have hc := hr x; rw [hx] at hc
    obtain ⟨vs, hv, hrl⟩ := hc.agg_inv
    obtain ⟨inf, d, z, hi, hd, hz, _, _, hkd, _, hfs⟩ := ty_inv hT
    rw [hkd] at hk
    cases d <;> simp [kdOf] at hk
    rename_i fs
    simp only at hfs
    rw [hfs, List.getElem?_map] at hf
    cases hq : fs.toList[i]? with
    | none => rw [hq] at hf; cases hf
    | some f =>
      rw [hq] at hf
      simp only [Option.map_some, Option.some.injEq] at hf
      unfold tyField at hf
      split at hf
      · rename_i fi fd hfi hfd
        cases hf
        have hq' : fs[i]? = some f := by simpa using hq
        have hl := hrl.length_eq
        refine ⟨_, ?_, R_ofCells (agg := isAggD fd) ((hrl.drop f.offset).take fi.size)⟩
        cases hag : isAggD fd
        · have hn1 := h1 hag
          have hlt : f.offset < vs.length := by omega
          have e1 : (vs.toArray[f.offset]? : Option Value) = some vs[f.offset] := by simp [hlt]
          have e2 : ((vs.drop f.offset).take fi.size).headD undef = vs[f.offset] := by
            rw [hn1, List.drop_eq_getElem_cons hlt]; rfl
          simp only [execOp, ho, hv, Instr.field, Sem.run_bind, run_underlying' hd, Result.andThen_ok, hq', part, run_isAgg' hfd, hag, asAgg, Sem.run_pure, e1, e2, Bool.false_eq_true, if_false]
        · simp only [execOp, ho, hv, Instr.field, Sem.run_bind, run_underlying' hd, Result.andThen_ok, hq', part, run_isAgg' hfd, hag, asAgg, Sem.run_pure, if_true, run_sizeOf' hfi]
          simp
      · cases hf
end
end Go.Sy
end

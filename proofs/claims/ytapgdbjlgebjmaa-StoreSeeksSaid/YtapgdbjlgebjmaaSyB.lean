/- The symbolic layer, second part: types at a glance, operands, what it means that an operation does so and so, and the operations that touch no memory. No condition. -/
import Derived.Test.YtapgdbjlgebjmaaSyA
namespace Go.Sy

/-- What kind of type it is. -/
inductive Kd where
  | slice (e : TypeId) | struct | array | str | int (k : IntKind) | bool | ptr (e : TypeId) | other
  deriving DecidableEq

def kdOf : TypeDesc → Kd
  | .slice e => .slice e
  | .struct _ => .struct
  | .array _ _ => .array
  | .string => .str
  | .int k => .int k
  | .bool => .bool
  | .pointer e => .ptr e
  | _ => .other

def isAggD : TypeDesc → Bool
  | .struct _ | .array _ _ => true
  | _ => false

structure TY where
  n : Nat
  bytes : Nat
  kd : Kd
  zero : List Value
  fields : List (Option (Nat × Nat × Bool))

def tyField (P : Program) (f : Field) : Option (Nat × Nat × Bool) :=
  match P.info? f.type, P.underlying f.type with
  | some i, some d => some (f.offset, i.size, isAggD d)
  | _, _ => none

/-- A type at a glance. -/
def ty (P : Program) (t : TypeId) : Option TY :=
  match P.info? t, P.underlying t with
  | some i, some d =>
    match i.zero with
    | some z => some { n := i.size, bytes := i.bytes, kd := kdOf d, zero := z.cells.toList, fields := match d with | .struct fs => fs.toList.map (tyField P) | _ => [] }
    | none => none
  | _, _ => none

def Kd.agg : Kd → Bool
  | .struct | .array => true
  | _ => false
theorem kdOf_agg (d : TypeDesc) : (kdOf d).agg = isAggD d := by cases d <;> rfl

theorem ty_inv {P : Program} {t : TypeId} {T : TY} (h : ty P t = some T) : ∃ i d z, P.info? t = some i ∧ P.underlying t = some d ∧ i.zero = some z ∧ T.n = i.size ∧ T.bytes = i.bytes ∧ T.kd = kdOf d ∧
    T.zero = z.cells.toList ∧ T.fields = (match d with | .struct fs => fs.toList.map (tyField P) | _ => []) := by
  unfold ty at h
  split at h
  · rename_i i d hi hd
    split at h
    · rename_i z hz
      cases h
      exact ⟨i, d, z, hi, hd, hz, rfl, rfl, rfl, rfl, rfl⟩
    · cases h
  · cases h

theorem run_typeInfo' {P : Program} {t : TypeId} {i : TypeInfo} (h : P.info? t = some i) (w : World) : (typeInfo t).run P w = .ok i w := by
  simp [typeInfo, h]
theorem run_underlying' {P : Program} {t : TypeId} {d : TypeDesc} (h : P.underlying t = some d) (w : World) : (underlying t).run P w = .ok d w := by
  simp [underlying, h]
theorem run_sizeOf' {P : Program} {t : TypeId} {i : TypeInfo} (h : P.info? t = some i) (w : World) : (sizeOf t).run P w = .ok i.size w := by
  simp [sizeOf, run_typeInfo' h]
theorem run_isAgg' {P : Program} {t : TypeId} {d : TypeDesc} (h : P.underlying t = some d) (w : World) : (isAgg t).run P w = .ok (isAggD d) w := by
  simp only [isAgg, Sem.run_bind, run_underlying' h, Result.andThen_ok]
  cases d <;> rfl
theorem run_zeroValue' {P : Program} {t : TypeId} {i : TypeInfo} {z : Value} (h : P.info? t = some i) (hz : i.zero = some z) (w : World) : (zeroValue t).run P w = .ok z w := by
  simp [zeroValue, run_typeInfo' h, hz]

/-- A constant. -/
def constAV : Value → AV
  | .agg cs => if cs.toList.all (·.oneCell') then .agg (cs.toList.map .s) else .junk
  | .tuple vs => if vs.size = 0 then .tup [] else .junk
  | v => .s v

def St.ev (σ : St) : Operand → AV
  | .tmp t => σ.tm t
  | .const v => constAV v
  | .global _ => .junk
  | .func f => .fn (.func f) [] []

theorem DL_consts (H : View) : ∀ (vs : List Value), vs.all (·.oneCell') = true → DL H vs (vs.map .s)
  | [], _ => .nil
  | v :: vs, h => by simp at h; exact .cons _ _ _ _ (.s v h.1) (DL_consts H vs (by simpa using h.2))

theorem R_const (H : View) (ε : Env) (v : Value) : R H ε v (constAV v) := by
  unfold constAV
  split
  · rename_i cs
    split
    · rename_i h
      have := R.d (H := H) (ε := ε) _ _ (.agg _ _ (DL_consts H cs.toList h))
      simpa using this
    · exact .junk _
  · rename_i vs
    split
    · rename_i h
      have : vs = #[] := by simpa using h
      subst this
      exact .d _ _ (.tup [] [] .nil)
    · exact .junk _
  · rename_i h1 h2
    refine .d _ _ (.s v ?_)
    cases v <;> first | rfl | exact absurd rfl (h1 _) | exact absurd rfl (h2 _)

theorem R_ev {H : View} {ε : Env} {σ : St} {a : Act} (h : ∀ i, R H ε (a.tmps.getD i undef) (σ.tm i)) (x : Operand) : R H ε (a.eval x) (σ.ev x) := by
  cases x with
  | tmp t => exact h t
  | const v => exact R_const H ε v
  | global g => exact .junk _
  | func f => exact .fn (.func f) [] [] [] [] .nil .nil

/-- Numbers from nb on, sixteen of them, are no object's. -/
def Fresh (ε : Env) (nb : Nat) : Prop := ∀ id, nb ≤ id → id < nb + 16 → ε id = none

/-- THE OPERATION DOES SO: from a state σ it yields what reads as r, and the objects are ob' then; it makes no object but of the numbers nb to nb + 15. -/
def OpS (P : Program) (nb : Nat) (op : Op) (t : TypeId) (σ : St) (r : AV) (ob' : Nat → Option Ob) : Prop :=
  ∀ (c : Ctx) (H : View) (ε : Env) (a : Act) (w : World) (o : Oper), o.op = op → o.type = t → Mem c H ε σ.ob w → (∀ i, R H ε (a.tmps.getD i undef) (σ.tm i)) → Fresh ε nb →
    ∀ (next : Act → World → Prop) (Q : Exit → Act → World → Prop),
      (∀ v w' H' ε', H.le H' → ε.le ε' → (∀ id, ε id = none → ¬ (nb ≤ id ∧ id < nb + 16) → ε' id = none) → R H' ε' v r → Mem c H' ε' ob' w' → next (a.put o.dst v) w') → o.wp P a w next Q

/-- An operation that yields a value and leaves the world as it is. -/
theorem OpS.pure {P : Program} {nb : Nat} {op : Op} {t : TypeId} {σ : St} {r : AV}
    (h : ∀ (c : Ctx) (H : View) (ε : Env) (ρ : Operand → Value) (w : World) (o : Oper), o.op = op → o.type = t → Mem c H ε σ.ob w → (∀ x, R H ε (ρ x) (σ.ev x)) →
      ∃ v, (execOp ρ o).run P w = .ok (.value v) w ∧ R H ε v r) : OpS P nb op t σ r σ.ob := by
  intro c H ε a w o ho ht hm hr _ next Q hn
  obtain ⟨v, hv, hR⟩ := h c H ε a.eval w o ho ht hm (R_ev hr)
  unfold Oper.wp
  rw [hv]
  exact hn v w H ε (View.le_refl H) (Env.le_refl ε) (fun _ h _ => h) hR hm

/-- The same, where the world is drawn upon, or new memory is made: in general. -/
theorem OpS.run {P : Program} {nb : Nat} {op : Op} {t : TypeId} {σ : St} {r : AV} {ob' : Nat → Option Ob}
    (h : ∀ (c : Ctx) (H : View) (ε : Env) (ρ : Operand → Value) (w : World) (o : Oper), o.op = op → o.type = t → Mem c H ε σ.ob w → (∀ x, R H ε (ρ x) (σ.ev x)) → Fresh ε nb →
      ∃ v w' H' ε', (execOp ρ o).run P w = .ok (.value v) w' ∧ H.le H' ∧ ε.le ε' ∧ (∀ id, ε id = none → ¬ (nb ≤ id ∧ id < nb + 16) → ε' id = none) ∧ R H' ε' v r ∧ Mem c H' ε' ob' w') :
    OpS P nb op t σ r ob' := by
  intro c H ε a w o ho ht hm hr hf next Q hn
  obtain ⟨v, w', H', ε', hv, h1, h2, h3, h4, h5⟩ := h c H ε a.eval w o ho ht hm (R_ev hr) hf
  unfold Oper.wp
  rw [hv]
  exact hn v w' H' ε' h1 h2 h3 h4 h5

section pureops
variable {P : Program} {nb : Nat} {t : TypeId} {σ : St}

theorem opS_move (x : Operand) : OpS P nb (.move x) t σ (σ.ev x) σ.ob :=
  .pure fun _ _ _ ρ _ o ho _ _ hr => ⟨ρ x, by simp [execOp, ho], hr x⟩
theorem opS_assign (x : Operand) : OpS P nb (.assign x) t σ (σ.ev x) σ.ob :=
  .pure fun _ _ _ ρ _ o ho _ _ hr => ⟨ρ x, by simp [execOp, ho], hr x⟩
theorem opS_pick (c x y : Operand) (b : Bool) (h : σ.ev c = .s (.bool b)) : OpS P nb (.pick c x y) t σ (if b then σ.ev x else σ.ev y) σ.ob :=
  .pure fun _ _ _ ρ _ o ho _ _ hr => by
    have hc := hr c; rw [h] at hc
    refine ⟨if b then ρ x else ρ y, by simp [execOp, ho, hc.s_inv.1, asBool], ?_⟩
    cases b
    · exact hr y
    · exact hr x
theorem opS_extract (x : Operand) (i : Nat) (cs : List AV) (r : AV) (h : σ.ev x = .tup cs) (hr' : cs[i]? = some r) : OpS P nb (.extract x i) t σ r σ.ob :=
  .pure fun _ _ _ ρ _ o ho _ _ hr => by
    have hc := hr x; rw [h] at hc
    obtain ⟨vs, hv, hl⟩ := hc.tup_inv
    obtain ⟨v, he, hR⟩ := hl.get hr'
    exact ⟨v, by simp [execOp, ho, hv, Instr.extract, he], hR⟩
theorem opS_not (t' : TypeId) (x : Operand) (b : Bool) (h : σ.ev x = .s (.bool b)) : OpS P nb (.unOp .not t' x) t σ (.s (.bool (!b))) σ.ob :=
  .pure fun _ _ _ ρ _ o ho _ _ hr => by
    have hc := hr x; rw [h] at hc
    exact ⟨.bool (!b), by simp [execOp, ho, hc.s_inv.1, Op.unary], .d _ _ (.s _ rfl)⟩
theorem opS_neg (t' : TypeId) (x : Operand) (k : IntKind) (n : Int) (h : σ.ev x = .s (.int k n)) : OpS P nb (.unOp .neg t' x) t σ (.s (.int k (k.wrap (0 - n)))) σ.ob :=
  .pure fun _ _ _ ρ _ o ho _ _ hr => by
    have hc := hr x; rw [h] at hc
    exact ⟨.int k (k.wrap (0 - n)), by simp [execOp, ho, hc.s_inv.1, Op.unary, Op.intArith], .d _ _ (.s _ rfl)⟩

/-- What an operation on two integers yields. -/
def intOp (op : BinOp) (k : IntKind) (a b : Int) : Option Value :=
  match op with
  | .add => some (.int k (k.wrap (a + b)))
  | .sub => some (.int k (k.wrap (a - b)))
  | .mul => some (.int k (k.wrap (a * b)))
  | .quo => if b = 0 then none else some (.int k (k.wrap (a.tdiv b)))
  | .rem => if b = 0 then none else some (.int k (a.tmod b))
  | .and => some (.int k (k.wrap (BitVec.ofInt k.bits a &&& BitVec.ofInt k.bits b).toNat))
  | .or => some (.int k (k.wrap (BitVec.ofInt k.bits a ||| BitVec.ofInt k.bits b).toNat))
  | .shl => if b < 0 then none else some (.int k (k.wrap (a * 2 ^ min b.toNat k.bits)))
  | .shr => if b < 0 then none else some (.int k (a.fdiv (2 ^ min b.toNat k.bits)))
  | .eql => some (.bool (decide (a = b)))
  | .neq => some (.bool (decide (a ≠ b)))
  | .lss => some (.bool (decide (a < b)))
  | .leq => some (.bool (decide (a ≤ b)))
  | .gtr => some (.bool (decide (b < a)))
  | .geq => some (.bool (decide (b ≤ a)))
  | _ => none

theorem intOp_one {op : BinOp} {k : IntKind} {a b : Int} {v : Value} (h : intOp op k a b = some v) : v.oneCell' = true := by
  unfold intOp at h
  cases op <;> simp at h <;> first | (subst h; rfl) | (obtain ⟨_, h⟩ := h; subst h; rfl)

theorem run_intOp {op : BinOp} {k : IntKind} {a b : Int} {v : Value} (h : intOp op k a b = some v) (t' : TypeId) (w : World) (hne : op ≠ .shl) (hnr : op ≠ .shr) :
    (binOp op t' (.int k a) (.int k b)).run P w = .ok v w := by
  unfold intOp at h
  cases op <;> simp at h <;> first
    | exact absurd rfl hne
    | exact absurd rfl hnr
    | (subst h; simp [binOp, Op.intArith, Op.intBits, Op.intCmp, bne, BEq.beq]; done)
    | (obtain ⟨h0, h⟩ := h; subst h; simp [binOp, Op.intDiv, h0]; done)

theorem opS_int (op : BinOp) (t' u : TypeId) (x y : Operand) (k : IntKind) (a b : Int) (v : Value) (hx : σ.ev x = .s (.int k a)) (hy : σ.ev y = .s (.int k b)) (h : intOp op k a b = some v)
    (hne : op ≠ .shl) (hnr : op ≠ .shr) : OpS P nb (.binOp op t' x y u) t σ (.s v) σ.ob :=
  .pure fun _ _ _ ρ w o ho _ _ hr => by
    have h1 := hr x; have h2 := hr y; rw [hx] at h1; rw [hy] at h2
    refine ⟨v, ?_, .d _ _ (.s _ (intOp_one h))⟩
    simp [execOp, ho, h1.s_inv.1, h2.s_inv.1, eqGuard, run_intOp h t' w hne hnr]

theorem opS_shift (op : BinOp) (t' u : TypeId) (x y : Operand) (k k' : IntKind) (a b : Int) (v : Value) (hx : σ.ev x = .s (.int k a)) (hy : σ.ev y = .s (.int k' b)) (h : intOp op k a b = some v)
    (hop : op = .shl ∨ op = .shr) : OpS P nb (.binOp op t' x y u) t σ (.s v) σ.ob :=
  .pure fun _ _ _ ρ w o ho _ _ hr => by
    have h1 := hr x; have h2 := hr y; rw [hx] at h1; rw [hy] at h2
    refine ⟨v, ?_, .d _ _ (.s _ (intOp_one h))⟩
    unfold intOp at h
    rcases hop with rfl | rfl <;> simp at h <;> obtain ⟨h0, h⟩ := h <;> subst h <;> simp [execOp, ho, h1.s_inv.1, h2.s_inv.1, eqGuard, binOp, Op.shift, show ¬ b < 0 by omega]

/-- What an operation on two strings yields. -/
def strOp (op : BinOp) (a b : ByteArray) : Option Value :=
  match op with
  | .add => if a.size + b.size ≤ 9223372036854775807 then some (.string (a ++ b)) else none
  | .eql => some (.bool (decide (a = b)))
  | .neq => some (.bool (decide (a ≠ b)))
  | _ => none

theorem beq_bytes (a b : ByteArray) : (a.toList == b.toList) = decide (a = b) := by
  rw [← beq_toListBytes, Bool.eq_iff_iff]
  have h : (a == b) = (a.data == b.data) := rfl
  rw [h]; simp [ByteArray.ext_iff]

theorem opS_str (op : BinOp) (t' u : TypeId) (x y : Operand) (a b : ByteArray) (v : Value) (hx : σ.ev x = .s (.string a)) (hy : σ.ev y = .s (.string b)) (h : strOp op a b = some v) :
    OpS P nb (.binOp op t' x y u) t σ (.s v) σ.ob :=
  .pure fun _ _ _ ρ w o ho _ _ hr => by
    have h1 := hr x; have h2 := hr y; rw [hx] at h1; rw [hy] at h2
    unfold strOp at h
    cases op <;> simp at h
    · obtain ⟨h0, h⟩ := h
      subst h
      refine ⟨_, ?_, .d _ _ (.s _ rfl)⟩
      have hm : ¬ ((a.size + b.size : Nat) : Int) > IntKind.i64.max := by
        have : IntKind.i64.max = 9223372036854775807 := by decide
        omega
      simp only [execOp, ho, h1.s_inv.1, h2.s_inv.1]
      simp [eqGuard, binOp, Op.stringOp]
      omega
    · subst h
      exact ⟨_, by simp [execOp, ho, h1.s_inv.1, h2.s_inv.1, eqGuard, binOp, Op.stringOp, beq_bytes], .d _ _ (.s _ rfl)⟩
    · subst h
      exact ⟨_, by simp [execOp, ho, h1.s_inv.1, h2.s_inv.1, eqGuard, binOp, Op.stringOp, beq_bytes], .d _ _ (.s _ rfl)⟩

theorem opS_bool (op : BinOp) (t' u : TypeId) (x y : Operand) (a b : Bool) (T : TY) (hT : ty P t' = some T) (hk : T.kd = .bool) (hx : σ.ev x = .s (.bool a)) (hy : σ.ev y = .s (.bool b)) (hop : op = .eql ∨ op = .neq) :
    OpS P nb (.binOp op t' x y u) t σ (.s (.bool (if op = .eql then a == b else !(a == b)))) σ.ob :=
  .pure fun _ _ _ ρ w o ho _ _ hr => by
    have h1 := hr x; have h2 := hr y; rw [hx] at h1; rw [hy] at h2
    obtain ⟨i, d, z, hi, hd, _, _, _, hkd, _⟩ := ty_inv hT
    have hd' : P.underlying t' = some .bool := by
      rw [hkd] at hk; cases d <;> simp [kdOf] at hk; exact hd
    refine ⟨_, ?_, .d _ _ (.s _ rfl)⟩
    rcases hop with rfl | rfl
    · simp [execOp, ho, h1.s_inv.1, h2.s_inv.1, eqGuard, run_eql_bool w t' a b hd']
    · simp [execOp, ho, h1.s_inv.1, h2.s_inv.1, eqGuard, run_neq_bool w t' a b hd']
end pureops
end Go.Sy

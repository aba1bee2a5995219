/- The symbolic layer, ninth part: what is to be shown of an operation, reckoned from the state; that it suffices. No condition. -/
import Derived.Test.YtapgdbjlgebjmaaSyH
set_option linter.unusedVariables false
namespace Go.Sy

/-- Objects written, in order. -/
def updG (ob : Nat → Option Ob) (id : Nat) (x : Ob) : Nat → Option Ob := fun i => if i = id then x.opt else ob i
def applyW (ob : Nat → Option Ob) (ws : List (Nat × Ob)) : Nat → Option Ob := ws.foldl (fun ob x => updG ob x.1 x.2) ob

/-- THE OPERATION DOES SO, AND LOOKS AT NO OBJECTS BUT deps: in every state that has its operands and those objects. -/
def OpK (P : Program) (nb : Nat) (op : Op) (t : TypeId) (σ : St) (deps : List Nat) (r : AV) (ws : List (Nat × Ob)) : Prop :=
  ∀ σ' : St, (∀ x ∈ op.operands.toList, σ'.ev x = σ.ev x) → (∀ id ∈ deps, σ'.ob id = σ.ob id) → OpS P nb op t σ' r (applyW σ'.ob ws)

/-- A function with a Go body of its own. -/
def Own (P : Program) (f : FuncId) : Prop := ∃ fn, P.funcs[f]? = some fn ∧ (fn.name == "runtime.NumGoroutine") = false ∧ fn.body.isNone = false

abbrev Kont := AV → List Nat → List (Nat × Ob) → Prop

def pickVC (c x y : AV) (K : Kont) : Prop := match c with
  | .s (.bool b) => K (if b then x else y) [] []
  | _ => False
def extVC (x : AV) (i : Nat) (K : Kont) : Prop := match x with
  | .tup cs => (match cs[i]? with | some r => K r [] [] | none => False)
  | _ => False
def unVC (op : UnOp) (x : AV) (K : Kont) : Prop := match op, x with
  | .not, .s (.bool b) => K (.s (.bool (!b))) [] []
  | .neg, .s (.int k n) => K (.s (.int k (k.wrap (0 - n)))) [] []
  | _, _ => False
/-- Two values of one struct type are the same, or not. -/
def EqV (P : Program) (op : BinOp) (t : TypeId) (xs ys : List Value) (b : Bool) : Prop :=
  ∀ (w : World) (x y : Operand), (do eqGuard op t x y (.agg xs.toArray) (.agg ys.toArray); binOp op t (.agg xs.toArray) (.agg ys.toArray)).run P w = .ok (.bool b) w
def scal : List AV → Option (List Value)
  | [] => some []
  | .s v :: l => (scal l).map (v :: ·)
  | _ :: _ => none
def binVC (P : Program) (op : BinOp) (t : TypeId) (x y : AV) (K : Kont) : Prop := match x, y with
  | .s (.int k a), .s (.int k' b) =>
    if op = .shl ∨ op = .shr then (match intOp op k a b with | some v => K (.s v) [] [] | none => False)
    else if k = k' then (match intOp op k a b with | some v => K (.s v) [] [] | none => False) else False
  | .s (.string a), .s (.string b) => (match strOp op a b with | some v => K (.s v) [] [] | none => False)
  | .s (.bool a), .s (.bool b) => (match ty P t with | some T => T.kd = .bool ∧ (op = .eql ∨ op = .neq) ∧ K (.s (.bool (if op = .eql then a == b else !(a == b)))) [] [] | none => False)
  | .agg cs, .agg ds => (match scal cs, scal ds with | some vs, some us => ∃ b, EqV P op t vs us b ∧ K (.s (.bool b)) [] [] | _, _ => False)
  | x, .s (.slice none 0 0) => (match ty P t, nilIs x with | some T, some b => (∃ e, T.kd = .slice e) ∧ (op = .eql ∨ op = .neq) ∧ K (.s (.bool (if op = .eql then b else !b))) [] [] | _, _ => False)
  | _, _ => False
def loadVC (T : Option TY) (x : AV) (ob : Nat → Option Ob) (K : Kont) : Prop := match T, x with
  | some T, .ref cs => (T.kd.agg = false → T.n = 1) ∧ T.n ≤ cs.length ∧ K (ofCells T.kd.agg (cs.take T.n)) [] []
  | some T, .ptr id off => (match ob id with | some (.box cs) => (T.kd.agg = false → T.n = 1) ∧ off + T.n ≤ cs.length ∧ K (ofCells T.kd.agg ((cs.drop off).take T.n)) [id] [] | _ => False)
  | _, _ => False
def storeVC (T : Option TY) (x y : AV) (ob : Nat → Option Ob) (K : Kont) : Prop := match T, x with
  | some T, .ptr id off => (match ob id with | some (.box cs) => y.cells.all AV.one = true ∧ y.cells.length = T.n ∧ off + T.n ≤ cs.length ∧ K .junk [id] [(id, .box (cs.take off ++ y.cells ++ cs.drop (off + T.n)))] | _ => False)
  | _, _ => False
def allocVC (T : Option TY) (nb : Nat) (K : Kont) : Prop := match T with
  | some T => T.zero.all (·.oneCell') = true ∧ K (.ptr nb 0) [] [(nb, .box (T.zero.map .s))]
  | none => False
def boxVC (nb : Nat) (x : AV) (K : Kont) : Prop := x.cells.all AV.one = true ∧ K (.ptr nb 0) [] [(nb, .box x.cells)]
def buildVC (T : Option TY) (parts : List (Nat × AV)) (K : Kont) : Prop := match T with
  | some T => T.kd = .struct ∧ T.zero.all (·.oneCell') = true ∧ T.fields.all Option.isSome = true ∧ (match buildAV T.fields (T.zero.map .s) parts with | some r => K (.agg r) [] [] | none => False)
  | none => False
def elemTy (P : Program) (T : Option TY) : Option (TypeId × TY) := match T with
  | some T => (match T.kd with | .slice e => (ty P e).map (e, ·) | _ => none)
  | none => none
def litVC (P : Program) (nb : Nat) (T : Option TY) (len : Nat) (parts : List (Nat × Operand)) (ev : Operand → AV) (K : Kont) : Prop := match elemTy P T with
  | some (e, U) => 0 < U.n ∧ len * U.n ≤ 16777216 ∧ parts.map (·.1) = List.range len ∧ (match litRows U.n (parts.map fun x => ev x.2) with | some es => K (.osl nb U.n es) [] [(nb, .perm e U.n len)] | none => False)
  | none => False
def nilVC (x : AV) (K : Kont) : Prop := match x with
  | .ref cs => K (.ref cs) [] []
  | .ptr id off => K (.ptr id off) [] []
  | _ => False
def fldAddrVC (T : Option TY) (x : AV) (i : Nat) (K : Kont) : Prop := match T with
  | some T => T.kd = .struct ∧ (match T.fields[i]? with
    | some (some (off, n, _)) => 0 < n ∧ (match x with | .ref cs => off ≤ cs.length ∧ K (.ref (cs.drop off)) [] [] | .ptr id o => K (.ptr id (o + off)) [] [] | _ => False)
    | _ => False)
  | none => False
def fldVC (T : Option TY) (x : AV) (i : Nat) (K : Kont) : Prop := match T, x with
  | some T, .agg cs => T.kd = .struct ∧ (match T.fields[i]? with | some (some (off, n, ag)) => off + n ≤ cs.length ∧ (ag = false → n = 1) ∧ K (ofCells ag ((cs.drop off).take n)) [] [] | _ => False)
  | _, _ => False
def idxAddrVC (P : Program) (T : Option TY) (x y : AV) (K : Kont) : Prop := match elemTy P T, y with
  | some (e, U), .s (.int k i) => (match rowsOK U.n x with | some es => (0 ≤ i ∧ i.toNat < es.length) ∧ ∀ el, es[i.toNat]? = some el → K (.ref el) [] [] | none => False)
  | _, _ => False
def idxVC (T : Option TY) (x y : AV) (K : Kont) : Prop := match T, x, y with
  | some T, .s (.string s), .s (.int k i) => T.kd = .str ∧ (0 ≤ i ∧ i.toNat < s.size) ∧ ∀ b, s[i.toNat]? = some b → K (.s (.int .u8 b.toNat)) [] []
  | _, _, _ => False
def bound (x : Option AV) (d : Nat) (K : Nat → Prop) : Prop := match x with
  | some (.s (.int _ n)) => 0 ≤ n ∧ K n.toNat
  | some _ => False
  | none => K d
def slcVC (P : Program) (T : Option TY) (x : AV) (lo hi : Option AV) (K : Kont) : Prop := match T with
  | some T => (match T.kd, x with
    | .str, .s (.string s) => bound lo 0 fun l => bound hi s.size fun h => l ≤ h ∧ h ≤ s.size ∧ K (.s (.string (s.extract l h))) [] []
    | .slice e, x => (match ty P e with
      | some U => (match rowsOK U.n x with | some es => bound lo 0 fun l => bound hi es.length fun h => l ≤ h ∧ h ≤ es.length ∧ K (.sl U.n ((es.take h).drop l)) [] [] | none => False)
      | none => False)
    | _, _ => False)
  | none => False
def convVC (S T : Option TY) (x : AV) (K : Kont) : Prop := match S, T, x with
  | some S, some T, .s (.int k n) => (match T.kd with | .int k' => K (.s (.int k' (k'.wrap n))) [] [] | _ => False)
  | _, _, _ => False
def lenVC (T : Option TY) (x : AV) (K : Kont) : Prop := match T with
  | some T => (match T.kd, x with
    | .str, .s (.string s) => K (.s (.int .i64 s.size)) [] []
    | .slice _, x => (match x.rows with | some (_, es) => K (.s (.int .i64 es.length)) [] [] | none => False)
    | _, _ => False)
  | none => False
def appVC (P : Program) (nb : Nat) (T : Option TY) (s x : AV) (ob : Nat → Option Ob) (K : Kont) : Prop := match elemTy P T with
  | some (e, U) => 0 < U.n ∧ U.zero.length = U.n ∧ (match rowsOK U.n x with
    | some fs => (match s with
      | .osl p sz es => sz = U.n ∧ ob p = some (.perm e U.n es.length) ∧ es.length + fs.length ≤ 9223372036854775807 ∧ (es.length + fs.length) * U.bytes ≤ 140737488355328 ∧ K (.osl p U.n (es ++ fs)) [p] [(p, .perm e U.n (es.length + fs.length))]
      | .s v => v = .slice none 0 0 ∧ fs.length ≤ 9223372036854775807 ∧ fs.length * U.bytes ≤ 140737488355328 ∧ K (.osl nb U.n fs) [] [(nb, .perm e U.n fs.length)]
      | _ => False)
    | none => False)
  | none => False
/-- A call of a Go function: its contract is handed over by the prover. -/
def CallV (P : Program) (nb : Nat) (op : Op) (t : TypeId) (f : FuncId) (args : List AV) (σ : St) (K : Kont) : Prop := ∃ r deps ws, OpK P nb op t σ deps r ws ∧ K r deps ws

def opVC (P : Program) (nb : Nat) (op : Op) (t : TypeId) (σ : St) (K : Kont) : Prop := match op with
  | .move x | .assign x => K (σ.ev x) [] []
  | .pick c x y => pickVC (σ.ev c) (σ.ev x) (σ.ev y) K
  | .extract x i => extVC (σ.ev x) i K
  | .unOp op _ x => unVC op (σ.ev x) K
  | .binOp op t' x y _ => binVC P op t' (σ.ev x) (σ.ev y) K
  | .load t' x => loadVC (ty P t') (σ.ev x) σ.ob K
  | .store t' x y => storeVC (ty P t') (σ.ev x) (σ.ev y) σ.ob K
  | .alloc t' => allocVC (ty P t') nb K
  | .box t' x => boxVC nb (σ.ev x) K
  | .build t' parts => buildVC (ty P t') (parts.toList.map fun x => (x.1, σ.ev x.2)) K
  | .buildSlice t' len parts => litVC P nb (ty P t') len parts.toList σ.ev K
  | .nilCheck x => nilVC (σ.ev x) K
  | .fieldAddr s x i => fldAddrVC (ty P s) (σ.ev x) i K
  | .field s x i => fldVC (ty P s) (σ.ev x) i K
  | .indexAddr t' x y => idxAddrVC P (ty P t') (σ.ev x) (σ.ev y) K
  | .index t' x y => idxVC (ty P t') (σ.ev x) (σ.ev y) K
  | .slice t' x lo hi none => slcVC P (ty P t') (σ.ev x) (lo.map σ.ev) (hi.map σ.ev) K
  | .convert s d x => convVC (ty P s) (ty P d) (σ.ev x) K
  | .makeFunc f first caps => K (.fn f (first.toList.map σ.ev) (caps.toList.map σ.ev)) [] []
  | .call { callee := .builtin .len, args := ⟨[x]⟩, argTypes := ⟨[t']⟩ } => lenVC (ty P t') (σ.ev x) K
  | .call { callee := .builtin .append, args := ⟨[s, x]⟩, argTypes := ⟨[t', t'']⟩ } => t' = t'' ∧ appVC P nb (ty P t') (σ.ev s) (σ.ev x) σ.ob K
  | .call { callee := .value f, args, argTypes } => (match σ.ev f with | .fn (.func g) first caps => CallV P nb (.call { callee := .value f, args, argTypes }) t g (first ++ args.toList.map σ.ev ++ caps) σ K | _ => False)
  | op => ∃ r deps ws, OpK P nb op t σ deps r ws ∧ K r deps ws

theorem updG_eq (ob : Nat → Option Ob) (id : Nat) (x : Ob) (h : x.opt = some x) : updG ob id x = updOb ob id x := by funext i; unfold updG updOb; rw [h]
theorem updOb_applyW (ob : Nat → Option Ob) (id : Nat) (x : Ob) (h : x.opt = some x) : applyW ob [(id, x)] = updOb ob id x := updG_eq ob id x h

theorem elemTy_inv {P : Program} {t : TypeId} {e : TypeId} {U : TY} (h : elemTy P (ty P t) = some (e, U)) : ∃ T, ty P t = some T ∧ T.kd = .slice e ∧ ty P e = some U := by
  unfold elemTy at h
  split at h
  · rename_i T hT
    split at h
    · rename_i e' hk
      cases he : ty P e' with
      | none => rw [he] at h; cases h
      | some U' => rw [he] at h; simp at h; obtain ⟨rfl, rfl⟩ := h; exact ⟨T, hT, hk, he⟩
    · cases h
  · cases h

section
variable {P : Program} {nb : Nat} {t : TypeId} {σ : St} {K : Kont}

def Good (P : Program) (nb : Nat) (op : Op) (t : TypeId) (σ : St) (K : Kont) : Prop := ∃ r deps ws, OpK P nb op t σ deps r ws ∧ K r deps ws

/-- An operation that looks at its operands alone. -/
theorem Good.plain {op : Op} {r : AV} (h : ∀ σ' : St, (∀ x ∈ op.operands.toList, σ'.ev x = σ.ev x) → OpS P nb op t σ' r σ'.ob) (hK : K r [] []) : Good P nb op t σ K :=
  ⟨r, [], [], fun σ' hx _ => h σ' hx, hK⟩

theorem good_pick {c x y : Operand} (h : pickVC (σ.ev c) (σ.ev x) (σ.ev y) K) : Good P nb (.pick c x y) t σ K := by
  unfold pickVC at h
  split at h
  · rename_i b hb
    refine .plain (fun σ' hx => ?_) h
    have e1 := hx c (by simp [Op.operands]); have e2 := hx x (by simp [Op.operands]); have e3 := hx y (by simp [Op.operands])
    rw [← e2, ← e3]
    exact opS_pick c x y b (e1.trans hb)
  · exact h.elim
theorem good_ext {x : Operand} {i : Nat} (h : extVC (σ.ev x) i K) : Good P nb (.extract x i) t σ K := by
  unfold extVC at h
  split at h
  · rename_i cs hcs
    split at h
    · rename_i r hr
      exact .plain (fun σ' hx => opS_extract x i cs r ((hx x (by simp [Op.operands])).trans hcs) hr) h
    · exact h.elim
  · exact h.elim
theorem good_un {op : UnOp} {t' : TypeId} {x : Operand} (h : unVC op (σ.ev x) K) : Good P nb (.unOp op t' x) t σ K := by
  unfold unVC at h
  split at h
  · rename_i b hb
    exact .plain (fun σ' hx => opS_not t' x b ((hx x (by simp [Op.operands])).trans hb)) h
  · rename_i k n hb
    exact .plain (fun σ' hx => opS_neg t' x k n ((hx x (by simp [Op.operands])).trans hb)) h
  · exact h.elim

theorem scal_R {H : View} {ε : Env} : ∀ {l : List AV} {us vs : List Value}, scal l = some vs → RL H ε us l → us = vs
  | [], us, vs, h, hr => by simp [scal] at h; subst h; cases hr; rfl
  | a :: l, us, vs, h, hr => by
    cases hr with
    | cons v _ us _ hv hl =>
      cases a <;> simp [scal] at h
      obtain ⟨vs', h1, rfl⟩ := h
      rw [scal_R h1 hl, hv.s_inv.1]

theorem good_bin {op : BinOp} {t' u : TypeId} {x y : Operand} (h : binVC P op t' (σ.ev x) (σ.ev y) K) : Good P nb (.binOp op t' x y u) t σ K := by
  unfold binVC at h
  split at h
  · rename_i k a k' b hx hy
    split at h
    · rename_i hop
      split at h
      · rename_i v hv
        refine .plain (fun σ' hx' => ?_) h
        exact opS_shift op t' u x y k k' a b v ((hx' x (by simp [Op.operands])).trans hx) ((hx' y (by simp [Op.operands])).trans hy) hv hop
      · exact h.elim
    · rename_i hop
      split at h
      · rename_i hkk; subst hkk
        split at h
        · rename_i v hv
          refine .plain (fun σ' hx' => ?_) h
          exact opS_int op t' u x y k a b v ((hx' x (by simp [Op.operands])).trans hx) ((hx' y (by simp [Op.operands])).trans hy) hv (fun e => hop (.inl e)) (fun e => hop (.inr e))
        · exact h.elim
      · exact h.elim
  · rename_i a b hx hy
    split at h
    · rename_i v hv
      refine .plain (fun σ' hx' => ?_) h
      exact opS_str op t' u x y a b v ((hx' x (by simp [Op.operands])).trans hx) ((hx' y (by simp [Op.operands])).trans hy) hv
    · exact h.elim
  · rename_i a b hx hy
    split at h
    · rename_i T hT
      obtain ⟨h1, h2, h3⟩ := h
      refine .plain (fun σ' hx' => ?_) h3
      exact opS_bool op t' u x y a b T hT h1 ((hx' x (by simp [Op.operands])).trans hx) ((hx' y (by simp [Op.operands])).trans hy) h2
    · exact h.elim
  · rename_i cs ds hx hy
    split at h
    · rename_i vs us hvs hus
      obtain ⟨b, hb, hK⟩ := h
      refine .plain (fun σ' hx' => .pure fun c H ε ρ w o ho _ hm hr => ?_) hK
      have e1 := hr x; rw [(hx' x (by simp [Op.operands])).trans hx] at e1
      have e2 := hr y; rw [(hx' y (by simp [Op.operands])).trans hy] at e2
      obtain ⟨xs, hxs, r1⟩ := e1.agg_inv
      obtain ⟨ys, hys, r2⟩ := e2.agg_inv
      have q1 := scal_R hvs r1
      have q2 := scal_R hus r2
      subst q1; subst q2
      refine ⟨.bool b, ?_, .d _ _ (.s _ rfl)⟩
      have := hb w x y
      simp only [Sem.run_bind] at this
      simp only [execOp, ho, hxs, hys, Sem.run_bind]
      rw [this]
      rfl
    · exact h.elim
  · rename_i hy
    split at h
    · rename_i T b hT hb
      obtain ⟨⟨e, h1⟩, h2, h3⟩ := h
      refine .plain (fun σ' hx' => ?_) h3
      exact opS_nilEq op t' u x y T e b hT h1 (by rw [hx' x (by simp [Op.operands])]; exact hb) ((hx' y (by simp [Op.operands])).trans hy) h2
    · exact h.elim
  · exact h.elim

theorem good_load {t' : TypeId} {x : Operand} (h : loadVC (ty P t') (σ.ev x) σ.ob K) : Good P nb (.load t' x) t σ K := by
  unfold loadVC at h
  split at h
  · rename_i T cs hT hx
    exact .plain (fun σ' hx' => opS_load_ref t' x T cs hT h.1 ((hx' x (by simp [Op.operands])).trans hx) h.2.1) h.2.2
  · rename_i T id off hT hx
    split at h
    · rename_i cs hb
      exact ⟨_, [id], [], fun σ' hx' hob => opS_load_ptr t' x T id off cs hT h.1 ((hx' x (by simp [Op.operands])).trans hx) ((hob id (by simp)).trans hb) h.2.1, h.2.2⟩
    · exact h.elim
  · exact h.elim
theorem good_store {t' : TypeId} {x y : Operand} (h : storeVC (ty P t') (σ.ev x) (σ.ev y) σ.ob K) : Good P nb (.store t' x y) t σ K := by
  unfold storeVC at h
  split at h
  · rename_i T id off hT hx
    split at h
    · rename_i cs hb
      refine ⟨_, [id], [(id, _)], fun σ' hx' hob => ?_, h.2.2.2⟩
      have ey := hx' y (by simp [Op.operands])
      rw [updOb_applyW _ _ _ rfl, ← ey]
      exact opS_store t' x y T id off cs hT ((hx' x (by simp [Op.operands])).trans hx) ((hob id (by simp)).trans hb) (by rw [ey]; exact one_or_agg h.1) (by rw [ey]; exact h.1) (by rw [ey]; exact h.2.1) h.2.2.1
    · exact h.elim
  · exact h.elim
theorem good_alloc {t' : TypeId} (h : allocVC (ty P t') nb K) : Good P nb (.alloc t') t σ K := by
  unfold allocVC at h
  split at h
  · rename_i T hT
    exact ⟨_, [], [(nb, _)], fun σ' _ _ => opS_alloc t' T hT h.1, h.2⟩
  · exact h.elim
theorem good_box {t' : TypeId} {x : Operand} (h : boxVC nb (σ.ev x) K) : Good P nb (.box t' x) t σ K := by
  refine ⟨_, [], [(nb, _)], fun σ' hx' _ => ?_, h.2⟩
  have ex := hx' x (by simp [Op.operands])
  rw [updOb_applyW _ _ _ rfl, ← ex]
  exact opS_box t' x (by rw [ex]; exact one_or_agg h.1) (by rw [ex]; exact h.1)
theorem good_build {t' : TypeId} {parts : Array (Nat × Operand)} (h : buildVC (ty P t') (parts.toList.map fun x => (x.1, σ.ev x.2)) K) : Good P nb (.build t' parts) t σ K := by
  unfold buildVC at h
  split at h
  · rename_i T hT
    obtain ⟨h1, h2, h3, h4⟩ := h
    split at h4
    · rename_i r hr
      refine .plain (fun σ' hx' => opS_build t' parts T r hT h1 h2 h3 ?_) h4
      rw [← hr]
      congr 1
      apply List.map_congr_left
      intro q hq
      rw [hx' q.2 (by simp [Op.operands]; exact ⟨q.1, by simpa using hq⟩)]
    · exact h4.elim
  · exact h.elim
theorem good_lit {t' : TypeId} {len : Nat} {parts : Array (Nat × Operand)} (h : litVC P nb (ty P t') len parts.toList σ.ev K) : Good P nb (.buildSlice t' len parts) t σ K := by
  unfold litVC at h
  split at h
  · rename_i e U he
    obtain ⟨T, hT, hk, hU⟩ := elemTy_inv he
    obtain ⟨h1, h2, h3, h4⟩ := h
    split at h4
    · rename_i es hes
      refine ⟨_, [], [(nb, _)], fun σ' hx' _ => ?_, h4⟩
      rw [updOb_applyW _ _ _ rfl]
      refine opS_buildSlice t' len (parts.toList.map (·.2)) parts T U e es hT hk hU h1 ?_ ?_ h2 ?_
      · apply List.ext_getElem
        · simp
        · intro i q1 q2
          have : (parts.toList.map (·.1))[i]'(by simpa using q1) = i := by simp only [h3, List.getElem_range]
          simp only [List.getElem_map, List.getElem_zipIdx, Nat.zero_add] at this ⊢
          exact Prod.ext this rfl
      · have := congrArg List.length h3
        simpa using this
      · rw [← hes, List.map_map]
        congr 1
        apply List.map_congr_left
        intro q hq
        exact hx' q.2 (by simp [Op.operands]; exact ⟨q.1, by simpa using hq⟩)
    · exact h4.elim
  · exact h.elim
theorem good_nil {x : Operand} (h : nilVC (σ.ev x) K) : Good P nb (.nilCheck x) t σ K := by
  unfold nilVC at h
  split at h
  · rename_i cs hx
    exact .plain (fun σ' hx' => opS_nilCheck_ref x cs ((hx' x (by simp [Op.operands])).trans hx)) h
  · rename_i id off hx
    exact .plain (fun σ' hx' => opS_nilCheck_ptr x id off ((hx' x (by simp [Op.operands])).trans hx)) h
  · exact h.elim
theorem good_fldAddr {s : TypeId} {x : Operand} {i : Nat} (h : fldAddrVC (ty P s) (σ.ev x) i K) : Good P nb (.fieldAddr s x i) t σ K := by
  unfold fldAddrVC at h
  split at h
  · rename_i T hT
    obtain ⟨hk, h⟩ := h
    split at h
    · rename_i off n ag hf
      obtain ⟨hn, h⟩ := h
      split at h
      · rename_i cs hx
        exact .plain (fun σ' hx' => opS_fieldAddr_ref s x i off n ag T cs hT hk hf hn ((hx' x (by simp [Op.operands])).trans hx) h.1) h.2
      · rename_i id o hx
        exact .plain (fun σ' hx' => opS_fieldAddr_ptr s x i off n ag T id o hT hk hf hn ((hx' x (by simp [Op.operands])).trans hx)) h
      · exact h.elim
    · exact h.elim
  · exact h.elim
theorem good_fld {s : TypeId} {x : Operand} {i : Nat} (h : fldVC (ty P s) (σ.ev x) i K) : Good P nb (.field s x i) t σ K := by
  unfold fldVC at h
  split at h
  · rename_i T cs hT hx
    obtain ⟨hk, h⟩ := h
    split at h
    · rename_i off n ag hf
      exact .plain (fun σ' hx' => opS_field s x i off n ag T cs hT hk hf ((hx' x (by simp [Op.operands])).trans hx) h.1 h.2.1) h.2.2
    · exact h.elim
  · exact h.elim
theorem good_idxAddr {t' : TypeId} {x y : Operand} (h : idxAddrVC P (ty P t') (σ.ev x) (σ.ev y) K) : Good P nb (.indexAddr t' x y) t σ K := by
  unfold idxAddrVC at h
  split at h
  · rename_i e U k i he hy
    obtain ⟨T, hT, hk, hU⟩ := elemTy_inv he
    split at h
    · rename_i es hes
      obtain ⟨⟨h0, h1⟩, h2⟩ := h
      have hel : es[i.toNat]? = some es[i.toNat] := by simp [h1]
      refine .plain (fun σ' hx' => .pure fun c H ε ρ w o ho _ hm hr => ?_) (h2 _ hel)
      have hD := rowsOK_D (hr x) (by rw [hx' x (by simp [Op.operands])]; exact hes)
      have hi := hr y; rw [(hx' y (by simp [Op.operands])).trans hy] at hi
      have hd := slice_inv hT hk
      obtain ⟨inf2, d2, _, hi2, _, _, hn2, _⟩ := ty_inv hU
      rcases hD.slice with ⟨_, hnil⟩ | ⟨_, _, _, hnil⟩ | ⟨b, off, cap, hv, _, hs, hmm⟩
      · rw [hnil] at h1; simp at h1
      · rw [hnil] at h1; simp at h1
      · refine ⟨.pointer (some ⟨b, off + i.toNat * U.n, none⟩), ?_, .d _ _ (.ref _ _ _ (hmm.elem hs hel))⟩
        have hlt' : i < (es.length : Int) := by omega
        simp only [execOp, ho, hv, hi.s_inv.1, Instr.indexAt, asIntOf, Sem.run_bind, Sem.run_pure, Result.andThen_ok, run_underlying' hd, h0, hlt', and_self, if_true, run_sizeOf' hi2, ← hn2, add_eq]
    · exact h.elim
  · exact h.elim
theorem good_idx {t' : TypeId} {x y : Operand} (h : idxVC (ty P t') (σ.ev x) (σ.ev y) K) : Good P nb (.index t' x y) t σ K := by
  unfold idxVC at h
  split at h
  · rename_i T s k i hT hx hy
    obtain ⟨hk, ⟨h0, h1⟩, h2⟩ := h
    have hb : s[i.toNat]? = some s[i.toNat] := by simp [h1]
    exact .plain (fun σ' hx' => opS_indexStr t' x y T s k i _ hT hk ((hx' x (by simp [Op.operands])).trans hx) ((hx' y (by simp [Op.operands])).trans hy) h0 hb) (h2 _ hb)
  · exact h.elim
theorem good_conv {s d : TypeId} {x : Operand} (h : convVC (ty P s) (ty P d) (σ.ev x) K) : Good P nb (.convert s d x) t σ K := by
  unfold convVC at h
  split at h
  · rename_i S T k n hS hT hx
    split at h
    · rename_i k' hk
      exact .plain (fun σ' hx' => opS_convInt s d x S T k k' n hS hT hk ((hx' x (by simp [Op.operands])).trans hx)) h
    · exact h.elim
  · exact h.elim
theorem good_len {t' : TypeId} {x : Operand} (h : lenVC (ty P t') (σ.ev x) K) : Good P nb (.call { callee := .builtin .len, args := #[x], argTypes := #[t'] }) t σ K := by
  unfold lenVC at h
  split at h
  · rename_i T hT
    split at h
    · rename_i s hk hx
      exact .plain (fun σ' hx' => opS_len_str x t' T s hT hk ((hx' x (by simp [Op.operands, Call.operands])).trans hx)) h
    · rename_i e hk
      split at h
      · rename_i sz es hr
        exact .plain (fun σ' hx' => opS_len_slice x t' T e sz es hT hk (by rw [hx' x (by simp [Op.operands, Call.operands])]; exact hr)) h
      · exact h.elim
    · exact h.elim
  · exact h.elim
theorem good_app {t' : TypeId} {s x : Operand} (h : appVC P nb (ty P t') (σ.ev s) (σ.ev x) σ.ob K) : Good P nb (.call { callee := .builtin .append, args := #[s, x], argTypes := #[t', t'] }) t σ K := by
  unfold appVC at h
  split at h
  · rename_i e U he
    obtain ⟨T, hT, hk, hU⟩ := elemTy_inv he
    obtain ⟨h1, h2, h⟩ := h
    split at h
    · rename_i fs hfs
      split at h
      · rename_i p sz es hs
        obtain ⟨rfl, hp, q1, q2, hK⟩ := h
        refine ⟨_, [p], [(p, _)], fun σ' hx' hob => ?_, hK⟩
        rw [updOb_applyW _ _ _ rfl]
        exact opS_append s x t' T U e p es fs hT hk hU h2 ((hx' s (by simp [Op.operands, Call.operands])).trans hs) ((hob p (by simp)).trans hp) (by rw [hx' x (by simp [Op.operands, Call.operands])]; exact hfs) q1 q2
      · rename_i v hs
        obtain ⟨rfl, q1, q2, hK⟩ := h
        refine ⟨_, [], [(nb, _)], fun σ' hx' hob => ?_, hK⟩
        rw [updOb_applyW _ _ _ rfl]
        exact opS_append_nil s x t' T U e fs hT hk hU h1 h2 ((hx' s (by simp [Op.operands, Call.operands])).trans hs) (by rw [hx' x (by simp [Op.operands, Call.operands])]; exact hfs) q1 q2
      · exact h.elim
    · exact h.elim
  · exact h.elim
end
end Go.Sy

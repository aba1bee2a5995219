/- The symbolic layer, ninth part: what is to be shown of an operation, reckoned from the state; that it suffices. No condition. -/
import Derived.Test.YtokkencbpmjdaaaGreatSy1
import Derived.Orders
import Derived.Laws.IdiomStrings
import Derived.Laws.BytesArg
import Derived.Laws.MakeOwn
import Derived.Lib.AppendZerosOnto
import Derived.Laws.CopyRow
import Derived.Laws.Externs
section
set_option linter.unusedVariables false
namespace Go.Sy

def updG (ob : Nat → Option Ob) (id : Nat) (x : Ob) : Nat → Option Ob := fun i => if i = id then x.opt else ob i
def applyW (ob : Nat → Option Ob) (ws : List (Nat × Ob)) : Nat → Option Ob := ws.foldl (fun ob x => updG ob x.1 x.2) ob

def OpK (P : Program) (nb : Nat) (op : Op) (t : TypeId) (σ : St) (deps : List Nat) (r : AV) (ws : List (Nat × Ob)) : Prop :=
  ∀ σ' : St, (∀ x ∈ op.operands.toList, σ'.ev x = σ.ev x) → (∀ id ∈ deps, σ'.ob id = σ.ob id) → OpS P nb op t σ' r (applyW σ'.ob ws)

def Own (P : Program) (f : FuncId) : Prop := ∃ fn, P.funcs[f]? = some fn ∧ (fn.name == "runtime.NumGoroutine") = false ∧ fn.body.isNone = false

abbrev Kont := AV → List Nat → List (Nat × Ob) → Prop

def pickVC (c x y : AV) (K : Kont) : Prop := match c with
  | .s (.bool b) => K (if b then x else y) [] []
  | _ => False
def extVC (x : AV) (i : Nat) (K : Kont) : Prop := match x with
  | .tup cs => (match cs[i]? with | some r => K r [] [] | none => False)
  | _ => False
def unVC (op : UnOp) (x : AV) (K : Kont) : Prop := match op, x with
  | .not, .s (.bool b) => K (.s (.bool (!b))) [] []
  | .neg, .s (.int k n) => K (.s (.int k (k.wrap (0 - n)))) [] []
  | _, _ => False
def EqV (P : Program) (op : BinOp) (t : TypeId) (xs ys : List Value) (b : Bool) : Prop :=
  ∀ (w : World) (x y : Operand), (do eqGuard op t x y (.agg xs.toArray) (.agg ys.toArray); binOp op t (.agg xs.toArray) (.agg ys.toArray)).run P w = .ok (.bool b) w
def scal : List AV → Option (List Value)
  | [] => some []
  | .s v :: l => (scal l).map (v :: ·)
  | _ :: _ => none
def binVC (P : Program) (op : BinOp) (t : TypeId) (x y : AV) (K : Kont) : Prop := match x, y with
  | .s (.int k a), .s (.int k' b) =>
    if op = .shl ∨ op = .shr then (match intOp op k a b with | some v => K (.s v) [] [] | none => False)
    else if k = k' then (match intOp op k a b with | some v => K (.s v) [] [] | none => False) else False
  | .s (.string a), .s (.string b) => (match strOp op a b with | some v => K (.s v) [] [] | none => False)
  | .s (.bool a), .s (.bool b) => (match ty P t with | some T => T.kd = .bool ∧ (op = .eql ∨ op = .neq) ∧ K (.s (.bool (if op = .eql then a == b else !(a == b)))) [] [] | none => False)
  | .agg cs, .agg ds => (match scal cs, scal ds with | some vs, some us => ∃ b, EqV P op t vs us b ∧ K (.s (.bool b)) [] [] | _, _ => False)
  | x, .s (.slice none 0 0) => (match ty P t, nilIs x with | some T, some b => (∃ e, T.kd = .slice e) ∧ (op = .eql ∨ op = .neq) ∧ K (.s (.bool (if op = .eql then b else !b))) [] [] | _, _ => False)
  | _, _ => False
def loadVC (T : Option TY) (x : AV) (ob : Nat → Option Ob) (K : Kont) : Prop := match T, x with
  | some T, .ref cs => (T.kd.agg = false → T.n = 1) ∧ T.n ≤ cs.length ∧ K (ofCells T.kd.agg (cs.take T.n)) [] []
  | some T, .ptr id off => (match ob id with | some (.box cs) => (T.kd.agg = false → T.n = 1) ∧ off + T.n ≤ cs.length ∧ K (ofCells T.kd.agg ((cs.drop off).take T.n)) [id] [] | _ => False)
  | _, _ => False
def storeVC (T : Option TY) (x y : AV) (ob : Nat → Option Ob) (K : Kont) : Prop := match T, x with
  | some T, .ptr id off => (match ob id with | some (.box cs) => y.cells.all AV.one = true ∧ y.cells.length = T.n ∧ off + T.n ≤ cs.length ∧ K .junk [id] [(id, .box (cs.take off ++ y.cells ++ cs.drop (off + T.n)))] | _ => False)
  | _, _ => False
def allocVC (T : Option TY) (nb : Nat) (K : Kont) : Prop := match T with
  | some T => T.zero.all (·.oneCell') = true ∧ K (.ptr nb 0) [] [(nb, .box (T.zero.map .s))]
  | none => False
def boxVC (nb : Nat) (x : AV) (K : Kont) : Prop := x.cells.all AV.one = true ∧ K (.ptr nb 0) [] [(nb, .box x.cells)]
def buildVC (T : Option TY) (parts : List (Nat × AV)) (K : Kont) : Prop := match T with
  | some T => T.kd = .struct ∧ T.zero.all (·.oneCell') = true ∧ T.fields.all Option.isSome = true ∧ (match buildAV T.fields (T.zero.map .s) parts with | some r => K (.agg r) [] [] | none => False)
  | none => False
def elemTy (P : Program) (T : Option TY) : Option (TypeId × TY) := match T with
  | some T => (match T.kd with | .slice e => (ty P e).map (e, ·) | _ => none)
  | none => none
def litVC (P : Program) (nb : Nat) (T : Option TY) (len : Nat) (parts : List (Nat × Operand)) (ev : Operand → AV) (K : Kont) : Prop := match elemTy P T with
  | some (e, U) => 0 < U.n ∧ len * U.n ≤ 16777216 ∧ parts.map (·.1) = List.range len ∧ (match litRows U.n (parts.map fun x => ev x.2) with | some es => K (.osl nb U.n es) [] [(nb, .perm e U.n len)] | none => False)
  | none => False
def nilVC (x : AV) (K : Kont) : Prop := match x with
  | .ref cs => K (.ref cs) [] []
  | .ptr id off => K (.ptr id off) [] []
  | _ => False
def fldAddrVC (T : Option TY) (x : AV) (i : Nat) (K : Kont) : Prop := match T with
  | some T => T.kd = .struct ∧ (match T.fields[i]? with
    | some (some (off, n, _)) => 0 < n ∧ (match x with | .ref cs => off ≤ cs.length ∧ K (.ref (cs.drop off)) [] [] | .ptr id o => K (.ptr id (o + off)) [] [] | _ => False)
    | _ => False)
  | none => False
def fldVC (T : Option TY) (x : AV) (i : Nat) (K : Kont) : Prop := match T, x with
  | some T, .agg cs => T.kd = .struct ∧ (match T.fields[i]? with | some (some (off, n, ag)) => off + n ≤ cs.length ∧ (ag = false → n = 1) ∧ K (ofCells ag ((cs.drop off).take n)) [] [] | _ => False)
  | _, _ => False
def idxAddrVC (P : Program) (T : Option TY) (x y : AV) (K : Kont) : Prop := match elemTy P T, y with
  | some (e, U), .s (.int k i) => (match rowsOK U.n x with | some es => (0 ≤ i ∧ i.toNat < es.length) ∧ ∀ el, es[i.toNat]? = some el → K (.ref el) [] [] | none => False)
  | _, _ => False
def idxVC (T : Option TY) (x y : AV) (K : Kont) : Prop := match T, x, y with
  | some T, .s (.string s), .s (.int k i) => T.kd = .str ∧ (0 ≤ i ∧ i.toNat < s.size) ∧ ∀ b, s[i.toNat]? = some b → K (.s (.int .u8 b.toNat)) [] []
  | _, _, _ => False
def bound (x : Option AV) (d : Nat) (K : Nat → Prop) : Prop := match x with
  | some (.s (.int _ n)) => 0 ≤ n ∧ K n.toNat
  | some _ => False
  | none => K d
def slcVC (P : Program) (T : Option TY) (x : AV) (lo hi : Option AV) (K : Kont) : Prop := match T with
  | some T => (match T.kd, x with
    | .str, .s (.string s) => bound lo 0 fun l => bound hi s.size fun h => l ≤ h ∧ h ≤ s.size ∧ K (.s (.string (s.extract l h))) [] []
    | .slice e, x => (match ty P e with
      | some U => (match rowsOK U.n x with | some es => bound lo 0 fun l => bound hi es.length fun h => l ≤ h ∧ h ≤ es.length ∧ K (sliceAV x U.n ((es.take h).drop l)) [] [] | none => False)
      | none => False)
    | _, _ => False)
  | none => False
def convVC (S T : Option TY) (x : AV) (K : Kont) : Prop := match S, T, x with
  | some S, some T, .s (.int k n) => (match T.kd with | .int k' => K (.s (.int k' (k'.wrap n))) [] [] | _ => False)
  | _, _, _ => False
def lenVC (T : Option TY) (x : AV) (K : Kont) : Prop := match T with
  | some T => (match T.kd, x with
    | .str, .s (.string s) => K (.s (.int .i64 s.size)) [] []
    | .slice _, x => (match x.rows with | some (_, es) => K (.s (.int .i64 es.length)) [] [] | none => False)
    | _, _ => False)
  | none => False
def appVC (P : Program) (nb : Nat) (T : Option TY) (s x : AV) (ob : Nat → Option Ob) (K : Kont) : Prop := match elemTy P T with
  | some (e, U) => 0 < U.n ∧ U.zero.length = U.n ∧ (match rowsOK U.n x with
    | some fs => (match s with
      | .osl p sz es => sz = U.n ∧ ob p = some (.perm e U.n es.length) ∧ es.length + fs.length ≤ 9223372036854775807 ∧ (es.length + fs.length) * U.bytes ≤ 140737488355328 ∧ K (.osl p U.n (es ++ fs)) [p] [(p, .perm e U.n (es.length + fs.length))]
      | .s v => v = .slice none 0 0 ∧ fs.length ≤ 9223372036854775807 ∧ fs.length * U.bytes ≤ 140737488355328 ∧ K (.osl nb U.n fs) [] [(nb, .perm e U.n fs.length)]
      | _ => False)
    | none => False)
  | none => False
def CallV (P : Program) (nb : Nat) (op : Op) (t : TypeId) (f : FuncId) (args : List AV) (σ : St) (K : Kont) : Prop := ∃ r deps ws, OpK P nb op t σ deps r ws ∧ K r deps ws
def YieldV (P : Program) (nb : Nat) (op : Op) (t : TypeId) (l : Nat) (args : List AV) (σ : St) (K : Kont) : Prop := ∃ r deps ws, OpK P nb op t σ deps r ws ∧ K r deps ws

def opVC0 (P : Program) (nb : Nat) (op : Op) (t : TypeId) (σ : St) (K : Kont) : Prop := match op with
  | .move x | .assign x => K (σ.ev x) [] []
  | .pick c x y => pickVC (σ.ev c) (σ.ev x) (σ.ev y) K
  | .extract x i => extVC (σ.ev x) i K
  | .unOp op _ x => unVC op (σ.ev x) K
  | .binOp op t' x y _ => binVC P op t' (σ.ev x) (σ.ev y) K
  | .load t' x => loadVC (ty P t') (σ.ev x) σ.ob K
  | .store t' x y => storeVC (ty P t') (σ.ev x) (σ.ev y) σ.ob K
  | .alloc t' => allocVC (ty P t') nb K
  | .box t' x => boxVC nb (σ.ev x) K
  | .build t' parts => buildVC (ty P t') (parts.toList.map fun x => (x.1, σ.ev x.2)) K
  | .buildSlice t' len parts => litVC P nb (ty P t') len parts.toList σ.ev K
  | .nilCheck x => nilVC (σ.ev x) K
  | .fieldAddr s x i => fldAddrVC (ty P s) (σ.ev x) i K
  | .field s x i => fldVC (ty P s) (σ.ev x) i K
  | .indexAddr t' x y => idxAddrVC P (ty P t') (σ.ev x) (σ.ev y) K
  | .index t' x y => idxVC (ty P t') (σ.ev x) (σ.ev y) K
  | .slice t' x lo hi none => slcVC P (ty P t') (σ.ev x) (lo.map σ.ev) (hi.map σ.ev) K
  | .convert s d x => convVC (ty P s) (ty P d) (σ.ev x) K
  | .makeFunc f first caps => K (.fn f (first.toList.map σ.ev) (caps.toList.map σ.ev)) [] []
  | .call { callee := .builtin .len, args := ⟨[x]⟩, argTypes := ⟨[t']⟩ } => lenVC (ty P t') (σ.ev x) K
  | .call { callee := .builtin .append, args := ⟨[s, x]⟩, argTypes := ⟨[t', t'']⟩ } => t' = t'' ∧ appVC P nb (ty P t') (σ.ev s) (σ.ev x) σ.ob K
  | .call { callee := .value f, args, argTypes } => (match σ.ev f with | .fn (.func g) first caps => CallV P nb (.call { callee := .value f, args, argTypes }) t g (first ++ args.toList.map σ.ev ++ caps) σ K | .fn (.yield l) first caps => YieldV P nb (.call { callee := .value f, args, argTypes }) t l (first ++ args.toList.map σ.ev ++ caps) σ K | _ => False)
  | op => ∃ r deps ws, OpK P nb op t σ deps r ws ∧ K r deps ws

theorem updG_eq (ob : Nat → Option Ob) (id : Nat) (x : Ob) (h : x.opt = some x) : updG ob id x = updOb ob id x := by funext i; unfold updG updOb; rw [h]
theorem updOb_applyW (ob : Nat → Option Ob) (id : Nat) (x : Ob) (h : x.opt = some x) : applyW ob [(id, x)] = updOb ob id x := updG_eq ob id x h

theorem elemTy_inv {P : Program} {t : TypeId} {e : TypeId} {U : TY} (h : elemTy P (ty P t) = some (e, U)) : ∃ T, ty P t = some T ∧ T.kd = .slice e ∧ ty P e = some U := by
  unfold elemTy at h
  split at h
  · rename_i T hT
    split at h
    · rename_i e' hk
      cases he : ty P e' with
      | none => rw [he] at h; cases h
      | some U' => rw [he] at h; simp at h; obtain ⟨rfl, rfl⟩ := h; exact ⟨T, hT, hk, he⟩
    · cases h
  · cases h

section
variable {P : Program} {nb : Nat} {t : TypeId} {σ : St} {K : Kont}

def Good (P : Program) (nb : Nat) (op : Op) (t : TypeId) (σ : St) (K : Kont) : Prop := ∃ r deps ws, OpK P nb op t σ deps r ws ∧ K r deps ws
def opVC (P : Program) (nb : Nat) (op : Op) (t : TypeId) (σ : St) (K : Kont) : Prop := opVC0 P nb op t σ K ∨ Good P nb op t σ K

theorem Good.plain {op : Op} {r : AV} (h : ∀ σ' : St, (∀ x ∈ op.operands.toList, σ'.ev x = σ.ev x) → OpS P nb op t σ' r σ'.ob) (hK : K r [] []) : Good P nb op t σ K :=
  ⟨r, [], [], fun σ' hx _ => h σ' hx, hK⟩

theorem good_pick {c x y : Operand} (h : pickVC (σ.ev c) (σ.ev x) (σ.ev y) K) : Good P nb (.pick c x y) t σ K := by
  unfold pickVC at h
  split at h
  · rename_i b hb
    refine .plain (fun σ' hx => ?_) h
    have e1 := hx c (by simp [Op.operands]); have e2 := hx x (by simp [Op.operands]); have e3 := hx y (by simp [Op.operands])
    rw [← e2, ← e3]
    exact opS_pick c x y b (e1.trans hb)
  · exact h.elim
theorem good_ext {x : Operand} {i : Nat} (h : extVC (σ.ev x) i K) : Good P nb (.extract x i) t σ K := by
  unfold extVC at h
  split at h
  · rename_i cs hcs
    split at h
    · rename_i r hr
      exact .plain (fun σ' hx => opS_extract x i cs r ((hx x (by simp [Op.operands])).trans hcs) hr) h
    · exact h.elim
  · exact h.elim
theorem good_un {op : UnOp} {t' : TypeId} {x : Operand} (h : unVC op (σ.ev x) K) : Good P nb (.unOp op t' x) t σ K := by
  unfold unVC at h
  split at h
  · rename_i b hb
    exact .plain (fun σ' hx => opS_not t' x b ((hx x (by simp [Op.operands])).trans hb)) h
  · rename_i k n hb
    exact .plain (fun σ' hx => opS_neg t' x k n ((hx x (by simp [Op.operands])).trans hb)) h
  · exact h.elim

theorem scal_R {H : View} {ε : Env} : ∀ {l : List AV} {us vs : List Value}, scal l = some vs → RL H ε us l → us = vs
  | [], us, vs, h, hr => by simp [scal] at h; subst h; cases hr; rfl
  | a :: l, us, vs, h, hr => by
    cases hr with
    | cons v _ us _ hv hl =>
      cases a <;> simp [scal] at h
      obtain ⟨vs', h1, rfl⟩ := h
      rw [scal_R h1 hl, hv.s_inv.1]

theorem good_bin {op : BinOp} {t' u : TypeId} {x y : Operand} (h : binVC P op t' (σ.ev x) (σ.ev y) K) : Good P nb (.binOp op t' x y u) t σ K := by
  unfold binVC at h
  split at h
  · rename_i k a k' b hx hy
    split at h
    · rename_i hop
      split at h
      · rename_i v hv
        refine .plain (fun σ' hx' => ?_) h
        exact opS_shift op t' u x y k k' a b v ((hx' x (by simp [Op.operands])).trans hx) ((hx' y (by simp [Op.operands])).trans hy) hv hop
      · exact h.elim
    · rename_i hop
      split at h
      · rename_i hkk; subst hkk
        split at h
        · rename_i v hv
          refine .plain (fun σ' hx' => ?_) h
          exact opS_int op t' u x y k a b v ((hx' x (by simp [Op.operands])).trans hx) ((hx' y (by simp [Op.operands])).trans hy) hv (fun e => hop (.inl e)) (fun e => hop (.inr e))
        · exact h.elim
      · exact h.elim
  · rename_i a b hx hy
    split at h
    · rename_i v hv
      refine .plain (fun σ' hx' => ?_) h
      exact opS_str op t' u x y a b v ((hx' x (by simp [Op.operands])).trans hx) ((hx' y (by simp [Op.operands])).trans hy) hv
    · exact h.elim
  · rename_i a b hx hy
    split at h
    · rename_i T hT
      obtain ⟨h1, h2, h3⟩ := h
      refine .plain (fun σ' hx' => ?_) h3
      exact opS_bool op t' u x y a b T hT h1 ((hx' x (by simp [Op.operands])).trans hx) ((hx' y (by simp [Op.operands])).trans hy) h2
    · exact h.elim
  · rename_i cs ds hx hy
    split at h
    · rename_i vs us hvs hus
      obtain ⟨b, hb, hK⟩ := h
      refine .plain (fun σ' hx' => .pure fun c H ε ρ w o ho _ hm hr => ?_) hK
      have e1 := hr x; rw [(hx' x (by simp [Op.operands])).trans hx] at e1
      have e2 := hr y; rw [(hx' y (by simp [Op.operands])).trans hy] at e2
      obtain ⟨xs, hxs, r1⟩ := e1.agg_inv
      obtain ⟨ys, hys, r2⟩ := e2.agg_inv
      have q1 := scal_R hvs r1
      have q2 := scal_R hus r2
      subst q1; subst q2
      refine ⟨.bool b, ?_, .d _ _ (.s _ rfl)⟩
      have := hb w x y
      simp only [Sem.run_bind] at this
      simp only [execOp, ho, hxs, hys, Sem.run_bind]
      rw [this]
      rfl
    · exact h.elim
  · rename_i hy
    split at h
    · rename_i T b hT hb
      obtain ⟨⟨e, h1⟩, h2, h3⟩ := h
      refine .plain (fun σ' hx' => ?_) h3
      exact opS_nilEq op t' u x y T e b hT h1 (by rw [hx' x (by simp [Op.operands])]; exact hb) ((hx' y (by simp [Op.operands])).trans hy) h2
    · exact h.elim
  · exact h.elim

theorem good_load {t' : TypeId} {x : Operand} (h : loadVC (ty P t') (σ.ev x) σ.ob K) : Good P nb (.load t' x) t σ K := by
  unfold loadVC at h
  split at h
  · rename_i T cs hT hx
    exact .plain (fun σ' hx' => opS_load_ref t' x T cs hT h.1 ((hx' x (by simp [Op.operands])).trans hx) h.2.1) h.2.2
  · rename_i T id off hT hx
    split at h
    · rename_i cs hb
      exact ⟨_, [id], [], fun σ' hx' hob => opS_load_ptr t' x T id off cs hT h.1 ((hx' x (by simp [Op.operands])).trans hx) ((hob id (by simp)).trans hb) h.2.1, h.2.2⟩
    · exact h.elim
  · exact h.elim
theorem good_store {t' : TypeId} {x y : Operand} (h : storeVC (ty P t') (σ.ev x) (σ.ev y) σ.ob K) : Good P nb (.store t' x y) t σ K := by
  unfold storeVC at h
  split at h
  · rename_i T id off hT hx
    split at h
    · rename_i cs hb
      refine ⟨_, [id], [(id, _)], fun σ' hx' hob => ?_, h.2.2.2⟩
      have ey := hx' y (by simp [Op.operands])
      rw [updOb_applyW _ _ _ rfl, ← ey]
      exact opS_store t' x y T id off cs hT ((hx' x (by simp [Op.operands])).trans hx) ((hob id (by simp)).trans hb) (by rw [ey]; exact one_or_agg h.1) (by rw [ey]; exact h.1) (by rw [ey]; exact h.2.1) h.2.2.1
    · exact h.elim
  · exact h.elim
theorem good_alloc {t' : TypeId} (h : allocVC (ty P t') nb K) : Good P nb (.alloc t') t σ K := by
  unfold allocVC at h
  split at h
  · rename_i T hT
    exact ⟨_, [], [(nb, _)], fun σ' _ _ => opS_alloc t' T hT h.1, h.2⟩
  · exact h.elim
theorem good_box {t' : TypeId} {x : Operand} (h : boxVC nb (σ.ev x) K) : Good P nb (.box t' x) t σ K := by
  refine ⟨_, [], [(nb, _)], fun σ' hx' _ => ?_, h.2⟩
  have ex := hx' x (by simp [Op.operands])
  rw [updOb_applyW _ _ _ rfl, ← ex]
  exact opS_box t' x (by rw [ex]; exact one_or_agg h.1) (by rw [ex]; exact h.1)
theorem good_build {t' : TypeId} {parts : Array (Nat × Operand)} (h : buildVC (ty P t') (parts.toList.map fun x => (x.1, σ.ev x.2)) K) : Good P nb (.build t' parts) t σ K := by
  unfold buildVC at h
  split at h
  · rename_i T hT
    obtain ⟨h1, h2, h3, h4⟩ := h
    split at h4
    · rename_i r hr
      refine .plain (fun σ' hx' => opS_build t' parts T r hT h1 h2 h3 ?_) h4
      rw [← hr]
      congr 1
      apply List.map_congr_left
      intro q hq
      rw [hx' q.2 (by simp [Op.operands]; exact ⟨q.1, by simpa using hq⟩)]
    · exact h4.elim
  · exact h.elim
theorem good_lit {t' : TypeId} {len : Nat} {parts : Array (Nat × Operand)} (h : litVC P nb (ty P t') len parts.toList σ.ev K) : Good P nb (.buildSlice t' len parts) t σ K := by
  unfold litVC at h
  split at h
  · rename_i e U he
    obtain ⟨T, hT, hk, hU⟩ := elemTy_inv he
    obtain ⟨h1, h2, h3, h4⟩ := h
    split at h4
    · rename_i es hes
      refine ⟨_, [], [(nb, _)], fun σ' hx' _ => ?_, h4⟩
      rw [updOb_applyW _ _ _ rfl]
      refine opS_buildSlice t' len (parts.toList.map (·.2)) parts T U e es hT hk hU h1 ?_ ?_ h2 ?_
      · apply List.ext_getElem
        · simp
        · intro i q1 q2
          have : (parts.toList.map (·.1))[i]'(by simpa using q1) = i := by simp only [h3, List.getElem_range]
          simp only [List.getElem_map, List.getElem_zipIdx, Nat.zero_add] at this ⊢
          exact Prod.ext this rfl
      · have := congrArg List.length h3
        simpa using this
      · rw [← hes, List.map_map]
        congr 1
        apply List.map_congr_left
        intro q hq
        exact hx' q.2 (by simp [Op.operands]; exact ⟨q.1, by simpa using hq⟩)
    · exact h4.elim
  · exact h.elim
theorem good_nil {x : Operand} (h : nilVC (σ.ev x) K) : Good P nb (.nilCheck x) t σ K := by
  unfold nilVC at h
  split at h
  · rename_i cs hx
    exact .plain (fun σ' hx' => opS_nilCheck_ref x cs ((hx' x (by simp [Op.operands])).trans hx)) h
  · rename_i id off hx
    exact .plain (fun σ' hx' => opS_nilCheck_ptr x id off ((hx' x (by simp [Op.operands])).trans hx)) h
  · exact h.elim
theorem good_fldAddr {s : TypeId} {x : Operand} {i : Nat} (h : fldAddrVC (ty P s) (σ.ev x) i K) : Good P nb (.fieldAddr s x i) t σ K := by
  unfold fldAddrVC at h
  split at h
  · rename_i T hT
    obtain ⟨hk, h⟩ := h
    split at h
    · rename_i off n ag hf
      obtain ⟨hn, h⟩ := h
      split at h
      · rename_i cs hx
        exact .plain (fun σ' hx' => opS_fieldAddr_ref s x i off n ag T cs hT hk hf hn ((hx' x (by simp [Op.operands])).trans hx) h.1) h.2
      · rename_i id o hx
        exact .plain (fun σ' hx' => opS_fieldAddr_ptr s x i off n ag T id o hT hk hf hn ((hx' x (by simp [Op.operands])).trans hx)) h
      · exact h.elim
    · exact h.elim
  · exact h.elim
theorem good_fld {s : TypeId} {x : Operand} {i : Nat} (h : fldVC (ty P s) (σ.ev x) i K) : Good P nb (.field s x i) t σ K := by
  unfold fldVC at h
  split at h
  · rename_i T cs hT hx
    obtain ⟨hk, h⟩ := h
    split at h
    · rename_i off n ag hf
      exact .plain (fun σ' hx' => opS_field s x i off n ag T cs hT hk hf ((hx' x (by simp [Op.operands])).trans hx) h.1 h.2.1) h.2.2
    · exact h.elim
  · exact h.elim
theorem good_idxAddr {t' : TypeId} {x y : Operand} (h : idxAddrVC P (ty P t') (σ.ev x) (σ.ev y) K) : Good P nb (.indexAddr t' x y) t σ K := by
  unfold idxAddrVC at h
  split at h
  · rename_i e U k i he hy
    obtain ⟨T, hT, hk, hU⟩ := elemTy_inv he
    split at h
    · rename_i es hes
      obtain ⟨⟨h0, h1⟩, h2⟩ := h
      have hel : es[i.toNat]? = some es[i.toNat] := by simp [h1]
      refine .plain (fun σ' hx' => .pure fun c H ε ρ w o ho _ hm hr => ?_) (h2 _ hel)
      have hD := rowsOK_D (hr x) (by rw [hx' x (by simp [Op.operands])]; exact hes)
      have hi := hr y; rw [(hx' y (by simp [Op.operands])).trans hy] at hi
      have hd := slice_inv hT hk
      obtain ⟨inf2, d2, _, hi2, _, _, hn2, _⟩ := ty_inv hU
      rcases hD.slice with ⟨_, hnil⟩ | ⟨_, _, _, hnil⟩ | ⟨b, off, cap, hv, _, hs, hmm⟩
      · rw [hnil] at h1; simp at h1
      · rw [hnil] at h1; simp at h1
      · refine ⟨.pointer (some ⟨b, off + i.toNat * U.n, none⟩), ?_, .d _ _ (.ref _ _ _ (hmm.elem hs hel))⟩
        have hlt' : i < (es.length : Int) := by omega
        simp only [execOp, ho, hv, hi.s_inv.1, Instr.indexAt, asIntOf, Sem.run_bind, Sem.run_pure, Result.andThen_ok, run_underlying' hd, h0, hlt', and_self, if_true, run_sizeOf' hi2, ← hn2, add_eq]
    · exact h.elim
  · exact h.elim
theorem good_idx {t' : TypeId} {x y : Operand} (h : idxVC (ty P t') (σ.ev x) (σ.ev y) K) : Good P nb (.index t' x y) t σ K := by
  unfold idxVC at h
  split at h
  · rename_i T s k i hT hx hy
    obtain ⟨hk, ⟨h0, h1⟩, h2⟩ := h
    have hb : s[i.toNat]? = some s[i.toNat] := by simp [h1]
    exact .plain (fun σ' hx' => opS_indexStr t' x y T s k i _ hT hk ((hx' x (by simp [Op.operands])).trans hx) ((hx' y (by simp [Op.operands])).trans hy) h0 hb) (h2 _ hb)
  · exact h.elim
theorem good_conv {s d : TypeId} {x : Operand} (h : convVC (ty P s) (ty P d) (σ.ev x) K) : Good P nb (.convert s d x) t σ K := by
  unfold convVC at h
  split at h
  · rename_i S T k n hS hT hx
    split at h
    · rename_i k' hk
      exact .plain (fun σ' hx' => opS_convInt s d x S T k k' n hS hT hk ((hx' x (by simp [Op.operands])).trans hx)) h
    · exact h.elim
  · exact h.elim
theorem good_len {t' : TypeId} {x : Operand} (h : lenVC (ty P t') (σ.ev x) K) : Good P nb (.call { callee := .builtin .len, args := #[x], argTypes := #[t'] }) t σ K := by
  unfold lenVC at h
  split at h
  · rename_i T hT
    split at h
    · rename_i s hk hx
      exact .plain (fun σ' hx' => opS_len_str x t' T s hT hk ((hx' x (by simp [Op.operands, Call.operands])).trans hx)) h
    · rename_i e hk
      split at h
      · rename_i sz es hr
        exact .plain (fun σ' hx' => opS_len_slice x t' T e sz es hT hk (by rw [hx' x (by simp [Op.operands, Call.operands])]; exact hr)) h
      · exact h.elim
    · exact h.elim
  · exact h.elim
theorem good_app {t' : TypeId} {s x : Operand} (h : appVC P nb (ty P t') (σ.ev s) (σ.ev x) σ.ob K) : Good P nb (.call { callee := .builtin .append, args := #[s, x], argTypes := #[t', t'] }) t σ K := by
  unfold appVC at h
  split at h
  · rename_i e U he
    obtain ⟨T, hT, hk, hU⟩ := elemTy_inv he
    obtain ⟨h1, h2, h⟩ := h
    split at h
    · rename_i fs hfs
      split at h
      · rename_i p sz es hs
        obtain ⟨rfl, hp, q1, q2, hK⟩ := h
        refine ⟨_, [p], [(p, _)], fun σ' hx' hob => ?_, hK⟩
        rw [updOb_applyW _ _ _ rfl]
        exact opS_append s x t' T U e p es fs hT hk hU h2 ((hx' s (by simp [Op.operands, Call.operands])).trans hs) ((hob p (by simp)).trans hp) (by rw [hx' x (by simp [Op.operands, Call.operands])]; exact hfs) q1 q2
      · rename_i v hs
        obtain ⟨rfl, q1, q2, hK⟩ := h
        refine ⟨_, [], [(nb, _)], fun σ' hx' hob => ?_, hK⟩
        rw [updOb_applyW _ _ _ rfl]
        exact opS_append_nil s x t' T U e fs hT hk hU h1 h2 ((hx' s (by simp [Op.operands, Call.operands])).trans hs) (by rw [hx' x (by simp [Op.operands, Call.operands])]; exact hfs) q1 q2
      · exact h.elim
    · exact h.elim
  · exact h.elim
end
end Go.Sy
end
section
set_option linter.unusedVariables false
namespace Go.Sy

section
variable {P : Program} {nb : Nat} {t : TypeId} {σ : St} {K : Kont}

def Bnd (ev : Operand → AV) (x : Option Operand) (d n : Nat) : Prop := match x with
  | some y => ∃ k, ev y = .s (.int k n)
  | none => n = d
theorem bound_some {x : Option Operand} {ev : Operand → AV} {d : Nat} {K' : Nat → Prop} (h : bound (x.map ev) d K') : ∃ n, K' n ∧ Bnd ev x d n := by
  cases x with
  | none => exact ⟨d, h, rfl⟩
  | some y =>
    simp only [Option.map_some, bound] at h
    split at h
    · rename_i k n hy
      have hy' : ev y = .s (.int k n) := by simpa using hy
      refine ⟨n.toNat, h.2, k, ?_⟩
      rw [hy', Int.toNat_of_nonneg h.1]
    · exact h.elim
    · rename_i hy; simp at hy

theorem good_slc {t' : TypeId} {x : Operand} {lo hi : Option Operand} (h : slcVC P (ty P t') (σ.ev x) (lo.map σ.ev) (hi.map σ.ev) K) : Good P nb (.slice t' x lo hi none) t σ K := by
  have hops : ∀ σ' : St, (∀ y ∈ (Op.slice t' x lo hi none).operands.toList, σ'.ev y = σ.ev y) → σ'.ev x = σ.ev x ∧ (∀ y, lo = some y → σ'.ev y = σ.ev y) ∧ (∀ y, hi = some y → σ'.ev y = σ.ev y) := by
    intro σ' hx
    refine ⟨hx x (by simp [Op.operands]), fun y hy => hx y (by subst hy; simp [Op.operands]), fun y hy => hx y (by subst hy; simp [Op.operands])⟩
  have lift : ∀ (σ' : St) (z : Option Operand) (n d : Nat), (∀ y, z = some y → σ'.ev y = σ.ev y) → Bnd σ.ev z d n → Bnd σ'.ev z d n := by
    intro σ' z n d hz h
    cases z with
    | none => exact h
    | some y => obtain ⟨k, hk⟩ := h; exact ⟨k, (hz y rfl).trans hk⟩
  unfold slcVC at h
  split at h
  · rename_i T hT
    split at h
    · rename_i s hk hx
      obtain ⟨l, h, hl⟩ := bound_some h
      obtain ⟨u, h, hu⟩ := bound_some h
      refine .plain (fun σ' hx' => ?_) h.2.2
      obtain ⟨e1, e2, e3⟩ := hops σ' hx'
      exact opS_slice_str t' x lo hi T s l u hT hk (e1.trans hx) (lift σ' lo l 0 e2 hl) (lift σ' hi u _ e3 hu) h.1 h.2.1
    · rename_i e hk
      split at h
      · rename_i U hU
        split at h
        · rename_i es hes
          obtain ⟨l, h, hl⟩ := bound_some h
          obtain ⟨u, h, hu⟩ := bound_some h
          refine .plain (fun σ' hx' => ?_) h.2.2
          obtain ⟨e1, e2, e3⟩ := hops σ' hx'
          have hop := opS_slice_rows (P := P) (nb := nb) (t := t) (σ := σ') t' x lo hi T U e U.n es l u hT hk hU rfl (by rw [e1]; exact hes) (lift σ' lo l 0 e2 hl) (lift σ' hi u _ e3 hu) h.1 h.2.1
          rw [e1] at hop
          exact hop
        · exact h.elim
      · exact h.elim
    · exact h.elim
  · exact h.elim

theorem good_fn {f : Fn} {first caps : Array Operand} (hK : K (.fn f (first.toList.map σ.ev) (caps.toList.map σ.ev)) [] []) : Good P nb (.makeFunc f first caps) t σ K := by
  have mapL : ∀ {H : View} {ε : Env} {ρ : Operand → Value} {σ' : St} (hr : ∀ x, R H ε (ρ x) (σ'.ev x)) (l : List Operand), RL H ε (l.map ρ) (l.map σ'.ev) := by
    intro H ε ρ σ' hr l
    induction l with
    | nil => exact .nil
    | cons y ys ih => exact .cons _ _ _ _ (hr y) ih
  refine .plain (fun σ' hx => ?_) hK
  have e1 : first.toList.map σ.ev = first.toList.map σ'.ev := List.map_congr_left fun y hy => (hx y (by simp [Op.operands]; exact .inl (by simpa using hy))).symm
  have e2 : caps.toList.map σ.ev = caps.toList.map σ'.ev := List.map_congr_left fun y hy => (hx y (by simp [Op.operands]; exact .inr (by simpa using hy))).symm
  rw [e1, e2]
  refine .pure fun c H ε ρ w o ho _ hm hr => ⟨.func f (first.map ρ) (caps.map ρ), by simp [execOp, ho, Instr.makeFunc], ?_⟩
  have e : ∀ l : Array Operand, l.map ρ = (l.toList.map ρ).toArray := fun l => by rw [← Array.toList_map, Array.toArray_toList]
  rw [e, e]
  exact R.fn f _ _ _ _ (mapL hr first.toList) (mapL hr caps.toList)

theorem opVC0_sound {op : Op} (h : opVC0 P nb op t σ K) : Good P nb op t σ K := by
  unfold opVC0 at h
  split at h
  · exact .plain (fun σ' hx => by rw [← hx _ (by simp [Op.operands])]; exact opS_move _) h
  · exact .plain (fun σ' hx => by rw [← hx _ (by simp [Op.operands])]; exact opS_assign _) h
  · exact good_pick h
  · exact good_ext h
  · exact good_un h
  · exact good_bin h
  · exact good_load h
  · exact good_store h
  · exact good_alloc h
  · exact good_box h
  · exact good_build h
  · exact good_lit h
  · exact good_nil h
  · exact good_fldAddr h
  · exact good_fld h
  · exact good_idxAddr h
  · exact good_idx h
  · exact good_slc h
  · exact good_conv h
  · exact good_fn h
  · exact good_len h
  · obtain ⟨rfl, h⟩ := h; exact good_app h
  · split at h
    · exact h
    · exact h
    · exact h.elim
  · exact h

theorem opVC_sound {op : Op} (h : opVC P nb op t σ K) : Good P nb op t σ K := h.elim opVC0_sound id
theorem callV_pure {f : FuncId} {x : Operand} {args : Array Operand} {ts : Array TypeId} {first caps avs : List AV} {args' : List AV} {r : AV} (ho : Own P f) (hs : PSpec P f args' r) (hx : σ.ev x = .fn (.func f) first caps) (he : avs = first ++ args.toList.map σ.ev ++ caps)
    (hle : LeL avs args') (hpu : PuL args') (hK : K r [] []) : CallV P nb (.call { callee := .value x, args, argTypes := ts }) t f avs σ K := by
  obtain ⟨fn, h1, h2, h3⟩ := ho
  subst he
  refine ⟨r, [], [], fun σ' hx' _ => ?_, hK⟩
  have e0 : σ'.ev x = σ.ev x := hx' x (by simp [Op.operands, Call.operands])
  have e1 : args.toList.map σ'.ev = args.toList.map σ.ev := List.map_congr_left fun y hy => hx' y (by simp [Op.operands, Call.operands]; exact .inr (by simpa using hy))
  have := opS_callPure (P := P) (nb := nb) (t := t) (σ := σ') f fn x args.toList ts first caps args' r h1 h2 h3 (e0.trans hx) (by rw [e1]; exact hle) hpu hs
  simpa [applyW] using this
end

def upd (tm : Nat → AV) (d : Nat) (r : AV) : Nat → AV := fun j => if j = d then r else tm j
theorem upd_get (tm : Nat → AV) (d : Nat) (r : AV) (i : Nat) : upd tm d r i = if i = d then r else tm i := rfl
theorem updOb_get (ob : Nat → Option Ob) (d : Nat) (r : Ob) (i : Nat) : updOb ob d r i = if i = d then some r else ob i := rfl
def St.put (σ : St) (dst : Option Tmp) (r : AV) (ws : List (Nat × Ob)) : St := { σ with tm := match dst with | some d => upd σ.tm d r | none => σ.tm, ob := applyW σ.ob ws }
def St.know (σ : St) (d : Nat) (r : AV) : St := { σ with tm := upd σ.tm d r }

def gdst (ops : Array Oper) (g : Nat) : Option Nat := (ops[g]?).bind (·.dst)

def regVC (P : Program) (ops : Array Oper) (base : Nat) : List Oper → Nat → St → (St → Prop) → Prop
  | [], n, σ, K => K { σ with nx := base + 16 * n }
  | o :: l, i, σ, K =>
    match o.guard with
    | none => opVC P (base + 16 * i) o.op o.type σ fun r _ ws => regVC P ops base l (i + 1) (σ.put o.dst r ws) K
    | some (g, want) =>
      match gdst ops g with
      | some d =>
        match σ.tm d with
        | .s (.bool b) =>
          (b = want → opVC P (base + 16 * i) o.op o.type (σ.know d (.s (.bool want))) fun r _ ws => regVC P ops base l (i + 1) ((σ.know d (.s (.bool want))).put o.dst r ws) K) ∧
          (b = (!want) → regVC P ops base l (i + 1) ((σ.know d (.s (.bool (!want)))).put o.dst (.tup []) []) K)
        | .tup [] => regVC P ops base l (i + 1) (σ.put o.dst (.tup []) []) K
        | _ => False
      | none => False

def dstOK (N : Nat) (ops : Array Oper) : Bool := ops.all fun o => match o.dst with | some d => decide (d < N) | none => true

theorem know_same {σ : St} {d : Nat} {r : AV} (h : σ.tm d = r) : σ.know d r = σ := by
  unfold St.know
  cases σ with
  | mk tm ob nx =>
    simp only [St.mk.injEq, and_true]
    funext j
    unfold upd
    split
    · rename_i hj; subst hj; exact h.symm
    · rfl

structure Inv0 (c : Ctx) (H : View) (ε : Env) (σ : St) (a : Act) (w : World) : Prop where
  sz : a.tmps.size = c.N
  df : a.defers = c.D
  tm : ∀ i, R H ε (a.tmps.getD i undef) (σ.tm i)
  mem : Mem c H ε σ.ob w

theorem put_tm {H' : View} {ε' : Env} {σ : St} {a : Act} {dst : Option Tmp} {v : Value} {r : AV} {ws : List (Nat × Ob)} (hd : ∀ d, dst = some d → d < a.tmps.size) (h : ∀ i, R H' ε' (a.tmps.getD i undef) (σ.tm i)) (hv : R H' ε' v r) :
    ∀ i, R H' ε' ((a.put dst v).tmps.getD i undef) ((σ.put dst r ws).tm i) := by
  intro i
  cases dst with
  | none => simpa [Act.put, St.put] using h i
  | some d =>
    have hlt := hd d rfl
    by_cases hi : d = i
    · subst hi
      simpa [Act.put, St.put, upd, hlt] using hv
    · have h2 : (a.tmps.setIfInBounds d v).getD i undef = a.tmps.getD i undef := by
        simp only [Array.getD_eq_getD_getElem?, Array.getElem?_setIfInBounds, if_neg hi]
      have hi' : ¬ i = d := fun e => hi e.symm
      simpa [Act.put, St.put, upd, hi', h2] using h i

theorem reg_sound {P : Program} {ops : Array Oper} {base : Nat} {c : Ctx} {Q : Exit → Act → World → Prop} (hN : dstOK c.N ops = true) : ∀ (l : List Oper) (i : Nat) (σ : St) (K : St → Prop) (H : View) (ε : Env) (a : Act) (w : World),
    ops.toList.drop i = l → regVC P ops base l i σ K → Inv0 c H ε σ a w → (∀ id, base + 16 * i ≤ id → ε id = none) →
      (∀ σ' H' ε' a' w', K σ' → Inv c H' ε' σ' a' w' → Q .normal a' w') → wpOpsIn (wf c.ro) 0 P ops Q (List.range' i l.length) a w
  | [], i, σ, K, H, ε, a, w, hd, h, hi, hdom, hQ => by
    simp only [List.length_nil, List.range'_zero, wpOpsIn]
    exact hQ _ H ε a w h ⟨hi.sz, hi.df, hi.tm, hi.mem, hdom⟩
  | o :: l, i, σ, K, H, ε, a, w, hd, h, hi, hdom, hQ => by
    have hoi : ops[i]? = some o := by
      have := congrArg List.head? hd
      simpa using this
    have hd' : ops.toList.drop (i + 1) = l := by
      have := congrArg List.tail hd
      simpa using this
    have hdst : ∀ d, o.dst = some d → d < a.tmps.size := by
      intro d hdd
      rw [hi.sz]
      have hmem : o ∈ ops := Array.mem_of_getElem? hoi
      have := (Array.all_eq_true_iff_forall_mem.1 hN) o hmem
      simpa [hdd] using this
    have hdf : ∀ (dst : Option Tmp) (v : Value), (a.put dst v).defers = c.D := fun dst v => by cases dst <;> exact hi.df
    have hsz : ∀ (dst : Option Tmp) (v : Value), (a.put dst v).tmps.size = c.N := fun dst v => by cases dst <;> simp [Act.put, hi.sz]
    -- the operation is done
    have did : ∀ σ1 : St, (∀ j, R H ε (a.tmps.getD j undef) (σ1.tm j)) → σ1.ob = σ.ob → (opVC P (base + 16 * i) o.op o.type σ1 fun r _ ws => regVC P ops base l (i + 1) (σ1.put o.dst r ws) K) →
        o.wpIn (wf c.ro) 0 P a w (wpOpsIn (wf c.ro) 0 P ops Q (List.range' (i + 1) l.length)) Q := by
      intro σ1 htm hob hvc
      obtain ⟨r, deps, ws, hok, hK⟩ := opVC_sound hvc
      have hop := hok σ1 (fun _ _ => rfl) (fun _ _ => rfl)
      refine hop c H ε a w o rfl rfl (by rw [hob]; exact hi.mem) htm (fun id h1 h2 => hdom id h1) _ Q ?_
      intro v w' H' ε' hH hε hfr hv hm
      refine reg_sound hN l (i + 1) _ K H' ε' (a.put o.dst v) w' hd' hK ⟨hsz _ _, hdf _ _, ?_, hm⟩ ?_ hQ
      · exact put_tm hdst (fun j => (htm j).mono hH hε) hv
      · intro id hid
        exact hfr id (hdom id (by omega)) (by omega)
    -- the operation is passed over
    have passed : ∀ σ1 : St, (∀ j, R H ε (a.tmps.getD j undef) (σ1.tm j)) → σ1.ob = σ.ob → regVC P ops base l (i + 1) (σ1.put o.dst (.tup []) []) K → wpOpsIn (wf c.ro) 0 P ops Q (List.range' (i + 1) l.length) (a.put o.dst undef) w := by
      intro σ1 htm hob hK
      refine reg_sound hN l (i + 1) _ K H ε (a.put o.dst undef) w hd' hK ⟨hsz _ _, hdf _ _, ?_, ?_⟩ (fun id hid => hdom id (by omega)) hQ
      · exact put_tm hdst htm (.d _ _ (.tup [] [] .nil))
      · have : (σ1.put o.dst (.tup []) []).ob = σ.ob := hob
        rw [this]; exact hi.mem
    rw [List.length_cons, List.range'_succ]
    simp only [wpOpsIn, hoi]
    unfold regVC at h
    split at h
    · rename_i hg
      have hw : Region.wanted o (yielded ops a.tmps) = true := by simp [Region.wanted, hg]
      rw [if_pos hw]
      exact did σ hi.tm rfl h
    · rename_i g want hg
      split at h
      · rename_i d hgd
        have hy : yielded ops a.tmps g = (match a.tmps[d]? with | some (.bool b) => some b | _ => none) := by
          unfold yielded
          unfold gdst at hgd
          rw [hgd]; rfl
        split at h
        · rename_i b hb
          have hv := hi.tm d
          rw [hb] at hv
          have hv' := hv.s_inv.1
          have hget : a.tmps[d]? = some (.bool b) := by
            rw [Array.getD_eq_getD_getElem?] at hv'
            cases hq : a.tmps[d]? with
            | none => rw [hq] at hv'; cases hv'
            | some u => rw [hq] at hv'; simp at hv'; rw [hv']
          have hyb : yielded ops a.tmps g = some b := by rw [hy, hget]
          by_cases hbw : b = want
          · have hw : Region.wanted o (yielded ops a.tmps) = true := by simp [Region.wanted, hg, hyb, hbw]
            rw [if_pos hw]
            have hk : σ.know d (.s (.bool want)) = σ := know_same (by rw [hb, hbw])
            have h1 := h.1 hbw
            rw [hk] at h1
            exact did σ hi.tm rfl h1
          · have hw : ¬ Region.wanted o (yielded ops a.tmps) = true := by simp [Region.wanted, hg, hyb, hbw]
            rw [if_neg hw]
            have hbn : b = (!want) := by cases b <;> cases want <;> simp_all
            have hk : σ.know d (.s (.bool (!want))) = σ := know_same (by rw [hb, hbn])
            have h2 := h.2 hbn
            rw [hk] at h2
            exact ⟨fun _ _ => trivial, passed σ hi.tm rfl h2⟩
        · rename_i hb
          have hv := hi.tm d
          rw [hb] at hv
          obtain ⟨vs, hv', hl⟩ := hv.tup_inv
          cases hl
          have hyn : yielded ops a.tmps g = none := by
            rw [hy]
            rw [Array.getD_eq_getD_getElem?] at hv'
            cases hq : a.tmps[d]? with
            | none => rfl
            | some u => rw [hq] at hv'; simp at hv'; rw [hv']
          have hw : ¬ Region.wanted o (yielded ops a.tmps) = true := by simp [Region.wanted, hg, hyn]
          rw [if_neg hw]
          exact ⟨fun _ _ => trivial, passed σ hi.tm rfl h⟩
        · exact h.elim
      · exact h.elim

def Tri (P : Program) (N : Nat) (code : Code) (σ : St) (K : Exit → St → Prop) : Prop :=
  ∀ (c : Ctx) (H : View) (ε : Env) (a : Act) (w : World), c.N = N → Inv c H ε σ a w → ∀ Q : Exit → Act → World → Prop, (∀ e σ' H' ε' a' w', K e σ' → Inv c H' ε' σ' a' w' → Q e a' w') → code.wpIn (wf c.ro) 0 P Q a w

section
variable {P : Program} {N : Nat} {σ : St} {K : Exit → St → Prop}

theorem tri_skip (h : K .normal σ) : Tri P N .skip σ K := fun c H ε a w _ hi Q hQ => wpIn_skip (hQ _ σ H ε a w h hi)
theorem tri_ret (h : K .ret σ) : Tri P N .ret σ K := fun c H ε a w _ hi Q hQ => wpIn_ret (hQ _ σ H ε a w h hi)
theorem tri_exit {id : Nat} (h : K (.exit id) σ) : Tri P N (.exit id) σ K := fun c H ε a w _ hi Q hQ => wpIn_exit (hQ _ σ H ε a w h hi)
def SeqK (P : Program) (N : Nat) (y : Code) (K : Exit → St → Prop) : Exit → St → Prop
  | .normal, σ => Tri P N y σ K
  | e, σ => K e σ
theorem tri_seq {x y : Code} (h : Tri P N x σ (SeqK P N y K)) : Tri P N (.seq x y) σ K := fun c H ε a w hc hi Q hQ => by
  refine wpIn_seq (h c H ε a w hc hi _ fun e σ' H' ε' a' w' hK hi' => ?_)
  cases e with
  | normal => exact hK c H' ε' a' w' hc hi' Q hQ
  | exit id => exact hQ _ σ' H' ε' a' w' hK hi'
  | goto l => exact hQ _ σ' H' ε' a' w' hK hi'
  | ret => exact hQ _ σ' H' ε' a' w' hK hi'
  | panic ch => exact hQ _ σ' H' ε' a' w' hK hi'
  | outgrown => exact hQ _ σ' H' ε' a' w' hK hi'
def BlockK (id : Nat) (K : Exit → St → Prop) : Exit → St → Prop
  | .exit id', σ => if id' = id then K .normal σ else K (.exit id') σ
  | e, σ => K e σ
theorem tri_block {id : Nat} {x : Code} (h : Tri P N x σ (BlockK id K)) : Tri P N (.block id x) σ K := fun c H ε a w hc hi Q hQ => by
  refine wpIn_block (h c H ε a w hc hi _ fun e σ' H' ε' a' w' hK hi' => ?_)
  cases e with
  | exit id' =>
    simp only [BlockK] at hK
    simp only [Exit.inBlock]
    split
    · rename_i he; rw [if_pos he] at hK; exact hQ _ σ' H' ε' a' w' hK hi'
    · rename_i he; rw [if_neg he] at hK; exact hQ _ σ' H' ε' a' w' hK hi'
  | normal => exact hQ _ σ' H' ε' a' w' hK hi'
  | goto l => exact hQ _ σ' H' ε' a' w' hK hi'
  | ret => exact hQ _ σ' H' ε' a' w' hK hi'
  | panic ch => exact hQ _ σ' H' ε' a' w' hK hi'
  | outgrown => exact hQ _ σ' H' ε' a' w' hK hi'
def condVC (P : Program) (N : Nat) (v : AV) (x y : Code) (σ : St) (K : Exit → St → Prop) : Prop := match v with
  | .s (.bool b) => (b = true → Tri P N x σ K) ∧ (b = false → Tri P N y σ K)
  | _ => False
theorem tri_cond {o : Operand} {x y : Code} (h : condVC P N (σ.ev o) x y σ K) : Tri P N (.cond o x y) σ K := fun c H ε a w hc hi Q hQ => by
  unfold condVC at h
  split at h
  · rename_i b hb
    have hv := R_ev hi.tm o
    rw [hb] at hv
    refine wpIn_cond_split hv.s_inv.1 (fun e => ?_) (fun e => ?_)
    · exact h.1 e c H ε a w hc hi Q hQ
    · exact h.2 e c H ε a w hc hi Q hQ
  · exact h.elim
theorem tri_region {id : Nat} {ops : Array Oper} (hN : dstOK N ops = true) (h : regVC P ops σ.nx ops.toList 0 σ (K .normal)) : Tri P N (.region id ops false) σ K := fun c H ε a w hc hi Q hQ => by
  refine wpIn_region ?_
  have := reg_sound (P := P) (ops := ops) (base := σ.nx) (c := c) (Q := Q) (by rw [hc]; exact hN) ops.toList 0 σ (K .normal) H ε a w (by simp) h ⟨hi.sz, hi.df, hi.tm, hi.mem⟩ (fun id hid => hi.dom id (by simpa using hid)) (fun σ' H' ε' a' w' hK hi' => hQ _ σ' H' ε' a' w' hK hi')
  simpa [List.range_eq_range'] using this
end
end Go.Sy
end
section
set_option linter.unusedVariables false
namespace Go.Sy

mutual
def AV.lt (n : Nat) : AV → Prop
  | .osl p _ _ => p < n
  | .ptr id _ => id < n
  | .bsl id _ _ _ _ => id < n
  | .agg cs => ltL n cs
  | .tup cs => ltL n cs
  | .fn _ f c => ltL n f ∧ ltL n c
  | .s _ => True
  | .sl _ _ => True
  | .ol _ _ => True
  | .wsl _ _ => True
  | .wref _ => True
  | .hole => True
  | .mark id => id < n
  | .ref _ => True
  | .junk => True
def ltL (n : Nat) : List AV → Prop
  | [] => True
  | a :: l => a.lt n ∧ ltL n l
end

def Env.below (ε : Env) (n : Nat) : Env := fun id => if id < n then ε id else none

mutual
theorem R.under {H : View} {ε : Env} {n : Nat} : ∀ {v : Value} {a : AV}, R H ε v a → a.lt n → R H (ε.below n) v a
  | _, _, .d v c h, _ => .d v c h
  | _, _, .junk v, _ => .junk v
  | _, _, .mark v id b h hb, hl => .mark v id b (by simp only [AV.lt] at hl; simp [Env.below, hl, h]) hb
  | _, _, .ptr id off b h, hl => .ptr id off b (by simp only [AV.lt] at hl; simp [Env.below, hl, h])
  | _, _, .bsl id off sz k cap b h hn hlo, hl => .bsl id off sz k cap b (by simp only [AV.lt] at hl; simp [Env.below, hl, h]) hn hlo
  | _, _, .osl p sz es v v0 m h hp hle he, hl => .osl p sz es v v0 m h (by simp only [AV.lt] at hl; simp [Env.below, hl, hp]) hle he
  | _, _, .agg vs cs h, hl => .agg vs cs (RL.under h (by simpa only [AV.lt] using hl))
  | _, _, .tup vs cs h, hl => .tup vs cs (RL.under h (by simpa only [AV.lt] using hl))
  | _, _, .fn f f1 c1 f2 c2 hf hc, hl => by
    simp only [AV.lt] at hl
    exact .fn f f1 c1 f2 c2 (RL.under hf hl.1) (RL.under hc hl.2)
theorem RL.under {H : View} {ε : Env} {n : Nat} : ∀ {vs : List Value} {cs : List AV}, RL H ε vs cs → ltL n cs → RL H (ε.below n) vs cs
  | _, _, .nil, _ => .nil
  | _, _, .cons v c vs cs h t, hl => by
    simp only [ltL] at hl
    exact .cons _ _ _ _ (R.under h hl.1) (RL.under t hl.2)
end

mutual
theorem D.lt {H : View} {n : Nat} : ∀ {v : Value} {a : AV}, D H v a → a.lt n
  | _, _, .s v h => by simp only [AV.lt]
  | _, _, .agg vs cs h => by simp only [AV.lt]; exact DL.lt h
  | _, _, .tup vs cs h => by simp only [AV.lt]; exact DL.lt h
  | _, _, .nil sz => by simp only [AV.lt]
  | _, _, .emp a cap sz => by simp only [AV.lt]
  | _, _, .sl b off cap sz es hcap hsz hlo h => by simp only [AV.lt]
  | _, _, .onil sz => by simp only [AV.lt]
  | _, _, .oemp a cap sz => by simp only [AV.lt]
  | _, _, .ol b off cap sz es hcap hsz hlo h => by simp only [AV.lt]
  | _, _, .wnil sz => by simp only [AV.lt]
  | _, _, .wemp a cap sz => by simp only [AV.lt]
  | _, _, .wsl b off cap sz es hcap hsz h => by simp only [AV.lt]
  | _, _, .wref b off cs h => by simp only [AV.lt]
  | _, _, .ref b off cs h => by simp only [AV.lt]
theorem DL.lt {H : View} {n : Nat} : ∀ {vs : List Value} {cs : List AV}, DL H vs cs → ltL n cs
  | _, _, .nil => by simp only [ltL]
  | _, _, .cons v c vs cs h t => by simp only [ltL]; exact ⟨D.lt h, DL.lt t⟩
end
mutual
theorem R.lt {H : View} {ε : Env} {n : Nat} (hd : ∀ id, n ≤ id → ε id = none) : ∀ {v : Value} {a : AV}, R H ε v a → a.lt n
  | _, _, .d v c h => D.lt h
  | _, _, .junk v => by simp only [AV.lt]
  | _, _, .mark v id b h hb => by
    simp only [AV.lt]
    rcases Nat.lt_or_ge id n with h' | h'
    · exact h'
    · rw [hd id h'] at h; cases h
  | _, _, .ptr id off b h => by
    simp only [AV.lt]
    rcases Nat.lt_or_ge id n with h' | h'
    · exact h'
    · rw [hd id h'] at h; cases h
  | _, _, .bsl id off sz k cap b h hn hlo => by
    simp only [AV.lt]
    rcases Nat.lt_or_ge id n with h' | h'
    · exact h'
    · rw [hd id h'] at h; cases h
  | _, _, .osl p sz es v v0 m h hp hle he => by
    simp only [AV.lt]
    rcases Nat.lt_or_ge p n with h' | h'
    · exact h'
    · rw [hd p h'] at hp; cases hp
  | _, _, .agg vs cs h => by simp only [AV.lt]; exact RL.lt hd h
  | _, _, .tup vs cs h => by simp only [AV.lt]; exact RL.lt hd h
  | _, _, .fn f f1 c1 f2 c2 hf hc => by simp only [AV.lt]; exact ⟨RL.lt hd hf, RL.lt hd hc⟩
theorem RL.lt {H : View} {ε : Env} {n : Nat} (hd : ∀ id, n ≤ id → ε id = none) : ∀ {vs : List Value} {cs : List AV}, RL H ε vs cs → ltL n cs
  | _, _, .nil => by simp only [ltL]
  | _, _, .cons v c vs cs h t => by simp only [ltL]; exact ⟨R.lt hd h, RL.lt hd t⟩
end

def St.head (σ : St) (W : List Nat) (S : List (Nat × AV)) (B : List (Nat × Ob)) : St :=
  { tm := fun i => match S.lookup i with | some v => v | none => if W.contains i then .junk else σ.tm i, ob := fun i => match B.lookup i with | some x => some x | none => σ.ob i, nx := σ.nx }

def KeepTm (W : List Nat) (tm tm0 : Nat → AV) : Prop := ∀ i, W.contains i = false → tm i = tm0 i
def KeepOb (n : Nat) (B : List Nat) (ob ob0 : Nat → Option Ob) : Prop := ∀ i, B.contains i = false → i < n → ob i = ob0 i

def ObLe : Option Ob → Ob → Prop
  | some (.box cs), .box ds => LeL cs ds
  | some (.perm e sz n), .perm e' sz' n' => e = e' ∧ sz = sz' ∧ n = n'
  | some (.raw b o cs), .raw b' o' ds => b = b' ∧ o = o' ∧ LeL cs ds
  | _, _ => False
def Ob.lt (n : Nat) : Ob → Prop
  | .box cs => ltL n cs
  | .perm _ _ _ => True
  | .raw _ _ cs => ltL n cs
  | .gone => True

def leS (σ : St) : List (Nat × AV) → Prop
  | [] => True
  | (s, v) :: l => Le (σ.tm s) v ∧ leS σ l
def leB (σ : St) : List (Nat × Ob) → Prop
  | [] => True
  | (s, v) :: l => ObLe (σ.ob s) v ∧ leB σ l
def ltS (n : Nat) : List (Nat × AV) → Prop
  | [] => True
  | (s, v) :: l => v.lt n ∧ ltS n l
def ltB (n : Nat) : List (Nat × Ob) → Prop
  | [] => True
  | (s, v) :: l => (s < n ∧ v.lt n) ∧ ltB n l

theorem leS_lookup {σ : St} : ∀ {S : List (Nat × AV)} {i : Nat} {v : AV}, leS σ S → S.lookup i = some v → Le (σ.tm i) v
  | (s, u) :: l, i, v, h, hl => by
    simp only [leS] at h
    by_cases hi : i = s
    · subst hi; simp at hl; subst hl; exact h.1
    · have : (i == s) = false := by simpa using hi
      rw [List.lookup_cons, this] at hl
      exact leS_lookup h.2 hl
theorem ltS_lookup {n : Nat} : ∀ {S : List (Nat × AV)} {i : Nat} {v : AV}, ltS n S → S.lookup i = some v → v.lt n
  | (s, u) :: l, i, v, h, hl => by
    simp only [ltS] at h
    by_cases hi : i = s
    · subst hi; simp at hl; subst hl; exact h.1
    · have : (i == s) = false := by simpa using hi
      rw [List.lookup_cons, this] at hl
      exact ltS_lookup h.2 hl
theorem leB_lookup {σ : St} : ∀ {S : List (Nat × Ob)} {i : Nat} {v : Ob}, leB σ S → S.lookup i = some v → ObLe (σ.ob i) v
  | (s, u) :: l, i, v, h, hl => by
    simp only [leB] at h
    by_cases hi : i = s
    · subst hi; simp at hl; subst hl; exact h.1
    · have : (i == s) = false := by simpa using hi
      rw [List.lookup_cons, this] at hl
      exact leB_lookup h.2 hl
theorem ltB_lookup {n : Nat} : ∀ {S : List (Nat × Ob)} {i : Nat} {v : Ob}, ltB n S → S.lookup i = some v → i < n ∧ v.lt n
  | (s, u) :: l, i, v, h, hl => by
    simp only [ltB] at h
    by_cases hi : i = s
    · subst hi; simp at hl; subst hl; exact h.1
    · have : (i == s) = false := by simpa using hi
      rw [List.lookup_cons, this] at hl
      exact ltB_lookup h.2 hl

theorem lookup_none {α : Type} : ∀ {B : List (Nat × α)} {i : Nat}, B.lookup i = none → (B.map (·.1)).contains i = false
  | [], _, _ => rfl
  | (s, u) :: l, i, h => by
    by_cases hi : i = s
    · subst hi; simp at h
    · have hb : (i == s) = false := by simpa using hi
      rw [List.lookup_cons, hb] at h
      simp only [List.map_cons, List.contains_cons, hb, Bool.false_or]
      exact lookup_none h

structure Back (σ0 σ : St) (W : List Nat) (S : List (Nat × AV)) (B : List (Nat × Ob)) : Prop where
  tm : KeepTm W σ.tm σ0.tm
  ob : KeepOb σ0.nx (B.map (·.1)) σ.ob σ0.ob
  leS : leS σ S
  leB : leB σ B
  ltS : ltS σ0.nx S
  ltB : ltB σ0.nx B
  nx : σ0.nx ≤ σ.nx

theorem ObLe.ok {H : View} {ε : Env} {w : World} {id : Nat} {y : Option Ob} {x : Ob} (h : ObLe y x) (hy : ∀ z, y = some z → ObOK H ε w id z) : ObOK H ε w id x := by
  unfold ObLe at h
  split at h
  · obtain ⟨b, arr, T, h1, h2, h3, h4, h5⟩ := hy _ rfl
    exact ⟨b, arr, T, h1, h2, RL.le h h3, h4, h5⟩
  · obtain ⟨rfl, rfl, rfl⟩ := h
    exact hy _ rfl
  · obtain ⟨rfl, rfl, h⟩ := h
    obtain ⟨vs, d, h1, h2, h3, h5⟩ := hy _ rfl
    exact ⟨vs, d, h1, h2, RL.le h h3, h5⟩
  · exact h.elim

theorem Back.inv {c : Ctx} {H : View} {ε : Env} {σ0 σ : St} {W : List Nat} {S : List (Nat × AV)} {B : List (Nat × Ob)} {a : Act} {w : World} (hb : Back σ0 σ W S B) (hi : Inv c H ε σ a w) (hlt : ∀ i, (σ0.tm i).lt σ0.nx) (hltB : ∀ i x, σ0.ob i = some x → i < σ0.nx ∧ x.lt σ0.nx) (hele : ∀ id l, c.E0 id = some l → id < σ0.nx) :
    Inv c H (ε.below σ0.nx) (σ0.head W S B) a w := by
  have hob : ∀ i x, (σ0.head W S B).ob i = some x → i < σ0.nx ∧ x.lt σ0.nx ∧ ObLe (σ.ob i) x ∨ (i < σ0.nx ∧ x.lt σ0.nx ∧ σ.ob i = some x) := by
    intro i x hx
    unfold St.head at hx
    simp only at hx
    split at hx
    · rename_i y hy
      cases hx
      have := ltB_lookup hb.ltB hy
      exact .inl ⟨this.1, this.2, leB_lookup hb.leB hy⟩
    · rename_i hy
      have h1 := hltB i x hx
      exact .inr ⟨h1.1, h1.2, (hb.ob i (lookup_none hy) h1.1).trans hx⟩
  have hne : ∀ i, (σ0.head W S B).ob i ≠ none → i < σ0.nx ∧ σ.ob i ≠ none := by
    intro i hi'
    cases hq : (σ0.head W S B).ob i with
    | none => exact absurd hq hi'
    | some x =>
      rcases hob i x hq with ⟨h1, _, h2⟩ | ⟨h1, _, h2⟩
      · refine ⟨h1, fun h => ?_⟩
        rw [h] at h2; exact h2
      · exact ⟨h1, by rw [h2]; simp⟩
  have heb : ∀ i, i < σ0.nx → ε.below σ0.nx i = ε i := fun i h => by simp [Env.below, h]
  refine ⟨hi.sz, hi.df, fun i => ?_, ?_, fun id hid => ?_⟩
  · unfold St.head
    simp only
    split
    · rename_i v hv
      exact (R.le (leS_lookup hb.leS hv) (hi.tm i)).under (ltS_lookup hb.ltS hv)
    · split
      · exact .junk _
      · rename_i hW
        have := hb.tm i (by simpa using hW)
        have h2 := hi.tm i
        rw [this] at h2
        exact h2.under (hlt i)
  · exact { hi.mem with
      ele := fun id l hl => by
        have h1 := hi.mem.ele id l hl
        have h2 := hele id l hl
        cases l with
        | blk b => simp only at h1 ⊢; rw [heb id h2]; exact h1
        | row v n => simp only at h1 ⊢; rw [heb id h2]; exact h1
      objs := fun i x hx => by
        have hlow : i < σ0.nx ∧ x.lt σ0.nx ∧ ObOK H ε w i x := by
          rcases hob i x hx with ⟨h1, h2, h3⟩ | ⟨h1, h2, h3⟩
          · exact ⟨h1, h2, h3.ok fun z hz => hi.mem.objs i z hz⟩
          · exact ⟨h1, h2, hi.mem.objs i x h3⟩
        obtain ⟨h1, h2, h3⟩ := hlow
        cases x with
        | box cs =>
          obtain ⟨b, arr, T, q1, q2, q3, q4, q5⟩ := h3
          exact ⟨b, arr, T, (heb i h1).trans q1, q2, RL.under q3 h2, q4, q5⟩
        | perm e sz n =>
          obtain ⟨v, xs, q1, q2⟩ := h3
          exact ⟨v, xs, (heb i h1).trans q1, q2⟩
        | raw b o cs =>
          obtain ⟨vs, d, q1, q2, q3, q5⟩ := h3
          exact ⟨vs, d, (heb i h1).trans q1, q2, RL.under q3 h2, q5⟩
        | gone => exact h3.elim
      dj := fun i j hi' hj' hij b hbi => by
        obtain ⟨l1, n1⟩ := hne i hi'
        obtain ⟨l2, n2⟩ := hne j hj'
        rw [heb i l1] at hbi
        rw [heb j l2]
        exact hi.mem.dj i j n1 n2 hij b hbi
      own := fun i hi' b hbi => by
        obtain ⟨l1, n1⟩ := hne i hi'
        rw [heb i l1] at hbi
        exact hi.mem.own i n1 b hbi
      wr := hi.mem.wr_keep (View.le_refl H) (fun _ _ _ h => h) (fun _ _ _ => rfl) (fun b o h i hi' hbi => by
        obtain ⟨l1, n1⟩ := hne i hi'
        rw [heb i l1] at hbi
        exact (hi.mem.wr b o h).2.2 i n1 hbi) }
  · have : ¬ id < σ0.nx := by simp only [St.head] at hid; omega
    simp [Env.below, this]

theorem wp_loop_rel {F : Fence} {n : Nat} {P : Program} {c : Code} {X : Type} {Q : Exit → Act → World → Prop} {a : Act} {w : World} (I : X → Act → World → Prop) (μ : X → Nat) (x0 : X) (h₀ : I x0 a w)
    (round : ∀ x a w, I x a w → c.wpIn F n P (Exit.then (fun a' w' => ∃ x', I x' a' w' ∧ μ x' < μ x) Q) a w) : (Code.loop c).wpIn F n P Q a w := by
  intro b k cs hro hb hr
  have key : ∀ j x a w, μ x = j → I x a w →
      ∃ e a' w', Q e a' w' ∧ ArrivesIn (Machine.fenced P F) P (lone (b.atR a (.code c :: .inLoop c :: k)) cs w) b k cs e a' w' := by
    intro j
    induction j using Nat.strongRecOn with
    | _ j ih =>
      intro x a w hn hI
      obtain ⟨e, a₁, w₁, hq, harr⟩ := round x a w hI b (.inLoop c :: k) cs hro hb hr
      cases e with
      | normal =>
        obtain ⟨x₁, hI₁, hlt⟩ := hq
        obtain ⟨e₂, a₂, w₂, hq₂, harr₂⟩ := ih (μ x₁) (hn ▸ hlt) x₁ a₁ w₁ rfl hI₁
        exact ⟨e₂, a₂, w₂, hq₂, .of_steps (StepsIn.trans harr (.one (fenced_calm hb hr rfl) stepR_inLoop)) harr₂⟩
      | exit id => exact ⟨_, a₁, w₁, hq, .pass (x := .inLoop c) rfl (fun _ _ => .inl (by simp)) harr⟩
      | goto l => exact ⟨_, a₁, w₁, hq, .pass (x := .inLoop c) rfl (fun _ _ => .inl (by simp)) harr⟩
      | ret => exact ⟨_, a₁, w₁, hq, .pass (x := .inLoop c) rfl (fun _ _ => .inl (by simp)) harr⟩
      | panic ch => exact ⟨_, a₁, w₁, hq, .pass (x := .inLoop c) rfl (fun _ _ => .inl (by simp)) harr⟩
      | outgrown => exact ⟨_, a₁, w₁, hq, .pass (x := .inLoop c) rfl (fun _ _ => .inl (by simp)) harr⟩
  obtain ⟨e, a', w', hq, harr⟩ := key _ x0 a w rfl h₀
  exact ⟨e, a', w', hq, .of_steps (.one (fenced_calm hb hr rfl) stepR_loop) harr⟩

def LoopK {X : Type} (σ0 : St) (W : List Nat) (S : X → List (Nat × AV)) (B : X → List (Nat × Ob)) (rel : X → Prop) (m : Nat) (μ : X → Nat) (K : Exit → St → Prop) : Exit → St → Prop
  | .normal, σ => ∃ x, rel x ∧ μ x < m ∧ Back σ0 σ W (S x) (B x)
  | e, σ => K e σ

theorem tri_loop {P : Program} {N : Nat} {σ : St} {K : Exit → St → Prop} {body : Code} {X : Type} (W : List Nat) (S : X → List (Nat × AV)) (B : X → List (Nat × Ob)) (rel : X → Prop) (μ : X → Nat)
    (h0 : ∃ x, rel x ∧ Back σ σ W (S x) (B x)) (hr : ∀ x, rel x → Tri P N body (σ.head W (S x) (B x)) (LoopK σ W S B rel (μ x) μ K)) : Tri P N (.loop body) σ K := fun c H ε a w hc hi Q hQ => by
  have hlt : ∀ i, (σ.tm i).lt σ.nx := fun i => R.lt hi.dom (hi.tm i)
  have hltB : ∀ i x, σ.ob i = some x → i < σ.nx ∧ x.lt σ.nx := fun i x hx => by
    have := hi.mem.objs i x hx
    have hi' : ∀ l, ε i = some l → i < σ.nx := fun l hl => by
      rcases Nat.lt_or_ge i σ.nx with h | h
      · exact h
      · rw [hi.dom i h] at hl; cases hl
    cases x with
    | box cs =>
      obtain ⟨b, arr, T, q1, q2, q3, _⟩ := this
      exact ⟨hi' _ q1, RL.lt hi.dom q3⟩
    | perm e sz n =>
      obtain ⟨v, xs, q1, _⟩ := this
      exact ⟨hi' _ q1, trivial⟩
    | raw b o cs =>
      obtain ⟨_, _, q1, _, q3, _⟩ := this
      exact ⟨hi' _ q1, RL.lt hi.dom q3⟩
    | gone => exact this.elim
  have hele : ∀ id l, c.E0 id = some l → id < σ.nx := fun id l hl => by
    have h1 := hi.mem.ele id l hl
    rcases Nat.lt_or_ge id σ.nx with h | h
    · exact h
    · have h2 := hi.dom id h
      cases l with
      | blk b => simp only at h1; rw [h2] at h1; cases h1
      | row v n => obtain ⟨_, _, h3, _⟩ := h1; rw [h2] at h3; cases h3
  obtain ⟨x0, hx0, hb0⟩ := h0
  refine wp_loop_rel (fun x a w => rel x ∧ ∃ H' ε', Inv c H' ε' (σ.head W (S x) (B x)) a w) μ x0 ⟨hx0, H, ε.below σ.nx, hb0.inv hi hlt hltB hele⟩ ?_
  rintro x a1 w1 ⟨hx, H1, ε1, hi1⟩
  refine hr x hx c H1 ε1 a1 w1 hc hi1 _ fun e σ' H' ε' a' w' hK hi' => ?_
  cases e with
  | normal =>
    obtain ⟨x', h1, h2, h3⟩ := hK
    exact ⟨x', ⟨h1, H', ε'.below σ.nx, h3.inv hi' hlt hltB hele⟩, h2⟩
  | exit id => exact hQ _ σ' H' ε' a' w' hK hi'
  | goto l => exact hQ _ σ' H' ε' a' w' hK hi'
  | ret => exact hQ _ σ' H' ε' a' w' hK hi'
  | panic ch => exact hQ _ σ' H' ε' a' w' hK hi'
  | outgrown => exact hQ _ σ' H' ε' a' w' hK hi'

def St.ownNil (σ : St) (s : Nat) (e : TypeId) (sz : Nat) : St :=
  { tm := fun i => if i = s then .osl σ.nx sz [] else σ.tm i, ob := updOb σ.ob σ.nx (.perm e sz 0), nx := σ.nx + 16 }
theorem tri_ownNil {P : Program} {N : Nat} {σ : St} {K : Exit → St → Prop} {code : Code} (s : Nat) (e : TypeId) (sz : Nat) (hs : σ.tm s = .s (.slice none 0 0)) (hsz : 0 < sz) (h : Tri P N code (σ.ownNil s e sz) K) : Tri P N code σ K :=
  fun c H ε a w hc hi Q hQ => by
    have hf : ε σ.nx = none := hi.dom _ (Nat.le_refl _)
    have hm := hi.mem.add (l := .row (.slice none 0 0) 0) (x := .perm e sz 0) hf ⟨.slice none 0 0, [], updEnv_same _ _ _, World.ownsRow_nil w 0 e sz, hsz, fun g hg => by cases hg⟩ (fun b o hb => by cases hb) (fun b hb => by cases hb) (fun b hb => by cases hb)
    refine h c H (updEnv ε σ.nx (.row (.slice none 0 0) 0)) a w hc ⟨hi.sz, hi.df, fun i => ?_, hm, fun id hid => ?_⟩ Q hQ
    · unfold St.ownNil
      simp only
      split
      · rename_i hi'
        subst hi'
        have hv := hi.tm i
        rw [hs] at hv
        rw [hv.s_inv.1]
        exact .osl _ _ _ _ _ 0 (.nil _) (updEnv_same _ _ _) (Nat.le_refl _) (fun _ => rfl)
      · exact (hi.tm i).mono (View.le_refl H) (Env.le_new hf)
    · simp only [St.ownNil] at hid
      unfold updEnv
      rw [if_neg (by omega)]
      exact hi.dom id (by omega)

def resAV (P : Program) (σ : St) : ResultVar → Option AV
  | .tmp t => some (σ.tm t)
  | .cell a t => match ty P t, σ.tm a with
    | some T, .ptr id off => (match σ.ob id with | some (.box cs) => if (T.kd.agg || T.n == 1) && decide (off + T.n ≤ cs.length) then some (ofCells T.kd.agg ((cs.drop off).take T.n)) else none | _ => none)
    | _, _ => none
def resL (P : Program) (σ : St) : List ResultVar → Option (List AV)
  | [] => some []
  | r :: l => match resAV P σ r, resL P σ l with
    | some a, some m => some (a :: m)
    | _, _ => none
def retVC (P : Program) (rs : List ResultVar) (σ : St) (r : AV) : Prop := match resL P σ rs with
  | some [a] => Le a r
  | some l => Le (.tup l) r
  | none => False
def retK (P : Program) (rs : List ResultVar) (r : AV) : Exit → St → Prop
  | .normal, σ | .ret, σ => retVC P rs σ r
  | _, _ => False

def resSem (tmps : Array Value) : ResultVar → Sem Value
  | .tmp t => pure (tmps.getD t undef)
  | .cell a t => do loadVar t (← asAddr (tmps.getD a undef))

theorem results_eq (fn : Func) (tmps : Array Value) : results fn tmps = (do let vs ← fn.results.toList.mapM (resSem tmps); pure (match vs with | [v] => v | _ => .tuple vs.toArray)) := by
  have h : fn.results.mapM (resSem tmps) = List.toArray <$> fn.results.toList.mapM (resSem tmps) := by
    rw [← List.mapM_toArray, Array.toArray_toList]
  have h2 : results fn tmps = (fn.results.mapM (resSem tmps) >>= fun vs => pure (if h : vs.size = 1 then vs[0] else .tuple vs)) := by
    unfold results
    congr 1
  rw [h2, h]
  simp only [bind_map_left]
  congr 1
  funext vs
  match vs with
  | [] => rfl
  | [v] => rfl
  | _ :: _ :: _ => simp

theorem res_run {P : Program} {c : Ctx} {H : View} {ε : Env} {σ : St} {a : Act} {w : World} (hi : Inv c H ε σ a w) : ∀ {rs : List ResultVar} {l : List AV}, resL P σ rs = some l → ∃ vs, (rs.mapM (resSem a.tmps)).run P w = .ok vs w ∧ RL H ε vs l
  | [], l, h => by
    simp [resL] at h; subst h
    exact ⟨[], by simp, .nil⟩
  | r :: rs, l, h => by
    unfold resL at h
    split at h
    · rename_i b m hb hm
      cases h
      obtain ⟨vs, h1, h2⟩ := res_run hi hm
      have hv : ∃ v, (resSem a.tmps r).run P w = .ok v w ∧ R H ε v b := by
        cases r with
        | tmp t => simp [resAV] at hb; subst hb; exact ⟨_, rfl, hi.tm t⟩
        | cell p t =>
          unfold resAV at hb
          simp only at hb
          split at hb
          · rename_i T id off hT hp
            split at hb
            · rename_i cs hob
              split at hb
              · rename_i hc
                cases hb
                simp only [Bool.and_eq_true, Bool.or_eq_true, decide_eq_true_eq, beq_iff_eq] at hc
                have hv := hi.tm p
                rw [hp] at hv
                obtain ⟨b, hv, hε⟩ := hv.ptr_inv
                obtain ⟨arr, T', hh, hrl, _, _⟩ := (hi.mem.objs id _ hob).box hε
                have hlen := hrl.length_eq
                have hrl' := (hrl.drop off).take T.n
                have hl' : ((arr.toList.drop off).take T.n).length = T.n := by rw [List.length_take, List.length_drop]; omega
                refine ⟨_, ?_, R_ofCells (agg := T.kd.agg) hrl'⟩
                have hcell : ∀ j u, ((arr.toList.drop off).take T.n)[j]? = some u → w.cell? ⟨b, off + j, none⟩ = some u := by
                  intro j u hj
                  rw [cell_of_row w b (off + j) arr T' (0, 0) hh]
                  rw [List.getElem?_take] at hj
                  split at hj
                  · simpa using hj
                  · cases hj
                have h1 : T.kd.agg = false → T.n = 1 := fun h => by
                  rcases hc.1 with h' | h'
                  · rw [h] at h'; cases h'
                  · exact h'
                simp only [resSem, hv, asAddr, Sem.run_bind, Sem.run_pure, Result.andThen_ok, run_loadVar' hT hl' h1 hcell]
              · cases hb
            · cases hb
          · cases hb
      obtain ⟨v, h3, h4⟩ := hv
      exact ⟨v :: vs, by simp only [List.mapM_cons, Sem.run_bind, h3, h1, Result.andThen_ok, Sem.run_pure], .cons _ _ _ _ h4 h2⟩
    · cases h

def St.start (args : List AV) : St := { tm := fun i => args.getD i (.tup []), ob := fun _ => none, nx := 0 }

theorem R_start {H : View} {ε : Env} : ∀ {vs : List Value} {args : List AV}, RL H ε vs args → ∀ i, R H ε (vs.getD i undef) (args.getD i (.tup []))
  | _, _, .nil, i => by simpa [undef] using R.d _ _ (.tup [] [] .nil)
  | _, _, .cons v c vs cs h t, i => by
    cases i with
    | zero => exact h
    | succ i => simpa using R_start t i

theorem pspec_of_tri {P : Program} {f : FuncId} {fn : Func} {code : Code} {args : List AV} {r : AV} {N : Nat} (hf : P.funcs[f]? = some fn) (hb : fn.body = some code) (hN : fn.ntmps = N) (hn : args.length ≤ N) (hpu : Pu r)
    (h : Tri P N code (St.start args) (retK P fn.results.toList r)) : PSpec P f args r := by
  intro w H vs hok hD
  have hview := hok.view
  refine calls_of_wp hf hb ?_
  refine (wpIn_wide (n := 0)).1 ?_
  let c : Ctx := { N := N, w0 := w, H0 := H, E0 := fun _ => none, S := fun _ => False }
  have hlen : vs.length = args.length := hD.length_eq
  have hinv : Inv c H (fun _ => none) (St.start args) { tmps := vs.toArray ++ Array.replicate (fn.ntmps - vs.toArray.size) undef, defers := [] } w := by
    refine ⟨by simp [c, hN, hlen]; omega, rfl, fun i => ?_, ?_, fun _ _ => rfl⟩
    · have := R_start (ε := fun _ => none) (RL.of_DL hD) i
      have e : (vs.toArray ++ Array.replicate (fn.ntmps - vs.toArray.size) undef).getD i undef = vs.getD i undef := by
        rw [Array.getD_eq_getD_getElem?, Array.getElem?_append]
        simp only [List.size_toArray, List.getElem?_toArray, List.getD_eq_getElem?_getD]
        split
        · rfl
        · rename_i hi
          rw [List.getElem?_eq_none (by omega), Array.getElem?_replicate]
          split <;> rfl
      rw [e]; exact this
    · exact { view := hview, objs := fun id x hx => (by cases hx), dj := fun i j hi => absurd rfl hi, own := fun i hi => absurd rfl hi, os := rfl, tape := rfl, output := rfl, size := Nat.le_refl _, block := fun _ _ _ _ => rfl, hle := View.le_refl H, hold := fun _ _ _ _ _ => rfl, ele := Env.le_refl _, low := fun _ _ => rfl, top := fun b o hb => View.unseen hview hb, lo := hok.lo, fz := fun b o v h hz => by { rcases hz with hz | hz | hz; { exact absurd (View.lt hview h) (Nat.not_lt.2 hz) }; { exact hz.elim }; { exact hok.fz b o v h hz } }, wr := fun b o h => ⟨(hok.wr b o h).1, (hok.wr b o h).2, fun i hi => absurd rfl hi⟩ }
  have fin : ∀ σ' H' ε' a' w', retVC P fn.results.toList σ' r → Inv c H' ε' σ' a' w' → ∃ v, (results fn a'.tmps).run P w' = .ok v w' ∧
      (∃ v' H', Ending.returned v = .returned v' ∧ D H' v' r ∧ H.le H' ∧ (H'.ok w' ∧ ∀ b o v, H' b o = some v → w.heap.size ≤ b → w'.frozen? ⟨b, o, none⟩ = false) ∧ (∀ b o, b < w.heap.size → ¬ H.wb b → H' b o = H b o) ∧ BelowW H.wb w w') := by
    intro σ' H' ε' a' w' hr hi
    unfold retVC at hr
    have hrest : H.le H' ∧ (H'.ok w' ∧ ∀ b o v, H' b o = some v → w.heap.size ≤ b → w'.frozen? ⟨b, o, none⟩ = false) ∧ (∀ b o, b < w.heap.size → ¬ H.wb b → H' b o = H b o) ∧ BelowW H.wb w w' :=
      ⟨hi.mem.hle, ⟨hi.mem.ok, fun b o v h hz => hi.mem.fz b o v h (.inl hz)⟩, fun b o hb' hz => hi.mem.hold b o hb' (fun h => h) (fun h => hz (hi.mem.hle.wb.1 h)), ⟨hi.mem.os, hi.mem.tape, hi.mem.output, hi.mem.size, fun k hk hz => hi.mem.block k hk (fun h => h) (fun h => hz (hi.mem.hle.wb.1 h))⟩⟩
    split at hr
    · rename_i b hb'
      obtain ⟨vs', h1, h2⟩ := res_run hi hb'
      cases h2 with
      | cons v _ vs'' _ h3 h4 =>
        cases h4
        exact ⟨v, by rw [results_eq]; simp only [Sem.run_bind, h1, Result.andThen_ok, Sem.run_pure], v, H', rfl, (R.le hr h3).pu hpu, hrest⟩
    · rename_i l hne hb'
      obtain ⟨vs', h1, h2⟩ := res_run hi hb'
      refine ⟨.tuple vs'.toArray, ?_, _, H', rfl, (R.le hr (.tup _ _ h2)).pu hpu, hrest⟩
      rw [results_eq]
      simp only [Sem.run_bind, h1, Result.andThen_ok, Sem.run_pure]
      match vs', h2 with
      | [], _ => rfl
      | [v], h2 =>
        cases h2 with
        | cons _ b _ _ _ h4 => cases h4; exact absurd rfl (hne b)
      | _ :: _ :: _, _ => rfl
    · exact hr.elim
  refine h c H _ _ w rfl hinv _ fun e σ' H' ε' a' w' hK hi => ?_
  cases e with
  | normal => exact ⟨hi.df, fin σ' H' ε' a' w' hK hi⟩
  | ret => exact ⟨hi.df, fin σ' H' ε' a' w' hK hi⟩
  | exit id => exact hK.elim
  | goto l => exact hK.elim
  | panic ch => exact hK.elim
  | outgrown => exact hK.elim
end Go.Sy
end
section
set_option linter.unusedVariables false
namespace Go.Sy

section
variable {L V : Type}
def repF (wr : Nat → L → Option V) (D : Nat → Bool) (f : L → V) : Nat → L → V
  | 0 => f
  | m + 1 => if D m then (fun x => (wr m x).getD (repF wr D f m x)) else repF wr D f m

theorem repF_agree {wr : Nat → L → Option V} {D : Nat → Bool} {f : L → V} {x : L} {k : Nat} (hk : D k = false) (h1 : ∀ i, i < k → D i = false → wr i x = none) :
    ∀ {n : Nat}, k ≤ n → (∀ i, k < i → i < n → D i = true → wr i x = none) → repF wr D f n x = repF wr (fun _ => true) f k x := by
  have hB : ∀ m, m ≤ k → repF wr D f m x = repF wr (fun _ => true) f m x := by
    intro m
    induction m with
    | zero => intro _; rfl
    | succ m ih =>
      intro hm
      have := ih (by omega)
      simp only [repF, if_true]
      cases hD : D m
      · simp [h1 m (by omega) hD, this]
      · simp [this]
  intro n hn
  induction n with
  | zero => intro _; have : k = 0 := by omega
            subst this; rfl
  | succ n ih =>
    intro h2
    by_cases he : k = n + 1
    · subst he; exact hB _ (Nat.le_refl _)
    · have ih' := ih (by omega) (fun i a b c => h2 i a (by omega) c)
      by_cases hkn : k = n
      · subst hkn
        simp only [repF, hk, Bool.false_eq_true, if_false]; exact ih'
      · simp only [repF]
        cases hD : D n
        · simpa using ih'
        · simp [h2 n (by omega) (by omega) hD, ih']

theorem repF_insert {wr : Nat → L → Option V} {D : Nat → Bool} {f : L → V} {k : Nat} (hk : D k = false) (h2 : ∀ i x, k < i → D i = true → (wr k x).isSome → wr i x = none) :
    ∀ n, repF wr (fun i => i == k || D i) f n = if k < n then (fun x => (wr k x).getD (repF wr D f n x)) else repF wr D f n := by
  intro n
  induction n with
  | zero => simp [repF]
  | succ n ih =>
    by_cases hkn : n = k
    · subst hkn
      have : repF wr (fun i => i == n || D i) f n = repF wr D f n := by rw [ih]; simp
      simp [repF, hk, this]
    · have e : (n == k || D n) = D n := by
        have : (n == k) = false := by simpa using hkn
        rw [this]; simp
      simp only [repF, e, ih]
      by_cases hlt : k < n
      · have hlt' : k < n + 1 := by omega
        simp only [hlt, hlt', if_true]
        cases hD : D n
        · simp
        · simp only [if_true]
          funext x
          cases hq : wr k x with
          | none => simp
          | some v =>
            have := h2 n x hlt hD (by simp [hq])
            simp [this]
      · have hlt' : ¬ k < n + 1 := by omega
        simp only [hlt, hlt', if_false]

theorem repF_congr {wr : Nat → L → Option V} {D D' : Nat → Bool} {f : L → V} : ∀ {n : Nat}, (∀ i, i < n → D i = D' i) → repF wr D f n = repF wr D' f n
  | 0, _ => rfl
  | n + 1, h => by
    simp only [repF]
    rw [h n (by omega), repF_congr (n := n) (fun i hi => h i (by omega))]
end

def wsLook (ws : List (Nat × Ob)) (id : Nat) : Option Ob := ws.foldl (fun acc x => if x.1 = id then some x.2 else acc) none

theorem wsLook_acc (id : Nat) : ∀ (ws : List (Nat × Ob)) (acc : Option Ob), ws.foldl (fun acc x => if x.1 = id then some x.2 else acc) acc = (ws.foldl (fun acc x => if x.1 = id then some x.2 else acc) none).or acc
  | [], acc => by simp
  | x :: ws, acc => by
    simp only [List.foldl_cons]
    rw [wsLook_acc id ws, wsLook_acc id ws (if x.1 = id then some x.2 else none)]
    by_cases h : x.1 = id
    · simp only [h, if_true]
      cases ws.foldl (fun acc x => if x.1 = id then some x.2 else acc) none <;> rfl
    · simp only [h, if_false, Option.or_none]
theorem wsLook_cons (x : Nat × Ob) (ws : List (Nat × Ob)) (id : Nat) : wsLook (x :: ws) id = (wsLook ws id).or (if x.1 = id then some x.2 else none) := by
  show (x :: ws).foldl _ none = _
  rw [List.foldl_cons, wsLook_acc]; rfl
def wsAt (ws : List (Nat × Ob)) (id : Nat) (o : Option Ob) : Option Ob := match wsLook ws id with
  | some x => x.opt
  | none => o
theorem applyW_get (id : Nat) : ∀ (ws : List (Nat × Ob)) (ob : Nat → Option Ob), applyW ob ws id = wsAt ws id (ob id)
  | [], ob => rfl
  | x :: ws, ob => by
    have := applyW_get id ws (updG ob x.1 x.2)
    have h0 : applyW ob (x :: ws) id = applyW (updG ob x.1 x.2) ws id := rfl
    rw [h0, this]
    unfold wsAt
    rw [wsLook_cons]
    unfold updG
    by_cases h : id = x.1
    · subst h
      simp only [if_true]
      cases wsLook ws x.1 <;> rfl
    · have h' : ¬ x.1 = id := fun e => h e.symm
      simp only [h, h', if_false, Option.or_none]
theorem wsLook_none {ws : List (Nat × Ob)} {id : Nat} (h : (ws.map (·.1)).contains id = false) : wsLook ws id = none := by
  induction ws with
  | nil => rfl
  | cons x ws ih =>
    simp only [List.map_cons, List.contains_cons, Bool.or_eq_false_iff] at h
    have h' : ¬ x.1 = id := fun e => by subst e; simp at h
    rw [wsLook_cons, ih h.2]
    simp [h']
inductive Rec where
  | skip
  | did (r : AV) (deps : List Nat) (ws : List (Nat × Ob))
def Rec.val : Rec → AV
  | .skip => .tup []
  | .did r _ _ => r
def Rec.ws : Rec → List (Nat × Ob)
  | .skip => []
  | .did _ _ ws => ws
def Rec.deps : Rec → List Nat
  | .skip => []
  | .did _ deps _ => deps
def Rec.ids (r : Rec) : List Nat × List Nat := (r.deps, r.ws.map (·.1))

def wantedAV (ops : Array Oper) (σ : St) (o : Oper) : Option Bool :=
  match o.guard with
  | none => some true
  | some (g, want) =>
    match gdst ops g with
    | some d => (match σ.tm d with
      | .s (.bool b) => some (b == want)
      | .tup [] => some false
      | _ => none)
    | none => none

def Valid (P : Program) (ops : Array Oper) (nb : Nat) (o : Oper) (σ : St) : Rec → Prop
  | .skip => wantedAV ops σ o = some false
  | .did r deps ws => wantedAV ops σ o = some true ∧ OpK P nb o.op o.type σ deps r ws

def regVCD (P : Program) (ops : Array Oper) (base : Nat) : List Oper → Nat → St → List (List Nat × List Nat) → (List (List Nat × List Nat) → St → Prop) → Prop
  | [], _, σ, acc, K => K acc σ
  | o :: l, i, σ, acc, K =>
    match o.guard with
    | none => opVC P (base + 16 * i) o.op o.type σ fun r deps ws => regVCD P ops base l (i + 1) (σ.put o.dst r ws) (acc ++ [(deps, ws.map (·.1))]) K
    | some (g, want) =>
      match gdst ops g with
      | some d =>
        match σ.tm d with
        | .s (.bool b) =>
          (b = want → opVC P (base + 16 * i) o.op o.type (σ.know d (.s (.bool want))) fun r deps ws => regVCD P ops base l (i + 1) ((σ.know d (.s (.bool want))).put o.dst r ws) (acc ++ [(deps, ws.map (·.1))]) K) ∧
          (b = (!want) → regVCD P ops base l (i + 1) ((σ.know d (.s (.bool (!want)))).put o.dst (.tup []) []) (acc ++ [([], [])]) K)
        | .tup [] => regVCD P ops base l (i + 1) (σ.put o.dst (.tup []) []) (acc ++ [([], [])]) K
        | _ => False
      | none => False

inductive Run (P : Program) (ops : Array Oper) (base : Nat) : List Oper → Nat → St → List Rec → St → Prop
  | nil (i : Nat) (σ : St) : Run P ops base [] i σ [] σ
  | cons (o : Oper) (l : List Oper) (i : Nat) (σ : St) (q : Rec) (qs : List Rec) (σ' : St) (h : Valid P ops (base + 16 * i) o σ q) (t : Run P ops base l (i + 1) (σ.put o.dst q.val q.ws) qs σ') : Run P ops base (o :: l) i σ (q :: qs) σ'

theorem regVCD_run {P : Program} {ops : Array Oper} {base : Nat} : ∀ {l : List Oper} {i : Nat} {σ : St} {acc : List (List Nat × List Nat)} {K : List (List Nat × List Nat) → St → Prop}, regVCD P ops base l i σ acc K →
    ∃ qs σ', Run P ops base l i σ qs σ' ∧ K (acc ++ qs.map Rec.ids) σ'
  | [], i, σ, acc, K, h => ⟨[], σ, .nil i σ, by simpa [regVCD] using h⟩
  | o :: l, i, σ, acc, K, h => by
    have did : wantedAV ops σ o = some true → (opVC P (base + 16 * i) o.op o.type σ fun r deps ws => regVCD P ops base l (i + 1) (σ.put o.dst r ws) (acc ++ [(deps, ws.map (·.1))]) K) → ∃ qs σ', Run P ops base (o :: l) i σ qs σ' ∧ K (acc ++ qs.map Rec.ids) σ' := by
      intro hw hv
      obtain ⟨r, deps, ws, hok, hK⟩ := opVC_sound hv
      obtain ⟨qs, σ', h1, h2⟩ := regVCD_run hK
      exact ⟨.did r deps ws :: qs, σ', .cons o l i σ (.did r deps ws) qs σ' ⟨hw, hok⟩ h1, by simpa [Rec.ids, Rec.deps, Rec.ws] using h2⟩
    have skip : wantedAV ops σ o = some false → regVCD P ops base l (i + 1) (σ.put o.dst (.tup []) []) (acc ++ [([], [])]) K → ∃ qs σ', Run P ops base (o :: l) i σ qs σ' ∧ K (acc ++ qs.map Rec.ids) σ' := by
      intro hw hK
      obtain ⟨qs, σ', h1, h2⟩ := regVCD_run hK
      exact ⟨.skip :: qs, σ', .cons o l i σ .skip qs σ' hw h1, by simpa [Rec.ids, Rec.deps, Rec.ws] using h2⟩
    unfold regVCD at h
    split at h
    · rename_i hg
      exact did (by simp [wantedAV, hg]) h
    · rename_i g want hg
      split at h
      · rename_i d hgd
        split at h
        · rename_i b hb
          by_cases hbw : b = want
          · have hk : σ.know d (.s (.bool want)) = σ := know_same (by rw [hb, hbw])
            have h1 := h.1 hbw
            rw [hk] at h1
            exact did (by simp [wantedAV, hg, hgd, hb, hbw]) h1
          · have hbn : b = (!want) := by cases b <;> cases want <;> simp_all
            have hk : σ.know d (.s (.bool (!want))) = σ := know_same (by rw [hb, hbn])
            have h2 := h.2 hbn
            rw [hk] at h2
            exact skip (by simp [wantedAV, hg, hgd, hb, hbw]) h2
        · rename_i hb
          exact skip (by simp [wantedAV, hg, hgd, hb]) h
        · exact h.elim
      · exact h.elim

def predsOf (o : Oper) : List Nat := o.after.toList.filterMap fun e => if Region.binds .any e then some e.on else none
def ancT (ops : List Oper) : List (List Nat) := ops.foldl (fun acc o => acc ++ [((predsOf o) ++ (predsOf o).flatMap (fun q => acc.getD q [])).eraseDups]) []
def ancOK (ops : List Oper) (anc : List (List Nat)) : Bool :=
  (List.range ops.length).all fun k => match ops[k]? with
    | some o => (predsOf o).all (fun p => decide (p < k)) && (anc.getD k []).all fun i => (predsOf o).contains i || (predsOf o).any fun p => (anc.getD p []).contains i
    | none => false
def apartS (ops : Array Oper) (x y : Oper) : Bool :=
  (match x.dst with | some d => !(y.looksAt ops).contains d && y.dst != some d | none => true) && (match y.dst with | some d => !(x.looksAt ops).contains d | none => true)
def slotsOK (ops : Array Oper) (anc : List (List Nat)) : Bool :=
  (List.range ops.size).all fun j => (List.range j).all fun i => (anc.getD j []).contains i || (match ops[i]?, ops[j]? with | some x, some y => apartS ops x y | _, _ => false)
def drawOK (N : Nat) (ops : Array Oper) : Bool := dstOK N ops && ancOK ops.toList (ancT ops.toList) && slotsOK ops (ancT ops.toList)
def apartO (x y : List Nat × List Nat) : Bool := x.2.all (fun i => !y.1.contains i && !y.2.contains i) && y.2.all (fun i => !x.1.contains i)
def objsOK (anc : List (List Nat)) (acc : List (List Nat × List Nat)) : Bool :=
  (List.range acc.length).all fun j => (List.range j).all fun i => (anc.getD j []).contains i || apartO (acc.getD i ([], [])) (acc.getD j ([], []))

theorem anc_closed {ops : List Oper} {anc : List (List Nat)} (h : ancOK ops anc = true) {D : Nat → Bool} (hD : ∀ k o, ops[k]? = some o → D k = true → ∀ p ∈ predsOf o, D p = true) :
    ∀ k, k < ops.length → D k = true → ∀ i ∈ anc.getD k [], D i = true := by
  intro k
  induction k using Nat.strongRecOn with
  | _ k ih =>
    intro hk hDk i hi
    have hc := (List.all_eq_true.1 h) k (by simpa using hk)
    have ho : ops[k]? = some ops[k] := by simp [hk]
    rw [ho] at hc
    simp only [Bool.and_eq_true] at hc
    have hi' := (List.all_eq_true.1 hc.2) i hi
    simp only [Bool.or_eq_true] at hi'
    rcases hi' with h1 | h1
    · exact hD k _ ho hDk i (by simpa using h1)
    · obtain ⟨p, hp, hpi⟩ := List.any_eq_true.1 h1
      have hpk : p < k := by simpa using (List.all_eq_true.1 hc.1) p hp
      exact ih p hpk (by omega) (hD k _ ho hDk p hp) i (by simpa using hpi)
theorem anc_ready {ops : List Oper} {anc : List (List Nat)} (h : ancOK ops anc = true) {D : Nat → Bool} (hD : ∀ k o, ops[k]? = some o → D k = true → ∀ p ∈ predsOf o, D p = true) {k : Nat} {o : Oper} (ho : ops[k]? = some o)
    (hr : ∀ p ∈ predsOf o, D p = true) : ∀ i ∈ anc.getD k [], D i = true := by
  intro i hi
  have hk : k < ops.length := (List.getElem?_eq_some_iff.1 ho).1
  have hc := (List.all_eq_true.1 h) k (by simpa using hk)
  rw [ho] at hc
  simp only [Bool.and_eq_true] at hc
  have hi' := (List.all_eq_true.1 hc.2) i hi
  simp only [Bool.or_eq_true] at hi'
  rcases hi' with h1 | h1
  · exact hr i (by simpa using h1)
  · obtain ⟨p, hp, hpi⟩ := List.any_eq_true.1 h1
    have hpk : p < k := by simpa using (List.all_eq_true.1 hc.1) p hp
    exact anc_closed h hD p (by omega) (hr p hp) i (by simpa using hpi)
end Go.Sy
end
section
set_option linter.unusedVariables false
namespace Go.Sy

theorem count_dec {p q : Nat → Bool} {i : Nat} (hpi : p i = true) (hqi : q i = false) (hqp : ∀ j, q j = true → p j = true) : ∀ {l : List Nat}, i ∈ l → l.countP q + 1 ≤ l.countP p
  | x :: l, h => by
    have mono : l.countP q ≤ l.countP p := List.countP_mono_left fun j _ hj => hqp j hj
    simp only [List.countP_cons]
    rcases List.mem_cons.1 h with rfl | h
    · simp [hpi, hqi]; exact mono
    · have ih := count_dec hpi hqi hqp h
      by_cases hx : q x = true
      · simp [hx, hqp x hx]; omega
      · have hx' : q x = false := by simpa using hx
        simp only [hx', Bool.false_eq_true, if_false]
        split <;> omega

theorem wanted_of {ops : Array Oper} {H : View} {ε : Env} {σ : St} {a : Act} {o : Oper} {b : Bool} (h : ∀ i, R H ε (a.tmps.getD i undef) (σ.tm i)) (hw : wantedAV ops σ o = some b) : Region.wanted o (yielded ops a.tmps) = b := by
  unfold wantedAV at hw
  split at hw
  · rename_i hg
    cases hw
    simp [Region.wanted, hg]
  · rename_i g want hg
    split at hw
    · rename_i d hgd
      have hy : yielded ops a.tmps g = (match a.tmps[d]? with | some (.bool b) => some b | _ => none) := by
        unfold yielded
        unfold gdst at hgd
        rw [hgd]; rfl
      split at hw
      · rename_i b' hb
        cases hw
        have hv := h d
        rw [hb] at hv
        have hv' := hv.s_inv.1
        have hget : a.tmps[d]? = some (.bool b') := by
          rw [Array.getD_eq_getD_getElem?] at hv'
          cases hq : a.tmps[d]? with
          | none => rw [hq] at hv'; cases hv'
          | some u => rw [hq] at hv'; simp at hv'; rw [hv']
        rw [hget] at hy
        simp [Region.wanted, hg, hy]
      · rename_i hb
        cases hw
        have hv := h d
        rw [hb] at hv
        obtain ⟨vs, hv', hl⟩ := hv.tup_inv
        cases hl
        have hyn : yielded ops a.tmps g = none := by
          rw [hy]
          rw [Array.getD_eq_getD_getElem?] at hv'
          cases hq : a.tmps[d]? with
          | none => rfl
          | some u => rw [hq] at hv'; simp at hv'; rw [hv']
        simp [Region.wanted, hg, hyn]
      · cases hw
    · cases hw

theorem wantedAV_congr {ops : Array Oper} {σ σ' : St} {o : Oper} (h : ∀ t ∈ o.looksAt ops, σ.tm t = σ'.tm t) : wantedAV ops σ o = wantedAV ops σ' o := by
  unfold wantedAV
  split
  · rfl
  · rename_i g want hg
    split
    · rename_i d hgd
      have : d ∈ o.looksAt ops := by
        unfold Oper.looksAt
        unfold gdst at hgd
        simp [hg, hgd]
      rw [h d this]
    · rfl

theorem ev_congr {ops : Array Oper} {σ σ' : St} {o : Oper} (h : ∀ t ∈ o.looksAt ops, σ.tm t = σ'.tm t) : ∀ x ∈ o.op.operands.toList, σ.ev x = σ'.ev x := by
  intro x hx
  cases x with
  | tmp t =>
    refine h t ?_
    unfold Oper.looksAt
    simp only [List.mem_append, List.mem_filterMap]
    exact .inl ⟨.tmp t, hx, rfl⟩
  | const v => rfl
  | global g => rfl
  | func f => rfl

section
variable {P : Program} {ops : Array Oper} {base : Nat}

def wrT (ops : Array Oper) (qs : List Rec) (k t : Nat) : Option AV := match ops[k]? with
  | some o => if o.dst = some t then some (qs.getD k .skip).val else none
  | none => none
def wrO (qs : List Rec) (k id : Nat) : Option (Option Ob) := (wsLook (qs.getD k .skip).ws id).map Ob.opt
def stAt (ops : Array Oper) (qs : List Rec) (σ : St) (D : Nat → Bool) (n : Nat) : St := { tm := repF (wrT ops qs) D σ.tm n, ob := repF (wrO qs) D σ.ob n, nx := σ.nx }

theorem put_eq {qs : List Rec} {σ : St} {k : Nat} {o : Oper} (ho : ops[k]? = some o) : σ.put o.dst (qs.getD k .skip).val (qs.getD k .skip).ws = { tm := fun x => (wrT ops qs k x).getD (σ.tm x), ob := fun x => (wrO qs k x).getD (σ.ob x), nx := σ.nx } := by
  unfold St.put
  congr 1
  · cases hd : o.dst with
    | none => funext x; simp [wrT, ho, hd]
    | some d =>
      funext x
      by_cases h : x = d
      · subst h; simp [wrT, ho, hd, upd]
      · have h' : ¬ d = x := fun e => h e.symm
        simp [wrT, ho, hd, upd, h, h']
  · funext x
    rw [applyW_get]
    unfold wrO wsAt
    cases wsLook (qs.getD k .skip).ws x <;> simp

theorem run_states {qs : List Rec} {σ0 : St} {l : List Oper} {i : Nat} {σ1 σ' : St} {qs' : List Rec} (h : Run P ops base l i σ1 qs' σ') (hl : ops.toList.drop i = l) (hq : qs.drop i = qs') (hs : σ1 = stAt ops qs σ0 (fun _ => true) i) (hi : i ≤ ops.size) :
    (∀ j, i ≤ j → ∀ o, ops[j]? = some o → Valid P ops (base + 16 * j) o (stAt ops qs σ0 (fun _ => true) j) (qs.getD j .skip)) ∧ σ' = stAt ops qs σ0 (fun _ => true) ops.size := by
  induction h with
  | nil i σ =>
    have hsz : ops.size ≤ i := by
      have := congrArg List.length hl
      simp at this; omega
    refine ⟨fun j hj o ho => ?_, ?_⟩
    · have : j < ops.size := (Array.getElem?_eq_some_iff.1 ho).1
      omega
    · have he : i = ops.size := by omega
      rw [hs, he]
  | cons o l i σ q qs' σ' hv _ ih =>
    have hoi : ops[i]? = some o := by
      have := congrArg List.head? hl
      simpa using this
    have hqi : qs.getD i .skip = q := by
      have := congrArg List.head? hq
      simp at this
      simp [this]
    have hl' : ops.toList.drop (i + 1) = l := by
      have := congrArg List.tail hl
      simpa using this
    have hq' : qs.drop (i + 1) = qs' := by
      have := congrArg List.tail hq
      simpa using this
    have hstep : σ.put o.dst q.val q.ws = stAt ops qs σ0 (fun _ => true) (i + 1) := by
      rw [← hqi, put_eq hoi, hs]
      simp [stAt, repF]
    have hlt : i < ops.size := (Array.getElem?_eq_some_iff.1 hoi).1
    obtain ⟨h1, h2⟩ := ih hl' hq' hstep (by omega)
    refine ⟨fun j hj o' ho' => ?_, h2⟩
    by_cases he : j = i
    · subst he
      rw [hoi] at ho'; cases ho'
      rw [hqi, ← hs]; exact hv
    · exact h1 j (by omega) o' ho'

theorem run_length {l : List Oper} {i : Nat} {σ σ' : St} {qs : List Rec} (h : Run P ops base l i σ qs σ') : qs.length = l.length := by
  induction h with
  | nil => rfl
  | cons _ _ _ _ _ _ _ _ _ ih => simp [ih]

theorem slots_apart {anc : List (List Nat)} (h : slotsOK ops anc = true) {i j : Nat} (hij : i < j) {x y : Oper} (hx : ops[i]? = some x) (hy : ops[j]? = some y) (hn : (anc.getD j []).contains i = false) : apartS ops x y = true := by
  have hj : j < ops.size := (Array.getElem?_eq_some_iff.1 hy).1
  have := (List.all_eq_true.1 ((List.all_eq_true.1 h) j (by simpa using hj))) i (by simpa using hij)
  rw [hn, hx, hy] at this
  simpa using this
theorem objs_apart {anc : List (List Nat)} {acc : List (List Nat × List Nat)} (h : objsOK anc acc = true) {i j : Nat} (hij : i < j) (hj : j < acc.length) (hn : (anc.getD j []).contains i = false) : apartO (acc.getD i ([], [])) (acc.getD j ([], [])) = true := by
  have := (List.all_eq_true.1 ((List.all_eq_true.1 h) j (by simpa using hj))) i (by simpa using hij)
  rw [hn] at this
  simpa using this

theorem apartS_spec {x y : Oper} (h : apartS ops x y = true) : (∀ d, x.dst = some d → d ∉ y.looksAt ops ∧ y.dst ≠ some d) ∧ (∀ d, y.dst = some d → d ∉ x.looksAt ops) := by
  unfold apartS at h
  simp only [Bool.and_eq_true] at h
  refine ⟨fun d hd => ?_, fun d hd => ?_⟩
  · have := h.1
    rw [hd] at this
    simpa using this
  · have := h.2
    rw [hd] at this
    simpa using this

theorem wrT_none {qs : List Rec} {k t : Nat} {o : Oper} (ho : ops[k]? = some o) (h : o.dst ≠ some t) : wrT ops qs k t = none := by simp [wrT, ho, h]
theorem wrT_dst {qs : List Rec} {k t : Nat} {o : Oper} (ho : ops[k]? = some o) (h : (wrT ops qs k t).isSome) : o.dst = some t := by
  cases hd : decide (o.dst = some t)
  · have := of_decide_eq_false hd
    rw [wrT_none ho this] at h; cases h
  · exact of_decide_eq_true hd
theorem ids_getD (qs : List Rec) (k : Nat) : (qs.map Rec.ids).getD k ([], []) = (qs.getD k .skip).ids := by
  simp only [List.getD_eq_getElem?_getD, List.getElem?_map]
  cases qs[k]? <;> rfl
theorem wrO_none {qs : List Rec} {k id : Nat} (h : ((qs.getD k .skip).ids.2).contains id = false) : wrO qs k id = none := by
  unfold wrO
  rw [wsLook_none (by simpa [Rec.ids] using h)]; rfl
theorem wrO_in {qs : List Rec} {k id : Nat} (h : (wrO qs k id).isSome) : ((qs.getD k .skip).ids.2).contains id = true := by
  cases hc : ((qs.getD k .skip).ids.2).contains id
  · rw [wrO_none hc] at h; cases h
  · rfl

theorem drew_mem {c : Ctx} {H : View} {ε : Env} {ob : Nat → Option Ob} {w : World} (hm : Mem c H ε ob w) : Mem c H ε ob { w with drawn := w.drawn + 1 } :=
  hm.ext (View.le_refl H) (fun _ _ _ => rfl) (fun b o v h => hm.view b o v h) (fun b o v hb h => absurd (View.lt hm.view h) (Nat.not_lt.2 hb)) (fun _ _ => rfl) (Nat.le_refl _) rfl rfl rfl

theorem draw_any {c : Ctx} {Q : Exit → Act → World → Prop} {σ : St} {qs : List Rec} {K : St → Prop} (hok : drawOK c.N ops = true) (hlen : qs.length = ops.size)
    (hv : ∀ j o, ops[j]? = some o → Valid P ops (base + 16 * j) o (stAt ops qs σ (fun _ => true) j) (qs.getD j .skip)) (hobj : objsOK (ancT ops.toList) (qs.map Rec.ids) = true)
    (hK : K { stAt ops qs σ (fun _ => true) ops.size with nx := base + 16 * ops.size })
    (hQ : ∀ σ' H' ε' a' w', K σ' → Inv c H' ε' σ' a' w' → Q .normal a' w') :
    ∀ (fuel : Nat) (listed : Array Bool) (D : Nat → Bool) (H : View) (ε : Env) (a : Act) (w : World), listed.size = ops.size → (∀ i, listed.getD i false = D i) →
      (∀ k o, ops.toList[k]? = some o → D k = true → ∀ p ∈ predsOf o, D p = true) → Inv0 c H ε (stAt ops qs σ D ops.size) a w →
      (∀ id, base ≤ id → (∀ k, D k = true → ¬ (base + 16 * k ≤ id ∧ id < base + 16 * k + 16)) → ε id = none) → (List.range ops.size).countP (fun i => !D i) ≤ fuel → wpAnyIn (wf c.ro) 0 P .any ops Q fuel listed a w := by
  simp only [drawOK, Bool.and_eq_true] at hok
  obtain ⟨⟨hN, hanc⟩, hslots⟩ := hok
  have hDlt : ∀ (listed : Array Bool) (D : Nat → Bool), listed.size = ops.size → (∀ i, listed.getD i false = D i) → ∀ i, D i = true → i < ops.size := by
    intro listed D hs hl i hi
    rcases Nat.lt_or_ge i ops.size with h | h
    · exact h
    · rw [← hl i, Array.getD_eq_getD_getElem?, Array.getElem?_eq_none (by omega)] at hi
      cases hi
  have hready : ∀ (listed : Array Bool) (D : Nat → Bool), listed.size = ops.size → (∀ i, listed.getD i false = D i) → ∀ i, i ∈ Region.ready .any ops listed ↔ i < ops.size ∧ D i = false ∧ ∃ o, ops[i]? = some o ∧ ∀ p ∈ predsOf o, D p = true := by
    intro listed D hs hl i
    unfold Region.ready
    rw [List.mem_filter, List.mem_range]
    have hlt : i < ops.size → listed.getD i true = D i := by
      intro h
      rw [← hl i, Array.getD_eq_getD_getElem?, Array.getD_eq_getD_getElem?, Array.getElem?_eq_getElem (by omega)]
      rfl
    constructor
    · rintro ⟨h1, h2⟩
      simp only [Bool.and_eq_true] at h2
      obtain ⟨h2, h3⟩ := h2
      rw [hlt h1] at h2
      have ho : ops[i]? = some ops[i] := by simp [h1]
      rw [ho] at h3
      simp only [Option.map_some, Option.getD_some] at h3
      refine ⟨h1, by simpa using h2, ops[i], ho, fun p hp => ?_⟩
      unfold predsOf at hp
      simp only [List.mem_filterMap] at hp
      obtain ⟨e, he, hpe⟩ := hp
      split at hpe
      · rename_i hb
        cases hpe
        have := (Array.all_eq_true_iff_forall_mem.1 h3) e (by simpa using he)
        simp only [hb, Bool.not_true, Bool.false_or] at this
        rw [← hl]; exact this
      · cases hpe
    · rintro ⟨h1, h2, o, ho, h3⟩
      refine ⟨h1, ?_⟩
      simp only [Bool.and_eq_true]
      refine ⟨by rw [hlt h1, h2]; rfl, ?_⟩
      rw [ho]
      simp only [Option.map_some, Option.getD_some]
      refine Array.all_eq_true_iff_forall_mem.2 fun e he => ?_
      cases hb : Region.binds .any e
      · rfl
      · simp only [Bool.not_true, Bool.false_or]
        rw [hl]
        exact h3 e.on (by unfold predsOf; simp only [List.mem_filterMap]; exact ⟨e, by simpa using he, by simp [hb]⟩)
  have hback : ∀ k o, ops.toList[k]? = some o → ∀ p ∈ predsOf o, p < k := by
    intro k o ho p hp
    have hk : k < ops.toList.length := (List.getElem?_eq_some_iff.1 ho).1
    have hc := (List.all_eq_true.1 hanc) k (by simpa using hk)
    rw [ho] at hc
    simp only [Bool.and_eq_true] at hc
    simpa using (List.all_eq_true.1 hc.1) p hp
  have hfin : ∀ (D : Nat → Bool) (H : View) (ε : Env) (a : Act) (w : World), (∀ i, i < ops.size → D i = true) → (∀ i, D i = true → i < ops.size) → Inv0 c H ε (stAt ops qs σ D ops.size) a w →
      (∀ id, base ≤ id → (∀ k, D k = true → ¬ (base + 16 * k ≤ id ∧ id < base + 16 * k + 16)) → ε id = none) → Q .normal a w := by
    intro D H ε a w hD hDl hi hdom
    have e : stAt ops qs σ D ops.size = stAt ops qs σ (fun _ => true) ops.size := by
      unfold stAt
      rw [repF_congr (D' := fun _ => true) (fun i h => hD i h), repF_congr (f := σ.ob) (D' := fun _ => true) (fun i h => hD i h)]
    rw [e] at hi
    exact hQ _ H ε a w hK ⟨hi.sz, hi.df, hi.tm, hi.mem, fun id hid => hdom id (by simp only at hid; omega) (fun k hk => by have := hDl k hk; simp only at hid; omega)⟩
  intro fuel
  induction fuel with
  | zero =>
    intro listed D H ε a w hs hl hc hi hdom hf
    have hall : ∀ i, i < ops.size → D i = true := by
      intro i hi'
      have h0 : (List.range ops.size).countP (fun i => !D i) = 0 := by omega
      have := (List.countP_eq_zero.1 h0) i (by simpa using hi')
      simpa using this
    refine ⟨?_, hfin D H ε a w hall (hDlt listed D hs hl) hi hdom⟩
    apply List.eq_nil_iff_forall_not_mem.2
    intro i hmem
    have := (hready listed D hs hl i).1 hmem
    rw [hall i this.1] at this
    exact absurd this.2.1 (by simp)
  | succ fuel ih =>
    intro listed D H ε a w hs hl hc hi hdom hf
    refine ⟨fun hnil => ?_, fun i hmem => ?_⟩
    · have hall : ∀ i, i < ops.size → D i = true := by
        intro i
        induction i using Nat.strongRecOn with
        | _ i ihi =>
          intro hi'
          cases hDi : D i
          · have ho : ops[i]? = some ops[i] := by simp [hi']
            have : i ∈ Region.ready .any ops listed := (hready listed D hs hl i).2 ⟨hi', hDi, ops[i], ho, fun p hp => by
              have hpi := hback i ops[i] (by simp [hi']) p hp
              exact ihi p hpi (by omega)⟩
            rw [hnil] at this
            cases this
          · rfl
      exact hfin D H ε a w hall (hDlt listed D hs hl) hi hdom
    · obtain ⟨hlt, hDi, o, ho, hp⟩ := (hready listed D hs hl i).1 hmem
      have hoL : ops.toList[i]? = some o := by simpa using ho
      -- what is not ordered with i
      have hbefore : ∀ j x, j < i → ops[j]? = some x → D j = false → apartS ops x o = true ∧ apartO (qs.getD j .skip).ids (qs.getD i .skip).ids = true := by
        intro j x hj hx hDj
        have hn : ((ancT ops.toList).getD i []).contains j = false := by
          cases hq : ((ancT ops.toList).getD i []).contains j
          · rfl
          · have := anc_ready hanc hc hoL hp j (by simpa using hq)
            rw [hDj] at this; cases this
        refine ⟨slots_apart hslots hj hx ho hn, ?_⟩
        have := objs_apart hobj hj (by simp [hlen]; exact hlt) hn
        rwa [ids_getD, ids_getD] at this
      have hbehind : ∀ j x, i < j → ops[j]? = some x → D j = true → apartS ops o x = true ∧ apartO (qs.getD i .skip).ids (qs.getD j .skip).ids = true := by
        intro j x hj hx hDj
        have hjl : j < ops.size := (Array.getElem?_eq_some_iff.1 hx).1
        have hn : ((ancT ops.toList).getD j []).contains i = false := by
          cases hq : ((ancT ops.toList).getD j []).contains i
          · rfl
          · have := anc_closed hanc hc j (by simpa using hjl) hDj i (by simpa using hq)
            rw [hDi] at this; cases this
        refine ⟨slots_apart hslots hj ho hx hn, ?_⟩
        have := objs_apart hobj hj (by simp [hlen]; exact hjl) hn
        rwa [ids_getD, ids_getD] at this
      have hat : ∀ j, j < ops.size → ∃ x, ops[j]? = some x := fun j hj => ⟨ops[j], by simp [hj]⟩
      -- it sees what it saw
      have hseeT : ∀ t ∈ o.looksAt ops, (stAt ops qs σ D ops.size).tm t = (stAt ops qs σ (fun _ => true) i).tm t := by
        intro t ht
        refine repF_agree hDi (fun j hj hDj => ?_) (Nat.le_of_lt hlt) (fun j hj hjn hDj => ?_)
        · obtain ⟨x, hx⟩ := hat j (by omega)
          refine wrT_none hx fun hd => ?_
          exact ((apartS_spec (hbefore j x hj hx hDj).1).1 t hd).1 ht
        · obtain ⟨x, hx⟩ := hat j hjn
          refine wrT_none hx fun hd => ?_
          exact (apartS_spec (hbehind j x hj hx hDj).1).2 t hd ht
      have hseeO : ∀ id ∈ (qs.getD i .skip).deps, (stAt ops qs σ D ops.size).ob id = (stAt ops qs σ (fun _ => true) i).ob id := by
        intro id hid
        have hmem1 : ((qs.getD i .skip).ids.1).contains id = true := by simpa [Rec.ids] using hid
        refine repF_agree hDi (fun j hj hDj => ?_) (Nat.le_of_lt hlt) (fun j hj hjn hDj => ?_)
        · obtain ⟨x, hx⟩ := hat j (by omega)
          refine wrO_none ?_
          have := (hbefore j x hj hx hDj).2
          unfold apartO at this
          simp only [Bool.and_eq_true] at this
          cases hq : ((qs.getD j .skip).ids.2).contains id
          · rfl
          · have := (List.all_eq_true.1 this.1) id (by simpa using hq)
            rw [hmem1] at this; simp at this
        · obtain ⟨x, hx⟩ := hat j hjn
          refine wrO_none ?_
          have := (hbehind j x hj hx hDj).2
          unfold apartO at this
          simp only [Bool.and_eq_true] at this
          cases hq : ((qs.getD j .skip).ids.2).contains id
          · rfl
          · have := (List.all_eq_true.1 this.2) id (by simpa using hq)
            rw [hmem1] at this; simp at this
      -- the state behind it
      have hnext : (stAt ops qs σ D ops.size).put o.dst (qs.getD i .skip).val (qs.getD i .skip).ws = stAt ops qs σ (fun j => j == i || D j) ops.size := by
        rw [put_eq ho]
        unfold stAt
        congr 1
        · rw [repF_insert hDi (fun j x hj hDj hw => ?_) ops.size, if_pos hlt]
          obtain ⟨y, hy⟩ := hat j (hDlt listed D hs hl j hDj)
          exact wrT_none hy ((apartS_spec (hbehind j y hj hy hDj).1).1 x (wrT_dst ho hw)).2
        · rw [repF_insert hDi (fun j x hj hDj hw => ?_) ops.size, if_pos hlt]
          obtain ⟨y, hy⟩ := hat j (hDlt listed D hs hl j hDj)
          refine wrO_none ?_
          have := (hbehind j y hj hy hDj).2
          unfold apartO at this
          simp only [Bool.and_eq_true] at this
          have := (List.all_eq_true.1 this.1) x (by simpa using wrO_in hw)
          simp only [Bool.and_eq_true] at this
          simpa using this.2
      have hs' : (listed.setIfInBounds i true).size = ops.size := by simpa using hs
      have hl' : ∀ j, (listed.setIfInBounds i true).getD j false = (j == i || D j) := by
        intro j
        rw [Array.getD_eq_getD_getElem?, Array.getElem?_setIfInBounds]
        by_cases hj : i = j
        · subst hj; simp [hs, hlt]
        · have : (j == i) = false := by simpa using fun e => hj e.symm
          rw [if_neg hj, this, Bool.false_or, ← hl j, Array.getD_eq_getD_getElem?]
      have hc' : ∀ k x, ops.toList[k]? = some x → (k == i || D k) = true → ∀ p ∈ predsOf x, (p == i || D p) = true := by
        intro k x hx hk p hpx
        simp only [Bool.or_eq_true] at hk ⊢
        rcases hk with hk | hk
        · have : k = i := by simpa using hk
          subst this
          rw [hoL] at hx; cases hx
          exact .inr (hp p hpx)
        · exact .inr (hc k x hx hk p hpx)
      have hf' : (List.range ops.size).countP (fun j => !(j == i || D j)) ≤ fuel := by
        have := count_dec (p := fun j => !D j) (q := fun j => !(j == i || D j)) (i := i) (by simp [hDi]) (by simp) (fun j hj => by simp at hj ⊢; exact hj.2) (l := List.range ops.size) (by simpa using hlt)
        omega
      have hdst : ∀ d, o.dst = some d → d < a.tmps.size := by
        intro d hdd
        rw [hi.sz]
        have hm : o ∈ ops := Array.mem_of_getElem? ho
        have := (Array.all_eq_true_iff_forall_mem.1 hN) o hm
        simpa [hdd] using this
      have hdf : ∀ (dst : Option Tmp) (v : Value), (a.put dst v).defers = c.D := fun dst v => by cases dst <;> exact hi.df
      have hsz : ∀ (dst : Option Tmp) (v : Value), (a.put dst v).tmps.size = c.N := fun dst v => by cases dst <;> simp [Act.put, hi.sz]
      have hvi := hv i o ho
      unfold wpOpIn
      rw [ho]
      simp only
      cases hq : qs.getD i .skip with
      | skip =>
        rw [hq] at hvi hnext
        have hw : wantedAV ops (stAt ops qs σ D ops.size) o = some false := by rw [wantedAV_congr hseeT]; exact hvi
        have hwf := wanted_of hi.tm hw
        rw [hwf]
        simp only [Bool.false_eq_true, if_false]
        refine ⟨fun _ _ => trivial, ?_⟩
        refine ih _ (fun j => j == i || D j) H ε _ w hs' hl' hc' ⟨hsz _ _, hdf _ _, ?_, ?_⟩ (fun id hid hn => hdom id hid fun k hk => hn k (by simp [hk])) hf'
        · rw [← hnext]
          exact put_tm hdst hi.tm (.d _ _ (.tup [] [] .nil))
        · rw [← hnext]
          exact hi.mem
      | did r deps ws =>
        rw [hq] at hvi hnext hseeO
        obtain ⟨hvw, hok⟩ := hvi
        have hw : wantedAV ops (stAt ops qs σ D ops.size) o = some true := by rw [wantedAV_congr hseeT]; exact hvw
        have hwt := wanted_of hi.tm hw
        rw [hwt]
        simp only [if_true]
        have hop := hok (stAt ops qs σ D ops.size) (ev_congr hseeT) hseeO
        refine hop c H ε a w o rfl rfl hi.mem hi.tm (fun id h1 h2 => hdom id (by omega) fun k hk => ?_) _ Q ?_
        · have : k ≠ i := fun e => by subst e; rw [hDi] at hk; cases hk
          omega
        · intro v w' H' ε' hH hε hfr hvR hm
          refine ih _ (fun j => j == i || D j) H' ε' _ w' hs' hl' hc' ⟨hsz _ _, hdf _ _, ?_, ?_⟩ ?_ hf'
          · rw [← hnext]
            exact put_tm hdst (fun j => (hi.tm j).mono hH hε) hvR
          · rw [← hnext]
            exact hm
          · intro id hid hn
            exact hfr id (hdom id hid fun k hk => hn k (by simp [hk])) (hn i (by simp))

theorem tri_draw {N : Nat} {σ : St} {K : Exit → St → Prop} {id : Nat} (hmix : P.follows .mixedOrders = true) (hok : drawOK N ops = true)
    (h : regVCD P ops σ.nx ops.toList 0 σ [] fun acc σ' => objsOK (ancT ops.toList) acc = true ∧ K .normal { σ' with nx := σ.nx + 16 * ops.size }) : Tri P N (.region id ops true) σ K := fun c H ε a w hc hi Q hQ => by
  obtain ⟨qs, σ', hrun, hobj, hK⟩ := regVCD_run h
  rw [List.nil_append] at hobj
  have hlen : qs.length = ops.size := by rw [run_length hrun]; simp
  obtain ⟨hv, hσ'⟩ := run_states (qs := qs) (σ0 := σ) hrun (by simp) (by simp) rfl (Nat.zero_le _)
  rw [hσ'] at hK
  refine wpIn_region_any hmix ?_
  refine draw_any (P := P) (base := σ.nx) (c := c) (Q := Q) (σ := σ) (qs := qs) (K := K .normal) (by rw [hc]; exact hok) hlen (fun j o ho => hv j (Nat.zero_le _) o ho) hobj hK (fun σ' H' ε' a' w' hk hi' => hQ _ σ' H' ε' a' w' hk hi')
    ops.size (Array.replicate ops.size false) (fun _ => false) H ε a _ (by simp) (fun i => by rw [Array.getD_eq_getD_getElem?, Array.getElem?_replicate]; split <;> rfl) (fun k o _ hk => by cases hk) ?_ (fun id hid _ => hi.dom id hid) (by simp)
  have e : stAt ops qs σ (fun _ => false) ops.size = σ := by
    have h1 : ∀ {L V : Type} (wr : Nat → L → Option V) (f : L → V) (n : Nat), repF wr (fun _ => false) f n = f := by
      intro L V wr f n
      induction n with
      | zero => rfl
      | succ n ih => simp only [repF, Bool.false_eq_true, if_false]; exact ih
    unfold stAt
    rw [h1, h1]
  rw [e]
  exact ⟨hi.sz, hi.df, hi.tm, drew_mem hi.mem⟩
end
end Go.Sy
end
section
set_option linter.unusedVariables false
namespace Go.Sy

mutual
def AV.ren (φ : Nat → Nat) : AV → AV
  | .osl p sz es => .osl (φ p) sz es
  | .ptr id off => .ptr (φ id) off
  | .bsl id off sz n cap => .bsl (φ id) off sz n cap
  | .agg cs => .agg (renL φ cs)
  | .tup cs => .tup (renL φ cs)
  | .fn f a b => .fn f (renL φ a) (renL φ b)
  | .s v => .s v
  | .sl sz es => .sl sz es
  | .ol sz es => .ol sz es
  | .wsl sz es => .wsl sz es
  | .wref cs => .wref cs
  | .hole => .hole
  | .mark id => .mark (φ id)
  | .ref cs => .ref cs
  | .junk => .junk
def renL (φ : Nat → Nat) : List AV → List AV
  | [] => []
  | a :: l => a.ren φ :: renL φ l
end
def Ob.ren (φ : Nat → Nat) : Ob → Ob
  | .box cs => .box (renL φ cs)
  | .perm e sz n => .perm e sz n
  | .raw b o cs => .raw b o (renL φ cs)
  | .gone => .gone

mutual
theorem R.ren {H : View} {ε ε' : Env} {φ : Nat → Nat} (h : ∀ id l, ε id = some l → ε' (φ id) = some l) : ∀ {v : Value} {a : AV}, R H ε v a → R H ε' v (a.ren φ)
  | _, _, .d v c hd => D.ren hd
  | _, _, .junk v => by simp only [AV.ren]; exact .junk v
  | _, _, .mark v id b hb hlo => by simp only [AV.ren]; exact .mark v _ b (h id _ hb) hlo
  | _, _, .ptr id off b hb => by simp only [AV.ren]; exact .ptr _ _ _ (h id _ hb)
  | _, _, .bsl id off sz n cap b hb hn hlo => by simp only [AV.ren]; exact .bsl _ _ _ _ _ _ (h id _ hb) hn hlo
  | _, _, .osl p sz es v v0 n hd hp hle he => by simp only [AV.ren]; exact .osl _ _ _ _ _ _ hd (h p _ hp) hle he
  | _, _, .agg vs cs hl => by simp only [AV.ren]; exact .agg _ _ (RL.ren h hl)
  | _, _, .tup vs cs hl => by simp only [AV.ren]; exact .tup _ _ (RL.ren h hl)
  | _, _, .fn f f1 c1 f2 c2 hf hc => by simp only [AV.ren]; exact .fn _ _ _ _ _ (RL.ren h hf) (RL.ren h hc)
theorem RL.ren {H : View} {ε ε' : Env} {φ : Nat → Nat} (h : ∀ id l, ε id = some l → ε' (φ id) = some l) : ∀ {vs : List Value} {cs : List AV}, RL H ε vs cs → RL H ε' vs (renL φ cs)
  | _, _, .nil => by simp only [renL]; exact .nil
  | _, _, .cons v c vs cs hv hl => by simp only [renL]; exact .cons _ _ _ _ (R.ren h hv) (RL.ren h hl)
theorem D.ren {H : View} {ε' : Env} {φ : Nat → Nat} : ∀ {v : Value} {a : AV}, D H v a → R H ε' v (a.ren φ)
  | _, _, .s v h => by simp only [AV.ren]; exact .d _ _ (.s v h)
  | _, _, .agg vs cs hl => by simp only [AV.ren]; exact .agg _ _ (DL.ren hl)
  | _, _, .tup vs cs hl => by simp only [AV.ren]; exact .tup _ _ (DL.ren hl)
  | _, _, .nil sz => by simp only [AV.ren]; exact .d _ _ (.nil sz)
  | _, _, .emp a cap sz => by simp only [AV.ren]; exact .d _ _ (.emp a cap sz)
  | _, _, .sl b off cap sz es hcap hsz hlo h => by simp only [AV.ren]; exact .d _ _ (.sl b off cap sz es hcap hsz hlo h)
  | _, _, .onil sz => by simp only [AV.ren]; exact .d _ _ (.onil sz)
  | _, _, .oemp a cap sz => by simp only [AV.ren]; exact .d _ _ (.oemp a cap sz)
  | _, _, .ol b off cap sz es hcap hsz hlo h => by simp only [AV.ren]; exact .d _ _ (.ol b off cap sz es hcap hsz hlo h)
  | _, _, .wnil sz => by simp only [AV.ren]; exact .d _ _ (.wnil sz)
  | _, _, .wemp a cap sz => by simp only [AV.ren]; exact .d _ _ (.wemp a cap sz)
  | _, _, .wsl b off cap sz es hcap hsz h => by simp only [AV.ren]; exact .d _ _ (.wsl b off cap sz es hcap hsz h)
  | _, _, .wref b off cs h => by simp only [AV.ren]; exact .d _ _ (.wref b off cs h)
  | _, _, .ref b off cs h => by simp only [AV.ren]; exact .d _ _ (.ref b off cs h)
theorem DL.ren {H : View} {ε' : Env} {φ : Nat → Nat} : ∀ {vs : List Value} {cs : List AV}, DL H vs cs → RL H ε' vs (renL φ cs)
  | _, _, .nil => by simp only [renL]; exact .nil
  | _, _, .cons v c vs cs hv hl => by simp only [renL]; exact .cons _ _ _ _ (D.ren hv) (DL.ren hl)
end

theorem R.hole_wref {H : View} {ε ε' : Env} {v : Value} {cs : List AV} (h : R H ε v (.wref cs)) : R H ε' v (.wref cs) := by
  cases h with | d _ _ h => exact .d _ _ h
theorem R.hole_any {H : View} {ε ε' : Env} {v : Value} (h : R H ε v .hole) : R H ε' v .hole := by
  cases h with
  | d _ _ h => cases h
mutual
theorem R.unren {H : View} {ε : Env} {φ : Nat → Nat} {m : Nat} : ∀ {a : AV} {v : Value}, R H ε v (a.ren φ) → a.lt m → R H (fun id => if id < m then ε (φ id) else none) v a
  | .s u, v, h, _ => by simp only [AV.ren] at h; rw [h.s_inv.1]; exact .d _ _ (.s u h.s_inv.2)
  | .sl sz es, v, h, _ => by simp only [AV.ren] at h; exact .d _ _ h.sl_inv
  | .ol sz es, v, h, _ => by simp only [AV.ren] at h; exact .d _ _ h.ol_inv
  | .wsl sz es, v, h, _ => by simp only [AV.ren] at h; exact .d _ _ h.wsl_inv
  | .wref cs, v, h, _ => by simp only [AV.ren] at h; exact h.hole_wref
  | .hole, v, h, _ => by simp only [AV.ren] at h; exact h.hole_any
  | .mark id, v, h, hl => by
    simp only [AV.ren] at h
    simp only [AV.lt] at hl
    obtain ⟨b, hb, hlo⟩ := h.mark_inv
    exact .mark _ _ b (by simp [hl, hb]) hlo
  | .ref cs, v, h, _ => by simp only [AV.ren] at h; obtain ⟨b, off, rfl, hd⟩ := h.ref_inv; exact .d _ _ (.ref _ _ _ hd)
  | .junk, v, _, _ => .junk v
  | .osl p sz es, v, h, hl => by
    simp only [AV.ren] at h
    simp only [AV.lt] at hl
    obtain ⟨hd, v0, n, hp, hle, he⟩ := h.osl_inv
    exact .osl _ _ _ _ v0 n hd (by simp [hl, hp]) hle he
  | .bsl id off sz n cap, v, h, hl => by
    simp only [AV.ren] at h
    simp only [AV.lt] at hl
    obtain ⟨b, rfl, hb, hn, hlo⟩ := h.bsl_inv
    exact .bsl _ _ _ _ _ _ (by simp [hl, hb]) hn hlo
  | .ptr id off, v, h, hl => by
    simp only [AV.ren] at h
    simp only [AV.lt] at hl
    obtain ⟨b, rfl, hb⟩ := h.ptr_inv
    exact .ptr _ _ _ (by simp [hl, hb])
  | .agg cs, v, h, hl => by
    simp only [AV.ren] at h
    simp only [AV.lt] at hl
    obtain ⟨vs, rfl, hr⟩ := h.agg_inv
    exact .agg _ _ (RL.unren hr hl)
  | .tup cs, v, h, hl => by
    simp only [AV.ren] at h
    simp only [AV.lt] at hl
    obtain ⟨vs, rfl, hr⟩ := h.tup_inv
    exact .tup _ _ (RL.unren hr hl)
  | .fn f a b, v, h, hl => by
    simp only [AV.ren] at h
    simp only [AV.lt] at hl
    obtain ⟨f1, c1, rfl, hf, hc⟩ := h.fn_inv
    exact .fn _ _ _ _ _ (RL.unren hf hl.1) (RL.unren hc hl.2)
theorem RL.unren {H : View} {ε : Env} {φ : Nat → Nat} {m : Nat} : ∀ {l : List AV} {vs : List Value}, RL H ε vs (renL φ l) → ltL m l → RL H (fun id => if id < m then ε (φ id) else none) vs l
  | [], vs, h, _ => by simp only [renL] at h; cases h; exact .nil
  | a :: l, vs, h, hl => by
    simp only [renL] at h
    simp only [ltL] at hl
    cases h with | cons v _ vs _ h t => exact .cons _ _ _ _ (R.unren h hl.1) (RL.unren t hl.2)
end

def obF (l : List Ob) : Nat → Option Ob := fun i => (l[i]?).bind Ob.opt
theorem obF_some {l : List Ob} {i : Nat} {x : Ob} (h : obF l i = some x) : l[i]? = some x := by
  unfold obF at h
  cases hq : l[i]? with
  | none => rw [hq] at h; cases h
  | some y => rw [hq] at h; rw [Ob.opt_some h]
theorem obF_lt {l : List Ob} {i : Nat} (h : obF l i ≠ none) : i < l.length := by
  cases hq : l[i]? with
  | none => exact absurd (by unfold obF; rw [hq]; rfl) h
  | some y => exact (List.getElem?_eq_some_iff.1 hq).1

def callCtx (w : World) (H : View) (ε : Env) (m : Nat) : Ctx := { N := 0, w0 := w, H0 := H, E0 := ε, S := fun b => ∃ id, id < m ∧ blkOf (ε id) = some b }

def CSpec (P : Program) (f : FuncId) (args : List AV) (obs : List Ob) (r : AV) (obs' : List Ob) : Prop :=
  ∀ (w : World) (H : View) (ε : Env) (vs : List Value), Mem (callCtx w H ε obs.length) H ε (obF obs) w → RL H ε vs args → (∀ id, obs.length ≤ id → ε id = none) →
    Calls P f vs.toArray w fun e w' => ∃ v H' ε', e = .returned v ∧ H.le H' ∧ ε.le ε' ∧ (∀ id, obs'.length ≤ id → ε' id = none) ∧ R H' ε' v r ∧ Mem (callCtx w H ε obs.length) H' ε' (obF obs') w'

def callφ (ps : List Nat) (nb : Nat) : Nat → Nat := fun k => if h : k < ps.length then ps[k] else nb + (k - ps.length)

theorem callφ_lt {ps : List Nat} {nb k : Nat} (h : k < ps.length) : callφ ps nb k = ps[k] := by simp [callφ, h]
theorem callφ_ge {ps : List Nat} {nb k : Nat} (h : ps.length ≤ k) : callφ ps nb k = nb + (k - ps.length) := by simp [callφ, Nat.not_lt.2 h]

def envBack (ps : List Nat) (nb : Nat) (ε ε' : Env) : Env := fun i => match ps.idxOf? i with
  | some k => ε' k
  | none => if nb ≤ i ∧ i < nb + 16 then ε' (ps.length + (i - nb)) else ε i

theorem nodup_inj {ps : List Nat} (hnd : ps.Nodup) {i j : Nat} (hi : i < ps.length) (hj : j < ps.length) (h : ps[i] = ps[j]) : i = j := by
  have hp := List.pairwise_iff_getElem.1 hnd
  rcases Nat.lt_trichotomy i j with h1 | h1 | h1
  · exact absurd h (hp i j hi hj h1)
  · exact h1
  · exact absurd h.symm (hp j i hj hi h1)
theorem idxOf_get {ps : List Nat} (hnd : ps.Nodup) {k : Nat} (hk : k < ps.length) : ps.idxOf? ps[k] = some k := by
  rw [List.idxOf?_eq_some_iff]
  refine ⟨hk, by simp, fun j hj => ?_⟩
  intro e
  have e' : ps[j] = ps[k] := by simpa using e
  have := nodup_inj hnd (by omega) hk e'
  omega

theorem ObOK.unren {H : View} {ε : Env} {w : World} {φ : Nat → Nat} {m id : Nat} {x : Ob} (h : ObOK H ε w (φ id) (x.ren φ)) (hl : x.lt m) (hid : id < m) : ObOK H (fun i => if i < m then ε (φ i) else none) w id x := by
  cases x with
  | box cs =>
    obtain ⟨b, arr, T, h1, h2, h3, h4, h5⟩ := h
    exact ⟨b, arr, T, by simp [hid, h1], h2, RL.unren h3 hl, h4, h5⟩
  | perm e sz n =>
    obtain ⟨v, xs, h1, h2⟩ := h
    exact ⟨v, xs, by simp [hid, h1], h2⟩
  | raw b o cs =>
    obtain ⟨vs, d, h1, h2, h3, h5⟩ := h
    exact ⟨vs, d, by simp [hid, h1], h2, RL.unren h3 hl, h5⟩
  | gone => exact h.elim
theorem ObOK.reren {H : View} {ε ε' : Env} {w : World} {φ : Nat → Nat} {id : Nat} {x : Ob} (h : ObOK H ε w id x) (hε : ∀ i l, ε i = some l → ε' (φ i) = some l) : ObOK H ε' w (φ id) (x.ren φ) := by
  cases x with
  | box cs =>
    obtain ⟨b, arr, T, h1, h2, h3, h4, h5⟩ := h
    exact ⟨b, arr, T, hε _ _ h1, h2, RL.ren hε h3, h4, h5⟩
  | perm e sz n =>
    obtain ⟨v, xs, h1, h2⟩ := h
    exact ⟨v, xs, hε _ _ h1, h2⟩
  | raw b o cs =>
    obtain ⟨vs, d, h1, h2, h3, h5⟩ := h
    exact ⟨vs, d, hε _ _ h1, h2, RL.ren hε h3, h5⟩
  | gone => exact h.elim

def callWs (φ : Nat → Nat) (obs' : List Ob) : List (Nat × Ob) := obs'.zipIdx.map fun x => (φ x.2, x.1.ren φ)
def obsOK (σ : St) (φ : Nat → Nat) (obs : List Ob) : Prop := ∀ k x, obs[k]? = some x → ObLe (σ.ob (φ k)) (x.ren φ)

theorem wsLook_mem {id : Nat} {x : Ob} : ∀ {ws : List (Nat × Ob)}, wsLook ws id = some x → (id, x) ∈ ws
  | [], h => by cases h
  | y :: ws, h => by
    rw [wsLook_cons] at h
    cases hq : wsLook ws id with
    | some z =>
      rw [hq] at h
      simp at h; subst h
      exact List.mem_cons_of_mem _ (wsLook_mem hq)
    | none =>
      rw [hq] at h
      simp at h
      obtain ⟨h1, h2⟩ := h
      subst h1; subst h2
      exact List.mem_cons_self
theorem wsLook_not {id : Nat} : ∀ {ws : List (Nat × Ob)}, wsLook ws id = none → ∀ y ∈ ws, y.1 ≠ id
  | [], _, y, hy => by cases hy
  | z :: ws, h, y, hy => by
    rw [wsLook_cons] at h
    cases hq : wsLook ws id with
    | some u => rw [hq] at h; simp at h
    | none =>
      rw [hq] at h
      simp at h
      rcases List.mem_cons.1 hy with rfl | hy
      · exact h
      · exact wsLook_not hq y hy

theorem callWs_some {φ : Nat → Nat} {obs' : List Ob} {id : Nat} {x : Ob} (h : wsLook (callWs φ obs') id = some x) : ∃ k y, obs'[k]? = some y ∧ φ k = id ∧ x = y.ren φ := by
  have := wsLook_mem h
  unfold callWs at this
  simp only [List.mem_map] at this
  obtain ⟨⟨y, k⟩, hk, he⟩ := this
  cases he
  exact ⟨k, y, by simpa using List.mem_zipIdx' hk |>.2 ▸ (by simp [(List.mem_zipIdx' hk).1]), rfl, rfl⟩
theorem callWs_none {φ : Nat → Nat} {obs' : List Ob} {id : Nat} (h : wsLook (callWs φ obs') id = none) : ∀ k, k < obs'.length → φ k ≠ id := by
  intro k hk
  refine wsLook_not h (φ k, obs'[k].ren φ) ?_
  unfold callWs
  simp only [List.mem_map]
  exact ⟨(obs'[k], k), by rw [List.mem_zipIdx_iff_getElem?]; simp [hk], rfl⟩

section
variable {P : Program} {nb : Nat} {t : TypeId} {σ : St} {K : Kont}

theorem callV_obj {f : FuncId} {x : Operand} {args : Array Operand} {ts : Array TypeId} {first caps avs args' : List AV} {r : AV} {obs obs' : List Ob} (ps : List Nat) (ho : Own P f) (hs : CSpec P f args' obs r obs') (hm : ps.length = obs.length) (hnd : ps.Nodup)
    (hm1' : obs.length ≤ obs'.length ∧ obs.length ≤ 16) (hm2 : obs'.length ≤ obs.length + 16) (hx : σ.ev x = .fn (.func f) first caps) (he : avs = first ++ args.toList.map σ.ev ++ caps)
    (hle : LeL avs (renL (callφ ps nb) args')) (hlt : ltL obs.length args') (hobs : obsOK σ (callφ ps nb) obs) (hobl : ∀ x ∈ obs, x.lt obs.length)
    (hK : K (r.ren (callφ ps nb)) ps (callWs (callφ ps nb) obs')) : CallV P nb (.call { callee := .value x, args, argTypes := ts }) t f avs σ K := by
  obtain ⟨fn, g1, g2, g3⟩ := ho
  obtain ⟨hm1, hm16⟩ := hm1'
  subst he
  refine ⟨_, _, _, fun σ' hx' hob' => ?_, hK⟩
  intro c H ε a w o hop _ hmem hr hfr next Q hn'
  have e0 : σ'.ev x = σ.ev x := hx' x (by simp [Op.operands, Call.operands])
  have e1 : args.toList.map σ'.ev = args.toList.map σ.ev := List.map_congr_left fun y hy => hx' y (by simp [Op.operands, Call.operands]; exact .inr (by simpa using hy))
  have hxv := R_ev hr x; rw [e0, hx] at hxv
  obtain ⟨f1, c1, hv, hf1, hc1⟩ := hxv.fn_inv
  have hxs : RL H ε (args.toList.map a.eval) (args.toList.map σ.ev) := by
    rw [← e1]
    generalize args.toList = l
    induction l with
    | nil => exact .nil
    | cons y ys ih => exact .cons _ _ _ _ (R_ev hr y) ih
  have hvs := RL.unren (RL.le hle ((hf1.append hxs).append hc1)) hlt
  have hrun : (execOp a.eval o).run P w = .ok (.enter f (f1 ++ args.toList.map a.eval ++ c1).toArray) w := by
    have e2 : args.map a.eval = (args.toList.map a.eval).toArray := by rw [← Array.toList_map, Array.toArray_toList]
    simp [execOp, hop, resolve, hv, Deferred.ofValue, invoke, callFunc_enter g1 g2 g3, e2]
  -- the objects that are handed over
  have hpob : ∀ k y, obs[k]? = some y → ObLe (σ'.ob (callφ ps nb k)) (y.ren (callφ ps nb)) := by
    intro k y hy
    have hk : k < ps.length := by rw [hm]; exact (List.getElem?_eq_some_iff.1 hy).1
    have : σ'.ob (callφ ps nb k) = σ.ob (callφ ps nb k) := by rw [callφ_lt hk]; exact hob' _ (List.getElem_mem hk)
    rw [this]; exact hobs k y hy
  have hpne : ∀ k, k < ps.length → σ'.ob (callφ ps nb k) ≠ none := by
    intro k hk hq
    have hy : obs[k]? = some (obs[k]'(by omega)) := by simp [show k < obs.length by omega]
    have := hpob k _ hy
    rw [hq] at this; exact this
  have hpε : ∀ k, k < ps.length → ∃ l, ε (callφ ps nb k) = some l := by
    intro k hk
    cases hq : σ'.ob (callφ ps nb k) with
    | none => exact absurd hq (hpne k hk)
    | some y =>
      have := hmem.objs _ y hq
      cases y with
      | box cs => obtain ⟨b, _, _, h1, _⟩ := this; exact ⟨_, h1⟩
      | perm e sz n => obtain ⟨v, _, h1, _⟩ := this; exact ⟨_, h1⟩
      | raw b o cs => obtain ⟨_, _, h1, _⟩ := this; exact ⟨_, h1⟩
      | gone => exact this.elim
  have hpin : ∀ i, i ∈ ps → ∃ l, ε i = some l := by
    intro i hi
    obtain ⟨k, hk, rfl⟩ := List.mem_iff_getElem.1 hi
    have := hpε k hk
    rwa [callφ_lt hk] at this
  have hφinj : ∀ i j, i < ps.length → j < ps.length → i ≠ j → callφ ps nb i ≠ callφ ps nb j := by
    intro i j hi hj hij
    rw [callφ_lt hi, callφ_lt hj]
    exact fun e => hij (nodup_inj hnd hi hj e)
  let εc : Env := fun id => if id < obs.length then ε (callφ ps nb id) else none
  have hεc : ∀ k, k < ps.length → εc k = ε (callφ ps nb k) := fun k hk => by simp only [εc]; rw [if_pos (by omega)]
  have hmc : Mem (callCtx w H εc obs.length) H εc (obF obs) w := by
    refine ⟨hmem.view, fun id y hy => ?_, fun i j hi hj hij b hb => ?_, fun id hid b hb => ?_, rfl, rfl, rfl, Nat.le_refl _, fun _ _ _ _ => rfl, View.le_refl H, fun _ _ _ _ _ => rfl, Env.le_refl _, fun id hid => by show εc id = none; simp only [εc]; rw [if_neg (by omega)], fun b o hb => View.unseen hmem.view hb, hmem.lo, fun b o v h hz => by
      rcases hz with hz | ⟨i, hi, hb⟩ | hz
      · exact absurd (View.lt hmem.view h) (Nat.not_lt.2 hz)
      · have hil : i < ps.length := by omega
        rw [hεc i hil] at hb
        rcases hmem.own _ (hpne i hil) b hb with h' | h'
        · exact hmem.fz b o v h (.inl h')
        · exact hmem.fz b o v h (.inr (.inl h'.1))
      · exact hmem.fz b o v h (.inr (.inr hz)), fun b o h => ⟨(hmem.wr b o h).1, (hmem.wr b o h).2.1, fun i hi hb => by
      have hil : i < ps.length := by rw [hm]; exact obF_lt hi
      rw [hεc i hil] at hb
      exact (hmem.wr b o h).2.2 _ (hpne i hil) hb⟩⟩
    · have hy := obF_some hy
      have hid : id < obs.length := (List.getElem?_eq_some_iff.1 hy).1
      exact ObOK.unren ((hpob id y hy).ok fun z hz => hmem.objs _ z hz) (hobl y (List.mem_of_getElem? hy)) hid
    · have hil : i < ps.length := by rw [hm]; exact obF_lt hi
      have hjl : j < ps.length := by rw [hm]; exact obF_lt hj
      rw [hεc i hil] at hb
      rw [hεc j hjl]
      exact hmem.dj _ _ (hpne i hil) (hpne j hjl) (hφinj i j hil hjl hij) b hb
    · exact .inr ⟨⟨id, obF_lt hid, hb⟩, hb⟩
  refine wpIn_of_wp (fun c hc => by rw [hop] at hc; cases hc) ?_
  unfold Oper.wp
  rw [hrun, Oper.upon_enter]
  refine (hs w H εc _ hmc hvs (fun id hid => by simp only [εc]; rw [if_neg (by omega)])).mono fun e w' ⟨v, H', ε', he, hH, hε, hdom, hR, hm'⟩ => ?_
  subst he
  -- numbers there and back
  have hnew : ∀ k, ps.length ≤ k → k < obs'.length → ps.idxOf? (callφ ps nb k) = none := by
    intro k h1 h2
    rw [callφ_ge h1]
    cases hq : ps.idxOf? (nb + (k - ps.length)) with
    | none => rfl
    | some j =>
      obtain ⟨hj, he, _⟩ := List.idxOf?_eq_some_iff.1 hq
      have he' : ps[j] = nb + (k - ps.length) := by simpa using he
      obtain ⟨l, hl⟩ := hpin ps[j] (List.getElem_mem hj)
      rw [he', hfr _ (by omega) (by omega)] at hl
      cases hl
  have hback : ∀ k, k < obs'.length → envBack ps nb ε ε' (callφ ps nb k) = ε' k := by
    intro k hk
    by_cases h1 : k < ps.length
    · unfold envBack
      rw [callφ_lt h1, idxOf_get hnd h1]
    · unfold envBack
      rw [hnew k (by omega) hk, callφ_ge (by omega)]
      simp only
      rw [if_pos ⟨by omega, by omega⟩]
      congr 1
      omega
  have hrenε : ∀ i l, ε' i = some l → envBack ps nb ε ε' (callφ ps nb i) = some l := by
    intro i l hl
    rcases Nat.lt_or_ge i obs'.length with h | h
    · rw [hback i h]; exact hl
    · rw [hdom i h] at hl; cases hl
  have hout : ∀ i, i ∉ ps → ¬ (nb ≤ i ∧ i < nb + 16) → envBack ps nb ε ε' i = ε i := by
    intro i h1 h2
    unfold envBack
    rw [List.idxOf?_eq_none_iff.2 h1]
    simp only
    rw [if_neg h2]
  have hεle : ε.le (envBack ps nb ε ε') := by
    intro i l hl
    by_cases h1 : i ∈ ps
    · obtain ⟨k, hk, rfl⟩ := List.mem_iff_getElem.1 h1
      have h2 : εc k = some l := by rw [hεc k hk, callφ_lt hk]; exact hl
      have h3 := hε k l h2
      have h4 : envBack ps nb ε ε' ps[k] = ε' k := by have := hback k (by omega); rwa [callφ_lt hk] at this
      cases l with
      | blk b => simp only at h3 ⊢; rw [h4]; exact h3
      | row v0 n0 => simp only at h3 ⊢; rw [h4]; exact h3
    · have h2 : ¬ (nb ≤ i ∧ i < nb + 16) := fun ⟨a1, a2⟩ => by rw [hfr i a1 a2] at hl; cases hl
      have h3 := hout i h1 h2
      cases l with
      | blk b => simp only; rw [h3]; exact hl
      | row v0 n0 => exact ⟨v0, n0, by rw [h3]; exact hl, Nat.le_refl _, fun _ => rfl⟩
  -- what the callee may turn is what it was handed
  have hS : ∀ b, (callCtx w H εc obs.length).S b → ∃ k, k < ps.length ∧ blkOf (ε (callφ ps nb k)) = some b := by
    rintro b ⟨k, hk, hb⟩
    refine ⟨k, by omega, ?_⟩
    rw [hεc k (by omega)] at hb
    exact hb
  have hold' : ∀ i y, wsLook (callWs (callφ ps nb) obs') i = none → σ'.ob i = some y → i ∉ ps ∧ envBack ps nb ε ε' i = ε i ∧ ∀ b, blkOf (ε i) = some b → b < w.heap.size ∧ ¬ (callCtx w H εc obs.length).S b := by
    intro i y hw hy
    have h1 : i ∉ ps := by
      intro h
      obtain ⟨k, hk, rfl⟩ := List.mem_iff_getElem.1 h
      have := callWs_none hw k (by omega)
      rw [callφ_lt hk] at this
      exact this rfl
    have hne : σ'.ob i ≠ none := by rw [hy]; simp
    have h2 : ¬ (nb ≤ i ∧ i < nb + 16) := by
      rintro ⟨a1, a2⟩
      have := hmem.objs i y hy
      cases y with
      | box cs => obtain ⟨b, _, _, q, _⟩ := this; rw [hfr i a1 a2] at q; cases q
      | perm e sz n => obtain ⟨v, _, q, _⟩ := this; rw [hfr i a1 a2] at q; cases q
      | raw b o cs => obtain ⟨_, _, q, _⟩ := this; rw [hfr i a1 a2] at q; cases q
      | gone => exact this.elim
    refine ⟨h1, hout i h1 h2, fun b hb => ⟨hmem.blk_lt hne hb, fun hsb => ?_⟩⟩
    obtain ⟨k, hk, hbk⟩ := hS b hsb
    refine hmem.dj i _ hne (hpne k hk) ?_ b hb hbk
    intro e
    rw [callφ_lt hk] at e
    exact h1 (e ▸ List.getElem_mem hk)
  have hcases : ∀ i, applyW σ'.ob (callWs (callφ ps nb) obs') i ≠ none → (∃ k y, obs'[k]? = some y ∧ callφ ps nb k = i ∧ k < obs'.length ∧ obF obs' k ≠ none) ∨ (wsLook (callWs (callφ ps nb) obs') i = none ∧ ∃ y, σ'.ob i = some y) := by
    intro i hi
    rw [applyW_get] at hi
    unfold wsAt at hi
    cases hq : wsLook (callWs (callφ ps nb) obs') i with
    | some z =>
      obtain ⟨k, y, h1, h2, h3⟩ := callWs_some hq
      rw [hq] at hi
      refine .inl ⟨k, y, h1, h2, (List.getElem?_eq_some_iff.1 h1).1, ?_⟩
      unfold obF
      rw [h1]
      subst h3
      cases y <;> first | exact fun _ => hi rfl | (intro e; cases e)
    | none =>
      rw [hq] at hi
      cases hy : σ'.ob i with
      | none => rw [hy] at hi; exact absurd rfl hi
      | some y => exact .inr ⟨rfl, y, rfl⟩
  refine hn' v w' H' (envBack ps nb ε ε') hH hεle ?_ (R.ren hrenε hR) ?_
  · intro i h1 h2
    by_cases h3 : i ∈ ps
    · obtain ⟨l, hl⟩ := hpin i h3
      rw [h1] at hl; cases hl
    · rw [hout i h3 h2]; exact h1
  · refine ⟨hm'.view, fun i y hy => ?_, fun i j hi hj hij b hb hb' => ?_, fun i hi b hb => ?_, hm'.os.trans hmem.os, hm'.tape.trans hmem.tape, hm'.output.trans hmem.output, Nat.le_trans hmem.size hm'.size, fun k hk hSk hzk => ?_, View.le_trans hmem.hle hm'.hle, fun b o hb hSb hzb => ?_, Env.le_trans hmem.ele hεle, hmem.low, hmem.top, hm'.lo, fun b o v h hz => ?_, fun b o h => ⟨(hm'.wr b o h).1, (hm'.wr b o h).2.1, fun i hi hb => ?_⟩⟩
    · rw [applyW_get] at hy
      unfold wsAt at hy
      cases hq : wsLook (callWs (callφ ps nb) obs') i with
      | some z =>
        rw [hq] at hy
        obtain ⟨k, u, h1, rfl, rfl⟩ := callWs_some hq
        have hz := Ob.opt_some hy
        subst hz
        refine (hm'.objs k u ?_).reren hrenε
        unfold obF
        rw [h1]
        cases u <;> first | rfl | cases hy
      | none =>
        rw [hq] at hy
        simp only at hy
        obtain ⟨h1, h2, h3⟩ := hold' i y hq hy
        exact (hmem.objs i y hy).ext hH hεle h2 (fun b hb => hm'.block b (h3 b hb).1 (h3 b hb).2 (fun hz => by obtain ⟨o, hz⟩ := hH.wb.1 hz; exact (hmem.wr b o hz).2.2 i (by rw [hy]; simp) hb)) (fun b hb o => hm'.hold b o (h3 b hb).1 (h3 b hb).2 (fun hz => by obtain ⟨o, hz⟩ := hH.wb.1 hz; exact (hmem.wr b o hz).2.2 i (by rw [hy]; simp) hb))
    · rcases hcases i hi with ⟨k, y, h1, rfl, h2, hnk⟩ | ⟨h1, y, h2⟩
      · rw [hback k h2] at hb
        rcases hcases j hj with ⟨k', y', h1', rfl, h2', hnk'⟩ | ⟨h1', y', h2'⟩
        · rw [hback k' h2'] at hb'
          exact hm'.dj k k' hnk hnk' (fun e => hij (by rw [e])) b hb hb'
        · obtain ⟨q1, q2, q3⟩ := hold' j y' h1' h2'
          rw [q2] at hb'
          obtain ⟨q4, q5⟩ := q3 b hb'
          rcases hm'.own k hnk b hb with h | h
          · have : w.heap.size ≤ b := h
            omega
          · exact q5 h.1
      · obtain ⟨q1, q2, q3⟩ := hold' i y h1 h2
        rw [q2] at hb
        obtain ⟨q4, q5⟩ := q3 b hb
        rcases hcases j hj with ⟨k', y', h1', rfl, h2', hnk'⟩ | ⟨h1', y', h2'⟩
        · rw [hback k' h2'] at hb'
          rcases hm'.own k' hnk' b hb' with h | h
          · have : w.heap.size ≤ b := h
            omega
          · exact q5 h.1
        · obtain ⟨_, q2', _⟩ := hold' j y' h1' h2'
          rw [q2'] at hb'
          exact hmem.dj i j (by rw [h2]; simp) (by rw [h2']; simp) hij b hb hb'
    · rcases hcases i hi with ⟨k, y, h1, rfl, h2, hnk⟩ | ⟨h1, y, h2⟩
      · rw [hback k h2] at hb
        rcases hm'.own k hnk b hb with h | h
        · exact .inl (Nat.le_trans hmem.size h)
        · by_cases hk : k < ps.length
          · exact hmem.own _ (hpne k hk) b (by rw [← hεc k hk]; exact h.2)
          · have h2 := h.2
            have e : (callCtx w H εc obs.length).E0 k = none := by show εc k = none; simp only [εc]; rw [if_neg (by omega)]
            rw [e] at h2; cases h2
      · obtain ⟨q1, q2, q3⟩ := hold' i y h1 h2
        rw [q2] at hb
        exact hmem.own i (by rw [h2]; simp) b hb
    · have hk' : k < w.heap.size := Nat.lt_of_lt_of_le hk hmem.size
      rw [hm'.block k hk' (fun h => by
        obtain ⟨k0, hk0, hb0⟩ := hS k h
        rcases hmem.own _ (hpne k0 hk0) k hb0 with h | h
        · omega
        · exact hSk h.1) hzk]
      exact hmem.block k hk hSk (fun h => hzk (hH.wb.2 h))
    · have hb' : b < w.heap.size := Nat.lt_of_lt_of_le hb hmem.size
      rw [hm'.hold b o hb' (fun h => by
        obtain ⟨k0, hk0, hb0⟩ := hS b h
        rcases hmem.own _ (hpne k0 hk0) b hb0 with h | h
        · omega
        · exact hSb h.1) hzb]
      exact hmem.hold b o hb hSb (fun h => hzb (hH.wb.2 h))
    · by_cases hzb : H'.wb b
      · exact hm'.fz b o v h (.inr (.inr hzb))
      · by_cases hSb : (callCtx w H εc obs.length).S b
        · exact hm'.fz b o v h (.inr (.inl hSb))
        · rcases Nat.lt_or_ge b w.heap.size with hb | hb
          · rw [frozen_same (hm'.block b hb hSb hzb)]
            exact hmem.fz b o v ((hm'.hold b o hb hSb hzb).symm.trans h) (hz.imp_right (Or.imp_right hH.wb.1))
          · exact hm'.fz b o v h (.inl hb)
    · rcases hcases i hi with ⟨k, y, h1, rfl, h2, hnk⟩ | ⟨h1, y, h2⟩
      · rw [hback k h2] at hb
        exact (hm'.wr b o h).2.2 k hnk hb
      · obtain ⟨q1, q2, q3⟩ := hold' i y h1 h2
        rw [q2] at hb
        exact (hmem.wr b o (by rw [← hH.wr]; exact h)).2.2 i (by rw [h2]; simp) hb
end
end Go.Sy
end
section
set_option linter.unusedVariables false
namespace Go.Sy

def oneAV : List AV → AV
  | [a] => a
  | l => .tup l

def backN (m : Nat) (new : List Nat) : Nat → Nat := fun k => if k < m then k else new.getD (k - m) 0

def obsBack (σ : St) (φ : Nat → Nat) : List Ob → Nat → Prop
  | [], _ => True
  | x :: l, k => ObLe (σ.ob (φ k)) (x.ren φ) ∧ obsBack σ φ l (k + 1)
def ObLeG (o : Option Ob) : Ob → Prop
  | .gone => True
  | .box cs => ObLe o (.box cs)
  | .perm e sz n => ObLe o (.perm e sz n)
  | .raw b q cs => ObLe o (.raw b q cs)
def obsRet (σ : St) (φ : Nat → Nat) : List Ob → Nat → Prop
  | [], _ => True
  | x :: l, k => ObLeG (σ.ob (φ k)) (x.ren φ) ∧ obsRet σ φ l (k + 1)
theorem obsRet_get {σ : St} {φ : Nat → Nat} : ∀ {l : List Ob} {k j : Nat} {x : Ob}, obsRet σ φ l k → l[j]? = some x → ObLeG (σ.ob (φ (k + j))) (x.ren φ)
  | y :: l, k, j, x, h, hx => by
    simp only [obsRet] at h
    cases j with
    | zero => simp at hx; subst hx; exact h.1
    | succ j =>
      have := obsRet_get (j := j) h.2 (by simpa using hx)
      rwa [show k + 1 + j = k + (j + 1) by omega] at this
def ltO (n : Nat) : List Ob → Prop
  | [] => True
  | x :: l => x.lt n ∧ ltO n l

def retVO (P : Program) (rs : List ResultVar) (m : Nat) (r : AV) (obs' : List Ob) (σ : St) (new : List Nat) : Prop :=
  m + new.length = obs'.length ∧ (∀ k ∈ new, m ≤ k) ∧ new.Nodup ∧ (match resL P σ rs with | some l => Le (oneAV l) (r.ren (backN m new)) | none => False) ∧ obsRet σ (backN m new) obs' 0 ∧ r.lt obs'.length ∧ ltO obs'.length obs'
def retO (P : Program) (rs : List ResultVar) (m : Nat) (r : AV) (obs' : List Ob) : Exit → St → Prop
  | .normal, σ | .ret, σ => ∃ new, retVO P rs m r obs' σ new
  | _, _ => False

theorem obsBack_get {σ : St} {φ : Nat → Nat} : ∀ {l : List Ob} {k j : Nat} {x : Ob}, obsBack σ φ l k → l[j]? = some x → ObLe (σ.ob (φ (k + j))) (x.ren φ)
  | y :: l, k, j, x, h, hx => by
    simp only [obsBack] at h
    cases j with
    | zero => simp at hx; subst hx; exact h.1
    | succ j =>
      have := obsBack_get (j := j) h.2 (by simpa using hx)
      rwa [show k + 1 + j = k + (j + 1) by omega] at this
theorem ltO_get {n : Nat} : ∀ {l : List Ob} {j : Nat} {x : Ob}, ltO n l → l[j]? = some x → x.lt n
  | y :: l, j, x, h, hx => by
    simp only [ltO] at h
    cases j with
    | zero => simp at hx; subst hx; exact h.1
    | succ j => exact ltO_get (j := j) h.2 (by simpa using hx)

def St.startO (args : List AV) (obs : List Ob) : St := { tm := fun i => args.getD i (.tup []), ob := obF obs, nx := obs.length }

theorem back_own {w : World} {H : View} {ε : Env} {m m' : Nat} {new : List Nat} {i b : Nat} (hdom : ∀ id, m ≤ id → ε id = none) (h1 : m + new.length = m') (h2 : ∀ k ∈ new, m ≤ k) (hi : i < m')
    (h : (callCtx w H ε m).w0.heap.size ≤ b ∨ ((callCtx w H ε m).S b ∧ blkOf ((callCtx w H ε m).E0 (backN m new i)) = some b)) : (callCtx w H ε m).w0.heap.size ≤ b ∨ ((callCtx w H ε m).S b ∧ blkOf ((callCtx w H ε m).E0 i) = some b) := by
  rcases h with h | ⟨h, h'⟩
  · exact .inl h
  · by_cases hc : i < m
    · rw [show backN m new i = i by simp [backN, hc]] at h'; exact .inr ⟨h, h'⟩
    · have hk : i - m < new.length := by omega
      have e : backN m new i = new[i - m] := by simp [backN, hc, List.getD_eq_getElem?_getD, hk]
      have := hdom _ (h2 _ (List.getElem_mem hk))
      rw [e] at h'
      have h'' : blkOf (ε new[i - m]) = some b := h'
      rw [this] at h''; cases h''

theorem cspec_of_tri {P : Program} {f : FuncId} {fn : Func} {code : Code} {args : List AV} {obs obs' : List Ob} {r : AV} {N : Nat} (hf : P.funcs[f]? = some fn) (hb : fn.body = some code) (hN : fn.ntmps = N) (hn : args.length ≤ N)
    (h : Tri P N code (St.startO args obs) (retO P fn.results.toList obs.length r obs')) : CSpec P f args obs r obs' := by
  intro w H ε vs hm hvs hdom
  refine calls_of_wp hf hb ?_
  refine (wpIn_wide (n := 0)).1 ?_
  let c : Ctx := { callCtx w H ε obs.length with N := N }
  have hlen : vs.length = args.length := hvs.length_eq
  have hmc : ∀ {H' : View} {ε' : Env} {ob : Nat → Option Ob} {w' : World}, Mem (callCtx w H ε obs.length) H' ε' ob w' ↔ Mem c H' ε' ob w' := by
    intro H' ε' ob w'
    exact ⟨fun h => ⟨h.view, h.objs, h.dj, h.own, h.os, h.tape, h.output, h.size, h.block, h.hle, h.hold, h.ele, h.low, h.top, h.lo, h.fz, h.wr⟩, fun h => ⟨h.view, h.objs, h.dj, h.own, h.os, h.tape, h.output, h.size, h.block, h.hle, h.hold, h.ele, h.low, h.top, h.lo, h.fz, h.wr⟩⟩
  have hinv : Inv c H ε (St.startO args obs) { tmps := vs.toArray ++ Array.replicate (fn.ntmps - vs.toArray.size) undef, defers := [] } w := by
    refine ⟨by simp [c, hN, hlen]; omega, rfl, fun i => ?_, hmc.1 hm, hdom⟩
    have := R_start hvs i
    have e : (vs.toArray ++ Array.replicate (fn.ntmps - vs.toArray.size) undef).getD i undef = vs.getD i undef := by
      rw [Array.getD_eq_getD_getElem?, Array.getElem?_append]
      simp only [List.size_toArray, List.getElem?_toArray, List.getD_eq_getElem?_getD]
      split
      · rfl
      · rename_i hi
        rw [List.getElem?_eq_none (by omega), Array.getElem?_replicate]
        split <;> rfl
    rw [e]; exact this
  have fin : ∀ σ' H' ε' a' w', (∃ new, retVO P fn.results.toList obs.length r obs' σ' new) → Inv c H' ε' σ' a' w' → ∃ v, (results fn a'.tmps).run P w' = .ok v w' ∧
      (∃ v' H' ε', Ending.returned v = .returned v' ∧ H.le H' ∧ ε.le ε' ∧ (∀ id, obs'.length ≤ id → ε' id = none) ∧ R H' ε' v' r ∧ Mem (callCtx w H ε obs.length) H' ε' (obF obs') w') := by
    rintro σ' H' ε' a' w' ⟨new, h1, h2, h3, h4, h5, h6, h7⟩ hi
    split at h4
    · rename_i l hl
      obtain ⟨vs', q1, q2⟩ := res_run hi hl
      have hv : ∃ v, (results fn a'.tmps).run P w' = .ok v w' ∧ R H' ε' v (oneAV l) := by
        rw [results_eq]
        simp only [Sem.run_bind, q1, Result.andThen_ok, Sem.run_pure]
        match l, vs', q2 with
        | [], _, q2 => cases q2; exact ⟨_, rfl, .tup _ _ .nil⟩
        | [b], _, q2 => cases q2 with | cons v _ _ _ q3 q4 => cases q4; exact ⟨_, rfl, q3⟩
        | _ :: _ :: _, _ :: _ :: _, q2 => exact ⟨_, rfl, .tup _ _ q2⟩
      obtain ⟨v, hv1, hv2⟩ := hv
      refine ⟨v, hv1, v, H', fun id => if id < obs'.length then ε' (backN obs.length new id) else none, rfl, hi.mem.hle, ?_, fun id hid => if_neg (by omega), R.unren (R.le h4 hv2) h6, ?_⟩
      · intro id l hl
        have hid : id < obs.length := by
          rcases Nat.lt_or_ge id obs.length with h | h
          · exact h
          · rw [hdom id h] at hl; cases hl
        have hid' : id < obs'.length := by omega
        have he := hi.mem.ele id l hl
        have hb' : backN obs.length new id = id := by simp [backN, hid]
        cases l with
        | blk b => simp only at he ⊢; rw [if_pos hid', hb']; exact he
        | row v n => simp only at he ⊢; rw [if_pos hid', hb']; exact he
      · have hinj : ∀ i j, i < obs'.length → j < obs'.length → i ≠ j → backN obs.length new i ≠ backN obs.length new j := by
          intro i j hi' hj' hij
          have hget : ∀ k, obs.length ≤ k → k < obs'.length → ∃ hk : k - obs.length < new.length, backN obs.length new k = new[k - obs.length] := by
            intro k k1 k2
            have hk : k - obs.length < new.length := by omega
            exact ⟨hk, by simp [backN, Nat.not_lt.2 k1, List.getD_eq_getElem?_getD, hk]⟩
          by_cases c1 : i < obs.length
          · have e1 : backN obs.length new i = i := by simp [backN, c1]
            by_cases c2 : j < obs.length
            · have e2 : backN obs.length new j = j := by simp [backN, c2]
              rw [e1, e2]; exact hij
            · obtain ⟨hk, e2⟩ := hget j (by omega) hj'
              rw [e1, e2]
              have := h2 new[j - obs.length] (List.getElem_mem hk)
              omega
          · obtain ⟨hk1, e1⟩ := hget i (by omega) hi'
            by_cases c2 : j < obs.length
            · have e2 : backN obs.length new j = j := by simp [backN, c2]
              rw [e1, e2]
              have := h2 new[i - obs.length] (List.getElem_mem hk1)
              omega
            · obtain ⟨hk2, e2⟩ := hget j (by omega) hj'
              rw [e1, e2]
              intro e
              have := nodup_inj h3 hk1 hk2 e
              omega
        have hob : ∀ k y, obF obs' k = some y → ObLe (σ'.ob (backN obs.length new k)) (y.ren (backN obs.length new)) := by
          intro k y hy
          have h5 := obsRet_get h5 (obF_some hy)
          rw [Nat.zero_add] at h5
          cases y with
          | box cs => exact h5
          | perm e sz n => exact h5
          | raw b q cs => exact h5
          | gone =>
            unfold obF at hy
            rw [obF_some hy] at hy; cases hy
        have hlt' : ∀ k y, obF obs' k = some y → k < obs'.length := fun k y hy => obF_lt (by rw [hy]; simp)
        have hne : ∀ k, obF obs' k ≠ none → k < obs'.length ∧ σ'.ob (backN obs.length new k) ≠ none := by
          intro k hk
          cases hq : obF obs' k with
          | none => exact absurd hq hk
          | some y =>
            refine ⟨hlt' k y hq, fun e => ?_⟩
            have := hob k y hq
            rw [e] at this; exact this
        have hi' := hmc.2 hi.mem
        exact { hi' with
          objs := fun k y hy => ObOK.unren ((hob k y hy).ok fun z hz => hi.mem.objs _ z hz) (ltO_get h7 (obF_some hy)) (hlt' k y hy)
          dj := fun i j hi1 hj1 hij b hb1 => by
            obtain ⟨l1, n1⟩ := hne i hi1
            obtain ⟨l2, n2⟩ := hne j hj1
            simp only [l1, l2, if_true] at hb1 ⊢
            exact hi.mem.dj _ _ n1 n2 (hinj i j l1 l2 hij) b hb1
          own := fun i hi1 b hb1 => by
            obtain ⟨l1, n1⟩ := hne i hi1
            simp only [l1, if_true] at hb1
            exact back_own hdom h1 h2 l1 (hi'.own _ n1 b hb1)
          wr := fun b o hw => ⟨(hi'.wr b o hw).1, (hi'.wr b o hw).2.1, fun i hi1 hb1 => by
            obtain ⟨l1, n1⟩ := hne i hi1
            simp only [l1, if_true] at hb1
            exact (hi.mem.wr b o hw).2.2 _ n1 hb1⟩
          ele := by
            intro id l hl
            have hl' : ε id = some l := hl
            have hid : id < obs.length := by
              rcases Nat.lt_or_ge id obs.length with h | h
              · exact h
              · rw [hdom id h] at hl'; cases hl'
            have hid' : id < obs'.length := by omega
            have he := hi.mem.ele id l hl
            have hb' : backN obs.length new id = id := by simp [backN, hid]
            cases l with
            | blk b => simp only at he ⊢; rw [if_pos hid', hb']; exact he
            | row v n => simp only at he ⊢; rw [if_pos hid', hb']; exact he }
    · exact h4.elim
  refine h c H ε _ w rfl hinv _ fun e σ' H' ε' a' w' hK hi => ?_
  cases e with
  | normal => exact ⟨hi.df, fin σ' H' ε' a' w' hK hi⟩
  | ret => exact ⟨hi.df, fin σ' H' ε' a' w' hK hi⟩
  | exit id => exact hK.elim
  | goto l => exact hK.elim
  | panic ch => exact hK.elim
  | outgrown => exact hK.elim
end Go.Sy
end
section
set_option linter.unusedVariables false
namespace Go.Sy

def Later (P : Program) (N : Nat) (y : Code) (K : Exit → St → Prop) (σ : St) : Prop := Tri P N y σ K
@[congr] theorem later_congr (P : Program) (N : Nat) (y : Code) (K : Exit → St → Prop) {σ σ' : St} (h : σ = σ') : Later P N y K σ = Later P N y K σ' := by rw [h]
def Out (K : Exit → St → Prop) (e : Exit) (σ : St) : Prop := K e σ
@[congr] theorem out_congr (K : Exit → St → Prop) (e : Exit) {σ σ' : St} (h : σ = σ') : Out K e σ = Out K e σ' := by rw [h]
theorem out_iff (K : Exit → St → Prop) (e : Exit) (σ : St) : Out K e σ = K e σ := rfl

section
variable {P : Program} {N : Nat} {σ : St} {K : Exit → St → Prop} {id : Nat} {ops : Array Oper} {x y : Code}

theorem qz0 (h : Tri P N y σ K) : Later P N y K σ := h
theorem go_reg (hN : dstOK N ops = true) (h : ∀ K1 : St → Prop, (∀ σ', Later P N y K σ' → K1 σ') → regVC P ops σ.nx ops.toList 0 σ K1) : Tri P N (.seq (.region id ops false) y) σ K := tri_seq (tri_region hN (h (Later P N y K) fun _ h => h))
theorem go_reg_end (hN : dstOK N ops = true) (h : ∀ K1 : St → Prop, (∀ σ', Out K .normal σ' → K1 σ') → regVC P ops σ.nx ops.toList 0 σ K1) : Tri P N (.region id ops false) σ K := tri_region hN (h (Out K .normal) fun _ h => h)
theorem go_seq (h : Tri P N x σ (SeqK P N y K)) : Tri P N (.seq x y) σ K := tri_seq h
theorem qz3 (h : Tri P N x σ (BlockK id K)) : Tri P N (.block id x) σ K := tri_block h
theorem go_cond {o : Operand} {b : Bool} (hb : σ.ev o = .s (.bool b)) (ht : b = true → Tri P N x σ K) (hf : b = false → Tri P N y σ K) : Tri P N (.cond o x y) σ K := tri_cond (by rw [hb]; exact ⟨ht, hf⟩)
theorem qz2 (h : Out K .normal σ) : Tri P N .skip σ K := tri_skip h
theorem qz1 (h : Out K .ret σ) : Tri P N .ret σ K := tri_ret h
theorem qz4 (h : Out K (.exit id) σ) : Tri P N (.exit id) σ K := tri_exit h

theorem qz6 (h : Tri P N y σ K) : Out (SeqK P N y K) .normal σ := h
theorem qz5 (h : Out K .ret σ) : Out (SeqK P N y K) .ret σ := h
theorem qz7 (h : Out K (.exit id) σ) : Out (SeqK P N y K) (.exit id) σ := h
theorem qz9 (h : Out K .normal σ) : Out (BlockK id K) .normal σ := h
theorem qz8 (h : Out K .ret σ) : Out (BlockK id K) .ret σ := h
theorem qza (h : Out K .normal σ) : Out (BlockK id K) (.exit id) σ := by show BlockK id K (.exit id) σ; simp only [BlockK, if_true]; exact h
theorem out_block_there {id' : Nat} (hne : (id' == id) = false) (h : Out K (.exit id') σ) : Out (BlockK id K) (.exit id') σ := by
  show BlockK id K (.exit id') σ
  have : id' ≠ id := by simpa using hne
  simp only [BlockK, if_neg this]; exact h
section
variable {X : Type} {σ0 : St} {W : List Nat} {S : X → List (Nat × AV)} {B : X → List (Nat × Ob)} {rel : X → Prop} {m : Nat} {μ : X → Nat}
theorem qzb (h : Out K .ret σ) : Out (LoopK σ0 W S B rel m μ K) .ret σ := h
theorem qzc (h : Out K (.exit id) σ) : Out (LoopK σ0 W S B rel m μ K) (.exit id) σ := h
theorem out_loop (x' : X) (h1 : rel x') (h2 : μ x' < m) (h3 : Back σ0 σ W (S x') (B x')) : Out (LoopK σ0 W S B rel m μ K) .normal σ := ⟨x', h1, h2, h3⟩
end
theorem go_cut {X : Type} (W : List Nat) (S : X → List (Nat × AV)) (B : X → List (Nat × Ob)) (rel : X → Prop) (h1 : Tri P N x σ (LoopK σ W S B rel 1 (fun _ => 0) K)) (h2 : ∀ z, rel z → Tri P N y (σ.head W (S z) (B z)) K) : Tri P N (.seq x y) σ K := fun c H ε a w hc hi Q hQ => by
  have hlt : ∀ i, (σ.tm i).lt σ.nx := fun i => R.lt hi.dom (hi.tm i)
  have hltB : ∀ i x, σ.ob i = some x → i < σ.nx ∧ x.lt σ.nx := fun i x hx => by
    have := hi.mem.objs i x hx
    have hi' : ∀ l, ε i = some l → i < σ.nx := fun l hl => by
      rcases Nat.lt_or_ge i σ.nx with h | h
      · exact h
      · rw [hi.dom i h] at hl; cases hl
    cases x with
    | box cs =>
      obtain ⟨b, arr, T, q1, q2, q3, _⟩ := this
      exact ⟨hi' _ q1, RL.lt hi.dom q3⟩
    | perm e sz n =>
      obtain ⟨v, xs, q1, _⟩ := this
      exact ⟨hi' _ q1, trivial⟩
    | raw b o cs =>
      obtain ⟨_, _, q1, _, q3, _⟩ := this
      exact ⟨hi' _ q1, RL.lt hi.dom q3⟩
    | gone => exact this.elim
  have hele : ∀ id l, c.E0 id = some l → id < σ.nx := fun id l hl => by
    have h1 := hi.mem.ele id l hl
    rcases Nat.lt_or_ge id σ.nx with h | h
    · exact h
    · have h2 := hi.dom id h
      cases l with
      | blk b => simp only at h1; rw [h2] at h1; cases h1
      | row v n => obtain ⟨_, _, h3, _⟩ := h1; rw [h2] at h3; cases h3
  refine wpIn_seq (h1 c H ε a w hc hi _ fun e σ' H' ε' a' w' hK hi' => ?_)
  cases e with
  | normal =>
    obtain ⟨z, q1, _, q3⟩ := hK
    exact h2 z q1 c H' _ a' w' hc (q3.inv hi' hlt hltB hele) Q hQ
  | exit id => exact hQ _ σ' H' ε' a' w' hK hi'
  | goto l => exact hQ _ σ' H' ε' a' w' hK hi'
  | ret => exact hQ _ σ' H' ε' a' w' hK hi'
  | panic ch => exact hQ _ σ' H' ε' a' w' hK hi'
  | outgrown => exact hQ _ σ' H' ε' a' w' hK hi'

theorem keepTm_upd {W : List Nat} {tm tm0 : Nat → AV} {d : Nat} {r : AV} (hd : W.contains d = true) (h : KeepTm W tm tm0) : KeepTm W (upd tm d r) tm0 := fun i hi => by
  unfold upd
  rw [if_neg (fun e => by subst e; rw [hd] at hi; cases hi)]
  exact h i hi
theorem head_tm (σ : St) (W : List Nat) (S : List (Nat × AV)) (B : List (Nat × Ob)) (i : Nat) : (σ.head W S B).tm i = (match S.lookup i with | some v => v | none => if W.contains i then .junk else σ.tm i) := rfl
theorem head_ob (σ : St) (W : List Nat) (S : List (Nat × AV)) (B : List (Nat × Ob)) (i : Nat) : (σ.head W S B).ob i = (match B.lookup i with | some x => some x | none => σ.ob i) := rfl
theorem head_nx (σ : St) (W : List Nat) (S : List (Nat × AV)) (B : List (Nat × Ob)) : (σ.head W S B).nx = σ.nx := rfl
end
end Go.Sy
end
section
set_option linter.unusedVariables false
namespace Go.Sy
abbrev byteRows (b : ByteArray) : List (List AV) := b.data.toList.map fun x => [.s (.int .u8 (x.toNat : Int))]
def numsOf : List AV → Option (List Int)
  | [] => some []
  | .s (.int .u8 n) :: l => (match numsOf l with | some xs => some (n :: xs) | none => none)
  | _ => none
theorem numsOf_R {H : View} {ε : Env} : ∀ {cs : List AV} {vs : List Value} {xs : List Int}, RL H ε vs cs → numsOf cs = some xs → vs = xs.map (Value.int .u8)
  | [], _, xs, h, hn => by cases h; simp [numsOf] at hn; subst hn; rfl
  | c :: cs, _, xs, h, hn => by
    cases h with
    | cons v _ vs _ h t =>
      unfold numsOf at hn
      split at hn
      · rename_i e; cases e
      · rename_i n l e
        cases e
        split at hn
        · rename_i ys hy
          cases hn
          have h1 := h.s_inv.1
          have h2 := numsOf_R t hy
          subst h1 h2; rfl
        · cases hn
      · cases hn
theorem int_inv {P : Program} {t : TypeId} {T : TY} {k : IntKind} (hT : ty P t = some T) (hk : T.kd = .int k) : P.underlying t = some (.int k) := by
  obtain ⟨inf, d, z, hi, hd, hz, _, _, hkd, _⟩ := ty_inv hT
  rw [hkd] at hk
  cases d <;> simp [kdOf] at hk
  subst hk; exact hd
theorem str_inv {P : Program} {t : TypeId} {T : TY} (hT : ty P t = some T) (hk : T.kd = .str) : P.underlying t = some .string := by
  obtain ⟨inf, d, z, hi, hd, hz, _, _, hkd, _⟩ := ty_inv hT
  rw [hkd] at hk
  cases d <;> simp [kdOf] at hk
  exact hd
section
variable {P : Program} {nb : Nat} {t : TypeId} {σ : St} {K : Kont}
theorem good_make {t' : TypeId} {l c : Operand} {e : TypeId} {U : TY} {k1 k2 : IntKind} {n : Int} (he : elemTy P (ty P t') = some (e, U)) (hl : σ.ev l = .s (.int k1 n)) (hc : σ.ev c = .s (.int k2 n)) (h1 : U.n = 1) (h2 : U.zero.length = 1) (h3 : U.zero.all (·.oneCell') = true)
    (h4 : 0 ≤ n) (h5 : n ≤ 1000000) (h6 : U.bytes ≤ 1000) (hK : K (.bsl nb 0 1 n.toNat n.toNat) [] [(nb, .box (List.replicate n.toNat (.s (U.zero.headD .nilIface))))]) : Good P nb (.makeSlice t' l c) t σ K := by
  refine ⟨_, [], _, fun σ' hx' _ => ?_, hK⟩
  rw [updOb_applyW _ _ _ rfl]
  obtain ⟨T, hT, hk, hU⟩ := elemTy_inv he
  refine .run fun c0 H ε ρ w o ho _ hm hr hf => ?_
  have hv1 := hr l; rw [(hx' l (by simp [Op.operands])).trans hl] at hv1
  have hv2 := hr c; rw [(hx' c (by simp [Op.operands])).trans hc] at hv2
  have hd := slice_inv hT hk
  obtain ⟨inf2, d2, z, hi2, _, hz2, hn2, hb2, _, hzs, _⟩ := ty_inv hU
  obtain ⟨v0, hv0⟩ : ∃ v0, z.cells.toList = [v0] := by
    rw [hzs] at h2
    match hq : z.cells.toList, h2 with
    | [v0], _ => exact ⟨v0, rfl⟩
  have hz1 : z.cells = #[v0] := by rw [← Array.toArray_toList (xs := z.cells), hv0]
  have hone : v0.oneCell' = true := by rw [hzs, hv0] at h3; simpa using h3
  have hs1 : inf2.size = 1 := by rw [← hn2, h1]
  have hmk : (madeCells z.cells (n.toNat * inf2.size)).toList = List.replicate n.toNat v0 := by
    rw [hs1, Nat.mul_one, hz1]
    unfold madeCells
    rw [List.eq_replicate_iff]
    refine ⟨by simp, fun b hb => ?_⟩
    simp only [Array.toList_map, List.mem_map] at hb
    obtain ⟨k, _, rfl⟩ := hb
    simp [Nat.mod_one]
  have hby : (inf2.bytes : Int) * n ≤ 281474976710656 := by
    rw [← hb2]
    have h61 : (U.bytes : Int) ≤ 1000 := by omega
    have := Int.mul_le_mul h61 h5 h4 (by omega)
    omega
  have hrun := run_make (P := P) w t' e inf2 z hd hi2 hz2 k1 k2 n n h4 (Int.le_refl _) hby (by omega)
  refine ⟨.slice (some ⟨w.heap.size, 0, none⟩) n.toNat n.toNat, w.alloc (.cells (madeCells z.cells (n.toNat * inf2.size)) e), H, updEnv ε nb (.blk w.heap.size), ?_, View.le_refl H, Env.le_new (fresh_here hf), keep_new, .bsl _ _ _ _ _ w.heap.size (by simp [updEnv]) (Nat.le_refl _) hm.lo.1, hm.newBox (fresh_here hf) e (arr := madeCells z.cells (n.toNat * inf2.size)) ?_ ?_⟩
  · simp only [execOp, ho, hv1.s_inv.1, hv2.s_inv.1, Sem.run_bind, hrun, Result.andThen_ok, Sem.run_pure]
  · rw [hmk, show U.zero.headD .nilIface = v0 by rw [hzs, hv0]; rfl]
    exact .of_DL (by
      have := DL_consts H (List.replicate n.toNat v0) (by simp [hone])
      simpa using this)
  · rw [hmk]
    intro v hv
    rw [(List.mem_replicate.1 hv).2]; exact hone
theorem good_bslAddr {t' : TypeId} {x y : Operand} {e : TypeId} {U : TY} {k : IntKind} {i : Int} {id off sz n cap : Nat} (he : elemTy P (ty P t') = some (e, U)) (hx : σ.ev x = .bsl id off sz n cap) (hy : σ.ev y = .s (.int k i)) (h1 : U.n = sz) (h2 : 0 ≤ i) (h3 : i < n)
    (hK : K (.ptr id (off + i.toNat * sz)) [] []) : Good P nb (.indexAddr t' x y) t σ K := by
  obtain ⟨T, hT, hk, hU⟩ := elemTy_inv he
  refine .plain (fun σ' hx' => .pure fun c H ε ρ w o ho _ hm hr => ?_) hK
  have hv := hr x; rw [(hx' x (by simp [Op.operands])).trans hx] at hv
  have hi := hr y; rw [(hx' y (by simp [Op.operands])).trans hy] at hi
  obtain ⟨b, hv, hε, hn, hblo⟩ := hv.bsl_inv
  have hd := slice_inv hT hk
  obtain ⟨inf2, d2, _, hi2, _, _, hn2, _⟩ := ty_inv hU
  refine ⟨.pointer (some ⟨b, off + i.toNat * sz, none⟩), ?_, .ptr _ _ _ hε⟩
  simp only [execOp, ho, hv, hi.s_inv.1, Instr.indexAt, asIntOf, Sem.run_bind, Sem.run_pure, Result.andThen_ok, run_underlying' hd, h2, h3, and_self, if_true, run_sizeOf' hi2, ← hn2, h1, add_eq]
theorem good_bslLen {t' : TypeId} {x : Operand} {e : TypeId} {U : TY} {id off sz n cap : Nat} (he : elemTy P (ty P t') = some (e, U)) (hx : σ.ev x = .bsl id off sz n cap) (hK : K (.s (.int .i64 n)) [] []) : Good P nb (.call { callee := .builtin .len, args := #[x], argTypes := #[t'] }) t σ K := by
  obtain ⟨T, hT, hk, hU⟩ := elemTy_inv he
  refine .plain (fun σ' hx' => .pure fun c H ε ρ w o ho _ hm hr => ?_) hK
  have hv := hr x; rw [(hx' x (by simp [Op.operands, Call.operands])).trans hx] at hv
  obtain ⟨b, hv, hε, hn, hblo⟩ := hv.bsl_inv
  have hd := slice_inv hT hk
  refine ⟨_, ?_, .d _ _ (.s _ rfl)⟩
  simp [execOp, ho, resolve, invoke, builtin, hv, Builtin.len_, run_underlying' hd, goInt]
theorem good_toBytes {s d x} {S U : TY} {e : TypeId} {b : ByteArray} (hS : ty P s = some S) (hk : S.kd = .str) (he : elemTy P (ty P d) = some (e, U)) (hU : U.kd = .int .u8) (hx : σ.ev x = .s (.string b)) (hK : K (.sl 1 (byteRows b)) [] []) : Good P nb (.convert s d x) t σ K := by
  obtain ⟨T, hT, hkd, hUe⟩ := elemTy_inv he
  refine ⟨_, [], [], fun σ' hx' _ => ?_, hK⟩
  refine OpS.run fun c0 H ε ρ w o ho _ hm hr hf => ?_
  have hv1 := hr x; rw [(hx' x (by simp [Op.operands])).trans hx] at hv1
  have hrun := run_bytes_of_string (P := P) w s d e b (str_inv hS hk) (slice_inv hT hkd) (int_inv hUe hU)
  have hno : ∀ o, H w.heap.size o = none := fun o => by
    cases hq : H w.heap.size o with
    | none => rfl
    | some v => exact absurd (View.lt hm.view hq) (Nat.lt_irrefl _)
  let vs : List Value := b.data.toList.map fun x => .int .u8 (x.toNat : Int)
  have hvl : vs.length = b.size := by rw [List.length_map, Array.length_toList]; rfl
  have hH : H.le (H.put w.heap.size vs.length vs) := View.le_put fun o v _ h => by rw [hno] at h; cases h
  have hat : ∀ (C : Array Value) (fr : Nat × Nat) j, (w.drew.alloc (.cells C e fr)).cell? ⟨w.heap.size, j, none⟩ = C[j]? := fun C fr j => World.cell?_alloc_mark w.drew C e fr j
  have hpre : ∀ (cap o : Nat) (v : Value), vs[o]? = some v → (bytesRow b cap)[o]? = some v := fun cap o v h => by
    have ho' : o < vs.length := (List.getElem?_eq_some_iff.1 h).1
    have ho2 : o < b.data.size := by rw [hvl] at ho'; exact ho'
    rw [bytesRow_at b cap o ho2, ← h]
    simp only [vs, List.getElem?_map, Array.getElem?_toList, Array.getElem?_eq_getElem ho2, Option.map_some]
  refine ⟨.slice (some ⟨w.heap.size, 0, none⟩) b.size (grownCap w b.size 0 e), w.drew.alloc (.cells (bytesRow b (grownCap w b.size 0 e)) e ((bytesRow b (grownCap w b.size 0 e)).size, (bytesRow b (grownCap w b.size 0 e)).size + 1)), H.put w.heap.size vs.length vs, ε, ?_, hH, Env.le_refl ε, fun _ h _ => h, .d _ _ ?_, ?_⟩
  · simp only [execOp, ho, hv1.s_inv.1, Sem.run_bind, hrun, Result.andThen_ok, Sem.run_pure]
  · have hlen : (byteRows b).length = b.size := by rw [byteRows, List.length_map, Array.length_toList]; rfl
    rw [← hlen]
    have hfl : (byteRows b).flatten = vs.map .s := by
      simp only [byteRows, vs]
      induction b.data.toList with
      | nil => rfl
      | cons x l ih => simp [ih]
    refine .sl _ _ _ _ _ (by rw [hlen]; exact grownCap_ge w b.size 0 e) (by intro r hr; simp only [byteRows, List.mem_map] at hr; obtain ⟨_, _, rfl⟩ := hr; rfl) (fun _ => hm.lo.1) ?_
    rw [hfl]
    refine DM.of_list (vs := vs) (DL_consts _ vs (List.all_eq_true.2 fun v hv => by simp only [vs, List.mem_map] at hv; obtain ⟨_, _, rfl⟩ := hv; rfl)) (fun j u hj => ?_) (fun u hu => by simp only [vs, List.mem_map] at hu; obtain ⟨_, _, rfl⟩ := hu; rfl)
    have : j < vs.length := (List.getElem?_eq_some_iff.1 hj).1
    simp only [View.put_f, Nat.zero_add, this, and_self, if_true]; exact hj
  · refine (drew_mem hm).ext (w := w.drew) hH (fun b' o hb => by rw [View.put_f, if_neg (by intro hq; have := hq.1; simp at hb; omega)]) (fun b' o v h => ?_) (fun b' o v hb h => ?_) (fun k hk => heap_old w.drew _ k hk) (by simp) rfl rfl rfl
    rw [View.put_f] at h
    split at h
    · rename_i hb; obtain ⟨rfl, ho'⟩ := hb
      rw [hat]; exact hpre _ _ _ h
    · exact cell_alloc_lt (w := w.drew) (by simpa using hm.view b' o v h)
    rw [View.put_f] at h
    split at h
    · rename_i hb'; obtain ⟨rfl, ho'⟩ := hb'
      have h1 := (Array.getElem?_eq_some_iff.1 (hpre (grownCap w b.size 0 e) _ _ h)).1
      have h2 := heap_alloc_new w.drew (.cells (bytesRow b (grownCap w b.size 0 e)) e ((bytesRow b (grownCap w b.size 0 e)).size, (bytesRow b (grownCap w b.size 0 e)).size + 1))
      have h3 : w.drew.heap.size = w.heap.size := by simp
      rw [h3] at h2
      simp only [World.frozen?, h2, Bool.and_eq_false_iff, decide_eq_false_iff_not]
      exact .inl (by omega)
    · exact absurd (View.lt hm.view h) (by simp at hb; omega)
theorem good_ofBytesB {s d x} {D U : TY} {e : TypeId} {id off n cap : Nat} {cs : List AV} {xs : List Int} (he : elemTy P (ty P s) = some (e, U)) (hD : ty P d = some D) (hk : D.kd = .str) (hU : U.kd = .int .u8) (hx : σ.ev x = .bsl id off 1 n cap) (hob : σ.ob id = some (.box cs)) (h2 : off + n ≤ cs.length)
    (hn : numsOf ((cs.drop off).take n) = some xs) (hK : K (.s (.string (strOfNums xs))) [id] []) : Good P nb (.convert s d x) t σ K := by
  obtain ⟨T, hT, hkd, hUe⟩ := elemTy_inv he
  refine ⟨_, [id], [], fun σ' hx' hob' => ?_, hK⟩
  refine OpS.pure fun c0 H ε ρ w o ho _ hm hr => ?_
  have hv := hr x; rw [(hx' x (by simp [Op.operands])).trans hx] at hv
  obtain ⟨b, hv, hε, hcap, hblo⟩ := hv.bsl_inv
  obtain ⟨arr, T', hh, hrl, ho1, hnone⟩ := (hm.objs id _ ((hob' id (by simp)).trans hob)).box hε
  have hxs := numsOf_R ((hrl.drop off).take n) hn
  have hlen : xs.length = n := by
    have h1 := congrArg List.length hxs
    have h3 := hrl.length_eq
    simp at h1 h3; omega
  refine ⟨_, ?_, .d _ _ (.s _ rfl)⟩
  have hrun := run_convert_bytes_arg (P := P) w s e (slice_inv hT hkd) (int_inv hUe hU) b off n cap xs hlen (fun i hi => by
    rw [cell_of_row _ _ _ arr T' (0, 0) hh]
    have h1 : ((arr.toList.drop off).take n)[i]? = some (.int .u8 (xs.getD i 0)) := by
      rw [hxs]; simp [List.getD_eq_getElem?_getD, show i < xs.length by omega]
    rw [List.getElem?_take_of_lt hi, List.getElem?_drop] at h1
    simpa using h1) d (str_inv hD hk)
  simp only [execOp, ho, hv, Sem.run_bind, hrun, Result.andThen_ok, Sem.run_pure]
theorem good_ofBytesR {s d x} {D U : TY} {e : TypeId} {es : List (List AV)} {xs : List Int} (he : elemTy P (ty P s) = some (e, U)) (hD : ty P d = some D) (hk : D.kd = .str) (hU : U.kd = .int .u8) (hrow : (σ.ev x).rows = some (1, es)) (hn : numsOf es.flatten = some xs) (hK : K (.s (.string (strOfNums xs))) [] []) : Good P nb (.convert s d x) t σ K := by
  obtain ⟨T, hT, hkd, hUe⟩ := elemTy_inv he
  refine .plain (fun σ' hx' => .pure fun c0 H ε ρ w o ho _ hm hr => ?_) hK
  have hv := (hr x).rows (by rw [hx' x (by simp [Op.operands])]; exact hrow)
  refine ⟨_, ?_, .d _ _ (.s _ rfl)⟩
  rcases hv.slice with ⟨hv1, rfl⟩ | ⟨a, cap, hv1, rfl⟩ | ⟨b, off, cap, hv, hle, hs, hmm⟩
  · simp [numsOf] at hn; subst hn
    have hrun := run_convert_bytes_nil (P := P) w s e (slice_inv hT hkd) (int_inv hUe hU) 0 0 d (str_inv hD hk)
    have he0 : strOfNums [] = ByteArray.empty := rfl
    rw [he0]
    have hrun' : (convert s d (ρ x)).run P w = .ok (.string ByteArray.empty) w := by rw [hv1]; exact hrun
    simp only [execOp, ho, Sem.run_bind, hrun', Result.andThen_ok, Sem.run_pure]
  · simp [numsOf] at hn; subst hn
    have hrun := run_convert_bytes_back (P := P) w s d e a cap [] (slice_inv hT hkd) (int_inv hUe hU) (str_inv hD hk) (fun j hj => by simp at hj)
    simp only [List.length_nil] at hrun
    have he0 : strOfNums [] = ByteArray.empty := rfl
    rw [he0]
    have hrun' : (convert s d (ρ x)).run P w = .ok (.string ByteArray.empty) w := by rw [hv1]; exact hrun
    simp only [execOp, ho, Sem.run_bind, hrun', Result.andThen_ok, Sem.run_pure]
  · obtain ⟨vs, hl, hcell, hdl, _⟩ := hmm.to_list
    have hxs := numsOf_R (ε := fun _ => none) (.of_DL hdl) hn
    have hlen : xs.length = es.length := by
      have h1 := congrArg List.length hxs
      have h3 := flatten_length hs
      simp at h1; omega
    have hrun := run_convert_bytes_arg (P := P) w s e (slice_inv hT hkd) (int_inv hUe hU) b off es.length cap xs hlen (fun i hi => hm.view _ _ _ (hcell i _ (by rw [hxs]; simp [List.getD_eq_getElem?_getD, show i < xs.length by omega]))) d (str_inv hD hk)
    simp only [execOp, ho, hv, Sem.run_bind, hrun, Result.andThen_ok, Sem.run_pure]
theorem good_iface {t' : TypeId} {U : TY} {x : Operand} (hU : ty P t' = some U) (hk : U.kd = .struct) (hx : σ.ev x = .agg []) (hK : K (.s (.iface t' (.agg #[]))) [] []) : Good P nb (.makeInterface t' x) t σ K := by
  refine .plain (fun σ' hx' => .pure fun c0 H ε ρ w o ho _ hm hr => ?_) hK
  have hv := hr x; rw [(hx' x (by simp [Op.operands])).trans hx] at hv
  obtain ⟨vs, hv, hl⟩ := hv.agg_inv
  cases hl
  refine ⟨_, ?_, .d _ _ (.s _ rfl)⟩
  obtain ⟨inf, d, z, hi, hd, hz, _, _, hkd, _⟩ := ty_inv hU
  rw [hkd] at hk
  have hrun : (Instr.makeInterface t' (.agg #[])).run P w = .ok (.iface t' (.agg #[])) w := by
    simp only [Instr.makeInterface, Sem.run_bind, run_underlying' hd, Result.andThen_ok]
    cases d <;> simp [kdOf] at hk
    simp
  simp only [execOp, ho, hv, Sem.run_bind, hrun, Result.andThen_ok, Sem.run_pure]
end
end Go.Sy
end
section
set_option linter.unusedVariables false
set_option linter.unusedSimpArgs false
namespace Go.Sy
def scalR (es : List (List AV)) : Prop := ∀ r ∈ es, ∀ a ∈ r, ∃ v, a = .s v
theorem scalR_flat {es : List (List AV)} (h : scalR es) : ∀ a ∈ es.flatten, ∃ v, a = .s v := fun a ha => by
  obtain ⟨r, hr, ha⟩ := List.mem_flatten.1 ha
  exact h r hr a ha
theorem PuL_scal : ∀ {l : List AV}, (∀ a ∈ l, ∃ v, a = .s v) → PuL l
  | [], _ => .nil
  | a :: l, h => by
    obtain ⟨v, rfl⟩ := h a (by simp)
    exact .cons _ _ (by constructor) (PuL_scal fun b hb => h b (by simp [hb]))
def OneL (l : List AV) : Prop := ∀ a ∈ l, a.one = true

theorem run_copy_sz {P : Program} (w : World) (dT sT ty' elem : TypeId) (inf : TypeInfo) (g o dLen dCap : Nat) (a : Addr) (sLen sCap : Nat) (cur : Array Value) (t : TypeId) (vs : List Value)
    (hu : P.underlying dT = some (.slice elem)) (hi : P.info? elem = some inf) (hg : w.heap[g]? = some (.cells cur t (0, 0))) (hn : vs.length = Nat.min sLen dLen * inf.size)
    (hsrc : ∀ j v, vs[j]? = some v → w.cell? (a.add j) = some v) (hfit : o + vs.length ≤ cur.size) (h1 : ∀ v ∈ vs, v.oneCell' = true) :
    (Builtin.copy_ #[dT, sT] ty' #[.slice (some ⟨g, o, none⟩) dLen dCap, .slice (some a) sLen sCap]).run P w =
      .ok (goInt (Nat.min sLen dLen : Nat)) (w.setRow g (cur.toList.take o ++ vs ++ cur.toList.drop (o + vs.length)).toArray) := by
  have hl := run_loadCells_list (P := P) w a vs hsrc
  rw [hn] at hl
  have hst := run_storeCells_at P g o t vs 0 cur w hg (by simpa using hfit) h1
  simp only [Nat.add_zero] at hst
  simp [Builtin.copy_, run_underlying hu, Builtin.lenOf, Builtin.firstCells, sizeOf, typeInfo, hi, hl, hst]

def srcOf (sz : Nat) (a : AV) (ob : Nat → Option Ob) : Option (List AV × Nat × List Nat × Nat × Nat) := match a with
  | .bsl id off sz' n cap => if sz' = sz then (match ob id with | some (.box cs) => some ((cs.drop off).take (n * sz), n, [id], off + n * sz, cs.length) | _ => none) else none
  | .sl sz' es | .osl _ sz' es => if sz' = sz then some (es.flatten, es.length, [], 0, 0) else none
  | _ => none
def AppZ (cs : List AV) (off sz n : Nat) (K : List (List AV) → Prop) : Prop := ∃ es, (cs.drop off).take (n * sz) = es.flatten ∧ (∀ r ∈ es, r.length = sz) ∧ es.length = n ∧ scalR es ∧ K es
theorem appZ_in {cs : List AV} {off sz n : Nat} {K : List (List AV) → Prop} (es : List (List AV)) (h1 : (cs.drop off).take (n * sz) = es.flatten) (h2 : ∀ r ∈ es, r.length = sz) (h3 : es.length = n) (h4 : scalR es) (hK : K es) : AppZ cs off sz n K := ⟨es, h1, h2, h3, h4, hK⟩
section
variable {P : Program} {nb : Nat} {t : TypeId} {σ : St} {K : Kont}

theorem good_bslSlice {t' : TypeId} {x : Operand} {lo hi : Option Operand} {e : TypeId} {U : TY} {id off sz n cap l h : Nat} (he : elemTy P (ty P t') = some (e, U)) (hx : σ.ev x = .bsl id off sz n cap) (hsz : U.n = sz)
    (hlo : match lo with | some y => ∃ k, σ.ev y = .s (.int k l) | none => l = 0) (hhi : match hi with | some y => ∃ k, σ.ev y = .s (.int k h) | none => h = n) (h1 : l ≤ h) (h2 : h ≤ cap) (h3 : l < cap)
    (hK : K (.bsl id (off + l * sz) sz (h - l) (cap - l)) [] []) : Good P nb (.slice t' x lo hi none) t σ K := by
  obtain ⟨T, hT, hk, hU⟩ := elemTy_inv he
  refine .plain (fun σ' hx' => .pure fun c H ε ρ w o ho _ hm hr => ?_) hK
  have hv := hr x; rw [(hx' x (by simp [Op.operands])).trans hx] at hv
  obtain ⟨b, hv, hε, hn, hblo⟩ := hv.bsl_inv
  have hd := slice_inv hT hk
  obtain ⟨inf2, d2, z2, hi2, hd2, hz2, hn2, hb2, _, hzs2, _⟩ := ty_inv hU
  have hne : ¬ (cap = l) := by omega
  have hrun : (execOp ρ o).run P w = .ok (.value (.slice (some ⟨b, off + l * sz, none⟩) (h - l) (cap - l))) w := by
    have e4 : l * inf2.size = l * sz := by rw [← hn2, hsz]
    cases lo with
    | none =>
      simp only at hlo; subst hlo
      have hne0 : ¬ (cap = 0) := hne
      cases hi with
      | none =>
        simp only at hhi; subst hhi
        simp [execOp, ho, hv, Instr.sliceAt, Instr.slice, run_underlying' hd, Instr.sliceBounds, run_sizeOf' hi2, hne0, add_eq]
      | some y =>
        obtain ⟨k, hy⟩ := hhi
        have hy' := hr y; rw [(hx' y (by simp [Op.operands])).trans hy] at hy'
        simp [execOp, ho, hv, hy'.s_inv.1, Instr.sliceAt, Instr.slice, run_underlying' hd, Instr.sliceBounds, Instr.sliceBound, asIntOf, h2, run_sizeOf' hi2, hne0, add_eq]
    | some x' =>
      obtain ⟨k', hx2⟩ := hlo
      have hx'' := hr x'; rw [(hx' x' (by simp [Op.operands])).trans hx2] at hx''
      cases hi with
      | none =>
        simp only at hhi; subst hhi
        simp [execOp, ho, hv, hx''.s_inv.1, Instr.sliceAt, Instr.slice, run_underlying' hd, Instr.sliceBounds, Instr.sliceBound, asIntOf, h1, run_sizeOf' hi2, hne, add_eq, e4]
      | some y =>
        obtain ⟨k, hy⟩ := hhi
        have hy' := hr y; rw [(hx' y (by simp [Op.operands])).trans hy] at hy'
        simp [execOp, ho, hv, hx''.s_inv.1, hy'.s_inv.1, Instr.sliceAt, Instr.slice, run_underlying' hd, Instr.sliceBounds, Instr.sliceBound, asIntOf, h1, h2, run_sizeOf' hi2, hne, add_eq, e4]
  exact ⟨_, hrun, .bsl _ _ _ _ _ _ hε (by omega) hblo⟩
theorem good_bslCap {t' : TypeId} {x : Operand} {e : TypeId} {U : TY} {id off sz n cap : Nat} (he : elemTy P (ty P t') = some (e, U)) (hx : σ.ev x = .bsl id off sz n cap) (hK : K (.s (.int .i64 cap)) [] []) : Good P nb (.call { callee := .builtin .cap, args := #[x], argTypes := #[t'] }) t σ K := by
  obtain ⟨T, hT, hk, hU⟩ := elemTy_inv he
  refine .plain (fun σ' hx' => .pure fun c H ε ρ w o ho _ hm hr => ?_) hK
  have hv := hr x; rw [(hx' x (by simp [Op.operands, Call.operands])).trans hx] at hv
  obtain ⟨b, hv, hε, hn, hblo⟩ := hv.bsl_inv
  have hd := slice_inv hT hk
  refine ⟨_, ?_, .d _ _ (.s _ rfl)⟩
  simp [execOp, ho, resolve, invoke, builtin, hv, Builtin.cap_, run_underlying' hd, goInt]

theorem good_copy {d s : Operand} {t1 t2 e : TypeId} {U : TY} {id off sz n cap m : Nat} {cs src : List AV} {ids : List Nat} (he : elemTy P (ty P t1) = some (e, U)) (hd : σ.ev d = .bsl id off sz n cap) (hsz : U.n = sz) (hob : σ.ob id = some (.box cs)) {need room : Nat} (hs : srcOf sz (σ.ev s) σ.ob = some (src, m, ids, need, room))
    (hfit : off + n * sz ≤ cs.length) (hfit2 : need ≤ room) (hm0 : 0 < m) (h1 : OneL (src.take (min m n * sz)))
    (hK : K (.s (.int .i64 (min m n : Nat))) (id :: ids) [(id, .box (cs.take off ++ src.take (min m n * sz) ++ cs.drop (off + min m n * sz)))]) :
    Good P nb (.call { callee := .builtin .copy, args := #[d, s], argTypes := #[t1, t2] }) t σ K := by
  obtain ⟨T, hT, hk, hU⟩ := elemTy_inv he
  refine ⟨_, id :: ids, _, fun σ' hx' hob' => ?_, hK⟩
  rw [updOb_applyW _ _ _ rfl]
  refine .run fun c H ε ρ w o ho _ hm hr hf => ?_
  have hv := hr d; rw [(hx' d (by simp [Op.operands, Call.operands])).trans hd] at hv
  obtain ⟨b, hv, hε, hn, hblo⟩ := hv.bsl_inv
  have hdd := slice_inv hT hk
  obtain ⟨inf2, d2, z2, hi2, hd2, hz2, hn2, hb2, _, hzs2, _⟩ := ty_inv hU
  have hob2 : σ'.ob id = some (.box cs) := (hob' id (by simp)).trans hob
  obtain ⟨arr, T', hh, hrl, _, hnone⟩ := (hm.objs id _ hob2).box hε
  -- the source
  obtain ⟨a, sCap, vs0, hsv, hcell, hrl0, hl0⟩ : ∃ a sCap vs0, ρ s = .slice (some a) m sCap ∧ (∀ (j : Nat) (v : Value), vs0[j]? = some v → w.cell? (a.add j) = some v) ∧ RL H ε vs0 src ∧ src.length = m * sz := by
    have hsr := hr s
    have es : σ'.ev s = σ.ev s := hx' s (by simp [Op.operands, Call.operands])
    rw [es] at hsr
    cases q : σ.ev s <;> rw [q] at hs hsr <;> simp only [srcOf] at hs <;> try (cases hs; done)
    · rename_i sz' rows
      split at hs
      · rename_i hz; subst hz; cases hs
        rcases hsr.sl_inv.slice with ⟨_, h⟩ | ⟨_, _, _, h⟩ | ⟨b2, off2, cap2, hv2, hc2, hs2, hdm⟩
        · subst h; simp at hm0
        · subst h; simp at hm0
        · obtain ⟨vs, hvl, hcl, hdl, _⟩ := hdm.to_list
          exact ⟨_, _, vs, hv2, fun j v hj => by rw [add_eq]; exact hm.view _ _ _ (hcl j v hj), .of_DL hdl, flatten_length hs2⟩
      · cases hs
    · rename_i p sz' rows
      split at hs
      · rename_i hz; subst hz; cases hs
        rcases hsr.osl_inv.1.slice with ⟨_, h⟩ | ⟨_, _, _, h⟩ | ⟨b2, off2, cap2, hv2, hc2, hs2, hdm⟩
        · subst h; simp at hm0
        · subst h; simp at hm0
        · obtain ⟨vs, hvl, hcl, hdl, _⟩ := hdm.to_list
          exact ⟨_, _, vs, hv2, fun j v hj => by rw [add_eq]; exact hm.view _ _ _ (hcl j v hj), .of_DL hdl, flatten_length hs2⟩
      · cases hs
    · rename_i id2 off2 sz2 n2 cap2
      split at hs
      · rename_i hz; subst hz
        split at hs
        · rename_i ds hob3
          cases hs
          obtain ⟨b2, hv2, hε2, hn2', _⟩ := hsr.bsl_inv
          have hob4 : σ'.ob id2 = some (.box ds) := (hob' id2 (by simp)).trans hob3
          obtain ⟨arr2, T2, hh2, hrl2, _, _⟩ := (hm.objs id2 _ hob4).box hε2
          refine ⟨_, _, (arr2.toList.drop off2).take (m * sz2), hv2, fun j v hj => ?_, (hrl2.drop off2).take _, by rw [List.length_take, List.length_drop]; omega⟩
          rw [add_eq, cell_of_row w b2 (off2 + j) arr2 T2 (0, 0) hh2]
          rw [List.getElem?_take] at hj
          split at hj
          · rw [List.getElem?_drop] at hj; simpa using hj
          · cases hj
        · cases hs
      · cases hs
  have hrl1 := hrl0.take (min m n * sz)
  have hl1 : (vs0.take (min m n * sz)).length = min m n * sz := by
    rw [List.length_take, hrl0.length_eq, hl0]
    exact Nat.min_eq_left (Nat.mul_le_mul_right _ (Nat.min_le_left _ _))
  have hmn : min m n * sz ≤ n * sz := Nat.mul_le_mul_right _ (Nat.min_le_right _ _)
  have hlen := hrl.length_eq
  have hrun := run_copy_sz (P := P) w t1 t2 o.type e inf2 b off n cap a m sCap arr T' (vs0.take (min m n * sz)) hdd hi2 hh (by rw [hl1, ← hn2, hsz])
    (fun j v hj => by
      rw [List.getElem?_take] at hj
      split at hj
      · exact hcell j v hj
      · cases hj) (by rw [hl1]; simp at hlen; omega) (hrl1.one h1)
  rw [hl1] at hrun
  refine ⟨_, _, H, ε, ?_, View.le_refl H, Env.le_refl ε, fun _ h _ => h, .d _ _ (.s _ rfl), hm.setBox (arr := (arr.toList.take off ++ vs0.take (min m n * sz) ++ arr.toList.drop (off + min m n * sz)).toArray) hob2 hε hh (by simpa using ((hrl.take off).append hrl1).append (hrl.drop (off + min m n * sz)))⟩
  simp only [execOp, ho, resolve, invoke, builtin, Sem.run_bind, Sem.run_pure, Result.andThen_ok, List.map_toArray, List.map_cons, List.map_nil, hv, hsv, hrun, goInt]

theorem zeroCells_list (z : Array Value) (k : Nat) : (Builtin.zeroCells z k).toList = (List.replicate k z.toList).flatten := by
  unfold Builtin.zeroCells
  apply List.ext_getElem?
  intro j
  simp only [Array.toList_map, Array.toList_range, List.getElem?_map]
  rcases Nat.lt_or_ge j (k * z.size) with hj | hj
  · have hz : 0 < z.size := by
      rcases Nat.eq_zero_or_pos z.size with h | h
      · rw [h] at hj; simp at hj
      · exact h
    have hmod : j % z.size < z.size := Nat.mod_lt _ hz
    rw [List.getElem?_range hj, Option.map_some]
    have : ∀ (k j : Nat), j < k * z.size → (List.replicate k z.toList).flatten[j]? = some z[j % z.size]! := by
      intro k
      induction k with
      | zero => intro j hj; simp at hj
      | succ k ih =>
        intro j hj
        rw [List.replicate_succ, List.flatten_cons]
        rcases Nat.lt_or_ge j z.size with h | h
        · rw [List.getElem?_append_left (by simpa using h), Nat.mod_eq_of_lt h]
          simp [h]
        · rw [List.getElem?_append_right (by simpa using h)]
          have e : j - z.toList.length = j - z.size := by simp
          rw [e, ih (j - z.size) (by rw [Nat.add_mul] at hj; omega)]
          congr 2
          rw [← Nat.mod_eq_sub_mod h]
    exact (this k j hj).symm
  · rw [List.getElem?_eq_none (by simpa using hj), List.getElem?_eq_none (by simp; exact hj)]
    rfl

theorem good_appZ {s x : Operand} {t' tn e : TypeId} {U N : TY} {id off sz n cap : Nat} {kn kq : IntKind} {cs : List AV} {k : Int} (es : List (List AV))
    (he : elemTy P (ty P t') = some (e, U)) (hN : ty P tn = some N) (hNk : N.kd = .int kn) (h0 : 0 < U.n) (hzl : U.zero.length = U.n) (hz1 : U.zero.all (·.oneCell') = true)
    (hs : σ.ev s = .bsl id off sz n cap) (hx : σ.ev x = .s (.int kq k)) (hsz : U.n = sz) (hob : σ.ob id = some (.box cs)) (hfit : off + n * sz ≤ cs.length)
    (hes : (cs.drop off).take (n * sz) = es.flatten) (hel : ∀ r ∈ es, r.length = sz) (hen : es.length = n) (hsc : scalR es)
    (hk : 0 < k) (hg : cap < n + k.toNat) (h63 : n + k.toNat ≤ 9223372036854775807) (hb : (n + k.toNat) * U.bytes ≤ 140737488355328)
    (hK : K (.osl nb sz (es ++ List.replicate k.toNat (U.zero.map .s))) [id] [(nb, .perm e sz (n + k.toNat))]) :
    Good P nb (.call { callee := .builtin .append, args := #[s, x], argTypes := #[t', tn] }) t σ K := by
  subst hsz
  obtain ⟨T, hT, hkd, hU⟩ := elemTy_inv he
  obtain ⟨k', rfl⟩ : ∃ k' : Nat, k = k' := ⟨k.toNat, by omega⟩
  simp only [Int.toNat_natCast] at *
  refine ⟨_, [id], _, fun σ' hx' hob' => ?_, hK⟩
  rw [updOb_applyW _ _ _ rfl]
  refine .run fun c H ε ρ w o ho _ hm hr hf => ?_
  have hv := hr s; rw [(hx' s (by simp [Op.operands, Call.operands])).trans hs] at hv
  obtain ⟨b, hv, hε, hn, hblo⟩ := hv.bsl_inv
  have hv2 := hr x; rw [(hx' x (by simp [Op.operands, Call.operands])).trans hx] at hv2
  have hd := slice_inv hT hkd
  obtain ⟨inf2, d2, z2, hi2, hd2, hz2, hn2, hb2, _, hzs2, _⟩ := ty_inv hU
  have hob2 : σ'.ob id = some (.box cs) := (hob' id (by simp)).trans hob
  obtain ⟨arr, T', hh, hrl, _, hnone⟩ := (hm.objs id _ hob2).box hε
  have hlen := hrl.length_eq
  have hzs : z2.cells.size = inf2.size := by
    have : z2.cells.toList.length = inf2.size := by rw [← hzs2, hzl, hn2]
    simpa using this
  obtain ⟨olds, ho1⟩ : ∃ olds, olds = (arr.toList.drop off).take (n * U.n) := ⟨_, rfl⟩
  have hrlo : RL H ε olds es.flatten := by rw [ho1, ← hes]; exact (hrl.drop off).take _
  have hdl : DL H olds es.flatten := hrlo.pu (PuL_scal (scalR_flat hsc))
  have hone : ∀ v ∈ olds, v.oneCell' = true := hrlo.one fun a ha => by obtain ⟨v, rfl⟩ := scalR_flat hsc a ha; rfl
  have hol : olds.length = n * inf2.size := by rw [hrlo.length_eq, flatten_length hel, hen, hn2]
  have hold := run_firstCells_some (P := P) w.drew inf2.size n ⟨b, off, none⟩ n cap olds hol (fun j v hj => by
    rw [add_eq]
    rw [ho1, List.getElem?_take] at hj
    split at hj
    · rw [List.getElem?_drop] at hj
      have := cell_of_row w b (off + j) arr T' (0, 0) hh
      have e1 : w.drew.cell? ⟨b, off + j, none⟩ = w.cell? ⟨b, off + j, none⟩ := rfl
      rw [e1, this]; simpa using hj
    · cases hj)
  have hb' : (n + k') * inf2.bytes ≤ 140737488355328 := by rw [← hb2]; exact hb
  have hrun := Lib.run_append_grow_zeros (P := P) w t' tn o.type e inf2 z2 kq kn hd (int_inv hN hNk) hi2 hz2 (some ⟨b, off, none⟩) n cap olds hold k' (by omega) (by rw [← hn2]; exact h0) hg (by omega)
    (by have : k' * inf2.bytes ≤ (n + k') * inf2.bytes := Nat.mul_le_mul_right _ (by omega)
        omega) (growslice_fits hg hb')
  have hnew : Mem c H (updEnv ε nb (.row (.slice none 0 0) 0)) (updOb σ'.ob nb (.perm e U.n 0)) w :=
    hm.add (fresh_here hf) ⟨.slice none 0 0, [], updEnv_same _ _ _, World.ownsRow_nil w 0 e U.n, h0, fun g hg => by cases hg⟩ (fun b o hb => by cases hb) (fun b hb => by cases hb) (fun b hb => by cases hb)
  have hge := grownCap_ge w (n + k') cap e
  have hcm : grownCap w (n + k') cap e ≤ maxLen := grownCap_le_maxLen w (n + k') cap e (by unfold maxLen; omega)
  have hzz : z2.cells.size = U.n := by rw [hzs, hn2]
  have hxl : (olds ++ (Builtin.zeroCells z2.cells k').toList).length = (n + k') * U.n := by
    rw [List.length_append, hol, Array.length_toList, size_zeroCells, hzs, ← Nat.add_mul, hn2]
  obtain ⟨H', q1, q2, q3, q4⟩ := hnew.growRow (es' := es ++ List.replicate k' (U.zero.map .s)) (n := 0) (n' := n + k') (v := .slice none 0 0) (sz := U.n) (e := e) (p := nb)
    (w' := w.drew.alloc (.cells (olds.toArray ++ Builtin.zeroCells z2.cells k' ++ Builtin.zeroCells z2.cells (grownCap w (n + k') cap e - (n + k'))) e)) (v' := .slice (some ⟨w.heap.size, 0, none⟩) (n + k') (grownCap w (n + k') cap e)) (xs' := olds ++ (Builtin.zeroCells z2.cells k').toList)
    (by simp [updOb]) (updEnv_same _ _ _) h0 (by omega) (fun g hg => by cases hg)
    ⟨hxl, .inr ⟨w.heap.size, _, _, rfl, Nat.zero_le _, heap_alloc_new w.drew _, hge, hcm, by
        simp only [Array.size_append, List.size_toArray, size_zeroCells, hzs, hol, ← Nat.add_mul, hn2]
        congr 1
        omega, by
        simp only [Array.toList_append, List.append_assoc]
        rw [← List.append_assoc, ← hxl]
        exact List.take_left⟩⟩
    ⟨rfl, rfl, rfl, by simp, fun k hk _ => heap_old w.drew _ k hk⟩ (fun b o u h _ => cell_alloc_lt (w := w.drew) (by simpa using h)) (.inr rfl)
    (fun b o hb h => by rw [frozen_same (heap_old w.drew _ b (by simpa using hb))]; exact h)
    (by
      rw [List.flatten_append, zeroCells_list]
      refine DL.append hdl ?_
      have : (List.replicate k' (U.zero.map AV.s)).flatten = ((List.replicate k' z2.cells.toList).flatten).map .s := by
        rw [← hzs2, List.map_flatten, List.map_replicate]
      rw [this]
      refine DL_consts H _ (List.all_eq_true.2 fun v hv => ?_)
      obtain ⟨r, hr, hv⟩ := List.mem_flatten.1 hv
      rw [(List.mem_replicate.1 hr).2] at hv
      rw [← hzs2] at hv
      exact List.all_eq_true.1 hz1 v hv)
    (by
      intro r hr
      rcases List.mem_append.1 hr with h | h
      · exact hel r h
      · rw [(List.mem_replicate.1 h).2, List.length_map, hzl]) (by simp [hen])
    (by
      intro v hv
      rcases List.mem_append.1 hv with h | h
      · exact hone v h
      · rw [zeroCells_list] at h
        obtain ⟨r, hr, h⟩ := List.mem_flatten.1 h
        rw [(List.mem_replicate.1 hr).2, ← hzs2] at h
        exact List.all_eq_true.1 hz1 v h)
  refine ⟨.slice (some ⟨w.heap.size, 0, none⟩) (n + k') (grownCap w (n + k') cap e), w.drew.alloc (.cells (olds.toArray ++ Builtin.zeroCells z2.cells k' ++ Builtin.zeroCells z2.cells (grownCap w (n + k') cap e - (n + k'))) e), H', _, ?_, q1, (Env.le_new (fresh_here hf)).trans' q2, fun i hi hni => ?_, q3, ?_⟩
  · simp only [execOp, ho, resolve, invoke, builtin, Sem.run_bind, Sem.run_pure, Result.andThen_ok, List.map_toArray, List.map_cons, List.map_nil, hv, hv2.s_inv.1, hrun]
  · have := keep_new (l := .row (.slice none 0 0) 0) i hi hni
    unfold updEnv
    split
    · rename_i h; subst h; exact absurd ⟨Nat.le_refl _, by omega⟩ hni
    · exact hi
  · have he : updOb (updOb σ'.ob nb (.perm e U.n 0)) nb (.perm e U.n (n + k')) = updOb σ'.ob nb (.perm e U.n (n + k')) := by
      funext i; unfold updOb; split <;> simp
    rw [← he]; exact q4

theorem callV_overlaps {f : FuncId} {fn : Func} {x y z : Operand} {ts ps rs : Array TypeId} {avs : List AV} {t0 e : TypeId} {U : TY} {sz id off sz' n cap : Nat} {es : List (List AV)} {cs : List AV} (hfn : P.funcs[f]? = some fn) (hname : (fn.name == "runtime.NumGoroutine") = false) (hb : fn.body.isNone = true) (hnx : Extern.findNext fn = none)
    (hef : Extern.find fn = some (Extern.SlicesOverlaps.overlaps ps rs)) (hps : ps[0]? = some t0) (he : elemTy P (ty P t0) = some (e, U)) (hx : σ.ev x = .fn (.func f) [] []) (hy : rowsOK sz (σ.ev y) = some es) (h0 : 0 < sz) (h1 : 0 < es.length) (hz : σ.ev z = .bsl id off sz' n cap) (hob : σ.ob id = some (.box cs))
    (hK : K (.s (.bool false)) [id] []) : CallV P nb (.call { callee := .value x, args := #[y, z], argTypes := ts }) t f avs σ K := by
  obtain ⟨T, hT, hk, hU⟩ := elemTy_inv he
  refine ⟨_, [id], [], fun σ' hx' hob' => ?_, hK⟩
  refine .pure fun c H ε ρ w o ho _ hm hr => ?_
  have hv := hr z; rw [(hx' z (by simp [Op.operands, Call.operands])).trans hz] at hv
  obtain ⟨b, hv, hε, hn, hblo⟩ := hv.bsl_inv
  have hvx := hr x; rw [(hx' x (by simp [Op.operands, Call.operands])).trans hx] at hvx
  obtain ⟨f1, c1, hvx, hf1, hc1⟩ := hvx.fn_inv
  cases hf1; cases hc1
  have hvy := hr y; rw [hx' y (by simp [Op.operands, Call.operands])] at hvy
  have hD := rowsOK_D hvy hy
  have hob2 : σ'.ob id = some (.box cs) := (hob' id (by simp)).trans hob
  obtain ⟨arr, T', hh, hrl, _, hnone⟩ := (hm.objs id _ hob2).box hε
  have hd := slice_inv hT hk
  obtain ⟨inf2, d2, z2, hi2, hd2, hz2, hn2, hb2, _, hzs2, _⟩ := ty_inv hU
  refine ⟨_, ?_, .d _ _ (.s _ rfl)⟩
  rcases hD.slice with ⟨_, h⟩ | ⟨_, _, _, h⟩ | ⟨ba, oa, capa, hva, hca, hsa, hdm⟩
  · subst h; simp at h1
  · subst h; simp at h1
  · obtain ⟨vs, hvl, hcl, _, _⟩ := hdm.to_list
    have hvp : 0 < vs.length := by
      rw [hvl, flatten_length hsa]; exact Nat.mul_pos h1 h0
    have hHa := hcl 0 _ (List.getElem?_eq_getElem hvp)
    have hcell := hm.view _ _ _ hHa
    have hne : ba ≠ b := fun e => by rw [e, hnone] at hHa; cases hHa
    obtain ⟨ca, Ta, fra, hheap, hlt⟩ : ∃ ca Ta fra, w.heap[ba]? = some (.cells ca Ta fra) ∧ 0 < ca.size := by
      unfold World.cell? at hcell
      split at hcell
      · rename_i ca Ta fra hheap
        simp at hcell
        exact ⟨ca, Ta, fra, hheap, by
          have := (Array.getElem?_eq_some_iff.1 hcell).1; omega⟩
      · cases hcell
    have hshA : w.shape? ba = some (Ta, ca.size) := by unfold World.shape?; rw [hheap]
    have hshB : w.shape? b = some (T', arr.size) := by unfold World.shape?; rw [hh]
    have hfrB : ∀ o, w.frozen? ⟨b, o, none⟩ = false := fun o => by unfold World.frozen?; simp [hh]
    have hkA : ∃ kA, ca.size = kA + 1 := ⟨ca.size - 1, by omega⟩
    obtain ⟨kA, hkA⟩ := hkA
    rw [hkA] at hshA
    have hnb : (ba == b) = false := by simpa using hne
    have hnb' : (ba != b) = true := by simpa using hne
    have hov : (Extern.SlicesOverlaps.overlaps ps rs #[.slice (some ⟨ba, oa, none⟩) es.length capa, .slice (some ⟨b, off, none⟩) n cap]).run P w = .ok (.bool false) w := by
      change Sem.run P (α := Value) (do
        let some t := ps[0]? | stuck "slices.overlaps: no parameter types"
        let .slice elem ← underlying t | stuck "slices.overlaps: slice type expected"
        let size ← sizeOf elem
        match (some ⟨ba, oa, none⟩ : Option Addr), (some ⟨b, off, none⟩ : Option Addr) with
        | some a, some b =>
          if es.length = 0 ∨ n = 0 ∨ size = 0 then pure (Value.bool false)
          else if a.block != b.block && (← frozen a) && (← frozen b) then unsupported .addressObserved
          else do
            if a.block != b.block then do
              noView a; noView b
              if ← mayBeOne a b then return Value.bool ((← choose (.extern "sameAddr.stringBytes" 2)) == 1)
            pure (Value.bool (a.block == b.block && a.off < b.off + n * size && b.off < a.off + es.length * size))
        | _, _ => pure (Value.bool false)) w = _
      by_cases c0 : es.length = 0 ∨ n = 0 ∨ inf2.size = 0
      · rcases c0 with c0 | c0 | c0 <;> first | (simp [hps, run_underlying' hd, run_sizeOf' hi2, c0]; done) | omega
      · cases hfa : w.frozen? ⟨ba, oa, none⟩ <;> cases hfe : w.frozen? ⟨ba, kA + 1, none⟩ <;>
        simp [hps, run_underlying' hd, run_sizeOf' hi2, c0, hnb, hnb', frozen, noView, viewAt, mayBeOne, stringish, shape, Sem.run, hshA, hshB, hfrB, hfa, hfe]
    have hcf := run_callFunc_extern (P := P) hfn hname hb hnx hef #[.slice (some ⟨ba, oa, none⟩) es.length capa, .slice (some ⟨b, off, none⟩) n cap] w
    rw [hov] at hcf
    simp [execOp, ho, resolve, hvx, Deferred.ofValue, invoke, hcf, hva, hv]
end
end Go.Sy
end
section
set_option linter.unusedVariables false
namespace Go.Sy

theorem WM.append_left {H : View} {b : Nat} : ∀ {cs ds : List AV} {o : Nat}, WM H b o (cs ++ ds) → WM H b o cs
  | [], _, _, _ => .nil _ _
  | c :: cs, ds, o, h => by
    cases h with
    | cons _ _ v _ _ hv h1 h t => exact .cons _ _ v _ _ hv h1 h (WM.append_left t)
    | hole _ _ _ hw t => exact .hole _ _ _ hw (WM.append_left t)
theorem WM.append_right {H : View} {b : Nat} : ∀ {cs ds : List AV} {o : Nat}, WM H b o (cs ++ ds) → WM H b (o + cs.length) ds
  | [], _, _, h => by simpa using h
  | c :: cs, ds, o, h => by
    have : WM H b (o + 1) (cs ++ ds) := by
      cases h with
      | cons _ _ v _ _ hv h1 h t => exact t
      | hole _ _ _ hw t => exact t
    have := WM.append_right this
    simpa [Nat.add_assoc, Nat.add_comm 1] using this
theorem WM.drop {H : View} {b : Nat} {cs : List AV} {o : Nat} (h : WM H b o cs) (n : Nat) (hn : n ≤ cs.length) : WM H b (o + n) (cs.drop n) := by
  have h' := h
  rw [← List.take_append_drop n cs] at h'
  have := WM.append_right h'
  rwa [List.length_take, Nat.min_eq_left hn] at this
theorem WM.elem {H : View} {b : Nat} {sz : Nat} : ∀ {es : List (List AV)} {o i : Nat} {e : List AV}, WM H b o es.flatten → (∀ e ∈ es, e.length = sz) → es[i]? = some e → WM H b (o + i * sz) e
  | [], _, _, _, _, _, hi => by simp at hi
  | e0 :: es, o, i, e, h, hs, hi => by
    rw [List.flatten_cons] at h
    cases i with
    | zero => simp at hi; subst hi; simpa using WM.append_left h
    | succ i =>
      have h2 := WM.append_right h
      rw [hs e0 (by simp)] at h2
      have := WM.elem h2 (fun x hx => hs x (by simp [hx])) (by simpa using hi)
      rw [show o + (i + 1) * sz = o + sz + i * sz by rw [Nat.add_mul]; omega]
      exact this

def unhole : AV → AV
  | .hole => .junk
  | a => a

theorem D.wslice {H : View} {v : Value} {sz : Nat} {es : List (List AV)} (h : D H v (.wsl sz es)) :
    (v = .slice none 0 0 ∧ es = []) ∨ (∃ a cap, v = .slice (some a) 0 cap ∧ es = []) ∨ ∃ b off cap, v = .slice (some ⟨b, off, none⟩) es.length cap ∧ es.length ≤ cap ∧ (∀ e ∈ es, e.length = sz) ∧ WM H b off es.flatten := by
  cases h with
  | wnil => exact .inl ⟨rfl, rfl⟩
  | wemp a cap => exact .inr (.inl ⟨a, cap, rfl, rfl⟩)
  | wsl b off cap _ _ hc hs h => exact .inr (.inr ⟨b, off, cap, rfl, hc, hs, h⟩)

theorem setCell_block (w : World) (b o : Nat) (v : Value) {k : Nat} (h : k ≠ b) : (w.setCell ⟨b, o, none⟩ v).heap[k]? = w.heap[k]? := by
  simp only [World.setCell, Array.getElem?_modify]
  rw [if_neg (fun e => h e.symm)]
theorem setCell_cell (w : World) (b o : Nat) (v : Value) {u : Value} {b' o' : Nat} (hu : w.cell? ⟨b', o', none⟩ = some u) : (w.setCell ⟨b, o, none⟩ v).cell? ⟨b', o', none⟩ = some (if b' = b ∧ o' = o then v else u) := by
  by_cases hb : b' = b
  · subst hb
    simp only [World.cell?, World.setCell, Array.getElem?_modify, if_true] at hu ⊢
    cases hq : w.heap[b']? with
    | none => rw [hq] at hu; cases hu
    | some ob =>
      rw [hq] at hu
      cases ob with
      | cells c T fr =>
        simp only [Option.isSome_none, Bool.false_eq_true, if_false] at hu
        simp only [Option.map_some, Option.isSome_none, Bool.false_eq_true, if_false, Array.getElem?_setIfInBounds, true_and]
        have hlt := (Array.getElem?_eq_some_iff.1 hu).1
        by_cases ho : o' = o
        · subst ho; simp [hlt]
        · have ho' : ¬ o = o' := fun e => ho e.symm
          simp [ho, ho', hu]
      | _ => cases hu
  · rw [cell_same (setCell_block w b o v hb) hu, if_neg (fun h => hb h.1)]
theorem setCell_frozen (w : World) (b o : Nat) (v : Value) (b' o' : Nat) : (w.setCell ⟨b, o, none⟩ v).frozen? ⟨b', o', none⟩ = w.frozen? ⟨b', o', none⟩ := by
  by_cases hb : b' = b
  · subst hb
    simp only [World.frozen?, World.setCell, Array.getElem?_modify, if_true]
    cases hq : w.heap[b']? with
    | none => rfl
    | some ob => cases ob <;> rfl
  · exact frozen_same (setCell_block w b o v hb)

section
variable {P : Program} {nb : Nat} {t : TypeId} {σ : St} {K : Kont}

theorem Mem.setHole {c : Ctx} {H : View} {ε : Env} {ob : Nat → Option Ob} {w : World} (hm : Mem c H ε ob w) {b o : Nat} (hw : H.wr b o) {v : Value} (h1 : v.oneCell' = true) : Mem c H ε ob (w.setCell ⟨b, o, none⟩ v) := by
  obtain ⟨hn, ⟨v0, hc, hv0, hz0⟩, hno⟩ := hm.wr b o hw
  exact { hm with
    view := fun b' o' u h => by
      rw [setCell_cell w b o v (hm.view b' o' u h), if_neg]
      rintro ⟨rfl, rfl⟩; rw [hn] at h; cases h
    objs := fun i y hy => (hm.objs i y hy).ext (View.le_refl H) (Env.le_refl ε) rfl (fun b' hb' => setCell_block w b o v (fun e => hno i (by rw [hy]; simp) (by rw [hb', e]))) (fun _ _ _ => rfl)
    size := by simp only [World.setCell, Array.size_modify]; exact hm.size
    block := fun k hk hS hz => by
      rw [setCell_block w b o v (fun e => hz (by rw [e]; exact ⟨o, hw⟩))]
      exact hm.block k hk hS hz
    lo := by simp only [World.setCell, Array.size_modify]; exact hm.lo
    fz := fun b' o' u h hz => by rw [setCell_frozen]; exact hm.fz b' o' u h hz
    wr := fun b' o' h => by
      obtain ⟨q1, ⟨u, q2, q3, q4⟩, q5⟩ := hm.wr b' o' h
      refine ⟨q1, ⟨_, setCell_cell w b o v q2, ?_, ?_⟩, q5⟩
      · split
        · exact h1
        · exact q3
      · rw [setCell_frozen]; exact q4 }

theorem good_wStore {t' : TypeId} {x y : Operand} {T : TY} {cs : List AV} (hT : ty P t' = some T) (hx : σ.ev x = .wref (.hole :: cs)) (h1 : T.n = 1) (hy : (σ.ev y).one = true) (hK : K .junk [] []) : Good P nb (.store t' x y) t σ K := by
  refine ⟨.junk, [], [], fun σ' hx' _ => ?_, hK⟩
  intro c H ε a w o ho _ hm hr hf next Q hnx
  have hv := R_ev hr x; rw [(hx' x (by simp [Op.operands])).trans hx] at hv
  obtain ⟨b, off, hv, hd⟩ := hv.wref_inv
  have hyv := R_ev hr y; rw [hx' y (by simp [Op.operands])] at hyv
  have hone := hyv.one hy
  have hw : H.wr b off := by
    cases hd with
    | hole _ _ _ hw _ => exact hw
    | cons _ _ _ _ _ _ _ h _ => cases h
  obtain ⟨hn, ⟨v0, hc, hv0, hz0⟩, _⟩ := hm.wr b off hw
  obtain ⟨inf, d, z, hi, hd, hz, hTn, _⟩ := ty_inv hT
  have hsz : ¬ ((a.eval y).cells.size ≠ inf.size) := by rw [cells_one hone, ← hTn, h1]; simp
  have hrun : (execOp a.eval o).run P w = .ok .skip (w.setCell ⟨b, off, none⟩ (a.eval y)) := by
    simp only [execOp, ho, Instr.storeAt, hv, Instr.sureAddr, Sem.run_bind, Sem.run_pure, Result.andThen_ok, storeVar, run_sizeOf' hi, if_neg hsz]
    rw [cells_one hone]
    simp only [storeCells, Sem.run_bind, add_eq, Nat.add_zero, run_store P w _ _ _ hone, hc, hz0, Bool.false_eq_true, if_false, Result.andThen_ok, Sem.run_pure]
  refine wpIn_of_wp (fun c hc => by rw [ho] at hc; cases hc) ?_
  unfold Oper.wp
  rw [hrun]
  exact hnx undef _ H ε (View.le_refl H) (Env.le_refl ε) (fun _ h _ => h) (.junk _) (hm.setHole hw hone)

theorem good_wIdx {t' : TypeId} {x y : Operand} {e : TypeId} {U : TY} {k : IntKind} {i : Int} {sz : Nat} {es : List (List AV)} (he : elemTy P (ty P t') = some (e, U)) (hx : σ.ev x = .wsl sz es) (hy : σ.ev y = .s (.int k i)) (h1 : U.n = sz)
    (h2 : 0 ≤ i ∧ i.toNat < es.length) (hK : ∀ el, es[i.toNat]? = some el → K (.wref el) [] []) : Good P nb (.indexAddr t' x y) t σ K := by
  obtain ⟨T, hT, hk, hU⟩ := elemTy_inv he
  have hel : es[i.toNat]? = some es[i.toNat] := by simp [h2.2]
  refine .plain (fun σ' hx' => .pure fun c H ε ρ w o ho _ hm hr => ?_) (hK _ hel)
  have hv := hr x; rw [(hx' x (by simp [Op.operands])).trans hx] at hv
  have hi := hr y; rw [(hx' y (by simp [Op.operands])).trans hy] at hi
  have hd := slice_inv hT hk
  obtain ⟨inf2, d2, _, hi2, _, _, hn2, _⟩ := ty_inv hU
  rcases hv.wsl_inv.wslice with ⟨_, hnil⟩ | ⟨_, _, _, hnil⟩ | ⟨b, off, cap, hv, _, hs, hmm⟩
  · rw [hnil] at h2; simp at h2
  · rw [hnil] at h2; simp at h2
  · refine ⟨.pointer (some ⟨b, off + i.toNat * sz, none⟩), ?_, .d _ _ (.wref _ _ _ (hmm.elem hs hel))⟩
    have h0 := h2.1
    have hlt' : i < (es.length : Int) := by have := h2.2; omega
    simp only [execOp, ho, hv, hi.s_inv.1, Instr.indexAt, asIntOf, Sem.run_bind, Sem.run_pure, Result.andThen_ok, run_underlying' hd, h0, hlt', and_self, if_true, run_sizeOf' hi2, ← hn2, h1, add_eq]

theorem good_wLen {t' : TypeId} {x : Operand} {e : TypeId} {U : TY} {sz : Nat} {es : List (List AV)} (he : elemTy P (ty P t') = some (e, U)) (hx : σ.ev x = .wsl sz es) (hK : K (.s (.int .i64 es.length)) [] []) : Good P nb (.call { callee := .builtin .len, args := #[x], argTypes := #[t'] }) t σ K := by
  obtain ⟨T, hT, hk, hU⟩ := elemTy_inv he
  refine .plain (fun σ' hx' => .pure fun c H ε ρ w o ho _ hm hr => ?_) hK
  have hv := hr x; rw [(hx' x (by simp [Op.operands, Call.operands])).trans hx] at hv
  have hd := slice_inv hT hk
  refine ⟨_, ?_, .d _ _ (.s _ rfl)⟩
  rcases hv.wsl_inv.wslice with ⟨hv', rfl⟩ | ⟨a, cap, hv', rfl⟩ | ⟨b, off, cap, hv', _⟩
  · simp [execOp, ho, resolve, invoke, builtin, hv', Builtin.len_, run_underlying' hd, goInt]
  · simp [execOp, ho, resolve, invoke, builtin, hv', Builtin.len_, run_underlying' hd, goInt]
  · simp [execOp, ho, resolve, invoke, builtin, hv', Builtin.len_, run_underlying' hd, goInt]

theorem good_wFld {s : TypeId} {x : Operand} {i off n : Nat} {ag : Bool} {T : TY} {cs : List AV} (hT : ty P s = some T) (hx : σ.ev x = .wref cs) (hk : T.kd = .struct) (hf : T.fields[i]? = some (some (off, n, ag))) (hn : 0 < n)
    (ho' : off ≤ cs.length) (hK : K (.wref (cs.drop off)) [] []) : Good P nb (.fieldAddr s x i) t σ K :=
  .plain (fun σ' hx' => .pure fun _ _ _ ρ _ o ho _ _ hr => by
    have hc := hr x; rw [(hx' x (by simp [Op.operands])).trans hx] at hc
    obtain ⟨b, off', hv, hd⟩ := hc.wref_inv
    exact ⟨_, by simp only [execOp, ho, hv, Sem.run_bind, run_fieldAt' hT hk hf hn, Result.andThen_ok, Sem.run_pure], .d _ _ (.wref _ _ _ (hd.drop off ho'))⟩) hK

theorem good_wLoad {t' : TypeId} {x : Operand} {T : TY} {c0 : AV} {cs : List AV} (hT : ty P t' = some T) (hx : σ.ev x = .wref (c0 :: cs)) (hk : T.kd.agg = false) (h1 : T.n = 1) (hK : K (unhole c0) [] []) : Good P nb (.load t' x) t σ K :=
  .plain (fun σ' hx' => .pure fun c H ε ρ w o ho _ hm hr => by
    have hc := hr x; rw [(hx' x (by simp [Op.operands])).trans hx] at hc
    obtain ⟨b, off, hv, hd⟩ := hc.wref_inv
    have hcell : ∃ v, w.cell? ⟨b, off, none⟩ = some v ∧ R H ε v (unhole c0) := by
      cases hd with
      | hole _ _ _ hw t => obtain ⟨_, ⟨v, q, _⟩, _⟩ := hm.wr _ _ hw; exact ⟨v, q, .junk _⟩
      | cons _ _ v _ _ hv h1 h t =>
        refine ⟨v, hm.view _ _ _ hv, ?_⟩
        have : unhole c0 = c0 := by cases h <;> rfl
        rw [this]; exact .d _ _ h
    obtain ⟨v, hcv, hR⟩ := hcell
    refine ⟨v, ?_, hR⟩
    have := run_loadVar' (P := P) (w := w) (vs := [v]) (b := b) (o := off) hT (by simp [h1]) (fun _ => h1) (fun j u hj => by
      cases j with
      | zero => simp at hj; subst hj; simpa using hcv
      | succ j => simp at hj)
    simp only [hk, Bool.false_eq_true, if_false, List.headD_cons] at this
    simp only [execOp, ho, Instr.loadAt, hv, Instr.sureAddr, Sem.run_bind, Sem.run_pure, Result.andThen_ok, this]) hK
end
end Go.Sy
end

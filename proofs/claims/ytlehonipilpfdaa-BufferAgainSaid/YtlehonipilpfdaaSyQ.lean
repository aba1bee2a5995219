/- The symbolic layer, seventeenth part: a walk operation by operation, what comes later hidden behind a variable; what an operation asks is reckoned by 'whnf'. No condition. -/
import Derived.Test.YtlehonipilpfdaaSy2
set_option linter.unusedVariables false
namespace Go.Sy

/-- A slot written, an object written: in the form that reckons fast. -/
def wr (tm : Nat → AV) (d : Nat) (r : AV) : Nat → AV := fun j => bif Nat.beq j d then r else tm j
def wo (ob : Nat → Option Ob) (d : Nat) (x : Ob) : Nat → Option Ob := fun j => bif Nat.beq j d then x.opt else ob j
def wos (ob : Nat → Option Ob) : List (Nat × Ob) → Nat → Option Ob
  | [] => ob
  | (d, x) :: l => wos (wo ob d x) l
def slots : List AV → Nat → AV
  | [], _ => .tup []
  | a :: _, 0 => a
  | _ :: l, n + 1 => slots l n
theorem beq_dec (j d : Nat) : Nat.beq j d = decide (j = d) := by
  rw [Bool.eq_iff_iff]; simp [Nat.beq_eq]
theorem wr_upd (tm : Nat → AV) (d : Nat) (r : AV) : upd tm d r = wr tm d r := by funext j; simp [wr, upd, beq_dec, Bool.cond_decide]
theorem wo_updG (ob : Nat → Option Ob) (d : Nat) (x : Ob) : updG ob d x = wo ob d x := by funext j; simp [wo, updG, beq_dec, Bool.cond_decide]
theorem wo_upd (ob : Nat → Option Ob) (d : Nat) (x : Ob) (h : x.opt = some x) : updOb ob d x = wo ob d x := by rw [← wo_updG, updG_eq _ _ _ h]
theorem wo_box (ob : Nat → Option Ob) (d : Nat) (cs : List AV) : updOb ob d (.box cs) = wo ob d (.box cs) := wo_upd ob d _ rfl
theorem wo_perm (ob : Nat → Option Ob) (d e sz n : Nat) : updOb ob d (.perm e sz n) = wo ob d (.perm e sz n) := wo_upd ob d _ rfl
theorem wos_upd : ∀ (ws : List (Nat × Ob)) (ob : Nat → Option Ob), applyW ob ws = wos ob ws
  | [], _ => rfl
  | (d, x) :: l, ob => by
    show applyW (updG ob d x) l = _
    rw [wo_updG]; exact wos_upd l _
theorem slots_get : ∀ (l : List AV) (i : Nat), l.getD i (.tup []) = slots l i
  | [], _ => rfl
  | _ :: _, 0 => rfl
  | _ :: l, n + 1 => by simpa [slots] using slots_get l n

/-! ### Values made plain -/
def AV.nf1 (a : AV) (k : AV → Prop) : Prop := match a with
  | .s v => k (.s v) | .agg cs => k (.agg cs) | .tup cs => k (.tup cs) | .sl sz es => k (.sl sz es) | .osl p sz es => k (.osl p sz es)
  | .ref cs => k (.ref cs) | .ptr id off => k (.ptr id off) | .bsl id off sz n cap => k (.bsl id off sz n cap) | .fn f a b => k (.fn f a b) | .junk => k .junk
theorem nf1_eq (a : AV) (k : AV → Prop) : a.nf1 k = k a := by cases a <;> rfl
def nfL : List AV → (List AV → Prop) → Prop
  | [], k => k []
  | a :: l, k => a.nf1 fun a => nfL l fun l => k (a :: l)
theorem nfL_eq : ∀ (l : List AV) (k : List AV → Prop), nfL l k = k l
  | [], _ => rfl
  | a :: l, k => by simp only [nfL, nf1_eq, nfL_eq l]
def AV.nf (a : AV) (k : AV → Prop) : Prop := match a with
  | .s v => k (.s v) | .agg cs => nfL cs fun cs => k (.agg cs) | .tup cs => nfL cs fun cs => k (.tup cs) | .sl sz es => k (.sl sz es) | .osl p sz es => k (.osl p sz es)
  | .ref cs => nfL cs fun cs => k (.ref cs) | .ptr id off => k (.ptr id off) | .bsl id off sz n cap => k (.bsl id off sz n cap) | .fn f a b => nfL a fun a => nfL b fun b => k (.fn f a b) | .junk => k .junk
theorem nf_eq (a : AV) (k : AV → Prop) : a.nf k = k a := by cases a <;> simp only [AV.nf, nfL_eq]
def nfWs : List (Nat × Ob) → (List (Nat × Ob) → Prop) → Prop
  | [], k => k []
  | (id, .box cs) :: l, k => nfL cs fun cs => nfWs l fun l => k ((id, .box cs) :: l)
  | (id, .perm e sz n) :: l, k => nfWs l fun l => k ((id, .perm e sz n) :: l)
  | (id, .gone) :: l, k => nfWs l fun l => k ((id, .gone) :: l)
theorem nfWs_eq : ∀ (l : List (Nat × Ob)) (k : List (Nat × Ob) → Prop), nfWs l k = k l
  | [], _ => rfl
  | (id, .box cs) :: l, k => by simp only [nfWs, nfL_eq, nfWs_eq l]
  | (id, .perm e sz n) :: l, k => by simp only [nfWs, nfWs_eq l]
  | (id, .gone) :: l, k => by simp only [nfWs, nfWs_eq l]
def nfK (K : Kont) : Kont := fun r deps ws => r.nf fun r => nfWs ws fun ws => K r deps ws
theorem nfK_eq (K : Kont) : nfK K = K := by
  funext r deps ws
  show r.nf (fun r => nfWs ws fun ws => K r deps ws) = _
  rw [nf_eq, nfWs_eq]

/-! ### What an operation asks, over a table of types -/
/-- What the prover has to show on the side. -/
def Side (p : Prop) : Prop := p
theorem Side.mk {p : Prop} (h : p) : Side p := h
/-- The table says of each type what the program says. -/
def TabOK (P : Program) (T : TypeId → Option TY) : Prop := ∀ t U, T t = some U → ty P t = some U
def elemT (T : TypeId → Option TY) (U : Option TY) : Option (TypeId × TY) := match U with
  | some U => (match U.kd with | .slice e => (match T e with | some V => some (e, V) | none => none) | _ => none)
  | none => none
theorem elemT_ok' {P : Program} {T : TypeId → Option TY} (hT : TabOK P T) {t : TypeId} {x : TypeId × TY} (h : elemT T (T t) = some x) : elemTy P (ty P t) = some x := by
  cases hU : T t with
  | none => rw [hU] at h; cases h
  | some U =>
    rw [hT _ _ hU]; rw [hU] at h
    unfold elemT at h
    unfold elemTy
    simp only at h ⊢
    split at h
    · split at h
      · rename_i k e hk y V hV; rw [hk]; simp only [hT _ _ hV, Option.map_some]; exact h
      · cases h
    · cases h
theorem elemT_ok {P : Program} {T : TypeId → Option TY} (hT : TabOK P T) {U : Option TY} {x : TypeId × TY} (h : elemT T U = some x) : elemTy P U = some x := by
  unfold elemT at h
  unfold elemTy
  cases U with
  | none => cases h
  | some U =>
    simp only at h ⊢
    split at h
    · split at h
      · rename_i k e hk y V hV; rw [hk]; simp only [hT _ _ hV, Option.map_some]; exact h
      · cases h
    · cases h
def kindEq (k k' : IntKind) : Bool := Nat.beq k.ctorIdx k'.ctorIdx
theorem kindEq_iff {k k' : IntKind} (h : kindEq k k' = true) : k = k' := by
  cases k <;> cases k' <;> first | rfl | (exact absurd h (by decide))
def isSh : BinOp → Bool
  | .shl | .shr => true
  | _ => false
def optV (o : Option Value) (K : Kont) : Prop := match o with | some v => K (.s v) [] [] | none => False
def intT (op : BinOp) (k : IntKind) (a b : Int) (K : Kont) : Prop := match op with
  | .quo => Side (b ≠ 0) ∧ K (.s (.int k (k.wrap (a.tdiv b)))) [] []
  | .rem => Side (b ≠ 0) ∧ K (.s (.int k (a.tmod b))) [] []
  | .shl => Side (0 ≤ b) ∧ K (.s (.int k (k.wrap (a * 2 ^ min b.toNat k.bits)))) [] []
  | .shr => Side (0 ≤ b) ∧ K (.s (.int k (a.fdiv (2 ^ min b.toNat k.bits)))) [] []
  | op => optV (intOp op k a b) K
theorem intT_opt {op : BinOp} {k : IntKind} {a b : Int} {K : Kont} (h : intT op k a b K) : optV (intOp op k a b) K := by
  unfold intT at h
  split at h
  · have h1 : b ≠ 0 := h.1
    simp only [intOp, if_neg h1, optV]; exact h.2
  · have h1 : b ≠ 0 := h.1
    simp only [intOp, if_neg h1, optV]; exact h.2
  · have h1 : 0 ≤ b := h.1
    simp only [intOp, if_neg (Int.not_lt.2 h1), optV]; exact h.2
  · have h1 : 0 ≤ b := h.1
    simp only [intOp, if_neg (Int.not_lt.2 h1), optV]; exact h.2
  · exact h
def isEq : BinOp → Option Bool
  | .eql => some true
  | .neq => some false
  | _ => none
def binT (T : TypeId → Option TY) (P : Program) (op : BinOp) (t : TypeId) (x y : AV) (K : Kont) : Prop := match x, y with
  | .s (.int k a), .s (.int k' b) => bif isSh op || kindEq k k' then intT op k a b K else False
  | .s (.string a), .s (.string b) => optV (strOp op a b) K
  | .s (.bool a), .s (.bool b) => (match T t with | some U => U.kd = .bool ∧ (match isEq op with | some e => K (.s (.bool (if e = true then a == b else !(a == b)))) [] [] | none => False) | none => False)
  | .agg cs, .agg ds => (match scal cs, scal ds with | some vs, some us => ∃ b, EqV P op t vs us b ∧ K (.s (.bool b)) [] [] | _, _ => False)
  | x, .s (.slice none 0 0) => (match T t, nilIs x with | some U, some b => (match U.kd with | .slice _ => True | _ => False) ∧ (match isEq op with | some e => K (.s (.bool (if e = true then b else !b))) [] [] | none => False) | _, _ => False)
  | _, _ => False
theorem binT_ok {P : Program} {T : TypeId → Option TY} (hT : TabOK P T) {op : BinOp} {t : TypeId} {x y : AV} {K : Kont} (h : binT T P op t x y K) : binVC P op t x y K := by
  unfold binT at h
  unfold binVC
  split at h
  · rename_i k a k' b
    simp only
    cases hs : isSh op || kindEq k k' with
    | false => rw [hs] at h; exact h.elim
    | true =>
      rw [hs] at h; simp only [cond_true] at h
      have h := intT_opt h
      simp only [optV] at h
      split
      · exact h
      · rename_i hn
        have : isSh op = false := by cases op <;> simp_all [isSh]
        rw [this, Bool.false_or] at hs
        rw [if_pos (kindEq_iff hs)]; exact h
  · exact h
  · rename_i a b
    simp only
    split at h
    · rename_i U hU
      rw [hT _ _ hU]
      refine ⟨h.1, ?_⟩
      have h2 := h.2
      cases op <;> simp only [isEq] at h2 <;> first | exact h2.elim | exact ⟨by simp, by simpa using h2⟩
    · exact h.elim
  · exact h
  · split at h
    · rename_i U b hU hb
      simp only [hT _ _ hU, hb]
      obtain ⟨h1, h2⟩ := h
      refine ⟨?_, ?_⟩
      · split at h1
        · rename_i e he; exact ⟨e, he⟩
        · exact h1.elim
      · cases op <;> simp only [isEq] at h2 <;> first | exact h2.elim | exact ⟨by simp, by simpa using h2⟩
    · exact h.elim
  · exact h.elim
def litT (T : TypeId → Option TY) (nb : Nat) (U : Option TY) (len : Nat) (parts : List (Nat × Operand)) (ev : Operand → AV) (K : Kont) : Prop := match elemT T U with
  | some (e, U) => 0 < U.n ∧ len * U.n ≤ 16777216 ∧ parts.map (·.1) = List.range len ∧ (match litRows U.n (parts.map fun x => ev x.2) with | some es => K (.osl nb U.n es) [] [(nb, .perm e U.n len)] | none => False)
  | none => False
def idxAddrT (T : TypeId → Option TY) (U : Option TY) (x y : AV) (K : Kont) : Prop := match elemT T U, y with
  | some (e, U), .s (.int k i) => (match rowsOK U.n x with | some es => Side (0 ≤ i ∧ i.toNat < es.length) ∧ ∀ el, es[i.toNat]? = some el → K (.ref el) [] [] | none => False)
  | _, _ => False
def slcT (T : TypeId → Option TY) (U : Option TY) (x : AV) (lo hi : Option AV) (K : Kont) : Prop := match U with
  | some U => (match U.kd, x with
    | .str, .s (.string s) => bound lo 0 fun l => bound hi s.size fun h => Side (l ≤ h) ∧ Side (h ≤ s.size) ∧ K (.s (.string (s.extract l h))) [] []
    | .slice e, x => (match T e with
      | some U => (match rowsOK U.n x with | some es => bound lo 0 fun l => bound hi es.length fun h => Side (l ≤ h) ∧ Side (h ≤ es.length) ∧ K (.sl U.n ((es.take h).drop l)) [] [] | none => False)
      | none => False)
    | _, _ => False)
  | none => False
def appT (T : TypeId → Option TY) (nb : Nat) (U : Option TY) (s x : AV) (ob : Nat → Option Ob) (K : Kont) : Prop := match elemT T U with
  | some (e, U) => 0 < U.n ∧ U.zero.length = U.n ∧ (match rowsOK U.n x with
    | some fs => (match s with
      | .osl p sz es => sz = U.n ∧ ob p = some (.perm e U.n es.length) ∧ Side (es.length + fs.length ≤ 9223372036854775807) ∧ Side ((es.length + fs.length) * U.bytes ≤ 140737488355328) ∧ K (.osl p U.n (es ++ fs)) [p] [(p, .perm e U.n (es.length + fs.length))]
      | .s v => v = .slice none 0 0 ∧ Side (fs.length ≤ 9223372036854775807) ∧ Side (fs.length * U.bytes ≤ 140737488355328) ∧ K (.osl nb U.n fs) [] [(nb, .perm e U.n fs.length)]
      | _ => False)
    | none => False)
  | none => False
def vc0 (T : TypeId → Option TY) (P : Program) (nb : Nat) (op : Op) (t : TypeId) (σ : St) (K : Kont) : Prop := match op with
  | .move x | .assign x => K (σ.ev x) [] []
  | .pick c x y => pickVC (σ.ev c) (σ.ev x) (σ.ev y) K
  | .extract x i => extVC (σ.ev x) i K
  | .unOp op _ x => unVC op (σ.ev x) K
  | .binOp op t' x y _ => binT T P op t' (σ.ev x) (σ.ev y) K
  | .load t' x => loadVC (T t') (σ.ev x) σ.ob K
  | .store t' x y => storeVC (T t') (σ.ev x) (σ.ev y) σ.ob K
  | .alloc t' => allocVC (T t') nb K
  | .box t' x => boxVC nb (σ.ev x) K
  | .build t' parts => buildVC (T t') (parts.toList.map fun x => (x.1, σ.ev x.2)) K
  | .buildSlice t' len parts => litT T nb (T t') len parts.toList σ.ev K
  | .nilCheck x => nilVC (σ.ev x) K
  | .fieldAddr s x i => fldAddrVC (T s) (σ.ev x) i K
  | .field s x i => fldVC (T s) (σ.ev x) i K
  | .indexAddr t' x y => idxAddrT T (T t') (σ.ev x) (σ.ev y) K
  | .index t' x y => idxVC (T t') (σ.ev x) (σ.ev y) K
  | .slice t' x lo hi none => slcT T (T t') (σ.ev x) (lo.map σ.ev) (hi.map σ.ev) K
  | .convert s d x => convVC (T s) (T d) (σ.ev x) K
  | .makeFunc f first caps => K (.fn f (first.toList.map σ.ev) (caps.toList.map σ.ev)) [] []
  | .call { callee := .builtin .len, args := ⟨[x]⟩, argTypes := ⟨[t']⟩ } => lenVC (T t') (σ.ev x) K
  | .call { callee := .builtin .append, args := ⟨[s, x]⟩, argTypes := ⟨[t', t'']⟩ } => t' = t'' ∧ appT T nb (T t') (σ.ev s) (σ.ev x) σ.ob K
  | .call { callee := .value f, args, argTypes } => (match σ.ev f with | .fn (.func g) first caps => nfL (first ++ args.toList.map σ.ev ++ caps) fun avs => CallV P nb (.call { callee := .value f, args, argTypes }) t g avs σ K | _ => False)
  | _ => False

theorem slcT_ok {P : Program} {T : TypeId → Option TY} (hT : TabOK P T) {U : Option TY} {x : AV} {lo hi : Option AV} {K : Kont} (h : slcT T U x lo hi K) : slcVC P U x lo hi K := by
  cases U with
  | none => exact h
  | some U =>
    simp only [slcT] at h
    simp only [slcVC]
    split at h
    · rename_i s hk; rw [hk]; exact h
    · rename_i e hk
      rw [hk]
      cases hV : T e with
      | none => rw [hV] at h; exact h.elim
      | some V => rw [hV] at h; simp only [hT _ _ hV]; exact h
    · exact h.elim
theorem callT_ok {P : Program} {nb : Nat} {op : Op} {t : TypeId} {σ : St} {K : Kont} {as : List AV} : ∀ (a : AV), (match a with | .fn (.func g) first caps => nfL (first ++ as ++ caps) (fun avs => CallV P nb op t g avs σ K) | _ => False) → match a with | .fn (.func g) first caps => CallV P nb op t g (first ++ as ++ caps) σ K | _ => False
  | .fn f first caps => by
    cases f
    · intro h; simp only [nfL_eq] at h; exact h
    all_goals exact fun h => h.elim
  | .s _ | .agg _ | .tup _ | .sl _ _ | .osl _ _ _ | .ref _ | .ptr _ _ | .bsl .. | .junk => fun h => h.elim
theorem tab_ok {P : Program} {T : TypeId → Option TY} (hT : TabOK P T) {F : Option TY → Prop} {t : TypeId} (hF : ¬ F none) (h : F (T t)) : F (ty P t) := by
  cases hU : T t with
  | none => rw [hU] at h; exact (hF h).elim
  | some U => rw [hU] at h; rw [hT _ _ hU]; exact h

theorem vc0_ok {P : Program} {T : TypeId → Option TY} (hT : TabOK P T) {nb : Nat} {op : Op} {t : TypeId} {σ : St} {K : Kont} (h : vc0 T P nb op t σ K) : opVC0 P nb op t σ K := by
  unfold vc0 at h
  unfold opVC0
  split at h
  · exact h
  · exact h
  · exact h
  · exact h
  · exact h
  · exact binT_ok hT h
  · exact tab_ok hT (F := fun U => loadVC U _ _ K) (by simp [loadVC]) h
  · exact tab_ok hT (F := fun U => storeVC U _ _ _ K) (by simp [storeVC]) h
  · exact tab_ok hT (F := fun U => allocVC U _ K) (by simp [allocVC]) h
  · exact h
  · exact tab_ok hT (F := fun U => buildVC U _ K) (by simp [buildVC]) h
  · refine tab_ok hT (F := fun U => litVC P nb U _ _ _ K) (by simp [litVC, elemTy]) ?_
    simp only [litT] at h
    simp only [litVC]
    split at h
    · rename_i e U he; rw [elemT_ok hT he]; exact h
    · exact h.elim
  · exact h
  · exact tab_ok hT (F := fun U => fldAddrVC U _ _ K) (by simp [fldAddrVC]) h
  · exact tab_ok hT (F := fun U => fldVC U _ _ K) (by simp [fldVC]) h
  · refine tab_ok hT (F := fun U => idxAddrVC P U _ _ K) (by simp [idxAddrVC, elemTy]) ?_
    simp only [idxAddrT] at h
    simp only [idxAddrVC]
    split at h
    · rename_i e U k i he hy; rw [elemT_ok hT he, hy]; exact h
    · exact h.elim
  · exact tab_ok hT (F := fun U => idxVC U _ _ K) (by simp [idxVC]) h
  · refine tab_ok hT (F := fun U => slcVC P U _ _ _ K) (by simp [slcVC]) ?_
    exact slcT_ok hT h
  · rename_i s d x
    refine tab_ok hT (F := fun U => convVC U _ _ K) (by simp [convVC]) ?_
    exact tab_ok hT (F := fun U => convVC _ U _ K) (by cases T s <;> simp [convVC]) h
  · exact h
  · exact tab_ok hT (F := fun U => lenVC U _ K) (by simp [lenVC]) h
  · refine ⟨h.1, ?_⟩
    have h := h.2
    refine tab_ok hT (F := fun U => appVC P nb U _ _ _ K) (by simp [appVC, elemTy]) ?_
    simp only [appT] at h
    simp only [appVC]
    split at h
    · rename_i e U he; rw [elemT_ok hT he]; exact h
    · exact h.elim
  · exact callT_ok _ h
  · exact h.elim
/-- A number's type. -/
def intKd (N : Option TY) : Option IntKind := match N with
  | some N => (match N.kd with | .int k => some k | _ => none)
  | none => none
/-- Cells that are bytes. -/
def vc (T : TypeId → Option TY) (P : Program) (nb : Nat) (op : Op) (t : TypeId) (σ : St) (K : Kont) : Prop := match op with
  | .makeSlice t' l c => (match elemT T (T t'), σ.ev l, σ.ev c with
    | some (e, U), .s (.int _ n), .s (.int _ n') => n = n' ∧ Nat.beq U.n 1 = true ∧ U.zero.length = 1 ∧ U.zero.all (·.oneCell') = true ∧ Side (0 ≤ n) ∧ Side (n ≤ 1000000) ∧ Side (U.bytes ≤ 1000) ∧ K (.bsl nb 0 1 n.toNat n.toNat) [] [(nb, .box (List.replicate n.toNat (.s (U.zero.headD .nilIface))))]
    | _, _, _ => False)
  | .indexAddr t' x y => (match σ.ev x with
    | .bsl id off sz n cap => (match elemT T (T t'), σ.ev y with
      | some (_, U), .s (.int _ i) => U.n = sz ∧ Side (0 ≤ i) ∧ Side (i < n) ∧ K (.ptr id (off + i.toNat * sz)) [] []
      | _, _ => False)
    | _ => vc0 T P nb (.indexAddr t' x y) t σ K)
  | .call { callee := .builtin .len, args := ⟨[x]⟩, argTypes := ⟨[t']⟩ } => (match σ.ev x with
    | .bsl _ _ _ n _ => (match elemT T (T t') with | some _ => K (.s (.int .i64 n)) [] [] | none => False)
    | _ => vc0 T P nb (.call { callee := .builtin .len, args := ⟨[x]⟩, argTypes := ⟨[t']⟩ }) t σ K)
  | .convert s d x => (match T s, T d, σ.ev x with
    | some S, some D, .s (.string b) => (match S.kd, elemT T (some D) with | .str, some (_, U) => U.kd = .int .u8 ∧ K (.sl 1 (byteRows b)) [] [] | _, _ => vc0 T P nb (.convert s d x) t σ K)
    | some S, some D, .bsl id off sz n cap => (match elemT T (some S), D.kd, σ.ob id with
      | some (_, U), .str, some (.box cs) => U.kd = .int .u8 ∧ sz = 1 ∧ Side (off + n ≤ cs.length) ∧ (match numsOf ((cs.drop off).take n) with | some xs => K (.s (.string (strOfNums xs))) [id] [] | none => False)
      | _, _, _ => False)
    | some S, some D, x' => (match elemT T (some S), D.kd, x'.rows with
      | some (_, U), .str, some (1, es) => U.kd = .int .u8 ∧ (match numsOf es.flatten with | some xs => K (.s (.string (strOfNums xs))) [] [] | none => False)
      | _, _, _ => vc0 T P nb (.convert s d x) t σ K)
    | _, _, _ => vc0 T P nb (.convert s d x) t σ K)
  | .makeInterface t' x => (match T t', σ.ev x with | some U, .agg [] => U.kd = .struct ∧ K (.s (.iface t' (.agg #[]))) [] [] | _, _ => False)
  | .slice t' x lo hi none => (match σ.ev x with
    | .bsl id off sz n cap => (match elemT T (T t') with
      | some (_, U) => U.n = sz ∧ bound (lo.map σ.ev) 0 fun l => bound (hi.map σ.ev) n fun h => Side (l ≤ h) ∧ Side (h ≤ cap) ∧ Side (l < cap) ∧ K (.bsl id (off + l * sz) sz (h - l) (cap - l)) [] []
      | none => False)
    | _ => vc0 T P nb (.slice t' x lo hi none) t σ K)
  | .call { callee := .builtin .cap, args := ⟨[x]⟩, argTypes := ⟨[t']⟩ } => (match σ.ev x with
    | .bsl _ _ _ _ cap => (match elemT T (T t') with | some _ => K (.s (.int .i64 cap)) [] [] | none => False)
    | _ => False)
  | .call { callee := .builtin .copy, args := ⟨[d, s]⟩, argTypes := ⟨[t1, t2]⟩ } => (match σ.ev d with
    | .bsl id off sz n cap => (match elemT T (T t1), σ.ob id, srcOf sz (σ.ev s) σ.ob with
      | some (_, U), some (.box cs), some (src, m, ids, need, room) => U.n = sz ∧ Side (off + n * sz ≤ cs.length) ∧ Side (need ≤ room) ∧ Side (0 < m) ∧ OneL (src.take (min m n * sz)) ∧
          K (.s (.int .i64 (min m n : Nat))) (id :: ids) [(id, .box (cs.take off ++ src.take (min m n * sz) ++ cs.drop (off + min m n * sz)))]
      | _, _, _ => False)
    | _ => False)
  | .call { callee := .builtin .append, args := ⟨[s, x]⟩, argTypes := ⟨[t', t'']⟩ } => (match σ.ev s, σ.ev x with
    | .bsl id off sz n cap, .s (.int _ k) => (match elemT T (T t'), intKd (T t''), σ.ob id with
      | some (e, U), some _, some (.box cs) => 0 < U.n ∧ U.zero.length = U.n ∧ U.zero.all (·.oneCell') = true ∧ U.n = sz ∧ Side (off + n * sz ≤ cs.length) ∧ Side (0 < k) ∧ Side (cap < n + k.toNat) ∧ Side (n + k.toNat ≤ 9223372036854775807) ∧ Side ((n + k.toNat) * U.bytes ≤ 140737488355328) ∧
          AppZ cs off sz n fun es => K (.osl nb sz (es ++ List.replicate k.toNat (U.zero.map .s))) [id] [(nb, .perm e sz (n + k.toNat))]
      | _, _, _ => False)
    | _, _ => vc0 T P nb (.call { callee := .builtin .append, args := ⟨[s, x]⟩, argTypes := ⟨[t', t'']⟩ }) t σ K)
  | op => vc0 T P nb op t σ K
theorem intKd_ok {P : Program} {T : TypeId → Option TY} (hT : TabOK P T) {t : TypeId} {k : IntKind} (h : intKd (T t) = some k) : ∃ N, ty P t = some N ∧ N.kd = .int k := by
  unfold intKd at h
  split at h
  · rename_i N hN
    split at h
    · rename_i k' hk; cases h; exact ⟨N, hT _ _ hN, hk⟩
    · cases h
  · cases h
theorem vc_ok {P : Program} {T : TypeId → Option TY} (hT : TabOK P T) {nb : Nat} {op : Op} {t : TypeId} {σ : St} {K : Kont} (h : vc T P nb op t σ K) : opVC P nb op t σ K := by
  unfold vc at h
  split at h
  · rename_i t' l c
    refine .inr ?_
    split at h
    · rename_i e U k1 n k2 n' he hl hc
      obtain ⟨rfl, h1, h2, h3, h4, h5, h6, hK⟩ := h
      exact good_make (elemT_ok' hT he) hl hc (by simpa using h1) h2 h3 h4 h5 h6 hK
    · exact h.elim
  · rename_i t' x y
    split at h
    · rename_i id off sz n cap hx
      refine .inr ?_
      split at h
      · rename_i e U k i he hy
        obtain ⟨h1, h2, h3, hK⟩ := h
        exact good_bslAddr (elemT_ok' hT he) hx hy h1 h2 h3 hK
      · exact h.elim
    · exact .inl (vc0_ok hT h)
  · rename_i x t'
    split at h
    · rename_i id off sz n cap hx
      refine .inr ?_
      split at h
      · rename_i z he
        obtain ⟨e, U⟩ := z
        exact good_bslLen (elemT_ok' hT he) hx h
      · exact h.elim
    · exact .inl (vc0_ok hT h)
  · rename_i s d x
    split at h
    · rename_i S D b hS hD hx
      split at h
      · rename_i e U hk he
        exact .inr (good_toBytes (hT _ _ hS) hk (elemT_ok' hT (t := d) (by rw [hD]; exact he)) h.1 hx h.2)
      · exact .inl (vc0_ok hT h)
    · rename_i S D id off sz n cap hS hD hx
      refine .inr ?_
      split at h
      · rename_i e U cs he hk hob
        obtain ⟨h1, rfl, h2, h⟩ := h
        split at h
        · rename_i xs hn
          exact good_ofBytesB (elemT_ok' hT (t := s) (by rw [hS]; exact he)) (hT _ _ hD) hk h1 hx hob h2 hn h
        · exact h.elim
      · exact h.elim
    · rename_i S D hS hD _ _
      split at h
      · rename_i e U es he hk hrow
        refine .inr ?_
        obtain ⟨h1, h⟩ := h
        split at h
        · rename_i xs hn
          exact good_ofBytesR (elemT_ok' hT (t := s) (by rw [hS]; exact he)) (hT _ _ hD) hk h1 hrow hn h
        · exact h.elim
      · exact .inl (vc0_ok hT h)
    · exact .inl (vc0_ok hT h)
  · rename_i t' x
    split at h
    · rename_i U hU hx; exact .inr (good_iface (hT _ _ hU) h.1 hx h.2)
    · exact h.elim
  · rename_i t' x lo hi
    split at h
    · rename_i id off sz n cap hx
      refine .inr ?_
      split at h
      · rename_i e U he
        obtain ⟨h0, h⟩ := h
        obtain ⟨l, h, hl⟩ := bound_some h
        obtain ⟨u, h, hu⟩ := bound_some h
        obtain ⟨h1, h2, h3, hK⟩ := h
        exact good_bslSlice (elemT_ok' hT he) hx h0 hl hu h1 h2 h3 hK
      · exact h.elim
    · exact .inl (vc0_ok hT h)
  · rename_i x t'
    split at h
    · rename_i id off sz n cap hx
      refine .inr ?_
      split at h
      · rename_i z he
        obtain ⟨e, U⟩ := z
        exact good_bslCap (elemT_ok' hT he) hx h
      · exact h.elim
    · exact h.elim
  · rename_i d s t1 t2
    split at h
    · rename_i id off sz n cap hx
      refine .inr ?_
      split at h
      · rename_i e U cs src m ids need room he hob hs
        obtain ⟨h0, h1, h2, h3, h4, hK⟩ := h
        exact good_copy (elemT_ok' hT he) hx h0 hob hs h1 h2 h3 h4 hK
      · exact h.elim
    · exact h.elim
  · rename_i s x t' t''
    split at h
    · rename_i id off sz n cap kq k hs hx
      refine .inr ?_
      split at h
      · rename_i e U kn cs he hN hob
        obtain ⟨N, hN, hNk⟩ := intKd_ok hT hN
        obtain ⟨h0, h1, h2, h3, h4, h5, h6, h7, h8, es, k1, k2, k3, k4, hK⟩ := h
        exact good_appZ es (elemT_ok' hT he) hN hNk h0 h1 h2 hs hx h3 hob h4 k1 k2 k3 k4 h5 h6 h7 h8 hK
      · exact h.elim
    · exact .inl (vc0_ok hT h)
  · exact .inl (vc0_ok hT h)
end Go.Sy

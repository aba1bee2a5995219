/- The symbolic layer, seventeenth part: a walk operation by operation, what comes later hidden behind a variable; what an operation asks is reckoned by 'whnf'. No condition. -/
import Derived.Test.YtokkencbpmjdaaaGreatSy2
import Derived.Laws.StructEq
import Derived.RangeFuncRecord
section
set_option linter.unusedVariables false
namespace Go.Sy

def wr (tm : Nat → AV) (d : Nat) (r : AV) : Nat → AV := fun j => bif Nat.beq j d then r else tm j
def wo (ob : Nat → Option Ob) (d : Nat) (x : Ob) : Nat → Option Ob := fun j => bif Nat.beq j d then x.opt else ob j
def wos (ob : Nat → Option Ob) : List (Nat × Ob) → Nat → Option Ob
  | [] => ob
  | (d, x) :: l => wos (wo ob d x) l
def slots : List AV → Nat → AV
  | [], _ => .tup []
  | a :: _, 0 => a
  | _ :: l, n + 1 => slots l n
theorem beq_dec (j d : Nat) : Nat.beq j d = decide (j = d) := by
  rw [Bool.eq_iff_iff]; simp [Nat.beq_eq]
theorem wr_upd (tm : Nat → AV) (d : Nat) (r : AV) : upd tm d r = wr tm d r := by funext j; simp [wr, upd, beq_dec, Bool.cond_decide]
theorem wo_updG (ob : Nat → Option Ob) (d : Nat) (x : Ob) : updG ob d x = wo ob d x := by funext j; simp [wo, updG, beq_dec, Bool.cond_decide]
theorem wo_upd (ob : Nat → Option Ob) (d : Nat) (x : Ob) (h : x.opt = some x) : updOb ob d x = wo ob d x := by rw [← wo_updG, updG_eq _ _ _ h]
theorem wo_box (ob : Nat → Option Ob) (d : Nat) (cs : List AV) : updOb ob d (.box cs) = wo ob d (.box cs) := wo_upd ob d _ rfl
theorem wo_perm (ob : Nat → Option Ob) (d e sz n : Nat) : updOb ob d (.perm e sz n) = wo ob d (.perm e sz n) := wo_upd ob d _ rfl
theorem wos_upd : ∀ (ws : List (Nat × Ob)) (ob : Nat → Option Ob), applyW ob ws = wos ob ws
  | [], _ => rfl
  | (d, x) :: l, ob => by
    show applyW (updG ob d x) l = _
    rw [wo_updG]; exact wos_upd l _
theorem slots_get : ∀ (l : List AV) (i : Nat), l.getD i (.tup []) = slots l i
  | [], _ => rfl
  | _ :: _, 0 => rfl
  | _ :: l, n + 1 => by simpa [slots] using slots_get l n

def AV.nf1 (a : AV) (k : AV → Prop) : Prop := match a with
  | .s v => k (.s v) | .agg cs => k (.agg cs) | .tup cs => k (.tup cs) | .sl sz es => k (.sl sz es) | .osl p sz es => k (.osl p sz es) | .ol sz es => k (.ol sz es) | .wsl sz es => k (.wsl sz es) | .wref cs => k (.wref cs) | .hole => k .hole | .mark id => k (.mark id)
  | .ref cs => k (.ref cs) | .ptr id off => k (.ptr id off) | .bsl id off sz n cap => k (.bsl id off sz n cap) | .fn f a b => k (.fn f a b) | .junk => k .junk
theorem nf1_eq (a : AV) (k : AV → Prop) : a.nf1 k = k a := by cases a <;> rfl
def nfL : List AV → (List AV → Prop) → Prop
  | [], k => k []
  | a :: l, k => a.nf1 fun a => nfL l fun l => k (a :: l)
theorem nfL_eq : ∀ (l : List AV) (k : List AV → Prop), nfL l k = k l
  | [], _ => rfl
  | a :: l, k => by simp only [nfL, nf1_eq, nfL_eq l]
def AV.nf (a : AV) (k : AV → Prop) : Prop := match a with
  | .s v => k (.s v) | .agg cs => nfL cs fun cs => k (.agg cs) | .tup cs => nfL cs fun cs => k (.tup cs) | .sl sz es => k (.sl sz es) | .osl p sz es => k (.osl p sz es) | .ol sz es => k (.ol sz es) | .wsl sz es => k (.wsl sz es) | .wref cs => nfL cs fun cs => k (.wref cs) | .hole => k .hole | .mark id => k (.mark id)
  | .ref cs => nfL cs fun cs => k (.ref cs) | .ptr id off => k (.ptr id off) | .bsl id off sz n cap => k (.bsl id off sz n cap) | .fn f a b => nfL a fun a => nfL b fun b => k (.fn f a b) | .junk => k .junk
theorem nf_eq (a : AV) (k : AV → Prop) : a.nf k = k a := by cases a <;> simp only [AV.nf, nfL_eq]
def nfWs : List (Nat × Ob) → (List (Nat × Ob) → Prop) → Prop
  | [], k => k []
  | (id, .box cs) :: l, k => nfL cs fun cs => nfWs l fun l => k ((id, .box cs) :: l)
  | (id, .perm e sz n) :: l, k => nfWs l fun l => k ((id, .perm e sz n) :: l)
  | (id, .raw b o cs) :: l, k => nfL cs fun cs => nfWs l fun l => k ((id, .raw b o cs) :: l)
  | (id, .gone) :: l, k => nfWs l fun l => k ((id, .gone) :: l)
theorem nfWs_eq : ∀ (l : List (Nat × Ob)) (k : List (Nat × Ob) → Prop), nfWs l k = k l
  | [], _ => rfl
  | (id, .box cs) :: l, k => by simp only [nfWs, nfL_eq, nfWs_eq l]
  | (id, .perm e sz n) :: l, k => by simp only [nfWs, nfWs_eq l]
  | (id, .raw b o cs) :: l, k => by simp only [nfWs, nfL_eq, nfWs_eq l]
  | (id, .gone) :: l, k => by simp only [nfWs, nfWs_eq l]
def nfK (K : Kont) : Kont := fun r deps ws => r.nf fun r => nfWs ws fun ws => K r deps ws
theorem nfK_eq (K : Kont) : nfK K = K := by
  funext r deps ws
  show r.nf (fun r => nfWs ws fun ws => K r deps ws) = _
  rw [nf_eq, nfWs_eq]

def Side (p : Prop) : Prop := p
theorem Side.mk {p : Prop} (h : p) : Side p := h
def TabOK (P : Program) (T : TypeId → Option TY) : Prop := ∀ t U, T t = some U → ty P t = some U
def elemT (T : TypeId → Option TY) (U : Option TY) : Option (TypeId × TY) := match U with
  | some U => (match U.kd with | .slice e => (match T e with | some V => some (e, V) | none => none) | _ => none)
  | none => none
theorem elemT_ok' {P : Program} {T : TypeId → Option TY} (hT : TabOK P T) {t : TypeId} {x : TypeId × TY} (h : elemT T (T t) = some x) : elemTy P (ty P t) = some x := by
  cases hU : T t with
  | none => rw [hU] at h; cases h
  | some U =>
    rw [hT _ _ hU]; rw [hU] at h
    unfold elemT at h
    unfold elemTy
    simp only at h ⊢
    split at h
    · split at h
      · rename_i k e hk y V hV; rw [hk]; simp only [hT _ _ hV, Option.map_some]; exact h
      · cases h
    · cases h
theorem elemT_ok {P : Program} {T : TypeId → Option TY} (hT : TabOK P T) {U : Option TY} {x : TypeId × TY} (h : elemT T U = some x) : elemTy P U = some x := by
  unfold elemT at h
  unfold elemTy
  cases U with
  | none => cases h
  | some U =>
    simp only at h ⊢
    split at h
    · split at h
      · rename_i k e hk y V hV; rw [hk]; simp only [hT _ _ hV, Option.map_some]; exact h
      · cases h
    · cases h
def kindEq (k k' : IntKind) : Bool := Nat.beq k.ctorIdx k'.ctorIdx
theorem kindEq_iff {k k' : IntKind} (h : kindEq k k' = true) : k = k' := by
  cases k <;> cases k' <;> first | rfl | (exact absurd h (by decide))
def isSh : BinOp → Bool
  | .shl | .shr => true
  | _ => false
def optV (o : Option Value) (K : Kont) : Prop := match o with | some v => K (.s v) [] [] | none => False
def intT (op : BinOp) (k : IntKind) (a b : Int) (K : Kont) : Prop := match op with
  | .quo => Side (b ≠ 0) ∧ K (.s (.int k (k.wrap (a.tdiv b)))) [] []
  | .rem => Side (b ≠ 0) ∧ K (.s (.int k (a.tmod b))) [] []
  | .shl => Side (0 ≤ b) ∧ K (.s (.int k (k.wrap (a * 2 ^ min b.toNat k.bits)))) [] []
  | .shr => Side (0 ≤ b) ∧ K (.s (.int k (a.fdiv (2 ^ min b.toNat k.bits)))) [] []
  | op => optV (intOp op k a b) K
theorem intT_opt {op : BinOp} {k : IntKind} {a b : Int} {K : Kont} (h : intT op k a b K) : optV (intOp op k a b) K := by
  unfold intT at h
  split at h
  · have h1 : b ≠ 0 := h.1
    simp only [intOp, if_neg h1, optV]; exact h.2
  · have h1 : b ≠ 0 := h.1
    simp only [intOp, if_neg h1, optV]; exact h.2
  · have h1 : 0 ≤ b := h.1
    simp only [intOp, if_neg (Int.not_lt.2 h1), optV]; exact h.2
  · have h1 : 0 ≤ b := h.1
    simp only [intOp, if_neg (Int.not_lt.2 h1), optV]; exact h.2
  · exact h
def isEq : BinOp → Option Bool
  | .eql => some true
  | .neq => some false
  | _ => none
def binT (T : TypeId → Option TY) (P : Program) (op : BinOp) (t : TypeId) (x y : AV) (K : Kont) : Prop := match x, y with
  | .s (.int k a), .s (.int k' b) => bif isSh op || kindEq k k' then intT op k a b K else False
  | .s (.string a), .s (.string b) => optV (strOp op a b) K
  | .s (.bool a), .s (.bool b) => (match T t with | some U => U.kd = .bool ∧ (match isEq op with | some e => K (.s (.bool (if e = true then a == b else !(a == b)))) [] [] | none => False) | none => False)
  | .agg cs, .agg ds => (match scal cs, scal ds with | some vs, some us => ∃ b, EqV P op t vs us b ∧ K (.s (.bool b)) [] [] | _, _ => False)
  | x, .s (.slice none 0 0) => (match T t, nilIs x with | some U, some b => (match U.kd with | .slice _ => True | _ => False) ∧ (match isEq op with | some e => K (.s (.bool (if e = true then b else !b))) [] [] | none => False) | _, _ => False)
  | _, _ => False
theorem binT_ok {P : Program} {T : TypeId → Option TY} (hT : TabOK P T) {op : BinOp} {t : TypeId} {x y : AV} {K : Kont} (h : binT T P op t x y K) : binVC P op t x y K := by
  unfold binT at h
  unfold binVC
  split at h
  · rename_i k a k' b
    simp only
    cases hs : isSh op || kindEq k k' with
    | false => rw [hs] at h; exact h.elim
    | true =>
      rw [hs] at h; simp only [cond_true] at h
      have h := intT_opt h
      simp only [optV] at h
      split
      · exact h
      · rename_i hn
        have : isSh op = false := by cases op <;> simp_all [isSh]
        rw [this, Bool.false_or] at hs
        rw [if_pos (kindEq_iff hs)]; exact h
  · exact h
  · rename_i a b
    simp only
    split at h
    · rename_i U hU
      rw [hT _ _ hU]
      refine ⟨h.1, ?_⟩
      have h2 := h.2
      cases op <;> simp only [isEq] at h2 <;> first | exact h2.elim | exact ⟨by simp, by simpa using h2⟩
    · exact h.elim
  · exact h
  · split at h
    · rename_i U b hU hb
      simp only [hT _ _ hU, hb]
      obtain ⟨h1, h2⟩ := h
      refine ⟨?_, ?_⟩
      · split at h1
        · rename_i e he; exact ⟨e, he⟩
        · exact h1.elim
      · cases op <;> simp only [isEq] at h2 <;> first | exact h2.elim | exact ⟨by simp, by simpa using h2⟩
    · exact h.elim
  · exact h.elim
def litT (T : TypeId → Option TY) (nb : Nat) (U : Option TY) (len : Nat) (parts : List (Nat × Operand)) (ev : Operand → AV) (K : Kont) : Prop := match elemT T U with
  | some (e, U) => 0 < U.n ∧ len * U.n ≤ 16777216 ∧ parts.map (·.1) = List.range len ∧ (match litRows U.n (parts.map fun x => ev x.2) with | some es => K (.osl nb U.n es) [] [(nb, .perm e U.n len)] | none => False)
  | none => False
def idxAddrT (T : TypeId → Option TY) (U : Option TY) (x y : AV) (K : Kont) : Prop := match elemT T U, y with
  | some (e, U), .s (.int k i) => (match rowsOK U.n x with | some es => Side (0 ≤ i ∧ i.toNat < es.length) ∧ ∀ el, es[i.toNat]? = some el → K (.ref el) [] [] | none => False)
  | _, _ => False
def slcT (T : TypeId → Option TY) (U : Option TY) (x : AV) (lo hi : Option AV) (K : Kont) : Prop := match U with
  | some U => (match U.kd, x with
    | .str, .s (.string s) => bound lo 0 fun l => bound hi s.size fun h => Side (l ≤ h) ∧ Side (h ≤ s.size) ∧ K (.s (.string (s.extract l h))) [] []
    | .slice e, x => (match T e with
      | some U => (match rowsOK U.n x with | some es => bound lo 0 fun l => bound hi es.length fun h => Side (l ≤ h) ∧ Side (h ≤ es.length) ∧ K (sliceAV x U.n ((es.take h).drop l)) [] [] | none => False)
      | none => False)
    | _, _ => False)
  | none => False
def appT (T : TypeId → Option TY) (nb : Nat) (U : Option TY) (s x : AV) (ob : Nat → Option Ob) (K : Kont) : Prop := match elemT T U with
  | some (e, U) => 0 < U.n ∧ U.zero.length = U.n ∧ (match rowsOK U.n x with
    | some fs => (match s with
      | .osl p sz es => sz = U.n ∧ ob p = some (.perm e U.n es.length) ∧ Side (es.length + fs.length ≤ 9223372036854775807) ∧ Side ((es.length + fs.length) * U.bytes ≤ 140737488355328) ∧ K (.osl p U.n (es ++ fs)) [p] [(p, .perm e U.n (es.length + fs.length))]
      | .s v => v = .slice none 0 0 ∧ Side (fs.length ≤ 9223372036854775807) ∧ Side (fs.length * U.bytes ≤ 140737488355328) ∧ K (.osl nb U.n fs) [] [(nb, .perm e U.n fs.length)]
      | _ => False)
    | none => False)
  | none => False
def vc0 (T : TypeId → Option TY) (P : Program) (nb : Nat) (op : Op) (t : TypeId) (σ : St) (K : Kont) : Prop := match op with
  | .move x | .assign x => K (σ.ev x) [] []
  | .pick c x y => pickVC (σ.ev c) (σ.ev x) (σ.ev y) K
  | .extract x i => extVC (σ.ev x) i K
  | .unOp op _ x => unVC op (σ.ev x) K
  | .binOp op t' x y _ => binT T P op t' (σ.ev x) (σ.ev y) K
  | .load t' x => loadVC (T t') (σ.ev x) σ.ob K
  | .store t' x y => storeVC (T t') (σ.ev x) (σ.ev y) σ.ob K
  | .alloc t' => allocVC (T t') nb K
  | .box t' x => boxVC nb (σ.ev x) K
  | .build t' parts => buildVC (T t') (parts.toList.map fun x => (x.1, σ.ev x.2)) K
  | .buildSlice t' len parts => litT T nb (T t') len parts.toList σ.ev K
  | .nilCheck x => nilVC (σ.ev x) K
  | .fieldAddr s x i => fldAddrVC (T s) (σ.ev x) i K
  | .field s x i => fldVC (T s) (σ.ev x) i K
  | .indexAddr t' x y => idxAddrT T (T t') (σ.ev x) (σ.ev y) K
  | .index t' x y => idxVC (T t') (σ.ev x) (σ.ev y) K
  | .slice t' x lo hi none => slcT T (T t') (σ.ev x) (lo.map σ.ev) (hi.map σ.ev) K
  | .convert s d x => convVC (T s) (T d) (σ.ev x) K
  | .makeFunc f first caps => K (.fn f (first.toList.map σ.ev) (caps.toList.map σ.ev)) [] []
  | .call { callee := .builtin .len, args := ⟨[x]⟩, argTypes := ⟨[t']⟩ } => lenVC (T t') (σ.ev x) K
  | .call { callee := .builtin .append, args := ⟨[s, x]⟩, argTypes := ⟨[t', t'']⟩ } => t' = t'' ∧ appT T nb (T t') (σ.ev s) (σ.ev x) σ.ob K
  | .call { callee := .value f, args, argTypes } => (match σ.ev f with | .fn (.func g) first caps => nfL (first ++ args.toList.map σ.ev ++ caps) fun avs => CallV P nb (.call { callee := .value f, args, argTypes }) t g avs σ K | .fn (.yield l) first caps => nfL (first ++ args.toList.map σ.ev ++ caps) fun avs => YieldV P nb (.call { callee := .value f, args, argTypes }) t l avs σ K | _ => False)
  | _ => False

theorem slcT_ok {P : Program} {T : TypeId → Option TY} (hT : TabOK P T) {U : Option TY} {x : AV} {lo hi : Option AV} {K : Kont} (h : slcT T U x lo hi K) : slcVC P U x lo hi K := by
  cases U with
  | none => exact h
  | some U =>
    simp only [slcT] at h
    simp only [slcVC]
    split at h
    · rename_i s hk; rw [hk]; exact h
    · rename_i e hk
      rw [hk]
      cases hV : T e with
      | none => rw [hV] at h; exact h.elim
      | some V => rw [hV] at h; simp only [hT _ _ hV]; exact h
    · exact h.elim
theorem callT_ok {P : Program} {nb : Nat} {op : Op} {t : TypeId} {σ : St} {K : Kont} {as : List AV} : ∀ (a : AV), (match a with | .fn (.func g) first caps => nfL (first ++ as ++ caps) (fun avs => CallV P nb op t g avs σ K) | .fn (.yield g) first caps => nfL (first ++ as ++ caps) (fun avs => YieldV P nb op t g avs σ K) | _ => False) → match a with | .fn (.func g) first caps => CallV P nb op t g (first ++ as ++ caps) σ K | .fn (.yield g) first caps => YieldV P nb op t g (first ++ as ++ caps) σ K | _ => False
  | .fn f first caps => by
    cases f
    all_goals first | (intro h; simp only [nfL_eq] at h; exact h) | exact fun h => h.elim
  | .s _ | .agg _ | .tup _ | .sl _ _ | .osl _ _ _ | .ref _ | .ptr _ _ | .bsl .. | .junk | .ol _ _ | .wsl _ _ | .wref _ | .hole | .mark _ => fun h => h.elim
theorem tab_ok {P : Program} {T : TypeId → Option TY} (hT : TabOK P T) {F : Option TY → Prop} {t : TypeId} (hF : ¬ F none) (h : F (T t)) : F (ty P t) := by
  cases hU : T t with
  | none => rw [hU] at h; exact (hF h).elim
  | some U => rw [hU] at h; rw [hT _ _ hU]; exact h

theorem vc0_ok {P : Program} {T : TypeId → Option TY} (hT : TabOK P T) {nb : Nat} {op : Op} {t : TypeId} {σ : St} {K : Kont} (h : vc0 T P nb op t σ K) : opVC0 P nb op t σ K := by
  unfold vc0 at h
  unfold opVC0
  split at h
  · exact h
  · exact h
  · exact h
  · exact h
  · exact h
  · exact binT_ok hT h
  · exact tab_ok hT (F := fun U => loadVC U _ _ K) (by simp [loadVC]) h
  · exact tab_ok hT (F := fun U => storeVC U _ _ _ K) (by simp [storeVC]) h
  · exact tab_ok hT (F := fun U => allocVC U _ K) (by simp [allocVC]) h
  · exact h
  · exact tab_ok hT (F := fun U => buildVC U _ K) (by simp [buildVC]) h
  · refine tab_ok hT (F := fun U => litVC P nb U _ _ _ K) (by simp [litVC, elemTy]) ?_
    simp only [litT] at h
    simp only [litVC]
    split at h
    · rename_i e U he; rw [elemT_ok hT he]; exact h
    · exact h.elim
  · exact h
  · exact tab_ok hT (F := fun U => fldAddrVC U _ _ K) (by simp [fldAddrVC]) h
  · exact tab_ok hT (F := fun U => fldVC U _ _ K) (by simp [fldVC]) h
  · refine tab_ok hT (F := fun U => idxAddrVC P U _ _ K) (by simp [idxAddrVC, elemTy]) ?_
    simp only [idxAddrT] at h
    simp only [idxAddrVC]
    split at h
    · rename_i e U k i he hy; rw [elemT_ok hT he, hy]; exact h
    · exact h.elim
  · exact tab_ok hT (F := fun U => idxVC U _ _ K) (by simp [idxVC]) h
  · refine tab_ok hT (F := fun U => slcVC P U _ _ _ K) (by simp [slcVC]) ?_
    exact slcT_ok hT h
  · rename_i s d x
    refine tab_ok hT (F := fun U => convVC U _ _ K) (by simp [convVC]) ?_
    exact tab_ok hT (F := fun U => convVC _ U _ K) (by cases T s <;> simp [convVC]) h
  · exact h
  · exact tab_ok hT (F := fun U => lenVC U _ K) (by simp [lenVC]) h
  · refine ⟨h.1, ?_⟩
    have h := h.2
    refine tab_ok hT (F := fun U => appVC P nb U _ _ _ K) (by simp [appVC, elemTy]) ?_
    simp only [appT] at h
    simp only [appVC]
    split at h
    · rename_i e U he; rw [elemT_ok hT he]; exact h
    · exact h.elim
  · exact callT_ok _ h
  · exact h.elim
def intKd (N : Option TY) : Option IntKind := match N with
  | some N => (match N.kd with | .int k => some k | _ => none)
  | none => none
def maxI (a b : Int) : Int := if b > a then b else a
def minI (a b : Int) : Int := if b < a then b else a
def vc (T : TypeId → Option TY) (P : Program) (nb : Nat) (op : Op) (t : TypeId) (σ : St) (K : Kont) : Prop := match op with
  | .makeSlice t' l c => (match elemT T (T t'), σ.ev l, σ.ev c with
    | some (e, U), .s (.int _ n), .s (.int _ n') => n = n' ∧ Nat.beq U.n 1 = true ∧ U.zero.length = 1 ∧ U.zero.all (·.oneCell') = true ∧ Side (0 ≤ n) ∧ Side (n ≤ 1000000) ∧ Side (U.bytes ≤ 1000) ∧ K (.bsl nb 0 1 n.toNat n.toNat) [] [(nb, .box (List.replicate n.toNat (.s (U.zero.headD .nilIface))))]
    | _, _, _ => False)
  | .indexAddr t' x y => (match σ.ev x with
    | .bsl id off sz n cap => (match elemT T (T t'), σ.ev y with
      | some (_, U), .s (.int _ i) => U.n = sz ∧ Side (0 ≤ i) ∧ Side (i < n) ∧ K (.ptr id (off + i.toNat * sz)) [] []
      | _, _ => False)
    | .wsl sz es => (match elemT T (T t'), σ.ev y with
      | some (_, U), .s (.int _ i) => U.n = sz ∧ Side (0 ≤ i ∧ i.toNat < es.length) ∧ ∀ el, es[i.toNat]? = some el → K (.wref el) [] []
      | _, _ => False)
    | _ => vc0 T P nb (.indexAddr t' x y) t σ K)
  | .load t' x => (match σ.ev x with
    | .wref (c :: _) => (match T t' with | some U => U.kd.agg = false ∧ U.n = 1 ∧ K (unhole c) [] [] | none => False)
    | _ => vc0 T P nb (.load t' x) t σ K)
  | .store t' x y => (match σ.ev x with
    | .wref (.hole :: _) => (match T t' with | some U => U.n = 1 ∧ (σ.ev y).one = true ∧ K .junk [] [] | none => False)
    | _ => vc0 T P nb (.store t' x y) t σ K)
  | .fieldAddr s x i => (match σ.ev x with
    | .wref cs => (match T s with
      | some U => U.kd = .struct ∧ (match U.fields[i]? with | some (some (off, n, _)) => 0 < n ∧ off ≤ cs.length ∧ K (.wref (cs.drop off)) [] [] | _ => False)
      | none => False)
    | _ => vc0 T P nb (.fieldAddr s x i) t σ K)
  | .call { callee := .builtin .len, args := ⟨[x]⟩, argTypes := ⟨[t']⟩ } => (match σ.ev x with
    | .bsl _ _ _ n _ => (match elemT T (T t') with | some _ => K (.s (.int .i64 n)) [] [] | none => False)
    | .wsl _ es => (match elemT T (T t') with | some _ => K (.s (.int .i64 es.length)) [] [] | none => False)
    | _ => vc0 T P nb (.call { callee := .builtin .len, args := ⟨[x]⟩, argTypes := ⟨[t']⟩ }) t σ K)
  | .convert s d x => (match T s, T d, σ.ev x with
    | some S, some D, .s (.string b) => (match S.kd, elemT T (some D) with | .str, some (_, U) => U.kd = .int .u8 ∧ K (.sl 1 (byteRows b)) [] [] | _, _ => vc0 T P nb (.convert s d x) t σ K)
    | some S, some D, .bsl id off sz n cap => (match elemT T (some S), D.kd, σ.ob id with
      | some (_, U), .str, some (.box cs) => U.kd = .int .u8 ∧ sz = 1 ∧ Side (off + n ≤ cs.length) ∧ (match numsOf ((cs.drop off).take n) with | some xs => K (.s (.string (strOfNums xs))) [id] [] | none => False)
      | _, _, _ => False)
    | some S, some D, x' => (match elemT T (some S), D.kd, x'.rows with
      | some (_, U), .str, some (1, es) => U.kd = .int .u8 ∧ (match numsOf es.flatten with | some xs => K (.s (.string (strOfNums xs))) [] [] | none => False)
      | _, _, _ => vc0 T P nb (.convert s d x) t σ K)
    | _, _, _ => vc0 T P nb (.convert s d x) t σ K)
  | .makeInterface t' x => (match T t', σ.ev x with | some U, .agg [] => U.kd = .struct ∧ K (.s (.iface t' (.agg #[]))) [] [] | _, _ => False)
  | .slice t' x lo hi none => (match σ.ev x with
    | .bsl id off sz n cap => (match elemT T (T t') with
      | some (_, U) => U.n = sz ∧ bound (lo.map σ.ev) 0 fun l => bound (hi.map σ.ev) n fun h => Side (l ≤ h) ∧ Side (h ≤ cap) ∧ Side (l < cap) ∧ K (.bsl id (off + l * sz) sz (h - l) (cap - l)) [] []
      | none => False)
    | _ => vc0 T P nb (.slice t' x lo hi none) t σ K)
  | .call { callee := .builtin .cap, args := ⟨[x]⟩, argTypes := ⟨[t']⟩ } => (match σ.ev x with
    | .bsl _ _ _ _ cap => (match elemT T (T t') with | some _ => K (.s (.int .i64 cap)) [] [] | none => False)
    | _ => False)
  | .call { callee := .builtin .copy, args := ⟨[d, s]⟩, argTypes := ⟨[t1, t2]⟩ } => (match σ.ev d with
    | .bsl id off sz n cap => (match elemT T (T t1), σ.ob id, srcOf sz (σ.ev s) σ.ob with
      | some (_, U), some (.box cs), some (src, m, ids, need, room) => U.n = sz ∧ Side (off + n * sz ≤ cs.length) ∧ Side (need ≤ room) ∧ Side (0 < m) ∧ OneL (src.take (min m n * sz)) ∧
          K (.s (.int .i64 (min m n : Nat))) (id :: ids) [(id, .box (cs.take off ++ src.take (min m n * sz) ++ cs.drop (off + min m n * sz)))]
      | _, _, _ => False)
    | _ => False)
  | .call { callee := .builtin .append, args := ⟨[s, x]⟩, argTypes := ⟨[t', t'']⟩ } => (match σ.ev s, σ.ev x with
    | .bsl id off sz n cap, .s (.int _ k) => (match elemT T (T t'), intKd (T t''), σ.ob id with
      | some (e, U), some _, some (.box cs) => 0 < U.n ∧ U.zero.length = U.n ∧ U.zero.all (·.oneCell') = true ∧ U.n = sz ∧ Side (off + n * sz ≤ cs.length) ∧ Side (0 < k) ∧ Side (cap < n + k.toNat) ∧ Side (n + k.toNat ≤ 9223372036854775807) ∧ Side ((n + k.toNat) * U.bytes ≤ 140737488355328) ∧
          AppZ cs off sz n fun es => K (.osl nb sz (es ++ List.replicate k.toNat (U.zero.map .s))) [id] [(nb, .perm e sz (n + k.toNat))]
      | _, _, _ => False)
    | _, _ => vc0 T P nb (.call { callee := .builtin .append, args := ⟨[s, x]⟩, argTypes := ⟨[t', t'']⟩ }) t σ K)
  | .call { callee := .builtin .max, args := ⟨[x, y]⟩, argTypes := ts } => (match σ.ev x, σ.ev y with
    | .s (.int k a), .s (.int k' b) => K (.s (.int k (maxI a b))) [] []
    | _, _ => False)
  | .call { callee := .builtin .min, args := ⟨[x, y]⟩, argTypes := ts } => (match σ.ev x, σ.ev y with
    | .s (.int k a), .s (.int k' b) => K (.s (.int k (minI a b))) [] []
    | _, _ => False)
  | op => vc0 T P nb op t σ K
theorem good_max {P : Program} {nb : Nat} {t : TypeId} {σ : St} {K : Kont} {x y : Operand} {ts : Array TypeId} {k k' : IntKind} {a b : Int} (hx : σ.ev x = .s (.int k a)) (hy : σ.ev y = .s (.int k' b)) (hK : K (.s (.int k (maxI a b))) [] []) : Good P nb (.call { callee := .builtin .max, args := #[x, y], argTypes := ts }) t σ K := by
  refine .plain (fun σ' hx' => .pure fun c H ε ρ w o ho _ hm hr => ?_) hK
  have hv := hr x; rw [(hx' x (by simp [Op.operands, Call.operands])).trans hx] at hv
  have hu := hr y; rw [(hx' y (by simp [Op.operands, Call.operands])).trans hy] at hu
  refine ⟨_, ?_, .d _ _ (.s _ rfl)⟩
  simp [execOp, ho, resolve, invoke, builtin, hv.s_inv.1, hu.s_inv.1, Builtin.max_, Builtin.max2, maxI]
theorem good_min {P : Program} {nb : Nat} {t : TypeId} {σ : St} {K : Kont} {x y : Operand} {ts : Array TypeId} {k k' : IntKind} {a b : Int} (hx : σ.ev x = .s (.int k a)) (hy : σ.ev y = .s (.int k' b)) (hK : K (.s (.int k (minI a b))) [] []) : Good P nb (.call { callee := .builtin .min, args := #[x, y], argTypes := ts }) t σ K := by
  refine .plain (fun σ' hx' => .pure fun c H ε ρ w o ho _ hm hr => ?_) hK
  have hv := hr x; rw [(hx' x (by simp [Op.operands, Call.operands])).trans hx] at hv
  have hu := hr y; rw [(hx' y (by simp [Op.operands, Call.operands])).trans hy] at hu
  refine ⟨_, ?_, .d _ _ (.s _ rfl)⟩
  simp [execOp, ho, resolve, invoke, builtin, hv.s_inv.1, hu.s_inv.1, Builtin.min_, Builtin.min2, minI]
theorem intKd_ok {P : Program} {T : TypeId → Option TY} (hT : TabOK P T) {t : TypeId} {k : IntKind} (h : intKd (T t) = some k) : ∃ N, ty P t = some N ∧ N.kd = .int k := by
  unfold intKd at h
  split at h
  · rename_i N hN
    split at h
    · rename_i k' hk; cases h; exact ⟨N, hT _ _ hN, hk⟩
    · cases h
  · cases h
theorem vc_ok {P : Program} {T : TypeId → Option TY} (hT : TabOK P T) {nb : Nat} {op : Op} {t : TypeId} {σ : St} {K : Kont} (h : vc T P nb op t σ K) : opVC P nb op t σ K := by
  unfold vc at h
  split at h
  · rename_i t' l c
    refine .inr ?_
    split at h
    · rename_i e U k1 n k2 n' he hl hc
      obtain ⟨rfl, h1, h2, h3, h4, h5, h6, hK⟩ := h
      exact good_make (elemT_ok' hT he) hl hc (by simpa using h1) h2 h3 h4 h5 h6 hK
    · exact h.elim
  · rename_i t' x y
    split at h
    · rename_i id off sz n cap hx
      refine .inr ?_
      split at h
      · rename_i e U k i he hy
        obtain ⟨h1, h2, h3, hK⟩ := h
        exact good_bslAddr (elemT_ok' hT he) hx hy h1 h2 h3 hK
      · exact h.elim
    · rename_i sz es hx
      refine .inr ?_
      split at h
      · rename_i e U k i he hy
        obtain ⟨h1, h2, hK⟩ := h
        exact good_wIdx (elemT_ok' hT he) hx hy h1 h2 hK
      · exact h.elim
    · exact .inl (vc0_ok hT h)
  · rename_i t' x
    split at h
    · rename_i c cs hx
      refine .inr ?_
      split at h
      · rename_i U hU
        exact good_wLoad (hT _ _ hU) hx h.1 h.2.1 h.2.2
      · exact h.elim
    · exact .inl (vc0_ok hT h)
  · rename_i t' x y
    split at h
    · rename_i cs hx
      refine .inr ?_
      split at h
      · rename_i U hU
        exact good_wStore (hT _ _ hU) hx h.1 h.2.1 h.2.2
      · exact h.elim
    · exact .inl (vc0_ok hT h)
  · rename_i s x i
    split at h
    · rename_i cs hx
      refine .inr ?_
      split at h
      · rename_i U hU
        obtain ⟨h1, h⟩ := h
        split at h
        · rename_i off n ag hf
          exact good_wFld (hT _ _ hU) hx h1 hf h.1 h.2.1 h.2.2
        · exact h.elim
      · exact h.elim
    · exact .inl (vc0_ok hT h)
  · rename_i x t'
    split at h
    · rename_i id off sz n cap hx
      refine .inr ?_
      split at h
      · rename_i z he
        obtain ⟨e, U⟩ := z
        exact good_bslLen (elemT_ok' hT he) hx h
      · exact h.elim
    · rename_i sz es hx
      refine .inr ?_
      split at h
      · rename_i z he
        obtain ⟨e, U⟩ := z
        exact good_wLen (elemT_ok' hT he) hx h
      · exact h.elim
    · exact .inl (vc0_ok hT h)
  · rename_i s d x
    split at h
    · rename_i S D b hS hD hx
      split at h
      · rename_i e U hk he
        exact .inr (good_toBytes (hT _ _ hS) hk (elemT_ok' hT (t := d) (by rw [hD]; exact he)) h.1 hx h.2)
      · exact .inl (vc0_ok hT h)
    · rename_i S D id off sz n cap hS hD hx
      refine .inr ?_
      split at h
      · rename_i e U cs he hk hob
        obtain ⟨h1, rfl, h2, h⟩ := h
        split at h
        · rename_i xs hn
          exact good_ofBytesB (elemT_ok' hT (t := s) (by rw [hS]; exact he)) (hT _ _ hD) hk h1 hx hob h2 hn h
        · exact h.elim
      · exact h.elim
    · rename_i S D hS hD _ _
      split at h
      · rename_i e U es he hk hrow
        refine .inr ?_
        obtain ⟨h1, h⟩ := h
        split at h
        · rename_i xs hn
          exact good_ofBytesR (elemT_ok' hT (t := s) (by rw [hS]; exact he)) (hT _ _ hD) hk h1 hrow hn h
        · exact h.elim
      · exact .inl (vc0_ok hT h)
    · exact .inl (vc0_ok hT h)
  · rename_i t' x
    split at h
    · rename_i U hU hx; exact .inr (good_iface (hT _ _ hU) h.1 hx h.2)
    · exact h.elim
  · rename_i t' x lo hi
    split at h
    · rename_i id off sz n cap hx
      refine .inr ?_
      split at h
      · rename_i e U he
        obtain ⟨h0, h⟩ := h
        obtain ⟨l, h, hl⟩ := bound_some h
        obtain ⟨u, h, hu⟩ := bound_some h
        obtain ⟨h1, h2, h3, hK⟩ := h
        exact good_bslSlice (elemT_ok' hT he) hx h0 hl hu h1 h2 h3 hK
      · exact h.elim
    · exact .inl (vc0_ok hT h)
  · rename_i x t'
    split at h
    · rename_i id off sz n cap hx
      refine .inr ?_
      split at h
      · rename_i z he
        obtain ⟨e, U⟩ := z
        exact good_bslCap (elemT_ok' hT he) hx h
      · exact h.elim
    · exact h.elim
  · rename_i d s t1 t2
    split at h
    · rename_i id off sz n cap hx
      refine .inr ?_
      split at h
      · rename_i e U cs src m ids need room he hob hs
        obtain ⟨h0, h1, h2, h3, h4, hK⟩ := h
        exact good_copy (elemT_ok' hT he) hx h0 hob hs h1 h2 h3 h4 hK
      · exact h.elim
    · exact h.elim
  · rename_i s x t' t''
    split at h
    · rename_i id off sz n cap kq k hs hx
      refine .inr ?_
      split at h
      · rename_i e U kn cs he hN hob
        obtain ⟨N, hN, hNk⟩ := intKd_ok hT hN
        obtain ⟨h0, h1, h2, h3, h4, h5, h6, h7, h8, es, k1, k2, k3, k4, hK⟩ := h
        exact good_appZ es (elemT_ok' hT he) hN hNk h0 h1 h2 hs hx h3 hob h4 k1 k2 k3 k4 h5 h6 h7 h8 hK
      · exact h.elim
    · exact .inl (vc0_ok hT h)
  · split at h
    · rename_i hx hy; exact .inr (good_max hx hy h)
    · exact h.elim
  · split at h
    · rename_i hx hy; exact .inr (good_min hx hy h)
    · exact h.elim
  · exact .inl (vc0_ok hT h)
end Go.Sy
end
section
set_option linter.unusedVariables false
namespace Go.Sy

section
variable {P : Program} {T : TypeId → Option TY} {ops : Array Oper} {base nb i i' nx m : Nat} {l : List Oper} {tm : Nat → AV} {ob : Nat → Option Ob} {K : St → Prop} {d d0 g : Nat} {op : Op} {t : TypeId} {pos : String} {aft : Array Edge} {want : Bool}

def Reg (P : Program) (ops : Array Oper) (base : Nat) (l : List Oper) (i : Nat) (σ : St) (K : St → Prop) : Prop := regVC P ops base l i σ K

theorem w_reg {N id : Nat} {y : Code} {K : Exit → St → Prop} (hN : dstOK N l.toArray = true) (h : ∀ K1 : St → Prop, (∀ σ', Later P N y K σ' → K1 σ') → Reg P l.toArray nx l 0 ⟨tm, ob, nx⟩ K1) : Tri P N (.seq (.region id l.toArray false) y) ⟨tm, ob, nx⟩ K := go_reg hN h
theorem w_reg_end {N id : Nat} {K : Exit → St → Prop} (hN : dstOK N l.toArray = true) (h : ∀ K1 : St → Prop, (∀ σ', Out K .normal σ' → K1 σ') → Reg P l.toArray nx l 0 ⟨tm, ob, nx⟩ K1) : Tri P N (.region id l.toArray false) ⟨tm, ob, nx⟩ K := go_reg_end hN h
theorem v_nil (hm : base + 16 * i = m) (h : K ⟨tm, ob, m⟩) : Reg P ops base [] i ⟨tm, ob, nx⟩ K := by subst hm; exact h
theorem v_op (hT : TabOK P T) (hnb : base + 16 * i = nb) (hi : i + 1 = i')
    (h : ∀ K' : Kont, (∀ r deps, Reg P ops base l i' ⟨wr tm d r, ob, nx⟩ K → K' r deps []) → (∀ r deps ws, Reg P ops base l i' ⟨wr tm d r, wos ob ws, nx⟩ K → K' r deps ws) → vc T P nb op t ⟨tm, ob, nx⟩ (nfK K')) :
    Reg P ops base (⟨some d, op, t, pos, aft, none⟩ :: l) i ⟨tm, ob, nx⟩ K := by
  subst hnb hi
  have := vc_ok hT (h (fun r _ ws => regVC P ops base l (i + 1) (St.put ⟨tm, ob, nx⟩ (some d) r ws) K) ?_ ?_)
  · rw [nfK_eq] at this; exact this
  · intro r deps h; unfold Reg at h; rw [← wr_upd] at h; exact h
  · intro r deps ws h; unfold Reg at h; rw [← wr_upd, ← wos_upd] at h; exact h
theorem v_op0 (hT : TabOK P T) (hnb : base + 16 * i = nb) (hi : i + 1 = i')
    (h : ∀ K' : Kont, (∀ r deps, Reg P ops base l i' ⟨tm, ob, nx⟩ K → K' r deps []) → (∀ r deps ws, Reg P ops base l i' ⟨tm, wos ob ws, nx⟩ K → K' r deps ws) → vc T P nb op t ⟨tm, ob, nx⟩ (nfK K')) :
    Reg P ops base (⟨none, op, t, pos, aft, none⟩ :: l) i ⟨tm, ob, nx⟩ K := by
  subst hnb hi
  have := vc_ok hT (h (fun r _ ws => regVC P ops base l (i + 1) (St.put ⟨tm, ob, nx⟩ none r ws) K) ?_ ?_)
  · rw [nfK_eq] at this; exact this
  · intro r deps h; exact h
  · intro r deps ws h; unfold Reg at h; rw [← wos_upd] at h; exact h
theorem v_grd {b : Bool} (hg : gdst ops g = some d0) (hb : tm d0 = .s (.bool b)) (hi : i + 1 = i') (h1 : b = want → Reg P ops base (⟨some d, op, t, pos, aft, none⟩ :: l) i ⟨wr tm d0 (.s (.bool want)), ob, nx⟩ K)
    (h2 : b = (!want) → Reg P ops base l i' ⟨wr (wr tm d0 (.s (.bool (!want)))) d (.tup []), ob, nx⟩ K) : Reg P ops base (⟨some d, op, t, pos, aft, some (g, want)⟩ :: l) i ⟨tm, ob, nx⟩ K := by
  subst hi
  simp only [← wr_upd] at h1 h2
  show regVC P ops base (⟨some d, op, t, pos, aft, some (g, want)⟩ :: l) i ⟨tm, ob, nx⟩ K
  unfold regVC
  simp only [hg, hb]
  exact ⟨h1, h2⟩
theorem v_grd_yes (hg : gdst ops g = some d0) (hb : tm d0 = .s (.bool want)) (h1 : Reg P ops base (⟨some d, op, t, pos, aft, none⟩ :: l) i ⟨tm, ob, nx⟩ K) : Reg P ops base (⟨some d, op, t, pos, aft, some (g, want)⟩ :: l) i ⟨tm, ob, nx⟩ K := by
  have hs : wr tm d0 (.s (.bool want)) = tm := by
    rw [← wr_upd]; funext j; unfold upd; split
    · rename_i h; rw [h, hb]
    · rfl
  refine v_grd hg hb rfl (fun _ => by rw [hs]; exact h1) (fun h => ?_)
  cases want <;> cases h
theorem v_grd_no (hg : gdst ops g = some d0) (hb : tm d0 = .s (.bool (!want))) (hi : i + 1 = i') (h2 : Reg P ops base l i' ⟨wr tm d (.tup []), ob, nx⟩ K) : Reg P ops base (⟨some d, op, t, pos, aft, some (g, want)⟩ :: l) i ⟨tm, ob, nx⟩ K := by
  have hs : wr tm d0 (.s (.bool (!want))) = tm := by
    rw [← wr_upd]; funext j; unfold upd; split
    · rename_i h; rw [h, hb]
    · rfl
  refine v_grd hg hb hi (fun h => ?_) (fun _ => by rw [hs]; exact h2)
  cases want <;> cases h
theorem v_grd_undef (hg : gdst ops g = some d0) (hb : tm d0 = .tup []) (hi : i + 1 = i') (h2 : Reg P ops base l i' ⟨wr tm d (.tup []), ob, nx⟩ K) : Reg P ops base (⟨some d, op, t, pos, aft, some (g, want)⟩ :: l) i ⟨tm, ob, nx⟩ K := by
  subst hi
  rw [← wr_upd] at h2
  show regVC P ops base (⟨some d, op, t, pos, aft, some (g, want)⟩ :: l) i ⟨tm, ob, nx⟩ K
  unfold regVC
  simp only [hg, hb]
  exact h2
end

def nth : List (Option TY) → Nat → Option TY
  | [], _ => none
  | a :: _, 0 => a
  | _ :: l, n + 1 => nth l n
def TabL (P : Program) (k : Nat) : List (Option TY) → Prop
  | [] => True
  | none :: l => TabL P (k + 1) l
  | some U :: l => ty P k = some U ∧ TabL P (k + 1) l
theorem tabL_nth {P : Program} : ∀ (l : List (Option TY)) (k : Nat), TabL P k l → ∀ n U, nth l n = some U → ty P (k + n) = some U
  | [], _, _, _, _, h => by cases h
  | none :: l, k, hl, 0, _, h => by cases h
  | some V :: l, k, hl, 0, U, h => by cases h; exact hl.1
  | none :: l, k, hl, n + 1, U, h => by have := tabL_nth l (k + 1) hl n U h; rwa [Nat.add_right_comm] at this
  | some V :: l, k, hl, n + 1, U, h => by have := tabL_nth l (k + 1) hl.2 n U h; rwa [Nat.add_right_comm] at this
theorem tabL_ok {P : Program} (l : List (Option TY)) (h : TabL P 0 l) : TabOK P (nth l) := fun t U ht => by have := tabL_nth l 0 h t U ht; rwa [Nat.zero_add] at this

def resT (T : TypeId → Option TY) (σ : St) : ResultVar → Option AV
  | .tmp t => some (σ.tm t)
  | .cell a t => match T t, σ.tm a with
    | some U, .ptr id off => (match σ.ob id with | some (.box cs) => (match (U.kd.agg || Nat.beq U.n 1) && Nat.ble (off + U.n) cs.length with | true => some (ofCells U.kd.agg ((cs.drop off).take U.n)) | false => none) | _ => none)
    | _, _ => none
def resTL (T : TypeId → Option TY) (σ : St) : List ResultVar → Option (List AV)
  | [] => some []
  | r :: l => match resT T σ r, resTL T σ l with
    | some a, some m => some (a :: m)
    | _, _ => none
theorem resT_ok {P : Program} {T : TypeId → Option TY} (hT : TabOK P T) {σ : St} {r : ResultVar} {a : AV} (h : resT T σ r = some a) : resAV P σ r = some a := by
  cases r with
  | tmp t => exact h
  | cell b t =>
    simp only [resT] at h
    simp only [resAV]
    cases hU : T t with
    | none => rw [hU] at h; cases h
    | some U =>
      rw [hU] at h; rw [hT _ _ hU]
      cases hb : σ.tm b <;> rw [hb] at h <;> simp only at h ⊢ <;> try cases h
      rename_i id off
      cases ho : σ.ob id with
      | none => rw [ho] at h; cases h
      | some x =>
        rw [ho] at h
        cases x with
        | perm e sz n => cases h
        | gone => cases h
        | raw b o cs => cases h
        | box cs =>
          simp only at h ⊢
          split at h
          · rename_i hc
            have : ((U.kd.agg || U.n == 1) && decide (off + U.n ≤ cs.length)) = true := by
              simp only [Bool.and_eq_true, Bool.or_eq_true, decide_eq_true_eq, beq_iff_eq, Nat.beq_eq, Nat.ble_eq] at hc ⊢
              exact hc
            rw [if_pos this]; exact h
          · cases h
theorem resTL_ok {P : Program} {T : TypeId → Option TY} (hT : TabOK P T) {σ : St} : ∀ {rs : List ResultVar} {l : List AV}, resTL T σ rs = some l → resL P σ rs = some l
  | [], _, h => h
  | r :: rs, l, h => by
    simp only [resTL] at h
    simp only [resL]
    split at h
    · rename_i a m ha hm; rw [resT_ok hT ha, resTL_ok hT hm]; exact h
    · cases h
def retN (T : TypeId → Option TY) (σ : St) (rs : List ResultVar) (k : AV → Prop) : Prop := match resTL T σ rs with
  | some [a] => a.nf k
  | some l => nfL l fun l => k (.tup l)
  | none => False
theorem retN_ok {P : Program} {T : TypeId → Option TY} (hT : TabOK P T) {σ : St} {rs : List ResultVar} {r : AV} (h : ∀ K' : AV → Prop, (∀ a, Le a r → K' a) → retN T σ rs K') : retVC P rs σ r := by
  have h := h (fun a => Le a r) fun _ h => h
  unfold retN at h
  unfold retVC
  split at h
  · rename_i a ha; rw [resTL_ok hT ha]; simp only [nf_eq] at h; exact h
  · rename_i l hn ha
    rw [resTL_ok hT ha]
    rw [nfL_eq] at h
    split
    · rename_i b hb; exact (hn b (by simpa using hb)).elim
    · rename_i l' _ hl; cases hl; exact h
    · rename_i hl; cases hl
  · exact h.elim
theorem w_ret {P : Program} {T : TypeId → Option TY} (hT : TabOK P T) {σ : St} {rs : List ResultVar} {r : AV} (h : ∀ K' : AV → Prop, (∀ a, Le a r → K' a) → retN T σ rs K') : Out (retK P rs r) .ret σ := retN_ok hT h
theorem w_ret_end {P : Program} {T : TypeId → Option TY} (hT : TabOK P T) {σ : St} {rs : List ResultVar} {r : AV} (h : ∀ K' : AV → Prop, (∀ a, Le a r → K' a) → retN T σ rs K') : Out (retK P rs r) .normal σ := retN_ok hT h

theorem v_pspec {P : Program} {f : FuncId} {fn : Func} {code : Code} {args : List AV} {r : AV} {N : Nat} (hf : P.funcs[f]? = some fn) (hb : fn.body = some code) (hN : fn.ntmps = N) {rs : Array ResultVar} (hr : fn.results = rs) (hn : args.length ≤ N) (hpu : Pu r)
    (h : Later P N code (retK P rs.toList r) ⟨slots args, fun _ => none, 0⟩) : PSpec P f args r := by
  subst hr
  refine pspec_of_tri hf hb hN hn hpu ?_
  have e : St.start args = ⟨slots args, fun _ => none, 0⟩ := by
    unfold St.start; congr 1; funext i; exact slots_get args i
  rw [e]; exact h
theorem v_cspec {P : Program} {f : FuncId} {fn : Func} {code : Code} {args : List AV} {obs obs' : List Ob} {r : AV} {N : Nat} (hf : P.funcs[f]? = some fn) (hb : fn.body = some code) (hN : fn.ntmps = N) {rs : Array ResultVar} (hr : fn.results = rs) (hn : args.length ≤ N) {k : Nat} (hk : obs.length = k)
    (h : Later P N code (retO P rs.toList k r obs') ⟨slots args, obF obs, k⟩) : CSpec P f args obs r obs' := by
  subst hr hk
  refine cspec_of_tri hf hb hN hn ?_
  have e : St.startO args obs = ⟨slots args, obF obs, obs.length⟩ := by
    unfold St.startO; congr 1; funext i; exact slots_get args i
  rw [e]; exact h
end Go.Sy
end
section
set_option linter.unusedVariables false
namespace Go.Sy

theorem Mem.reread {c : Ctx} {H : View} {ε : Env} {ob : Nat → Option Ob} {w : World} {b : Nat} {x y : Ob} (hm : Mem c H ε ob w) (hb : ob b = some x) (hok : ObOK H ε w b y) : Mem c H ε (updOb ob b y) w := by
  have hne : ∀ i, updOb ob b y i ≠ none → ob i ≠ none := fun i hi => by
    unfold updOb at hi
    by_cases h : i = b
    · subst h; rw [hb]; simp
    · rwa [if_neg h] at hi
  refine ⟨hm.view, fun id z hz => ?_, fun i j hi hj => hm.dj i j (hne i hi) (hne j hj), fun id hid => hm.own id (hne id hid), hm.os, hm.tape, hm.output, hm.size, hm.block, hm.hle, hm.hold, hm.ele, hm.low, hm.top, hm.lo, hm.fz, fun b' o h => ⟨(hm.wr b' o h).1, (hm.wr b' o h).2.1, fun i hi => (hm.wr b' o h).2.2 i (hne i hi)⟩⟩
  unfold updOb at hz
  by_cases h : id = b
  · subst h; rw [if_pos rfl] at hz; cases hz; exact hok
  · rw [if_neg h] at hz; exact hm.objs id z hz

theorem RL.set {H : View} {ε : Env} : ∀ {vs : List Value} {cs : List AV} {j : Nat} {a : AV}, RL H ε vs cs → (∀ v, vs[j]? = some v → R H ε v a) → RL H ε vs (cs.set j a)
  | _, _, _, _, .nil, _ => .nil
  | _, _, 0, _, .cons v c vs cs h t, hv => .cons _ _ _ _ (hv v rfl) t
  | _, _, j + 1, _, .cons v c vs cs h t, hv => .cons _ _ _ _ h (RL.set t fun u hu => hv u (by simpa using hu))
theorem RL.at {H : View} {ε : Env} : ∀ {vs : List Value} {cs : List AV} {j : Nat} {v : Value} {a : AV}, RL H ε vs cs → vs[j]? = some v → cs[j]? = some a → R H ε v a
  | _, _, _, _, _, .nil, h, _ => by cases h
  | _, _, 0, _, _, .cons v c vs cs h t, hv, ha => by cases hv; cases ha; exact h
  | _, _, j + 1, _, _, .cons v c vs cs h t, hv, ha => RL.at t (by simpa using hv) (by simpa using ha)

theorem w_ownCell {P : Program} {N : Nat} {tm : Nat → AV} {ob : Nat → Option Ob} {nx m : Nat} {K : Exit → St → Prop} {code : Code} (b j : Nat) (e : TypeId) (sz : Nat) {cs : List AV} (hb : ob b = some (.box cs)) (hj : cs[j]? = some (.s (.slice none 0 0))) (hsz : 0 < sz) (hm : nx + 16 = m)
    (h : Later P N code K ⟨tm, wo (wo ob nx (.perm e sz 0)) b (.box (cs.set j (.osl nx sz []))), m⟩) : Later P N code K ⟨tm, ob, nx⟩ := by
  subst hm
  intro c H ε a w hc hi Q hQ
  have hf : ε nx = none := hi.dom _ (Nat.le_refl _)
  have hm := hi.mem.add (l := .row (.slice none 0 0) 0) (x := .perm e sz 0) hf ⟨.slice none 0 0, [], updEnv_same _ _ _, World.ownsRow_nil w 0 e sz, hsz, fun g hg => by cases hg⟩ (fun b o hb => by cases hb) (fun b hb => by cases hb) (fun b hb => by cases hb)
  have hbn : b ≠ nx := fun he => by
    subst he
    obtain ⟨g, arr, U, q1, _⟩ := hi.mem.objs _ _ hb
    rw [hf] at q1; cases q1
  have hb' : updOb ob nx (.perm e sz 0) b = some (.box cs) := by unfold updOb; rw [if_neg hbn]; exact hb
  have hm2 := hm.reread hb' (y := .box (cs.set j (.osl nx sz []))) (by
    obtain ⟨g, arr, U, q1, q2, q3, q4, q5⟩ := hm.objs _ _ hb'
    refine ⟨g, arr, U, q1, q2, q3.set fun v hv => ?_, q4, q5⟩
    have := q3.at hv hj
    rw [this.s_inv.1]
    exact .osl _ _ _ _ _ 0 (.nil _) (updEnv_same _ _ _) (Nat.le_refl _) (fun _ => rfl))
  rw [wo_perm, wo_box] at hm2
  refine h c H (updEnv ε nx (.row (.slice none 0 0) 0)) a w hc ⟨hi.sz, hi.df, fun i => (hi.tm i).mono (View.le_refl H) (Env.le_new hf), hm2, fun id hid => ?_⟩ Q hQ
  have hid' : nx + 16 ≤ id := hid
  unfold updEnv
  rw [if_neg (by omega)]
  exact hi.dom id (show nx ≤ id by omega)
theorem w_ownNil {P : Program} {N : Nat} {tm : Nat → AV} {ob : Nat → Option Ob} {nx m : Nat} {K : Exit → St → Prop} {code : Code} (s : Nat) (e : TypeId) (sz : Nat) (hs : tm s = .s (.slice none 0 0)) (hsz : 0 < sz) (hm : nx + 16 = m)
    (h : Later P N code K ⟨wr tm s (.osl nx sz []), wo ob nx (.perm e sz 0), m⟩) : Later P N code K ⟨tm, ob, nx⟩ := by
  subst hm
  refine tri_ownNil s e sz hs hsz ?_
  rw [← wr_upd, ← wo_perm] at h
  exact h
theorem w_retO {P : Program} {T : TypeId → Option TY} (hT : TabOK P T) {σ : St} {rs : List ResultVar} {m : Nat} {r : AV} {obs' : List Ob} (new : List Nat) (h1 : m + new.length = obs'.length) (h2 : ∀ k ∈ new, m ≤ k) (h3 : new.Nodup)
    (h4 : ∀ K' : AV → Prop, (∀ a, Le a (r.ren (backN m new)) → K' a) → retN T σ rs K') (h5 : obsRet σ (backN m new) obs' 0) (h6 : r.lt obs'.length) (h7 : ltO obs'.length obs') : Out (retO P rs m r obs') .ret σ := by
  refine ⟨new, h1, h2, h3, ?_, h5, h6, h7⟩
  have h := h4 (fun a => Le a (r.ren (backN m new))) fun _ h => h
  unfold retN at h
  split at h
  · rename_i a ha; rw [resTL_ok hT ha]; simp only [nf_eq] at h; exact h
  · rename_i l hn ha
    rw [resTL_ok hT ha]
    rw [nfL_eq] at h
    show Le (oneAV l) _
    have : oneAV l = .tup l := by
      unfold oneAV; split
      · rename_i b; exact (hn b rfl).elim
      · rfl
    rw [this]; exact h
  · exact h.elim

theorem LeL.rfl' : ∀ (l : List AV), LeL l l
  | [] => .nil
  | a :: l => .cons _ _ _ _ (.refl a) (LeL.rfl' l)
theorem leL_nil : LeL [] [] ↔ True := ⟨fun _ => trivial, fun _ => .nil⟩
theorem leL_cons {a b : AV} {l m : List AV} : LeL (a :: l) (b :: m) ↔ Le a b ∧ LeL l m := ⟨fun h => by cases h with | cons _ _ _ _ h t => exact ⟨h, t⟩, fun h => .cons _ _ _ _ h.1 h.2⟩
theorem le_tup {l m : List AV} : Le (.tup l) (.tup m) ↔ LeL l m := ⟨fun h => by cases h with | refl => exact LeL.rfl' _ | tup _ _ h => exact h, .tup _ _⟩
theorem le_agg {l m : List AV} : Le (.agg l) (.agg m) ↔ LeL l m := ⟨fun h => by cases h with | refl => exact LeL.rfl' _ | agg _ _ h => exact h, .agg _ _⟩
theorem le_osl {p q n k : Nat} {es fs : List (List AV)} : Le (.osl p n es) (.osl q k fs) ↔ p = q ∧ n = k ∧ es = fs := ⟨fun h => by cases h; exact ⟨rfl, rfl, rfl⟩, fun ⟨h1, h2, h3⟩ => by subst h1 h2 h3; exact .refl _⟩
theorem le_sl {n k : Nat} {es fs : List (List AV)} : Le (.sl n es) (.sl k fs) ↔ n = k ∧ es = fs := ⟨fun h => by cases h; exact ⟨rfl, rfl⟩, fun ⟨h1, h2⟩ => by subst h1 h2; exact .refl _⟩
theorem le_osl_sl {p n k : Nat} {es fs : List (List AV)} : Le (.osl p n es) (.sl k fs) ↔ n = k ∧ es = fs := ⟨fun h => by cases h; exact ⟨rfl, rfl⟩, fun ⟨h1, h2⟩ => by subst h1 h2; exact .osl _ _ _⟩
theorem le_nil_sl {k : Nat} {fs : List (List AV)} : Le (.s (.slice none 0 0)) (.sl k fs) ↔ fs = [] := ⟨fun h => by cases h; rfl, fun h => by subst h; exact .nil _⟩
theorem le_junk {a : AV} : Le a .junk ↔ True := ⟨fun _ => trivial, fun _ => .junk _⟩
theorem le_self {a : AV} : Le a a ↔ True := ⟨fun _ => trivial, fun _ => .refl _⟩
theorem le_ptr {a b c d : Nat} : Le (.ptr a b) (.ptr c d) ↔ a = c ∧ b = d := ⟨fun h => by cases h; exact ⟨rfl, rfl⟩, fun ⟨h1, h2⟩ => by subst h1 h2; exact .refl _⟩
theorem wr_get (tm : Nat → AV) (d : Nat) (r : AV) (j : Nat) : wr tm d r j = if j = d then r else tm j := by rw [← wr_upd]; rfl
theorem wo_get (ob : Nat → Option Ob) (d : Nat) (x : Ob) (j : Nat) : wo ob d x j = if j = d then x.opt else ob j := by rw [← wo_updG]; rfl
end Go.Sy
end
section
set_option linter.unusedVariables false
namespace Go.Sy

def wrs : (Nat → AV) → List (Nat × AV) → Nat → AV
  | tm, [] => tm
  | tm, (d, x) :: l => wr (wrs tm l) d x
def jnk (W : List Nat) (tm : Nat → AV) : Nat → AV := fun j => bif W.contains j then .junk else tm j
def wor : (Nat → Option Ob) → List (Nat × Ob) → Nat → Option Ob
  | ob, [] => ob
  | ob, (d, x) :: l => fun j => bif Nat.beq j d then some x else wor ob l j
theorem wrs_lookup (tm : Nat → AV) : ∀ (S : List (Nat × AV)) (i : Nat), wrs tm S i = (match S.lookup i with | some v => v | none => tm i)
  | [], i => rfl
  | (d, x) :: l, i => by
    simp only [wrs, wr_get, List.lookup_cons]
    by_cases h : i = d
    · subst h; simp
    · have hb : (i == d) = false := by simpa using h
      rw [if_neg h, hb]; exact wrs_lookup tm l i
theorem wor_lookup (ob : Nat → Option Ob) : ∀ (B : List (Nat × Ob)) (i : Nat), wor ob B i = (match B.lookup i with | some v => some v | none => ob i)
  | [], i => rfl
  | (d, x) :: l, i => by
    simp only [wor, beq_dec, Bool.cond_decide, List.lookup_cons]
    by_cases h : i = d
    · subst h; simp
    · have hb : (i == d) = false := by simpa using h
      rw [if_neg h, hb]; exact wor_lookup ob l i
theorem head_eq (tm : Nat → AV) (ob : Nat → Option Ob) (nx : Nat) (W : List Nat) (S : List (Nat × AV)) (B : List (Nat × Ob)) : St.head ⟨tm, ob, nx⟩ W S B = ⟨wrs (jnk W tm) S, wor ob B, nx⟩ := by
  unfold St.head
  congr 1
  · funext i; rw [wrs_lookup]; unfold jnk; cases S.lookup i <;> simp [Bool.cond_eq_ite]
  · funext i; rw [wor_lookup]; cases B.lookup i <;> rfl

theorem kt_refl {W : List Nat} {tm : Nat → AV} : KeepTm W tm tm := fun _ _ => rfl
theorem kt_wr {W : List Nat} {tm tm0 : Nat → AV} {d : Nat} {r : AV} (hd : W.contains d = true) (h : KeepTm W tm tm0) : KeepTm W (wr tm d r) tm0 := by rw [← wr_upd]; exact keepTm_upd hd h
theorem kt_jnk {W V : List Nat} {tm tm0 : Nat → AV} (hd : V.all W.contains = true) (h : KeepTm W tm tm0) : KeepTm W (jnk V tm) tm0 := fun i hi => by
  unfold jnk
  cases hq : V.contains i with
  | false => exact h i hi
  | true =>
    have := (List.all_eq_true.1 hd) i (by simpa using hq)
    rw [hi] at this; cases this
theorem kt_wrs {W : List Nat} {tm tm0 : Nat → AV} : ∀ {S : List (Nat × AV)}, S.all (fun x => W.contains x.1) = true → KeepTm W tm tm0 → KeepTm W (wrs tm S) tm0
  | [], _, h => h
  | (d, x) :: l, hd, h => by
    simp only [List.all_cons, Bool.and_eq_true] at hd
    exact kt_wr hd.1 (kt_wrs hd.2 h)
theorem ko_refl {n : Nat} {Bs : List Nat} {ob : Nat → Option Ob} : KeepOb n Bs ob ob := fun _ _ _ => rfl
theorem ko_wo {n : Nat} {Bs : List Nat} {ob ob0 : Nat → Option Ob} {d : Nat} {x : Ob} (hd : Bs.contains d = true ∨ n ≤ d) (h : KeepOb n Bs ob ob0) : KeepOb n Bs (wo ob d x) ob0 := by
  intro i hi hn
  rw [wo_get, if_neg (fun e => by
    subst e
    rcases hd with hd | hd
    · rw [hd] at hi; cases hi
    · omega)]
  exact h i hi hn
theorem ko_wor {n : Nat} {Bs : List Nat} {ob ob0 : Nat → Option Ob} : ∀ {B : List (Nat × Ob)}, B.all (fun x => Bs.contains x.1) = true → KeepOb n Bs ob ob0 → KeepOb n Bs (wor ob B) ob0
  | [], _, h => h
  | (d, x) :: l, hd, h => by
    simp only [List.all_cons, Bool.and_eq_true] at hd
    intro i hi hn
    simp only [wor, beq_dec, Bool.cond_decide]
    rw [if_neg (fun e => by subst e; rw [hd.1] at hi; cases hi)]
    exact ko_wor hd.2 h i hi hn
theorem ko_wos {n : Nat} {Bs : List Nat} {ob0 : Nat → Option Ob} : ∀ {B : List (Nat × Ob)} {ob : Nat → Option Ob}, (∀ x ∈ B, Bs.contains x.1 = true ∨ n ≤ x.1) → KeepOb n Bs ob ob0 → KeepOb n Bs (wos ob B) ob0
  | [], _, _, h => h
  | (d, x) :: l, _, hd, h => ko_wos (B := l) (fun y hy => hd y (List.mem_cons_of_mem _ hy)) (ko_wo (hd (d, x) List.mem_cons_self) h)

section
variable {P : Program} {N : Nat} {tm : Nat → AV} {ob : Nat → Option Ob} {nx : Nat} {K : Exit → St → Prop}
theorem w_loop {body : Code} {X : Type} (W : List Nat) (S : X → List (Nat × AV)) (B : X → List (Nat × Ob)) (rel : X → Prop) (μ : X → Nat) (x0 : X)
    (h0 : rel x0) (hb : Back ⟨tm, ob, nx⟩ ⟨tm, ob, nx⟩ W (S x0) (B x0)) (hr : ∀ x, rel x → Later P N body (LoopK ⟨tm, ob, nx⟩ W S B rel (μ x) μ K) ⟨wrs (jnk W tm) (S x), wor ob (B x), nx⟩) :
    Tri P N (.loop body) ⟨tm, ob, nx⟩ K := tri_loop W S B rel μ ⟨x0, h0, hb⟩ fun x hx => by rw [head_eq]; exact hr x hx
theorem w_cut {x y : Code} {X : Type} (W : List Nat) (S : X → List (Nat × AV)) (B : X → List (Nat × Ob)) (rel : X → Prop)
    (h1 : Tri P N x ⟨tm, ob, nx⟩ (LoopK ⟨tm, ob, nx⟩ W S B rel 1 (fun _ => 0) K)) (h2 : ∀ z, rel z → Later P N y K ⟨wrs (jnk W tm) (S z), wor ob (B z), nx⟩) :
    Tri P N (.seq x y) ⟨tm, ob, nx⟩ K := go_cut W S B rel h1 fun z hz => by rw [head_eq]; exact h2 z hz
theorem w_next {X : Type} {σ0 σ : St} {W : List Nat} {S : X → List (Nat × AV)} {B : X → List (Nat × Ob)} {rel : X → Prop} {m : Nat} {μ : X → Nat} (x' : X) (rel' : rel x') (mu : μ x' < m)
    (kt : KeepTm W σ.tm σ0.tm) (ko : KeepOb σ0.nx ((B x').map (·.1)) σ.ob σ0.ob) (ls : leS σ (S x')) (lb : leB σ (B x')) (hs : ltS σ0.nx (S x')) (hb : ltB σ0.nx (B x')) (hn : σ0.nx ≤ σ.nx) : Out (LoopK σ0 W S B rel m μ K) .normal σ :=
  out_loop x' rel' mu ⟨kt, ko, ls, lb, hs, hb, hn⟩
end

theorem w_callO {P : Program} {nb : Nat} {t : TypeId} {σ : St} {K : Kont} {f : FuncId} {x : Operand} {args : Array Operand} {ts : Array TypeId} {first caps avs args' : List AV} {r : AV} {obs obs' : List Ob} (ps : List Nat) (ho : Own P f) (hs : CSpec P f args' obs r obs')
    (hm : ps.length = obs.length) (hnd : ps.Nodup)
    (hm1 : obs.length ≤ obs'.length ∧ obs.length ≤ 16) (hm2 : obs'.length ≤ obs.length + 16) (hx : σ.ev x = .fn (.func f) first caps) (he : avs = first ++ args.toList.map σ.ev ++ caps)
    (hle : LeL avs (renL (callφ ps nb) args')) (hlt : ltL obs.length args') (hobs : obsBack σ (callφ ps nb) obs 0) (hobl : ltO obs.length obs)
    (hK : K (r.ren (callφ ps nb)) ps (callWs (callφ ps nb) obs')) : CallV P nb (.call { callee := .value x, args, argTypes := ts }) t f avs σ K :=
  callV_obj ps ho hs hm hnd hm1 hm2 hx he hle hlt (fun k y hy => by have := obsBack_get hobs hy; rwa [Nat.zero_add] at this) (fun y hy => by
    obtain ⟨j, hj, rfl⟩ := List.getElem_of_mem hy
    exact ltO_get (j := j) hobl (by simp [hj])) hK

theorem w_retO_end {P : Program} {T : TypeId → Option TY} (hT : TabOK P T) {σ : St} {rs : List ResultVar} {m : Nat} {r : AV} {obs' : List Ob} (new : List Nat) (h1 : m + new.length = obs'.length) (h2 : ∀ k ∈ new, m ≤ k) (h3 : new.Nodup)
    (h4 : ∀ K' : AV → Prop, (∀ a, Le a (r.ren (backN m new)) → K' a) → retN T σ rs K') (h5 : obsRet σ (backN m new) obs' 0) (h6 : r.lt obs'.length) (h7 : ltO obs'.length obs') : Out (retO P rs m r obs') .normal σ := w_retO (P := P) hT new h1 h2 h3 h4 h5 h6 h7
theorem all_row {α : Type} {f : α → List AV} {l : List α} {i : Nat} {K : List AV → Prop} (h : ∀ x, l[i]? = some x → K (f x)) : ∀ el, (l.map f)[i]? = some el → K el := fun el he => by
  rw [List.getElem?_map] at he
  cases hq : l[i]? with
  | none => rw [hq] at he; cases he
  | some x => rw [hq] at he; cases he; exact h x hq
theorem all_rk {α : Type} {f : α → List AV} {l : List α} {i : Nat} {x : α} {K : List AV → Prop} (hx : l[i]? = some x) (h : K (f x)) : ∀ el, (l.map f)[i]? = some el → K el := fun el he => by
  rw [List.getElem?_map, hx] at he; cases he; exact h
theorem all_byte {s : ByteArray} {i : Nat} {K : UInt8 → Prop} (h : ∀ b, s[i]? = some b → K b) : ∀ b, s[i]? = some b → K b := h
theorem take_at {α : Type} {l : List α} {i : Nat} {x : α} (h : l[i]? = some x) : l.take (i + 1) = l.take i ++ [x] := by rw [List.take_add_one, h]; rfl
theorem drop_at {α : Type} {l : List α} {i : Nat} {x : α} (h : l[i]? = some x) : l.drop i = x :: l.drop (i + 1) := by
  obtain ⟨hi, rfl⟩ := List.getElem?_eq_some_iff.1 h
  exact List.drop_eq_getElem_cons hi
theorem wor_nil (ob : Nat → Option Ob) : wor ob [] = ob := rfl
theorem wor_get (ob : Nat → Option Ob) (d : Nat) (x : Ob) (l : List (Nat × Ob)) (j : Nat) : wor ob ((d, x) :: l) j = if j = d then some x else wor ob l j := by
  simp only [wor, beq_dec, Bool.cond_decide]
attribute [simp] wrs wor_nil wor_get jnk slots
end Go.Sy
end
section
set_option linter.unusedVariables false
namespace Go.Sy
section
variable {P : Program} {T : TypeId → Option TY} {ops : Array Oper} {base nb i i' nx m : Nat} {l : List Oper} {tm : Nat → AV} {ob : Nat → Option Ob} {K : List (List Nat × List Nat) → St → Prop} {d d0 g : Nat} {op : Op} {t : TypeId} {pos : String} {aft : Array Edge} {want : Bool} {acc : List (List Nat × List Nat)}

def RegD (P : Program) (ops : Array Oper) (base : Nat) (l : List Oper) (i : Nat) (σ : St) (acc : List (List Nat × List Nat)) (K : List (List Nat × List Nat) → St → Prop) : Prop := regVCD P ops base l i σ acc K

theorem d_reg {N id : Nat} {y : Code} {K : Exit → St → Prop} (hmix : P.follows .mixedOrders = true) (hok : drawOK N l.toArray = true) (hm : nx + 16 * l.length = m)
    (h : ∀ K1 : List (List Nat × List Nat) → St → Prop, (∀ acc tm' ob' nx', objsOK (ancT l) acc = true → Later P N y K ⟨tm', ob', m⟩ → K1 acc ⟨tm', ob', nx'⟩) → RegD P l.toArray nx l 0 ⟨tm, ob, nx⟩ [] K1) : Tri P N (.seq (.region id l.toArray true) y) ⟨tm, ob, nx⟩ K := by
  subst hm
  exact tri_seq (tri_draw hmix hok (h _ fun acc tm' ob' nx' h1 h2 => ⟨h1, h2⟩))
theorem d_reg_end {N id : Nat} {K : Exit → St → Prop} (hmix : P.follows .mixedOrders = true) (hok : drawOK N l.toArray = true) (hm : nx + 16 * l.length = m)
    (h : ∀ K1 : List (List Nat × List Nat) → St → Prop, (∀ acc tm' ob' nx', objsOK (ancT l) acc = true → Out K .normal ⟨tm', ob', m⟩ → K1 acc ⟨tm', ob', nx'⟩) → RegD P l.toArray nx l 0 ⟨tm, ob, nx⟩ [] K1) : Tri P N (.region id l.toArray true) ⟨tm, ob, nx⟩ K := by
  subst hm
  exact tri_draw hmix hok (h _ fun acc tm' ob' nx' h1 h2 => ⟨h1, h2⟩)
theorem d_nil (h : K acc ⟨tm, ob, nx⟩) : RegD P ops base [] i ⟨tm, ob, nx⟩ acc K := h
theorem d_op (hT : TabOK P T) (hnb : base + 16 * i = nb) (hi : i + 1 = i')
    (h : ∀ K' : Kont, (∀ r deps, RegD P ops base l i' ⟨wr tm d r, ob, nx⟩ (acc ++ [(deps, [])]) K → K' r deps []) → (∀ r deps ws, RegD P ops base l i' ⟨wr tm d r, wos ob ws, nx⟩ (acc ++ [(deps, ws.map (·.1))]) K → K' r deps ws) → vc T P nb op t ⟨tm, ob, nx⟩ (nfK K')) :
    RegD P ops base (⟨some d, op, t, pos, aft, none⟩ :: l) i ⟨tm, ob, nx⟩ acc K := by
  subst hnb hi
  have := vc_ok hT (h (fun r deps ws => regVCD P ops base l (i + 1) (St.put ⟨tm, ob, nx⟩ (some d) r ws) (acc ++ [(deps, ws.map (·.1))]) K) ?_ ?_)
  · rw [nfK_eq] at this; exact this
  · intro r deps h; unfold RegD at h; rw [← wr_upd] at h; exact h
  · intro r deps ws h; unfold RegD at h; rw [← wr_upd, ← wos_upd] at h; exact h
theorem d_op0 (hT : TabOK P T) (hnb : base + 16 * i = nb) (hi : i + 1 = i')
    (h : ∀ K' : Kont, (∀ r deps, RegD P ops base l i' ⟨tm, ob, nx⟩ (acc ++ [(deps, [])]) K → K' r deps []) → (∀ r deps ws, RegD P ops base l i' ⟨tm, wos ob ws, nx⟩ (acc ++ [(deps, ws.map (·.1))]) K → K' r deps ws) → vc T P nb op t ⟨tm, ob, nx⟩ (nfK K')) :
    RegD P ops base (⟨none, op, t, pos, aft, none⟩ :: l) i ⟨tm, ob, nx⟩ acc K := by
  subst hnb hi
  have := vc_ok hT (h (fun r deps ws => regVCD P ops base l (i + 1) (St.put ⟨tm, ob, nx⟩ none r ws) (acc ++ [(deps, ws.map (·.1))]) K) ?_ ?_)
  · rw [nfK_eq] at this; exact this
  · intro r deps h; exact h
  · intro r deps ws h; unfold RegD at h; rw [← wos_upd] at h; exact h
theorem d_grd {b : Bool} (hg : gdst ops g = some d0) (hb : tm d0 = .s (.bool b)) (hi : i + 1 = i') (h1 : b = want → RegD P ops base (⟨some d, op, t, pos, aft, none⟩ :: l) i ⟨wr tm d0 (.s (.bool want)), ob, nx⟩ acc K)
    (h2 : b = (!want) → RegD P ops base l i' ⟨wr (wr tm d0 (.s (.bool (!want)))) d (.tup []), ob, nx⟩ (acc ++ [([], [])]) K) : RegD P ops base (⟨some d, op, t, pos, aft, some (g, want)⟩ :: l) i ⟨tm, ob, nx⟩ acc K := by
  subst hi
  simp only [← wr_upd] at h1 h2
  show regVCD P ops base (⟨some d, op, t, pos, aft, some (g, want)⟩ :: l) i ⟨tm, ob, nx⟩ acc K
  unfold regVCD
  simp only [hg, hb]
  exact ⟨h1, h2⟩
theorem d_grd_yes (hg : gdst ops g = some d0) (hb : tm d0 = .s (.bool want)) (h1 : RegD P ops base (⟨some d, op, t, pos, aft, none⟩ :: l) i ⟨tm, ob, nx⟩ acc K) : RegD P ops base (⟨some d, op, t, pos, aft, some (g, want)⟩ :: l) i ⟨tm, ob, nx⟩ acc K := by
  have hs : wr tm d0 (.s (.bool want)) = tm := by
    rw [← wr_upd]; funext j; unfold upd; split
    · rename_i h; rw [h, hb]
    · rfl
  refine d_grd hg hb rfl (fun _ => by rw [hs]; exact h1) (fun h => ?_)
  cases want <;> cases h
theorem d_grd_no (hg : gdst ops g = some d0) (hb : tm d0 = .s (.bool (!want))) (hi : i + 1 = i') (h2 : RegD P ops base l i' ⟨wr tm d (.tup []), ob, nx⟩ (acc ++ [([], [])]) K) : RegD P ops base (⟨some d, op, t, pos, aft, some (g, want)⟩ :: l) i ⟨tm, ob, nx⟩ acc K := by
  have hs : wr tm d0 (.s (.bool (!want))) = tm := by
    rw [← wr_upd]; funext j; unfold upd; split
    · rename_i h; rw [h, hb]
    · rfl
  refine d_grd hg hb hi (fun h => ?_) (fun _ => by rw [hs]; exact h2)
  cases want <;> cases h
theorem d_grd_undef (hg : gdst ops g = some d0) (hb : tm d0 = .tup []) (hi : i + 1 = i') (h2 : RegD P ops base l i' ⟨wr tm d (.tup []), ob, nx⟩ (acc ++ [([], [])]) K) : RegD P ops base (⟨some d, op, t, pos, aft, some (g, want)⟩ :: l) i ⟨tm, ob, nx⟩ acc K := by
  subst hi
  rw [← wr_upd] at h2
  show regVCD P ops base (⟨some d, op, t, pos, aft, some (g, want)⟩ :: l) i ⟨tm, ob, nx⟩ acc K
  unfold regVCD
  simp only [hg, hb]
  exact h2
end
theorem callV_id {P : Program} {nb : Nat} {op : Op} {t : TypeId} {f : FuncId} {args : List AV} {σ : St} {K : Kont} (h : CallV P nb op t f args σ K) : CallV P nb op t f args σ K := h
theorem w_nx {K : Exit → St → Prop} {X : Type} {σ0 σ : St} {W : List Nat} {S : X → List (Nat × AV)} {B : X → List (Nat × Ob)} {rel : X → Prop} {m : Nat} {μ : X → Nat} (x' : X) (hs : ltS σ0.nx (S x')) (hb : ltB σ0.nx (B x')) (ls : leS σ (S x')) (lb : leB σ (B x')) (mu : μ x' < m) (rel' : rel x')
    (kt : KeepTm W σ.tm σ0.tm := by first | exact kt_refl | (repeat (first | exact kt_refl | refine kt_wr (by rfl) ?_ | refine kt_jnk (by rfl) ?_ | refine kt_wrs (by rfl) ?_)))
    (ko : KeepOb σ0.nx ((B x').map (·.1)) σ.ob σ0.ob := by repeat (first | exact ko_refl | refine ko_wo (by first | exact .inl (by rfl) | exact .inr (by simp) | exact .inr (by omega)) ?_ | refine ko_wor (by rfl) ?_ | refine ko_wos (by simp) ?_))
    (hn : σ0.nx ≤ σ.nx := by first | exact Nat.le_refl _ | (simp; done) | (simp; omega)) : Out (LoopK σ0 W S B rel m μ K) .normal σ :=
  w_next x' rel' mu kt ko ls lb hs hb hn
end Go.Sy
end
section
set_option linter.unusedVariables false
namespace Go.Sy

inductive Pr where
  | int (k : IntKind)
  | bool
  | str

def flatL (rec : TypeId → Option (List Pr)) (P : Program) : List Field → Nat → Option (List Pr)
  | [], _ => some []
  | f :: fs, o =>
    if f.name ≠ "_" ∧ f.offset = o then
      match rec f.type, P.info? f.type, P.underlying f.type with
      | some l, some i, some d => if i.size = l.length ∧ (isAggD d = false → l.length = 1) then (flatL rec P fs (o + l.length)).map (l ++ ·) else none
      | _, _, _ => none
    else none
def flat (P : Program) : Nat → TypeId → Option (List Pr)
  | 0, _ => none
  | d + 1, t => match P.underlying t with
    | some (.int k) => some [.int k]
    | some .bool => some [.bool]
    | some .string => some [.str]
    | some (.struct fs) => if P.stoodInHeld t = false then flatL (flat P d) P fs.toList 0 else none
    | _ => none

def kinds : List Pr → List Value → Bool
  | [], [] => true
  | .int k :: l, .int k' _ :: m => decide (k' = k) && kinds l m
  | .bool :: l, .bool _ :: m => kinds l m
  | .str :: l, .string _ :: m => kinds l m
  | _, _ => false
def eqC : List Value → List Value → Bool
  | [], [] => true
  | .int _ a :: l, .int _ b :: m => decide (a = b) && eqC l m
  | .bool a :: l, .bool b :: m => decide (a = b) && eqC l m
  | .string a :: l, .string b :: m => decide (a = b) && eqC l m
  | _, _ => false

theorem kinds_length : ∀ {l : List Pr} {vs : List Value}, kinds l vs = true → vs.length = l.length
  | [], [], _ => rfl
  | .int k :: l, .int k' _ :: m, h => by simp only [kinds, Bool.and_eq_true] at h; simp [kinds_length h.2]
  | .bool :: l, .bool _ :: m, h => by simp only [kinds] at h; simp [kinds_length h]
  | .str :: l, .string _ :: m, h => by simp only [kinds] at h; simp [kinds_length h]
theorem kinds_append : ∀ {l m : List Pr} {vs : List Value}, kinds (l ++ m) vs = true → kinds l (vs.take l.length) = true ∧ kinds m (vs.drop l.length) = true
  | [], m, vs, h => by simpa [kinds] using h
  | .int k :: l, m, .int k' _ :: vs, h => by
    simp only [List.cons_append, kinds, Bool.and_eq_true] at h
    have := kinds_append h.2
    simp only [List.length_cons, List.take_succ_cons, List.drop_succ_cons, kinds, Bool.and_eq_true]
    exact ⟨⟨h.1, this.1⟩, this.2⟩
  | .bool :: l, m, .bool _ :: vs, h => by
    simp only [List.cons_append, kinds] at h
    have := kinds_append h
    simp only [List.length_cons, List.take_succ_cons, List.drop_succ_cons, kinds]
    exact this
  | .str :: l, m, .string _ :: vs, h => by
    simp only [List.cons_append, kinds] at h
    have := kinds_append h
    simp only [List.length_cons, List.take_succ_cons, List.drop_succ_cons, kinds]
    exact this
theorem eqC_split : ∀ {l : List Pr} {xs ys : List Value} (n : Nat), kinds l (xs.take n) = true → kinds l (ys.take n) = true → eqC xs ys = (eqC (xs.take n) (ys.take n) && eqC (xs.drop n) (ys.drop n))
  | _, xs, ys, 0, _, _ => by simp [eqC]
  | [], [], [], n + 1, h, h' => by simp [eqC]
  | .int k :: l, .int k1 a :: xs, .int k2 b :: ys, n + 1, h, h' => by
    simp only [List.take_succ_cons, kinds, Bool.and_eq_true] at h h'
    simp only [List.take_succ_cons, List.drop_succ_cons, eqC]
    rw [eqC_split n h.2 h'.2, Bool.and_assoc]
  | .bool :: l, .bool a :: xs, .bool b :: ys, n + 1, h, h' => by
    simp only [List.take_succ_cons, kinds] at h h'
    simp only [List.take_succ_cons, List.drop_succ_cons, eqC]
    rw [eqC_split n h h', Bool.and_assoc]
  | .str :: l, .string a :: xs, .string b :: ys, n + 1, h, h' => by
    simp only [List.take_succ_cons, kinds] at h h'
    simp only [List.take_succ_cons, List.drop_succ_cons, eqC]
    rw [eqC_split n h h', Bool.and_assoc]

def valOf (ag : Bool) (xs : List Value) : Value := match ag with
  | true => .agg xs.toArray
  | false => xs.headD undef

theorem run_part {P : Program} {t : TypeId} {i : TypeInfo} {d : TypeDesc} (hi : P.info? t = some i) (hd : P.underlying t = some d) (w : World) (xs : List Value) (o : Nat) (h1 : isAggD d = false → i.size = 1) (hl : o + i.size ≤ xs.length) :
    (part t xs.toArray o).run P w = .ok (valOf (isAggD d) ((xs.drop o).take i.size)) w := by
  unfold part
  simp only [Sem.run_bind, run_isAgg' hd, Result.andThen_ok]
  cases hag : isAggD d with
  | true =>
    simp only [if_true, Sem.run_bind, run_sizeOf' hi, Result.andThen_ok, Sem.run_pure, valOf]
    congr 2
    apply Array.toList_inj.1
    simp [List.extract_eq_take_drop]
  | false =>
    have hs := h1 hag
    have hlt : o < xs.length := by omega
    have e : xs.toArray[o]? = some xs[o] := by simp [hlt]
    have e2 : (xs.drop o).take 1 = [xs[o]] := by rw [List.drop_eq_getElem_cons hlt]; rfl
    simp only [Bool.false_eq_true, if_false, e, Sem.run_pure, valOf, hs, e2]
    rfl
theorem kinds_int {k : IntKind} {xs : List Value} (h : kinds [.int k] xs = true) : ∃ a, xs = [.int k a] := by
  match xs, h with
  | [.int k' a], h => simp only [kinds, Bool.and_true, decide_eq_true_eq] at h; subst h; exact ⟨a, rfl⟩
  | .int k' a :: b :: l, h => simp [kinds] at h
theorem kinds_bool {xs : List Value} (h : kinds [.bool] xs = true) : ∃ a, xs = [.bool a] := by
  match xs, h with
  | [.bool a], h => exact ⟨a, rfl⟩
  | .bool a :: b :: l, h => simp [kinds] at h
theorem kinds_str {xs : List Value} (h : kinds [.str] xs = true) : ∃ a, xs = [.string a] := by
  match xs, h with
  | [.string a], h => exact ⟨a, rfl⟩
  | .string a :: b :: l, h => simp [kinds] at h
theorem eq_flat {P : Program} (w : World) : ∀ (d n : Nat) (t : TypeId) (ks : List Pr) (xs ys : List Value) (dd : TypeDesc), flat P d t = some ks → d ≤ n → kinds ks xs = true → kinds ks ys = true → P.underlying t = some dd →
    (Op.equalIn n t (valOf (isAggD dd) xs) (valOf (isAggD dd) ys)).run P w = .ok (eqC xs ys) w
  | 0, n, t, ks, xs, ys, dd, h, _, _, _, _ => by cases h
  | d + 1, 0, t, ks, xs, ys, dd, h, hn, _, _, _ => by omega
  | d + 1, n + 1, t, ks, xs, ys, dd, h, hn, hx, hy, hdd => by
    simp only [flat] at h
    rw [hdd] at h
    split at h
    · rename_i k hk; cases hk; cases h
      obtain ⟨a, rfl⟩ := kinds_int hx
      obtain ⟨b, rfl⟩ := kinds_int hy
      have := run_equalIn_int w n t k k a b hdd
      simp [valOf, isAggD, this, eqC]
      rfl
    · rename_i hk; cases hk; cases h
      obtain ⟨a, rfl⟩ := kinds_bool hx
      obtain ⟨b, rfl⟩ := kinds_bool hy
      have := run_equalIn_bool' w n t a b hdd
      simp [valOf, isAggD, this, eqC]
      rfl
    · rename_i hk; cases hk; cases h
      obtain ⟨a, rfl⟩ := kinds_str hx
      obtain ⟨b, rfl⟩ := kinds_str hy
      have := run_equalIn_string w n t a b hdd
      simp [valOf, isAggD, this, eqC, beq_bytes]
    · rename_i fs hk; cases hk
      split at h
      · rename_i hp
        simp only [valOf, isAggD]
        have hf : P.fieldsOf t = fs := by simp [Program.fieldsOf, hdd]
        rw [run_equalIn_agg w n t _ _ (by rw [hf]; exact hdd) hp, hf]
        have key : ∀ (l : List Field) (o : Nat) (ks : List Pr), flatL (flat P d) P l o = some ks → o ≤ xs.length → o ≤ ys.length → kinds ks (xs.drop o) = true → kinds ks (ys.drop o) = true → (Op.eqFields n xs.toArray ys.toArray l).run P w = .ok (eqC (xs.drop o) (ys.drop o)) w := by
          intro l
          induction l with
          | nil =>
            intro o ks h ox oy hx hy
            cases h
            have h1 := kinds_length hx
            have h2 := kinds_length hy
            have e1 : xs.drop o = [] := List.eq_nil_of_length_eq_zero h1
            have e2 : ys.drop o = [] := List.eq_nil_of_length_eq_zero h2
            rw [e1, e2]; simp [Op.eqFields, eqC]
          | cons f l ih =>
            intro o ks h ox oy hx hy
            simp only [flatL] at h
            split at h
            · rename_i hc
              obtain ⟨hname, hoff⟩ := hc
              split at h
              · rename_i k1 i d1 hk1 hi hd1
                split at h
                · rename_i hsz
                  cases hq : flatL (flat P d) P l (o + k1.length) with
                  | none => rw [hq] at h; cases h
                  | some k2 =>
                    rw [hq] at h; cases h
                    have hx2 := kinds_append hx
                    have hy2 := kinds_append hy
                    have lx := kinds_length hx
                    have ly := kinds_length hy
                    simp only [List.length_drop, List.length_append] at lx ly
                    have h1 : isAggD d1 = false → i.size = 1 := fun h => by rw [hsz.1]; exact hsz.2 h
                    have px := run_part (P := P) hi hd1 w xs o h1 (by omega)
                    have py := run_part (P := P) hi hd1 w ys o h1 (by omega)
                    rw [hsz.1] at px py
                    have he := eq_flat w d n f.type k1 _ _ d1 hk1 (by omega) hx2.1 hy2.1 hd1
                    simp only [Op.eqFields, if_pos hname, hoff, Sem.run_bind, px, py, he, Result.andThen_ok, Sem.run_ite]
                    rw [eqC_split k1.length hx2.1 hy2.1, List.drop_drop, List.drop_drop]
                    cases hb : eqC ((xs.drop o).take k1.length) ((ys.drop o).take k1.length) with
                    | false => simp
                    | true =>
                      have := ih (o + k1.length) k2 hq (by omega) (by omega) (by have := hx2.2; rwa [List.drop_drop] at this) (by have := hy2.2; rwa [List.drop_drop] at this)
                      simp [this]
                · cases h
              · cases h
            · cases h
        have := key fs.toList 0 ks h (by omega) (by omega) (by simpa using hx) (by simpa using hy)
        simpa using this
      · cases h
    · cases h
theorem eqV_eql {P : Program} {t : TypeId} {ks : List Pr} {xs ys : List Value} (h : flat P 6 t = some ks) (hm : P.eqGuardType P.depth t = false) (ha : (match P.underlying t with | some d => isAggD d | none => false) = true) (hx : kinds ks xs = true) (hy : kinds ks ys = true) : EqV P .eql t xs ys (eqC xs ys) := by
  intro w x y
  cases hdd : P.underlying t with
  | none => rw [hdd] at ha; cases ha
  | some dd =>
    rw [hdd] at ha
    simp only at ha
    have := eq_flat w 6 10000 t ks xs ys dd h (by omega) hx hy hdd
    rw [ha] at this
    simp only [Sem.run_bind, run_eqGuard_agg w .eql t x y _ _ hm, Result.andThen_ok, run_eql_struct]
    simp only [valOf] at this
    rw [this]; rfl
theorem eqV_neq {P : Program} {t : TypeId} {ks : List Pr} {xs ys : List Value} (h : flat P 6 t = some ks) (hm : P.eqGuardType P.depth t = false) (ha : (match P.underlying t with | some d => isAggD d | none => false) = true) (hx : kinds ks xs = true) (hy : kinds ks ys = true) : EqV P .neq t xs ys (!(eqC xs ys)) := by
  intro w x y
  cases hdd : P.underlying t with
  | none => rw [hdd] at ha; cases ha
  | some dd =>
    rw [hdd] at ha
    simp only at ha
    have := eq_flat w 6 10000 t ks xs ys dd h (by omega) hx hy hdd
    rw [ha] at this
    simp only [Sem.run_bind, run_eqGuard_agg w .neq t x y _ _ hm, Result.andThen_ok, run_neq_struct]
    simp only [valOf] at this
    rw [this]; rfl
attribute [simp] eqC
end Go.Sy
end
section
set_option linter.unusedVariables false
namespace Go.Sy

theorem pspec_of_cspec {P : Program} {f : FuncId} {args : List AV} {r r' : AV} {obs' : List Ob} (h : CSpec P f args [] r obs') (hle : Le r r') (hpu : Pu r') : PSpec P f args r' := by
  intro w H vs hok hvs
  have hview := hok.view
  have hm : Mem (callCtx w H (fun _ => none) 0) H (fun _ => none) (obF []) w := by
    refine ⟨hview, fun id x hx => ?_, fun i j hi => ?_, fun id hid => ?_, rfl, rfl, rfl, Nat.le_refl _, fun _ _ _ _ => rfl, View.le_refl H, fun _ _ _ _ _ => rfl, Env.le_refl _, fun _ _ => rfl, fun b o hb => View.unseen hview hb, hok.lo, fun b o v h hz => by { rcases hz with hz | ⟨_, hz, _⟩ | hz; { exact absurd (View.lt hview h) (Nat.not_lt.2 hz) }; { exact absurd hz (Nat.not_lt_zero _) }; { exact hok.fz b o v h hz } }, fun b o h => ⟨(hok.wr b o h).1, (hok.wr b o h).2, fun i hi => absurd (obF_lt hi) (Nat.not_lt_zero _)⟩⟩
    · cases (obF_some hx)
    · exact absurd (obF_lt hi) (Nat.not_lt_zero _)
    · exact absurd (obF_lt hid) (Nat.not_lt_zero _)
  refine (h w H (fun _ => none) vs hm (RL.of_DL hvs) (fun _ _ => rfl)).mono fun e w' ⟨v, H', ε', he, hH, hε, hdom, hR, hm'⟩ => ?_
  have hS : ∀ b, ¬ (callCtx w H (fun _ => none) 0).S b := fun b ⟨id, hid, _⟩ => Nat.not_lt_zero _ hid
  exact ⟨v, H', he, R.pu hpu (R.le hle hR), hH, ⟨hm'.ok, fun b o v h hz => hm'.fz b o v h (.inl hz)⟩, fun b o hb hz => hm'.hold b o hb (hS b) (fun h => hz (hH.wb.1 h)), ⟨hm'.os, hm'.tape, hm'.output, hm'.size, fun k hk hz => hm'.block k hk (hS k) (fun h => hz (hH.wb.1 h))⟩⟩

def EmptyV (v : Value) : Prop := v = .slice none 0 0 ∨ ∃ a cap, v = .slice (some a) 0 cap
theorem D.emptyV {H : View} {v : Value} {sz : Nat} (h : D H v (.sl sz [])) : EmptyV v := by
  rcases h.slice with ⟨h, _⟩ | ⟨a, cap, h, _⟩ | ⟨b, off, cap, h, _⟩
  · exact .inl h
  · exact .inr ⟨a, cap, h⟩
  · exact .inr ⟨_, cap, h⟩
theorem cspec_empty {P : Program} {f : FuncId} {sz : Nat} {rest : List AV} {r : AV} {obs obs' : List Ob} (h : ∀ v, EmptyV v → CSpec P f (.s v :: rest) obs r obs') : CSpec P f (.sl sz [] :: rest) obs r obs' := by
  intro w H ε vs hm hvs hdom
  cases hvs with
  | cons v _ vs _ hv ht =>
    have he := hv.sl_inv.emptyV
    exact h v he w H ε (v :: vs) hm (.cons _ _ _ _ (.d _ _ (.s v (by rcases he with rfl | ⟨a, cap, rfl⟩ <;> rfl))) ht) hdom
end Go.Sy
end
section
set_option linter.unusedVariables false
namespace Go.Sy

def sw (p q : Nat) : Nat → Nat := fun i => if i = p then q else if i = q then p else i
theorem sw_sw (p q i : Nat) : sw p q (sw p q i) = i := by
  unfold sw
  by_cases h1 : i = p
  · subst h1; simp only [if_true]; by_cases h2 : q = i
    · rw [if_pos h2, h2]
    · rw [if_neg h2]
  · by_cases h2 : i = q
    · subst h2; simp [h1]
    · simp [h1, h2]
theorem sw_ne {p q i : Nat} (h1 : i ≠ p) (h2 : i ≠ q) : sw p q i = i := by simp [sw, h1, h2]
mutual
def AV.all (P : Nat → Prop) : AV → Prop
  | .osl p _ _ => P p
  | .ptr id _ => P id
  | .bsl id _ _ _ _ => P id
  | .agg cs => allL P cs
  | .tup cs => allL P cs
  | .fn _ f c => allL P f ∧ allL P c
  | .s _ => True
  | .sl _ _ => True
  | .ol _ _ => True
  | .wsl _ _ => True
  | .wref _ => True
  | .hole => True
  | .mark id => P id
  | .ref _ => True
  | .junk => True
def allL (P : Nat → Prop) : List AV → Prop
  | [] => True
  | a :: l => a.all P ∧ allL P l
end
mutual
theorem D.all {H : View} {P : Nat → Prop} : ∀ {v : Value} {a : AV}, D H v a → a.all P
  | _, _, .s v h => by simp only [AV.all]
  | _, _, .agg vs cs h => by simp only [AV.all]; exact DL.all h
  | _, _, .tup vs cs h => by simp only [AV.all]; exact DL.all h
  | _, _, .nil sz => by simp only [AV.all]
  | _, _, .emp a cap sz => by simp only [AV.all]
  | _, _, .sl b off cap sz es hcap hsz hlo h => by simp only [AV.all]
  | _, _, .onil sz => by simp only [AV.all]
  | _, _, .oemp a cap sz => by simp only [AV.all]
  | _, _, .ol b off cap sz es hcap hsz hlo h => by simp only [AV.all]
  | _, _, .wnil sz => by simp only [AV.all]
  | _, _, .wemp a cap sz => by simp only [AV.all]
  | _, _, .wsl b off cap sz es hcap hsz h => by simp only [AV.all]
  | _, _, .wref b off cs h => by simp only [AV.all]
  | _, _, .ref b off cs h => by simp only [AV.all]
theorem DL.all {H : View} {P : Nat → Prop} : ∀ {vs : List Value} {cs : List AV}, DL H vs cs → allL P cs
  | _, _, .nil => by simp only [allL]
  | _, _, .cons v c vs cs h t => by simp only [allL]; exact ⟨D.all h, DL.all t⟩
end
mutual
theorem R.all {H : View} {ε : Env} {P : Nat → Prop} (hd : ∀ id l, ε id = some l → P id) : ∀ {v : Value} {a : AV}, R H ε v a → a.all P
  | _, _, .d v c h => D.all h
  | _, _, .junk v => by simp only [AV.all]
  | _, _, .mark v id b h hb => by simp only [AV.all]; exact hd _ _ h
  | _, _, .ptr id off b h => by simp only [AV.all]; exact hd _ _ h
  | _, _, .bsl id off sz n cap b h hn hlo => by simp only [AV.all]; exact hd _ _ h
  | _, _, .osl p sz es v v0 m h hp hle he => by simp only [AV.all]; exact hd _ _ hp
  | _, _, .agg vs cs h => by simp only [AV.all]; exact RL.all hd h
  | _, _, .tup vs cs h => by simp only [AV.all]; exact RL.all hd h
  | _, _, .fn f f1 c1 f2 c2 hf hc => by simp only [AV.all]; exact ⟨RL.all hd hf, RL.all hd hc⟩
theorem RL.all {H : View} {ε : Env} {P : Nat → Prop} (hd : ∀ id l, ε id = some l → P id) : ∀ {vs : List Value} {cs : List AV}, RL H ε vs cs → allL P cs
  | _, _, .nil => by simp only [allL]
  | _, _, .cons v c vs cs h t => by simp only [allL]; exact ⟨R.all hd h, RL.all hd t⟩
end
def Ob.all (P : Nat → Prop) : Ob → Prop
  | .box cs => allL P cs
  | .perm _ _ _ => True
  | .raw _ _ cs => allL P cs
  | .gone => True
def St.swp (σ : St) (p q : Nat) : St := { tm := fun i => (σ.tm i).ren (sw p q), ob := fun i => (σ.ob (sw p q i)).map (Ob.ren (sw p q)), nx := σ.nx }

theorem Inv.swp {c : Ctx} {H : View} {ε : Env} {σ : St} {a : Act} {w : World} {p q : Nat} (hi : Inv c H ε σ a w) (hp : p < σ.nx) (hq : q < σ.nx) (hpE : c.E0 p = none) (hqE : c.E0 q = none) :
    Inv c H (fun i => ε (sw p q i)) (σ.swp p q) a w := by
  have hε : ∀ id l, ε id = some l → (fun i => ε (sw p q i)) (sw p q id) = some l := fun id l h => by simp only [sw_sw]; exact h
  have hne : ∀ i, (σ.swp p q).ob i ≠ none → σ.ob (sw p q i) ≠ none := fun i h e => h (by simp only [St.swp, e, Option.map_none])
  have hinj : ∀ i j, i ≠ j → sw p q i ≠ sw p q j := fun i j h e => h (by rw [← sw_sw p q i, e, sw_sw])
  refine ⟨hi.sz, hi.df, fun i => R.ren (φ := sw p q) (ε' := fun i => ε (sw p q i)) hε (hi.tm i), ?_, fun id hid => ?_⟩
  · exact { hi.mem with
      objs := fun i x hx => by
        simp only [St.swp] at hx
        cases hq : σ.ob (sw p q i) with
        | none => rw [hq] at hx; cases hx
        | some y =>
          rw [hq] at hx
          cases hx
          have := ObOK.reren (φ := sw p q) (ε' := fun i => ε (sw p q i)) (hi.mem.objs _ y hq) hε
          rwa [sw_sw] at this
      dj := fun i j h1 h2 hij b hb => hi.mem.dj _ _ (hne i h1) (hne j h2) (hinj i j hij) b hb
      wr := fun b o h => ⟨(hi.mem.wr b o h).1, (hi.mem.wr b o h).2.1, fun i h1 => (hi.mem.wr b o h).2.2 _ (hne i h1)⟩
      own := fun i h1 b hb => by
        rcases hi.mem.own _ (hne i h1) b hb with h | ⟨h, h'⟩
        · exact .inl h
        · by_cases e1 : i = p
          · subst e1; rw [show sw i q i = q by simp [sw], hqE] at h'; cases h'
          · by_cases e2 : i = q
            · subst e2; rw [show sw p i i = p by simp [sw, e1], hpE] at h'; cases h'
            · rw [sw_ne e1 e2] at h'; exact .inr ⟨h, h'⟩
      ele := fun id l hl => by
        have h1 : id ≠ p := fun e => by rw [e, hpE] at hl; cases hl
        have h2 : id ≠ q := fun e => by rw [e, hqE] at hl; cases hl
        have := hi.mem.ele id l hl
        simp only [sw_ne h1 h2]
        exact this }
  · have hid' : σ.nx ≤ id := hid
    show ε (sw p q id) = none
    rw [sw_ne (by omega) (by omega)]
    exact hi.dom id hid'

structure BackS (σ0 σ : St) (p q : Nat) (W : List Nat) (S : List (Nat × AV)) (B : List (Nat × Ob)) : Prop where
  tm : KeepTm W σ.tm σ0.tm
  ob : KeepOb σ0.nx (B.map (·.1)) σ.ob σ0.ob
  hp : (B.map (·.1)).contains p = true
  q1 : σ0.nx ≤ q
  q2 : q < σ.nx
  leS : leS (σ.swp p q) S
  leB : leB (σ.swp p q) B
  ltS : ltS σ0.nx S
  ltB : ltB σ0.nx B

def LoopKR {X : Type} (σ0 : St) (p : Nat) (W : List Nat) (S : X → List (Nat × AV)) (B : X → List (Nat × Ob)) (rel : X → Prop) (m : Nat) (μ : X → Nat) (K : Exit → St → Prop) : Exit → St → Prop
  | .normal, σ => (∃ x, rel x ∧ μ x < m ∧ Back σ0 σ W (S x) (B x)) ∨ ∃ x q, rel x ∧ μ x < m ∧ BackS σ0 σ p q W (S x) (B x)
  | e, σ => K e σ

section
variable {P : Program} {N : Nat} {tm : Nat → AV} {ob : Nat → Option Ob} {nx p m' : Nat} {K : Exit → St → Prop}
variable {X : Type} {σ0 σ : St} {W : List Nat} {S : X → List (Nat × AV)} {B : X → List (Nat × Ob)} {rel : X → Prop} {m : Nat} {μ : X → Nat}
theorem qzd (h : Out K .ret σ) : Out (LoopKR σ0 p W S B rel m μ K) .ret σ := h
theorem qze {id : Nat} (h : Out K (.exit id) σ) : Out (LoopKR σ0 p W S B rel m μ K) (.exit id) σ := h
end
attribute [simp] sw
theorem swp_tm (σ : St) (p q i : Nat) : (σ.swp p q).tm i = (σ.tm i).ren (sw p q) := rfl
theorem swp_ob (σ : St) (p q i : Nat) : (σ.swp p q).ob i = (σ.ob (sw p q i)).map (Ob.ren (sw p q)) := rfl
theorem swp_nx (σ : St) (p q : Nat) : (σ.swp p q).nx = σ.nx := rfl
attribute [simp] swp_tm swp_ob swp_nx
end Go.Sy
end
section
set_option linter.unusedVariables false
namespace Go.Sy
def obsIs (σ : St) (φ : Nat → Nat) : List Ob → Nat → Prop
  | [], _ => True
  | x :: l, k => σ.ob (φ k) = some (x.ren φ) ∧ obsIs σ φ l (k + 1)
theorem obsIs_get {σ : St} {φ : Nat → Nat} : ∀ {l : List Ob} {k j : Nat} {x : Ob}, obsIs σ φ l k → l[j]? = some x → σ.ob (φ (k + j)) = some (x.ren φ)
  | y :: l, k, j, x, h, hx => by
    simp only [obsIs] at h
    cases j with
    | zero => simp at hx; subst hx; exact h.1
    | succ j =>
      have := obsIs_get (j := j) h.2 (by simpa using hx)
      rwa [show k + 1 + j = k + (j + 1) by omega] at this
theorem w_callR {P : Program} {nb : Nat} {t : TypeId} {σ : St} {K : Kont} {f : FuncId} {x : Operand} {args : Array Operand} {ts : Array TypeId} {first caps avs args' : List AV} {r : AV} {obs : List Ob} (ps : List Nat) (ho : Own P f) (hs : CSpec P f args' obs r obs)
    (hm : ps.length = obs.length) (hm16 : obs.length ≤ 16) (hnd : ps.Nodup) (hx : σ.ev x = .fn (.func f) first caps) (he : avs = first ++ args.toList.map σ.ev ++ caps)
    (hle : LeL avs (renL (callφ ps nb) args')) (hlt : ltL obs.length args') (hobs : obsBack σ (callφ ps nb) obs 0) (hobl : ltO obs.length obs) (hob2 : obsIs σ (callφ ps nb) obs 0)
    (hK : K (r.ren (callφ ps nb)) ps []) : CallV P nb (.call { callee := .value x, args, argTypes := ts }) t f avs σ K := by
  have h := w_callO (P := P) (nb := nb) (t := t) (σ := σ) (K := fun r' d ws => r' = r.ren (callφ ps nb) ∧ d = ps ∧ ws = callWs (callφ ps nb) obs) (ts := ts) ps ho hs hm hnd ⟨Nat.le_refl _, hm16⟩ (by omega) hx he hle hlt hobs hobl ⟨rfl, rfl, rfl⟩
  obtain ⟨r', d, ws, hok, rfl, rfl, rfl⟩ := h
  refine ⟨_, d, [], fun σ' hx' hob' => ?_, hK⟩
  have := hok σ' hx' hob'
  have e : applyW σ'.ob (callWs (callφ d nb) obs) = σ'.ob := by
    funext i
    rw [applyW_get]
    unfold wsAt
    cases hq : wsLook (callWs (callφ d nb) obs) i with
    | none => rfl
    | some z =>
      obtain ⟨k, y, h1, h2, h3⟩ := callWs_some hq
      have hk : k < d.length := by rw [hm]; exact (List.getElem?_eq_some_iff.1 h1).1
      have h4 := obsIs_get hob2 h1
      rw [Nat.zero_add] at h4
      have h5 : σ'.ob i = σ.ob i := by rw [← h2, callφ_lt hk]; exact hob' _ (List.getElem_mem hk)
      have h6 := obsBack_get hobs h1
      rw [Nat.zero_add, h4] at h6
      simp only
      rw [h5, ← h2, h4, h3]
      cases y with
      | gone => exact absurd h6 (by simp [ObLe, Ob.ren])
      | box cs => rfl
      | perm e sz n => rfl
      | raw b o cs => rfl
  rw [e] at this
  exact this
end Go.Sy
end
section
set_option linter.unusedVariables false
namespace Go.Sy
def CSpecG (P : Program) (f : FuncId) (args : List AV) (obs : List Ob) (E : View → Env → Ending → Prop) (obs' : List Ob) : Prop :=
  ∀ (w : World) (H : View) (ε : Env) (vs : List Value), Mem (callCtx w H ε obs.length) H ε (obF obs) w → RL H ε vs args → (∀ id, obs.length ≤ id → ε id = none) →
    Calls P f vs.toArray w fun e w' => ∃ H' ε', E H' ε' e ∧ H.le H' ∧ ε.le ε' ∧ (∀ id, obs'.length ≤ id → ε' id = none) ∧ Mem (callCtx w H ε obs.length) H' ε' (obF obs') w'
def XSpec (P : Program) (f : FuncId) (args : List AV) (obs : List Ob) (chain : List PanicEntry) (obs' : List Ob) : Prop := CSpecG P f args obs (fun _ _ e => e = .panicked chain) obs'
section
variable {P : Program} {nb : Nat} {t : TypeId} {σ : St}
theorem call_core {f : FuncId} {x : Operand} {args : Array Operand} {ts : Array TypeId} {first caps avs args' : List AV} {E : View → Env → Ending → Prop} {obs obs' : List Ob} (ps : List Nat) (ho : Own P f) (hs : CSpecG P f args' obs E obs') (hm : ps.length = obs.length) (hnd : ps.Nodup)
    (hm1' : obs.length ≤ obs'.length ∧ obs.length ≤ 16) (hm2 : obs'.length ≤ obs.length + 16) (hx : σ.ev x = .fn (.func f) first caps) (he : avs = first ++ args.toList.map σ.ev ++ caps)
    (hle : LeL avs (renL (callφ ps nb) args')) (hlt : ltL obs.length args') (hobs : obsOK σ (callφ ps nb) obs) (hobl : ∀ x ∈ obs, x.lt obs.length) :
    ∀ σ' : St, (∀ y ∈ (Op.call { callee := .value x, args, argTypes := ts }).operands.toList, σ'.ev y = σ.ev y) → (∀ id ∈ ps, σ'.ob id = σ.ob id) → ∀ (c : Ctx) (H : View) (ε : Env) (a : Act) (w : World) (o : Oper), o.op = .call { callee := .value x, args, argTypes := ts } → Mem c H ε σ'.ob w → (∀ i, R H ε (a.tmps.getD i undef) (σ'.tm i)) → Fresh ε nb →
    ∀ (next : Act → World → Prop) (Q : Exit → Act → World → Prop),
      (∀ e w' H' ε' ε'', E H' ε' e → H.le H' → ε.le ε'' → (∀ id, ε id = none → ¬ (nb ≤ id ∧ id < nb + 16) → ε'' id = none) → (∀ i l, ε' i = some l → ε'' (callφ ps nb i) = some l) → Mem c H' ε'' (applyW σ'.ob (callWs (callφ ps nb) obs')) w' →
        match e with
        | .returned v => next (a.put o.dst v) w'
        | .panicked chain => Q (.panic chain) a w'
        | .outgrown => LetsOut Q) → o.wpIn (wf c.ro) 0 P a w next Q := by
  obtain ⟨fn, g1, g2, g3⟩ := ho
  obtain ⟨hm1, hm16⟩ := hm1'
  intro σ' hx' hob' c H ε a w o hop hmem hr hfr next Q hn'
  subst he
  have e0 : σ'.ev x = σ.ev x := hx' x (by simp [Op.operands, Call.operands])
  have e1 : args.toList.map σ'.ev = args.toList.map σ.ev := List.map_congr_left fun y hy => hx' y (by simp [Op.operands, Call.operands]; exact .inr (by simpa using hy))
  have hxv := R_ev hr x; rw [e0, hx] at hxv
  obtain ⟨f1, c1, hv, hf1, hc1⟩ := hxv.fn_inv
  have hxs : RL H ε (args.toList.map a.eval) (args.toList.map σ.ev) := by
    rw [← e1]
    generalize args.toList = l
    induction l with
    | nil => exact .nil
    | cons y ys ih => exact .cons _ _ _ _ (R_ev hr y) ih
  have hvs := RL.unren (RL.le hle ((hf1.append hxs).append hc1)) hlt
  have hrun : (execOp a.eval o).run P w = .ok (.enter f (f1 ++ args.toList.map a.eval ++ c1).toArray) w := by
    have e2 : args.map a.eval = (args.toList.map a.eval).toArray := by rw [← Array.toList_map, Array.toArray_toList]
    simp [execOp, hop, resolve, hv, Deferred.ofValue, invoke, callFunc_enter g1 g2 g3, e2]
  -- the objects that are handed over
  have hpob : ∀ k y, obs[k]? = some y → ObLe (σ'.ob (callφ ps nb k)) (y.ren (callφ ps nb)) := by
    intro k y hy
    have hk : k < ps.length := by rw [hm]; exact (List.getElem?_eq_some_iff.1 hy).1
    have : σ'.ob (callφ ps nb k) = σ.ob (callφ ps nb k) := by rw [callφ_lt hk]; exact hob' _ (List.getElem_mem hk)
    rw [this]; exact hobs k y hy
  have hpne : ∀ k, k < ps.length → σ'.ob (callφ ps nb k) ≠ none := by
    intro k hk hq
    have hy : obs[k]? = some (obs[k]'(by omega)) := by simp [show k < obs.length by omega]
    have := hpob k _ hy
    rw [hq] at this; exact this
  have hpε : ∀ k, k < ps.length → ∃ l, ε (callφ ps nb k) = some l := by
    intro k hk
    cases hq : σ'.ob (callφ ps nb k) with
    | none => exact absurd hq (hpne k hk)
    | some y =>
      have := hmem.objs _ y hq
      cases y with
      | box cs => obtain ⟨b, _, _, h1, _⟩ := this; exact ⟨_, h1⟩
      | perm e sz n => obtain ⟨v, _, h1, _⟩ := this; exact ⟨_, h1⟩
      | raw b o cs => obtain ⟨_, _, h1, _⟩ := this; exact ⟨_, h1⟩
      | gone => exact this.elim
  have hpin : ∀ i, i ∈ ps → ∃ l, ε i = some l := by
    intro i hi
    obtain ⟨k, hk, rfl⟩ := List.mem_iff_getElem.1 hi
    have := hpε k hk
    rwa [callφ_lt hk] at this
  have hφinj : ∀ i j, i < ps.length → j < ps.length → i ≠ j → callφ ps nb i ≠ callφ ps nb j := by
    intro i j hi hj hij
    rw [callφ_lt hi, callφ_lt hj]
    exact fun e => hij (nodup_inj hnd hi hj e)
  let εc : Env := fun id => if id < obs.length then ε (callφ ps nb id) else none
  have hεc : ∀ k, k < ps.length → εc k = ε (callφ ps nb k) := fun k hk => by simp only [εc]; rw [if_pos (by omega)]
  have hmc : Mem (callCtx w H εc obs.length) H εc (obF obs) w := by
    refine ⟨hmem.view, fun id y hy => ?_, fun i j hi hj hij b hb => ?_, fun id hid b hb => ?_, rfl, rfl, rfl, Nat.le_refl _, fun _ _ _ _ => rfl, View.le_refl H, fun _ _ _ _ _ => rfl, Env.le_refl _, fun id hid => by show εc id = none; simp only [εc]; rw [if_neg (by omega)], fun b o hb => View.unseen hmem.view hb, hmem.lo, fun b o v h hz => by
      rcases hz with hz | ⟨i, hi, hb⟩ | hz
      · exact absurd (View.lt hmem.view h) (Nat.not_lt.2 hz)
      · have hil : i < ps.length := by omega
        rw [hεc i hil] at hb
        rcases hmem.own _ (hpne i hil) b hb with h' | h'
        · exact hmem.fz b o v h (.inl h')
        · exact hmem.fz b o v h (.inr (.inl h'.1))
      · exact hmem.fz b o v h (.inr (.inr hz)), fun b o h => ⟨(hmem.wr b o h).1, (hmem.wr b o h).2.1, fun i hi hb => by
      have hil : i < ps.length := by rw [hm]; exact obF_lt hi
      rw [hεc i hil] at hb
      exact (hmem.wr b o h).2.2 _ (hpne i hil) hb⟩⟩
    · have hy := obF_some hy
      have hid : id < obs.length := (List.getElem?_eq_some_iff.1 hy).1
      exact ObOK.unren ((hpob id y hy).ok fun z hz => hmem.objs _ z hz) (hobl y (List.mem_of_getElem? hy)) hid
    · have hil : i < ps.length := by rw [hm]; exact obF_lt hi
      have hjl : j < ps.length := by rw [hm]; exact obF_lt hj
      rw [hεc i hil] at hb
      rw [hεc j hjl]
      exact hmem.dj _ _ (hpne i hil) (hpne j hjl) (hφinj i j hil hjl hij) b hb
    · exact .inr ⟨⟨id, obF_lt hid, hb⟩, hb⟩
  refine wpIn_of_wp (fun c hc => by rw [hop] at hc; cases hc) ?_
  unfold Oper.wp
  rw [hrun, Oper.upon_enter]
  refine (hs w H εc _ hmc hvs (fun id hid => by simp only [εc]; rw [if_neg (by omega)])).mono fun e w' ⟨H', ε', hE, hH, hε, hdom, hm'⟩ => ?_
  -- numbers there and back
  have hnew : ∀ k, ps.length ≤ k → k < obs'.length → ps.idxOf? (callφ ps nb k) = none := by
    intro k h1 h2
    rw [callφ_ge h1]
    cases hq : ps.idxOf? (nb + (k - ps.length)) with
    | none => rfl
    | some j =>
      obtain ⟨hj, he, _⟩ := List.idxOf?_eq_some_iff.1 hq
      have he' : ps[j] = nb + (k - ps.length) := by simpa using he
      obtain ⟨l, hl⟩ := hpin ps[j] (List.getElem_mem hj)
      rw [he', hfr _ (by omega) (by omega)] at hl
      cases hl
  have hback : ∀ k, k < obs'.length → envBack ps nb ε ε' (callφ ps nb k) = ε' k := by
    intro k hk
    by_cases h1 : k < ps.length
    · unfold envBack
      rw [callφ_lt h1, idxOf_get hnd h1]
    · unfold envBack
      rw [hnew k (by omega) hk, callφ_ge (by omega)]
      simp only
      rw [if_pos ⟨by omega, by omega⟩]
      congr 1
      omega
  have hrenε : ∀ i l, ε' i = some l → envBack ps nb ε ε' (callφ ps nb i) = some l := by
    intro i l hl
    rcases Nat.lt_or_ge i obs'.length with h | h
    · rw [hback i h]; exact hl
    · rw [hdom i h] at hl; cases hl
  have hout : ∀ i, i ∉ ps → ¬ (nb ≤ i ∧ i < nb + 16) → envBack ps nb ε ε' i = ε i := by
    intro i h1 h2
    unfold envBack
    rw [List.idxOf?_eq_none_iff.2 h1]
    simp only
    rw [if_neg h2]
  have hεle : ε.le (envBack ps nb ε ε') := by
    intro i l hl
    by_cases h1 : i ∈ ps
    · obtain ⟨k, hk, rfl⟩ := List.mem_iff_getElem.1 h1
      have h2 : εc k = some l := by rw [hεc k hk, callφ_lt hk]; exact hl
      have h3 := hε k l h2
      have h4 : envBack ps nb ε ε' ps[k] = ε' k := by have := hback k (by omega); rwa [callφ_lt hk] at this
      cases l with
      | blk b => simp only at h3 ⊢; rw [h4]; exact h3
      | row v0 n0 => simp only at h3 ⊢; rw [h4]; exact h3
    · have h2 : ¬ (nb ≤ i ∧ i < nb + 16) := fun ⟨a1, a2⟩ => by rw [hfr i a1 a2] at hl; cases hl
      have h3 := hout i h1 h2
      cases l with
      | blk b => simp only; rw [h3]; exact hl
      | row v0 n0 => exact ⟨v0, n0, by rw [h3]; exact hl, Nat.le_refl _, fun _ => rfl⟩
  -- what the callee may turn is what it was handed
  have hS : ∀ b, (callCtx w H εc obs.length).S b → ∃ k, k < ps.length ∧ blkOf (ε (callφ ps nb k)) = some b := by
    rintro b ⟨k, hk, hb⟩
    refine ⟨k, by omega, ?_⟩
    rw [hεc k (by omega)] at hb
    exact hb
  have hold' : ∀ i y, wsLook (callWs (callφ ps nb) obs') i = none → σ'.ob i = some y → i ∉ ps ∧ envBack ps nb ε ε' i = ε i ∧ ∀ b, blkOf (ε i) = some b → b < w.heap.size ∧ ¬ (callCtx w H εc obs.length).S b := by
    intro i y hw hy
    have h1 : i ∉ ps := by
      intro h
      obtain ⟨k, hk, rfl⟩ := List.mem_iff_getElem.1 h
      have := callWs_none hw k (by omega)
      rw [callφ_lt hk] at this
      exact this rfl
    have hne : σ'.ob i ≠ none := by rw [hy]; simp
    have h2 : ¬ (nb ≤ i ∧ i < nb + 16) := by
      rintro ⟨a1, a2⟩
      have := hmem.objs i y hy
      cases y with
      | box cs => obtain ⟨b, _, _, q, _⟩ := this; rw [hfr i a1 a2] at q; cases q
      | perm e sz n => obtain ⟨v, _, q, _⟩ := this; rw [hfr i a1 a2] at q; cases q
      | raw b o cs => obtain ⟨_, _, q, _⟩ := this; rw [hfr i a1 a2] at q; cases q
      | gone => exact this.elim
    refine ⟨h1, hout i h1 h2, fun b hb => ⟨hmem.blk_lt hne hb, fun hsb => ?_⟩⟩
    obtain ⟨k, hk, hbk⟩ := hS b hsb
    refine hmem.dj i _ hne (hpne k hk) ?_ b hb hbk
    intro e
    rw [callφ_lt hk] at e
    exact h1 (e ▸ List.getElem_mem hk)
  have hcases : ∀ i, applyW σ'.ob (callWs (callφ ps nb) obs') i ≠ none → (∃ k y, obs'[k]? = some y ∧ callφ ps nb k = i ∧ k < obs'.length ∧ obF obs' k ≠ none) ∨ (wsLook (callWs (callφ ps nb) obs') i = none ∧ ∃ y, σ'.ob i = some y) := by
    intro i hi
    rw [applyW_get] at hi
    unfold wsAt at hi
    cases hq : wsLook (callWs (callφ ps nb) obs') i with
    | some z =>
      obtain ⟨k, y, h1, h2, h3⟩ := callWs_some hq
      rw [hq] at hi
      refine .inl ⟨k, y, h1, h2, (List.getElem?_eq_some_iff.1 h1).1, ?_⟩
      unfold obF
      rw [h1]
      subst h3
      cases y <;> first | exact fun _ => hi rfl | (intro e; cases e)
    | none =>
      rw [hq] at hi
      cases hy : σ'.ob i with
      | none => rw [hy] at hi; exact absurd rfl hi
      | some y => exact .inr ⟨rfl, y, rfl⟩
  suffices hs2 : (∀ id, ε id = none → ¬ (nb ≤ id ∧ id < nb + 16) → envBack ps nb ε ε' id = none) ∧ Mem c H' (envBack ps nb ε ε') (applyW σ'.ob (callWs (callφ ps nb) obs')) w' by
    have hfin := hn' e w' H' ε' (envBack ps nb ε ε') hE hH hεle hs2.1 hrenε hs2.2
    cases e <;> exact hfin
  refine ⟨?_, ?_⟩
  · intro i h1 h2
    by_cases h3 : i ∈ ps
    · obtain ⟨l, hl⟩ := hpin i h3
      rw [h1] at hl; cases hl
    · rw [hout i h3 h2]; exact h1
  · refine ⟨hm'.view, fun i y hy => ?_, fun i j hi hj hij b hb hb' => ?_, fun i hi b hb => ?_, hm'.os.trans hmem.os, hm'.tape.trans hmem.tape, hm'.output.trans hmem.output, Nat.le_trans hmem.size hm'.size, fun k hk hSk hzk => ?_, View.le_trans hmem.hle hm'.hle, fun b o hb hSb hzb => ?_, Env.le_trans hmem.ele hεle, hmem.low, hmem.top, hm'.lo, fun b o v h hz => ?_, fun b o h => ⟨(hm'.wr b o h).1, (hm'.wr b o h).2.1, fun i hi hb => ?_⟩⟩
    · rw [applyW_get] at hy
      unfold wsAt at hy
      cases hq : wsLook (callWs (callφ ps nb) obs') i with
      | some z =>
        rw [hq] at hy
        obtain ⟨k, u, h1, rfl, rfl⟩ := callWs_some hq
        have hz := Ob.opt_some hy
        subst hz
        refine (hm'.objs k u ?_).reren hrenε
        unfold obF
        rw [h1]
        cases u <;> first | rfl | cases hy
      | none =>
        rw [hq] at hy
        simp only at hy
        obtain ⟨h1, h2, h3⟩ := hold' i y hq hy
        exact (hmem.objs i y hy).ext hH hεle h2 (fun b hb => hm'.block b (h3 b hb).1 (h3 b hb).2 (fun hz => by obtain ⟨o, hz⟩ := hH.wb.1 hz; exact (hmem.wr b o hz).2.2 i (by rw [hy]; simp) hb)) (fun b hb o => hm'.hold b o (h3 b hb).1 (h3 b hb).2 (fun hz => by obtain ⟨o, hz⟩ := hH.wb.1 hz; exact (hmem.wr b o hz).2.2 i (by rw [hy]; simp) hb))
    · rcases hcases i hi with ⟨k, y, h1, rfl, h2, hnk⟩ | ⟨h1, y, h2⟩
      · rw [hback k h2] at hb
        rcases hcases j hj with ⟨k', y', h1', rfl, h2', hnk'⟩ | ⟨h1', y', h2'⟩
        · rw [hback k' h2'] at hb'
          exact hm'.dj k k' hnk hnk' (fun e => hij (by rw [e])) b hb hb'
        · obtain ⟨q1, q2, q3⟩ := hold' j y' h1' h2'
          rw [q2] at hb'
          obtain ⟨q4, q5⟩ := q3 b hb'
          rcases hm'.own k hnk b hb with h | h
          · have : w.heap.size ≤ b := h
            omega
          · exact q5 h.1
      · obtain ⟨q1, q2, q3⟩ := hold' i y h1 h2
        rw [q2] at hb
        obtain ⟨q4, q5⟩ := q3 b hb
        rcases hcases j hj with ⟨k', y', h1', rfl, h2', hnk'⟩ | ⟨h1', y', h2'⟩
        · rw [hback k' h2'] at hb'
          rcases hm'.own k' hnk' b hb' with h | h
          · have : w.heap.size ≤ b := h
            omega
          · exact q5 h.1
        · obtain ⟨_, q2', _⟩ := hold' j y' h1' h2'
          rw [q2'] at hb'
          exact hmem.dj i j (by rw [h2]; simp) (by rw [h2']; simp) hij b hb hb'
    · rcases hcases i hi with ⟨k, y, h1, rfl, h2, hnk⟩ | ⟨h1, y, h2⟩
      · rw [hback k h2] at hb
        rcases hm'.own k hnk b hb with h | h
        · exact .inl (Nat.le_trans hmem.size h)
        · by_cases hk : k < ps.length
          · exact hmem.own _ (hpne k hk) b (by rw [← hεc k hk]; exact h.2)
          · have h2 := h.2
            have e : (callCtx w H εc obs.length).E0 k = none := by show εc k = none; simp only [εc]; rw [if_neg (by omega)]
            rw [e] at h2; cases h2
      · obtain ⟨q1, q2, q3⟩ := hold' i y h1 h2
        rw [q2] at hb
        exact hmem.own i (by rw [h2]; simp) b hb
    · have hk' : k < w.heap.size := Nat.lt_of_lt_of_le hk hmem.size
      rw [hm'.block k hk' (fun h => by
        obtain ⟨k0, hk0, hb0⟩ := hS k h
        rcases hmem.own _ (hpne k0 hk0) k hb0 with h | h
        · omega
        · exact hSk h.1) hzk]
      exact hmem.block k hk hSk (fun h => hzk (hH.wb.2 h))
    · have hb' : b < w.heap.size := Nat.lt_of_lt_of_le hb hmem.size
      rw [hm'.hold b o hb' (fun h => by
        obtain ⟨k0, hk0, hb0⟩ := hS b h
        rcases hmem.own _ (hpne k0 hk0) b hb0 with h | h
        · omega
        · exact hSb h.1) hzb]
      exact hmem.hold b o hb hSb (fun h => hzb (hH.wb.2 h))
    · by_cases hzb : H'.wb b
      · exact hm'.fz b o v h (.inr (.inr hzb))
      · by_cases hSb : (callCtx w H εc obs.length).S b
        · exact hm'.fz b o v h (.inr (.inl hSb))
        · rcases Nat.lt_or_ge b w.heap.size with hb | hb
          · rw [frozen_same (hm'.block b hb hSb hzb)]
            exact hmem.fz b o v ((hm'.hold b o hb hSb hzb).symm.trans h) (hz.imp_right (Or.imp_right hH.wb.1))
          · exact hm'.fz b o v h (.inl hb)
    · rcases hcases i hi with ⟨k, y, h1, rfl, h2, hnk⟩ | ⟨h1, y, h2⟩
      · rw [hback k h2] at hb
        exact (hm'.wr b o h).2.2 k hnk hb
      · obtain ⟨q1, q2, q3⟩ := hold' i y h1 h2
        rw [q2] at hb
        exact (hmem.wr b o (by rw [← hH.wr]; exact h)).2.2 i (by rw [h2]; simp) hb

def PanOp (P : Program) (nb : Nat) (op : Op) (σ : St) (chain : List PanicEntry) (ob' : Nat → Option Ob) : Prop :=
  ∀ (c : Ctx) (H : View) (ε : Env) (a : Act) (w : World) (o : Oper), o.op = op → Mem c H ε σ.ob w → (∀ i, R H ε (a.tmps.getD i undef) (σ.tm i)) → Fresh ε nb →
    ∀ (next : Act → World → Prop) (Q : Exit → Act → World → Prop),
      (∀ w' H' ε', H.le H' → ε.le ε' → (∀ id, ε id = none → ¬ (nb ≤ id ∧ id < nb + 16) → ε' id = none) → Mem c H' ε' ob' w' → Q (.panic chain) a w') → o.wpIn (wf c.ro) 0 P a w next Q
theorem panOp_call {f : FuncId} {x : Operand} {args : Array Operand} {ts : Array TypeId} {first caps avs args' : List AV} {chain : List PanicEntry} {obs obs' : List Ob} (ps : List Nat) (ho : Own P f) (hs : XSpec P f args' obs chain obs') (hm : ps.length = obs.length) (hnd : ps.Nodup)
    (hm1' : obs.length ≤ obs'.length ∧ obs.length ≤ 16) (hm2 : obs'.length ≤ obs.length + 16) (hx : σ.ev x = .fn (.func f) first caps) (he : avs = first ++ args.toList.map σ.ev ++ caps)
    (hle : LeL avs (renL (callφ ps nb) args')) (hlt : ltL obs.length args') (hobs : obsBack σ (callφ ps nb) obs 0) (hobl : ltO obs.length obs) :
    PanOp P nb (.call { callee := .value x, args, argTypes := ts }) σ chain (applyW σ.ob (callWs (callφ ps nb) obs')) := by
  intro c H ε a w o hop hmem hr hfr next Q hn
  refine call_core (ts := ts) ps ho hs hm hnd hm1' hm2 hx he hle hlt (fun k y hy => by have := obsBack_get hobs hy; rwa [Nat.zero_add] at this) (fun y hy => by
    obtain ⟨j, hj, rfl⟩ := List.getElem_of_mem hy
    exact ltO_get (j := j) hobl (by simp [hj])) σ (fun _ _ => rfl) (fun _ _ => rfl) c H ε a w o hop hmem hr hfr next Q ?_
  intro e w' H' ε' ε'' hE hH hε hfr' hren hm'
  subst hE
  exact hn w' H' ε'' hH hε hfr' hm'
theorem panOp_panic {x : Operand} {T : TypeId} {v : Value} (hx : σ.ev x = .s (.iface T v)) : PanOp P nb (.panic x) σ [{ v := .iface T v, recovered := false }] σ.ob := by
  intro c H ε a w o hop hmem hr hfr next Q hn
  have hv := R_ev hr x
  rw [hx] at hv
  have hv := hv.s_inv.1
  refine wpIn_of_wp (fun c hc => by rw [hop] at hc; cases hc) ?_
  unfold Oper.wp
  have hrun : (execOp a.eval o).run P w = .halt (.panic (.iface T v)) w := by
    simp only [execOp, hop, hv]
    rfl
  rw [hrun, Oper.upon_panic]
  exact hn w H ε (View.le_refl H) (Env.le_refl ε) (fun _ h _ => h) hmem
theorem wpOps_split {F : Fence} {n : Nat} {ops : Array Oper} {Q Q' : Exit → Act → World → Prop} (l2 : List Nat) (h1 : ∀ a w, Q' .normal a w → wpOpsIn F n P ops Q l2 a w) (h2 : ∀ e a w, e ≠ .normal → Q' e a w → Q e a w) : ∀ (l1 : List Nat) (a : Act) (w : World), wpOpsIn F n P ops Q' l1 a w → wpOpsIn F n P ops Q (l1 ++ l2) a w
  | [], a, w, h => h1 a w h
  | i :: rest, a, w, h => by
    simp only [List.cons_append, wpOpsIn] at h ⊢
    cases ho : ops[i]? with
    | none => rw [ho] at h; exact wpOps_split l2 h1 h2 rest a w h
    | some o =>
      rw [ho] at h
      simp only at h ⊢
      split
      · rename_i hw
        rw [if_pos hw] at h
        have hLet : LetsOut Q' → LetsOut Q := fun ⟨a, w, hq⟩ => ⟨a, w, h2 _ _ _ (by simp) hq⟩
        have hih := fun a w h => wpOps_split l2 h1 h2 rest a w h
        unfold Oper.wpIn at h ⊢
        refine ⟨h.1, ?_⟩
        have h := h.2
        generalize (o.semAt F.round a.eval).run P w = r at h ⊢
        unfold Oper.uponIn at h ⊢
        split <;> simp only at h ⊢ <;> first
          | exact hih _ _ h
          | exact h2 _ _ _ (by simp) h
          | exact hLet h
          | (refine ⟨h.1, CallsIn.mono h.2 fun e w' hh => ?_⟩
             cases e <;> simp only at hh ⊢ <;> first | exact hih _ _ hh | exact h2 _ _ _ (by simp) hh | exact hLet hh)
          | (refine ⟨h.1, RoundIn.mono h.2 fun e w' hh => ?_⟩
             cases e <;> simp only at hh ⊢ <;> first | exact hih _ _ hh | exact h2 _ _ _ (by simp) hh | exact hLet hh)
          | (refine ⟨h.1, RowsIn.mono h.2 fun v w' hh => hih _ _ hh⟩)
          | exact h.elim
          | exact h
      · rename_i hw
        rw [if_neg hw] at h
        exact ⟨h.1, wpOps_split l2 h1 h2 rest _ w h.2⟩
end
theorem reg_soundP {P : Program} {ops : Array Oper} {base : Nat} {c : Ctx} {Q : Exit → Act → World → Prop} (hN : dstOK c.N ops = true) : ∀ (l : List Oper) (i : Nat) (σ : St) (K : St → Prop) (H : View) (ε : Env) (a : Act) (w : World),
    (∃ r, ops.toList.drop i = l ++ r) → regVC P ops base l i σ K → Inv0 c H ε σ a w → (∀ id, base + 16 * i ≤ id → ε id = none) →
      (∀ σ' H' ε' a' w', K σ' → Inv c H' ε' σ' a' w' → Q .normal a' w') → wpOpsIn (wf c.ro) 0 P ops Q (List.range' i l.length) a w
  | [], i, σ, K, H, ε, a, w, hd, h, hi, hdom, hQ => by
    simp only [List.length_nil, List.range'_zero, wpOpsIn]
    exact hQ _ H ε a w h ⟨hi.sz, hi.df, hi.tm, hi.mem, hdom⟩
  | o :: l, i, σ, K, H, ε, a, w, hd, h, hi, hdom, hQ => by
    have hoi : ops[i]? = some o := by
      obtain ⟨r, hd⟩ := hd
      have := congrArg List.head? hd
      simpa using this
    have hd' : ∃ r, ops.toList.drop (i + 1) = l ++ r := by
      obtain ⟨r, hd⟩ := hd
      have := congrArg List.tail hd
      exact ⟨r, by simpa using this⟩
    have hdst : ∀ d, o.dst = some d → d < a.tmps.size := by
      intro d hdd
      rw [hi.sz]
      have hmem : o ∈ ops := Array.mem_of_getElem? hoi
      have := (Array.all_eq_true_iff_forall_mem.1 hN) o hmem
      simpa [hdd] using this
    have hdf : ∀ (dst : Option Tmp) (v : Value), (a.put dst v).defers = c.D := fun dst v => by cases dst <;> exact hi.df
    have hsz : ∀ (dst : Option Tmp) (v : Value), (a.put dst v).tmps.size = c.N := fun dst v => by cases dst <;> simp [Act.put, hi.sz]
    -- the operation is done
    have did : ∀ σ1 : St, (∀ j, R H ε (a.tmps.getD j undef) (σ1.tm j)) → σ1.ob = σ.ob → (opVC P (base + 16 * i) o.op o.type σ1 fun r _ ws => regVC P ops base l (i + 1) (σ1.put o.dst r ws) K) →
        o.wpIn (wf c.ro) 0 P a w (wpOpsIn (wf c.ro) 0 P ops Q (List.range' (i + 1) l.length)) Q := by
      intro σ1 htm hob hvc
      obtain ⟨r, deps, ws, hok, hK⟩ := opVC_sound hvc
      have hop := hok σ1 (fun _ _ => rfl) (fun _ _ => rfl)
      refine hop c H ε a w o rfl rfl (by rw [hob]; exact hi.mem) htm (fun id h1 h2 => hdom id h1) _ Q ?_
      intro v w' H' ε' hH hε hfr hv hm
      refine reg_soundP hN l (i + 1) _ K H' ε' (a.put o.dst v) w' hd' hK ⟨hsz _ _, hdf _ _, ?_, hm⟩ ?_ hQ
      · exact put_tm hdst (fun j => (htm j).mono hH hε) hv
      · intro id hid
        exact hfr id (hdom id (by omega)) (by omega)
    -- the operation is passed over
    have passed : ∀ σ1 : St, (∀ j, R H ε (a.tmps.getD j undef) (σ1.tm j)) → σ1.ob = σ.ob → regVC P ops base l (i + 1) (σ1.put o.dst (.tup []) []) K → wpOpsIn (wf c.ro) 0 P ops Q (List.range' (i + 1) l.length) (a.put o.dst undef) w := by
      intro σ1 htm hob hK
      refine reg_soundP hN l (i + 1) _ K H ε (a.put o.dst undef) w hd' hK ⟨hsz _ _, hdf _ _, ?_, ?_⟩ (fun id hid => hdom id (by omega)) hQ
      · exact put_tm hdst htm (.d _ _ (.tup [] [] .nil))
      · have : (σ1.put o.dst (.tup []) []).ob = σ.ob := hob
        rw [this]; exact hi.mem
    rw [List.length_cons, List.range'_succ]
    simp only [wpOpsIn, hoi]
    unfold regVC at h
    split at h
    · rename_i hg
      have hw : Region.wanted o (yielded ops a.tmps) = true := by simp [Region.wanted, hg]
      rw [if_pos hw]
      exact did σ hi.tm rfl h
    · rename_i g want hg
      split at h
      · rename_i d hgd
        have hy : yielded ops a.tmps g = (match a.tmps[d]? with | some (.bool b) => some b | _ => none) := by
          unfold yielded
          unfold gdst at hgd
          rw [hgd]; rfl
        split at h
        · rename_i b hb
          have hv := hi.tm d
          rw [hb] at hv
          have hv' := hv.s_inv.1
          have hget : a.tmps[d]? = some (.bool b) := by
            rw [Array.getD_eq_getD_getElem?] at hv'
            cases hq : a.tmps[d]? with
            | none => rw [hq] at hv'; cases hv'
            | some u => rw [hq] at hv'; simp at hv'; rw [hv']
          have hyb : yielded ops a.tmps g = some b := by rw [hy, hget]
          by_cases hbw : b = want
          · have hw : Region.wanted o (yielded ops a.tmps) = true := by simp [Region.wanted, hg, hyb, hbw]
            rw [if_pos hw]
            have hk : σ.know d (.s (.bool want)) = σ := know_same (by rw [hb, hbw])
            have h1 := h.1 hbw
            rw [hk] at h1
            exact did σ hi.tm rfl h1
          · have hw : ¬ Region.wanted o (yielded ops a.tmps) = true := by simp [Region.wanted, hg, hyb, hbw]
            rw [if_neg hw]
            have hbn : b = (!want) := by cases b <;> cases want <;> simp_all
            have hk : σ.know d (.s (.bool (!want))) = σ := know_same (by rw [hb, hbn])
            have h2 := h.2 hbn
            rw [hk] at h2
            exact ⟨fun _ _ => trivial, passed σ hi.tm rfl h2⟩
        · rename_i hb
          have hv := hi.tm d
          rw [hb] at hv
          obtain ⟨vs, hv', hl⟩ := hv.tup_inv
          cases hl
          have hyn : yielded ops a.tmps g = none := by
            rw [hy]
            rw [Array.getD_eq_getD_getElem?] at hv'
            cases hq : a.tmps[d]? with
            | none => rfl
            | some u => rw [hq] at hv'; simp at hv'; rw [hv']
          have hw : ¬ Region.wanted o (yielded ops a.tmps) = true := by simp [Region.wanted, hg, hyn]
          rw [if_neg hw]
          exact ⟨fun _ _ => trivial, passed σ hi.tm rfl h⟩
        · exact h.elim
      · exact h.elim


section
variable {P : Program} {N : Nat} {σ : St} {K : Exit → St → Prop}
def PanK (P : Program) (op : Op) (K : Exit → St → Prop) (σ : St) : Prop := ∃ chain ob', PanOp P σ.nx op σ chain ob' ∧ K (.panic chain) { σ with ob := ob', nx := σ.nx + 16 }
theorem tri_regionX {id : Nat} {ops : Array Oper} (j : Nat) (o : Oper) (hN : dstOK N ops = true) (ho : ops[j]? = some o) (hg : o.guard = none) (h : regVC P ops σ.nx (ops.toList.take j) 0 σ (PanK P o.op K)) : Tri P N (.region id ops false) σ K := fun c H ε a w hc hi Q hQ => by
  refine wpIn_region ?_
  have hj : j < ops.size := (Array.getElem?_eq_some_iff.1 ho).1
  have hrange : List.range ops.size = List.range' 0 j ++ (j :: List.range' (j + 1) (ops.size - (j + 1))) := by
    have h1 : List.range' 0 j ++ List.range' j (ops.size - j) = List.range' 0 (j + (ops.size - j)) := by simpa using List.range'_append_1 (s := 0) (m := j) (n := ops.size - j)
    rw [List.range_eq_range', ← List.range'_succ, show ops.size - (j + 1) + 1 = ops.size - j by omega, h1]
    congr 1; omega
  rw [hrange]
  refine wpOps_split (Q' := fun e a' w' => match e with | .normal => wpOpsIn (wf c.ro) 0 P ops Q (j :: List.range' (j + 1) (ops.size - (j + 1))) a' w' | e => Q e a' w') _ (fun _ _ h => h) (fun e _ _ hne h => by cases e <;> first | exact absurd rfl hne | exact h) _ _ _ ?_
  have hlen : (ops.toList.take j).length = j := by simp; omega
  have := reg_soundP (P := P) (ops := ops) (base := σ.nx) (c := c) (Q := fun e a' w' => match e with | .normal => wpOpsIn (wf c.ro) 0 P ops Q (j :: List.range' (j + 1) (ops.size - (j + 1))) a' w' | e => Q e a' w') (by rw [hc]; exact hN) (ops.toList.take j) 0 σ (PanK P o.op K) H ε a w ⟨ops.toList.drop j, by simp⟩ h ⟨hi.sz, hi.df, hi.tm, hi.mem⟩ (fun id hid => hi.dom id (by simpa using hid)) ?_
  · rw [hlen] at this; exact this
  · rintro σ' H' ε' a' w' ⟨chain, ob', hp, hK⟩ hi'
    simp only [wpOpsIn, ho]
    have hw : Region.wanted o (yielded ops a'.tmps) = true := by simp [Region.wanted, hg]
    rw [if_pos hw]
    refine hp c H' ε' a' w' o rfl hi'.mem hi'.tm (fun id h1 h2 => hi'.dom id h1) _ Q ?_
    intro w'' H'' ε'' h1 h2 h3 h4
    refine hQ _ _ H'' ε'' a' w'' hK ⟨hi'.sz, hi'.df, fun i => (hi'.tm i).mono h1 h2, h4, fun id hid => ?_⟩
    have hid' : σ'.nx + 16 ≤ id := hid
    exact h3 id (hi'.dom id (by omega)) (by omega)
end
theorem back_mem {w w' : World} {H H' : View} {ε ε' : Env} {obs obs' : List Ob} {N : Nat} {D : List Deferred} {σ' : St} {a' : Act} (new : List Nat) (hdom : ∀ id, obs.length ≤ id → ε id = none) (h1 : obs.length + new.length = obs'.length) (h2 : ∀ k ∈ new, obs.length ≤ k) (h3 : new.Nodup)
    (h5 : obsRet σ' (backN obs.length new) obs' 0) (h7 : ltO obs'.length obs') (hi : Inv { callCtx w H ε obs.length with N := N, D := D } H' ε' σ' a' w') :
    ε.le (fun id => if id < obs'.length then ε' (backN obs.length new id) else none) ∧ Mem (callCtx w H ε obs.length) H' (fun id => if id < obs'.length then ε' (backN obs.length new id) else none) (obF obs') w' := by
  have hmc : ∀ {H' : View} {ε' : Env} {ob : Nat → Option Ob} {w' : World}, Mem (callCtx w H ε obs.length) H' ε' ob w' ↔ Mem { callCtx w H ε obs.length with N := N, D := D } H' ε' ob w' := by
    intro H' ε' ob w'
    exact ⟨fun h => ⟨h.view, h.objs, h.dj, h.own, h.os, h.tape, h.output, h.size, h.block, h.hle, h.hold, h.ele, h.low, h.top, h.lo, h.fz, h.wr⟩, fun h => ⟨h.view, h.objs, h.dj, h.own, h.os, h.tape, h.output, h.size, h.block, h.hle, h.hold, h.ele, h.low, h.top, h.lo, h.fz, h.wr⟩⟩
  refine ⟨?_, ?_⟩
  · intro id l hl
    have hid : id < obs.length := by
      rcases Nat.lt_or_ge id obs.length with h | h
      · exact h
      · rw [hdom id h] at hl; cases hl
    have hid' : id < obs'.length := by omega
    have he := hi.mem.ele id l hl
    have hb' : backN obs.length new id = id := by simp [backN, hid]
    cases l with
    | blk b => simp only at he ⊢; rw [if_pos hid', hb']; exact he
    | row v n => simp only at he ⊢; rw [if_pos hid', hb']; exact he
  · have hinj : ∀ i j, i < obs'.length → j < obs'.length → i ≠ j → backN obs.length new i ≠ backN obs.length new j := by
      intro i j hi' hj' hij
      have hget : ∀ k, obs.length ≤ k → k < obs'.length → ∃ hk : k - obs.length < new.length, backN obs.length new k = new[k - obs.length] := by
        intro k k1 k2
        have hk : k - obs.length < new.length := by omega
        exact ⟨hk, by simp [backN, Nat.not_lt.2 k1, List.getD_eq_getElem?_getD, hk]⟩
      by_cases c1 : i < obs.length
      · have e1 : backN obs.length new i = i := by simp [backN, c1]
        by_cases c2 : j < obs.length
        · have e2 : backN obs.length new j = j := by simp [backN, c2]
          rw [e1, e2]; exact hij
        · obtain ⟨hk, e2⟩ := hget j (by omega) hj'
          rw [e1, e2]
          have := h2 new[j - obs.length] (List.getElem_mem hk)
          omega
      · obtain ⟨hk1, e1⟩ := hget i (by omega) hi'
        by_cases c2 : j < obs.length
        · have e2 : backN obs.length new j = j := by simp [backN, c2]
          rw [e1, e2]
          have := h2 new[i - obs.length] (List.getElem_mem hk1)
          omega
        · obtain ⟨hk2, e2⟩ := hget j (by omega) hj'
          rw [e1, e2]
          intro e
          have := nodup_inj h3 hk1 hk2 e
          omega
    have hob : ∀ k y, obF obs' k = some y → ObLe (σ'.ob (backN obs.length new k)) (y.ren (backN obs.length new)) := by
      intro k y hy
      have h5 := obsRet_get h5 (obF_some hy)
      rw [Nat.zero_add] at h5
      cases y with
      | box cs => exact h5
      | perm e sz n => exact h5
      | raw b q cs => exact h5
      | gone =>
        unfold obF at hy
        rw [obF_some hy] at hy; cases hy
    have hlt' : ∀ k y, obF obs' k = some y → k < obs'.length := fun k y hy => obF_lt (by rw [hy]; simp)
    have hne : ∀ k, obF obs' k ≠ none → k < obs'.length ∧ σ'.ob (backN obs.length new k) ≠ none := by
      intro k hk
      cases hq : obF obs' k with
      | none => exact absurd hq hk
      | some y =>
        refine ⟨hlt' k y hq, fun e => ?_⟩
        have := hob k y hq
        rw [e] at this; exact this
    have hi' := hmc.2 hi.mem
    exact { hi' with
      objs := fun k y hy => ObOK.unren ((hob k y hy).ok fun z hz => hi.mem.objs _ z hz) (ltO_get h7 (obF_some hy)) (hlt' k y hy)
      dj := fun i j hi1 hj1 hij b hb1 => by
        obtain ⟨l1, n1⟩ := hne i hi1
        obtain ⟨l2, n2⟩ := hne j hj1
        simp only [l1, l2, if_true] at hb1 ⊢
        exact hi.mem.dj _ _ n1 n2 (hinj i j l1 l2 hij) b hb1
      own := fun i hi1 b hb1 => by
        obtain ⟨l1, n1⟩ := hne i hi1
        simp only [l1, if_true] at hb1
        exact back_own hdom h1 h2 l1 (hi'.own _ n1 b hb1)
      wr := fun b o hw => ⟨(hi'.wr b o hw).1, (hi'.wr b o hw).2.1, fun i hi1 hb1 => by
        obtain ⟨l1, n1⟩ := hne i hi1
        simp only [l1, if_true] at hb1
        exact (hi.mem.wr b o hw).2.2 _ n1 hb1⟩
      ele := by
        intro id l hl
        have hl' : ε id = some l := hl
        have hid : id < obs.length := by
          rcases Nat.lt_or_ge id obs.length with h | h
          · exact h
          · rw [hdom id h] at hl'; cases hl'
        have hid' : id < obs'.length := by omega
        have he := hi.mem.ele id l hl
        have hb' : backN obs.length new id = id := by simp [backN, hid]
        cases l with
        | blk b => simp only at he ⊢; rw [if_pos hid', hb']; exact he
        | row v n => simp only at he ⊢; rw [if_pos hid', hb']; exact he }

def panO (m : Nat) (chain : List PanicEntry) (obs' : List Ob) : Exit → St → Prop
  | .panic ch, σ => ch = chain ∧ m = obs'.length ∧ obsRet σ (backN m []) obs' 0 ∧ ltO obs'.length obs'
  | _, _ => False
theorem start_inv {P : Program} {w : World} {H : View} {ε : Env} {vs : List Value} {args : List AV} {obs : List Ob} {fn : Func} {N : Nat} (hN : fn.ntmps = N) (hn : args.length ≤ N) (hm : Mem (callCtx w H ε obs.length) H ε (obF obs) w) (hvs : RL H ε vs args) (hdom : ∀ id, obs.length ≤ id → ε id = none) :
    Inv { callCtx w H ε obs.length with N := N } H ε (St.startO args obs) { tmps := vs.toArray ++ Array.replicate (fn.ntmps - vs.toArray.size) undef, defers := [] } w := by
  have hlen : vs.length = args.length := hvs.length_eq
  refine ⟨by simp [hN, hlen]; omega, rfl, fun i => ?_, ⟨hm.view, hm.objs, hm.dj, hm.own, hm.os, hm.tape, hm.output, hm.size, hm.block, hm.hle, hm.hold, hm.ele, hm.low, hm.top, hm.lo, hm.fz, hm.wr⟩, hdom⟩
  have := R_start hvs i
  have e : (vs.toArray ++ Array.replicate (fn.ntmps - vs.toArray.size) undef).getD i undef = vs.getD i undef := by
    rw [Array.getD_eq_getD_getElem?, Array.getElem?_append]
    simp only [List.size_toArray, List.getElem?_toArray, List.getD_eq_getElem?_getD]
    split
    · rfl
    · rename_i hi
      rw [List.getElem?_eq_none (by omega), Array.getElem?_replicate]
      split <;> rfl
  rw [e]; exact this
theorem xspec_of_tri {P : Program} {f : FuncId} {fn : Func} {code : Code} {args : List AV} {obs obs' : List Ob} {chain : List PanicEntry} {N : Nat} (hf : P.funcs[f]? = some fn) (hb : fn.body = some code) (hN : fn.ntmps = N) (hn : args.length ≤ N)
    (h : Tri P N code (St.startO args obs) (panO obs.length chain obs')) : XSpec P f args obs chain obs' := by
  intro w H ε vs hm hvs hdom
  refine calls_of_wp hf hb ?_
  refine (wpIn_wide (n := 0)).1 ?_
  refine h { callCtx w H ε obs.length with N := N } H ε _ w rfl (start_inv (P := P) hN hn hm hvs hdom) _ fun e σ' H' ε' a' w' hK hi => ?_
  cases e with
  | panic ch =>
    obtain ⟨rfl, h1, h5, h7⟩ := hK
    obtain ⟨q1, q2⟩ := back_mem (D := []) [] hdom (by simpa using h1) (by simp) (by simp) h5 h7 hi
    exact ⟨hi.df, H', _, rfl, hi.mem.hle, q1, fun id hid => if_neg (by omega), q2⟩
  | normal => exact hK.elim
  | ret => exact hK.elim
  | exit id => exact hK.elim
  | goto l => exact hK.elim
  | outgrown => exact hK.elim
section
variable {P : Program} {N nx : Nat} {tm : Nat → AV} {ob : Nat → Option Ob} {K : Exit → St → Prop} {l : List Oper}
theorem w_regX {id : Nat} {y : Code} (j : Nat) (o : Oper) (hN : dstOK N l.toArray = true) (ho : l[j]? = some o) (hg : o.guard = none)
    (h : ∀ K1 : St → Prop, (∀ tm' ob' nx' chain ob'', PanOp P nx' o.op ⟨tm', ob', nx'⟩ chain ob'' → Out K (.panic chain) ⟨tm', ob'', nx' + 16⟩ → K1 ⟨tm', ob', nx'⟩) → Reg P l.toArray nx (l.take j) 0 ⟨tm, ob, nx⟩ K1) : Tri P N (.seq (.region id l.toArray false) y) ⟨tm, ob, nx⟩ K := by
  refine tri_seq (tri_regionX j o hN (by simpa using ho) hg ?_)
  have := h (PanK P o.op (SeqK P N y K)) (fun tm' ob' nx' chain ob'' hp hK => ⟨chain, ob'', hp, hK⟩)
  simpa [Reg] using this
theorem w_regX_end {id : Nat} (j : Nat) (o : Oper) (hN : dstOK N l.toArray = true) (ho : l[j]? = some o) (hg : o.guard = none)
    (h : ∀ K1 : St → Prop, (∀ tm' ob' nx' chain ob'', PanOp P nx' o.op ⟨tm', ob', nx'⟩ chain ob'' → Out K (.panic chain) ⟨tm', ob'', nx' + 16⟩ → K1 ⟨tm', ob', nx'⟩) → Reg P l.toArray nx (l.take j) 0 ⟨tm, ob, nx⟩ K1) : Tri P N (.region id l.toArray false) ⟨tm, ob, nx⟩ K := by
  refine tri_regionX j o hN (by simpa using ho) hg ?_
  have := h (PanK P o.op K) (fun tm' ob' nx' chain ob'' hp hK => ⟨chain, ob'', hp, hK⟩)
  simpa [Reg] using this
end
theorem v_xspec {P : Program} {f : FuncId} {fn : Func} {code : Code} {args : List AV} {obs obs' : List Ob} {chain : List PanicEntry} {N : Nat} (hf : P.funcs[f]? = some fn) (hb : fn.body = some code) (hN : fn.ntmps = N) (hn : args.length ≤ N) {k : Nat} (hk : obs.length = k)
    (h : Later P N code (panO k chain obs') ⟨slots args, obF obs, k⟩) : XSpec P f args obs chain obs' := by
  subst hk
  refine xspec_of_tri hf hb hN hn ?_
  have e : St.startO args obs = ⟨slots args, obF obs, obs.length⟩ := by
    unfold St.startO; congr 1; funext i; exact slots_get args i
  rw [e]; exact h
section
variable {P : Program} {N id : Nat} {y : Code} {K : Exit → St → Prop} {σ : St} {ch : List PanicEntry}
theorem qzf (h : Out K (.panic ch) σ) : Out (SeqK P N y K) (.panic ch) σ := h
theorem qzg (h : Out K (.panic ch) σ) : Out (BlockK id K) (.panic ch) σ := h
theorem qzh {X : Type} {σ0 : St} {W : List Nat} {S : X → List (Nat × AV)} {B : X → List (Nat × Ob)} {rel : X → Prop} {m : Nat} {μ : X → Nat} (h : Out K (.panic ch) σ) : Out (LoopK σ0 W S B rel m μ K) (.panic ch) σ := h
theorem w_xend {m : Nat} {obs' : List Ob} (h1 : m = obs'.length) (h2 : obsRet σ (backN m []) obs' 0) (h3 : ltO obs'.length obs') : Out (panO m ch obs') (.panic ch) σ := ⟨rfl, h1, h2, h3⟩
end
end Go.Sy
end
section
set_option linter.unusedVariables false
namespace Go.Sy

mutual
def AV.th (p q n cap : Nat) : AV → AV
  | .osl p' sz es => bif Nat.beq p' p then .bsl q 0 sz n cap else .osl p' sz es
  | .agg cs => .agg (thL p q n cap cs)
  | .tup cs => .tup (thL p q n cap cs)
  | .fn f a b => .fn f (thL p q n cap a) (thL p q n cap b)
  | .s v => .s v
  | .sl sz es => .sl sz es
  | .ol sz es => .ol sz es
  | .wsl sz es => .wsl sz es
  | .wref cs => .wref cs
  | .hole => .hole
  | .mark id => .mark id
  | .ref cs => .ref cs
  | .ptr id off => .ptr id off
  | .bsl id off sz n' cap' => .bsl id off sz n' cap'
  | .junk => .junk
def thL (p q n cap : Nat) : List AV → List AV
  | [] => []
  | a :: l => a.th p q n cap :: thL p q n cap l
end
def Ob.th (p q n cap : Nat) : Ob → Ob
  | .box cs => .box (thL p q n cap cs)
  | .perm e sz n => .perm e sz n
  | .raw b o cs => .raw b o (thL p q n cap cs)
  | .gone => .gone
def thS (p q n cap : Nat) : List (Nat × AV) → List (Nat × AV)
  | [] => []
  | (s, a) :: l => (s, a.th p q n cap) :: thS p q n cap l
def thB (p q n cap : Nat) : List (Nat × Ob) → List (Nat × Ob)
  | [] => []
  | (s, a) :: l => (s, a.th p q n cap) :: thB p q n cap l

def permIs (ob : Nat → Option Ob) (p sz n : Nat) : Prop := ∃ e, ob p = some (.perm e sz n)

mutual
def AV.thok (ob : Nat → Option Ob) (p sz0 : Nat) (es0 : List (List AV)) : AV → Prop
  | .osl p' sz es => (p' = p ∧ sz = sz0 ∧ es = es0) ∨ (p' ≠ p ∧ scalR es ∧ permIs ob p' sz es.length)
  | .agg cs => thokL ob p sz0 es0 cs
  | .tup cs => thokL ob p sz0 es0 cs
  | .fn _ a b => thokL ob p sz0 es0 a ∧ thokL ob p sz0 es0 b
  | .s _ => True
  | .sl _ es => es = []
  | .ol _ es => es = []
  | .wsl _ es => es = []
  | .wref _ => False
  | .hole => True
  | .mark _ => True
  | .ref _ => False
  | .ptr _ _ => True
  | .bsl _ _ _ _ _ => True
  | .junk => True
def thokL (ob : Nat → Option Ob) (p sz0 : Nat) (es0 : List (List AV)) : List AV → Prop
  | [] => True
  | a :: l => a.thok ob p sz0 es0 ∧ thokL ob p sz0 es0 l
end
def Ob.thok (ob : Nat → Option Ob) (p sz0 : Nat) (es0 : List (List AV)) : Ob → Prop
  | .box cs => thokL ob p sz0 es0 cs
  | .perm _ _ _ => True
  | .raw _ _ cs => thokL ob p sz0 es0 cs
  | .gone => True
def thokS (ob : Nat → Option Ob) (p sz0 : Nat) (es0 : List (List AV)) : List (Nat × AV) → Prop
  | [] => True
  | (_, a) :: l => a.thok ob p sz0 es0 ∧ thokS ob p sz0 es0 l
def thokB (ob : Nat → Option Ob) (p sz0 : Nat) (es0 : List (List AV)) : List (Nat × Ob) → Prop
  | [] => True
  | (i, x) :: l => (i ≠ p ∧ x.thok ob p sz0 es0) ∧ thokB ob p sz0 es0 l

theorem thS_lookup {p q n cap : Nat} : ∀ {S : List (Nat × AV)} {i : Nat}, (thS p q n cap S).lookup i = (S.lookup i).map (AV.th p q n cap)
  | [], i => rfl
  | (s, a) :: l, i => by
    by_cases h : i = s
    · subst h; simp [thS]
    · have hb : (i == s) = false := by simpa using h
      simp only [thS, List.lookup_cons, hb]; exact thS_lookup
theorem thB_lookup {p q n cap : Nat} : ∀ {S : List (Nat × Ob)} {i : Nat}, (thB p q n cap S).lookup i = (S.lookup i).map (Ob.th p q n cap)
  | [], i => rfl
  | (s, a) :: l, i => by
    by_cases h : i = s
    · subst h; simp [thB]
    · have hb : (i == s) = false := by simpa using h
      simp only [thB, List.lookup_cons, hb]; exact thB_lookup
theorem thokS_lookup {ob : Nat → Option Ob} {p sz0 : Nat} {es0 : List (List AV)} : ∀ {S : List (Nat × AV)} {i : Nat} {a : AV}, thokS ob p sz0 es0 S → S.lookup i = some a → a.thok ob p sz0 es0
  | (s, u) :: l, i, a, h, hl => by
    simp only [thokS] at h
    by_cases hi : i = s
    · subst hi; simp at hl; subst hl; exact h.1
    · have : (i == s) = false := by simpa using hi
      rw [List.lookup_cons, this] at hl
      exact thokS_lookup h.2 hl
theorem thokB_lookup {ob : Nat → Option Ob} {p sz0 : Nat} {es0 : List (List AV)} : ∀ {S : List (Nat × Ob)} {i : Nat} {a : Ob}, thokB ob p sz0 es0 S → S.lookup i = some a → i ≠ p ∧ a.thok ob p sz0 es0
  | (s, u) :: l, i, a, h, hl => by
    simp only [thokB] at h
    by_cases hi : i = s
    · subst hi; simp at hl; subst hl; exact h.1
    · have : (i == s) = false := by simpa using hi
      rw [List.lookup_cons, this] at hl
      exact thokB_lookup h.2 hl

theorem DL.scal {H H' : View} : ∀ {vs : List Value} {cs : List AV}, DL H vs cs → (∀ a ∈ cs, ∃ v, a = .s v) → DL H' vs cs ∧ ∀ v ∈ vs, v.oneCell' = true
  | _, _, .nil, _ => ⟨.nil, by simp⟩
  | _, _, .cons v c vs cs h t, hs => by
    obtain ⟨u, rfl⟩ := hs c (by simp)
    have h1 := (R.d (H := H) (ε := fun _ => none) v _ h).s_inv
    obtain ⟨t1, t2⟩ := DL.scal t fun a ha => hs a (by simp [ha])
    refine ⟨.cons _ _ _ _ (by rw [h1.1]; exact .s u h1.2) t1, fun w hw => ?_⟩
    rcases List.mem_cons.1 hw with rfl | hw
    · rw [h1.1]; exact h1.2
    · exact t2 w hw
def View.less (H : View) (b : Nat) : View := { H with f := fun b' o => if b' = b then none else H b' o }
theorem View.less_f (H : View) (b b' o : Nat) : (H.less b) b' o = if b' = b then none else H b' o := rfl
theorem View.less_le (H : View) (b : Nat) : (H.less b).le H := ⟨fun b' o v h => by
  rw [View.less_f] at h; split at h
  · cases h
  · exact h, rfl, rfl, rfl⟩

theorem R.hole_less {H : View} {ε ε' : Env} {b : Nat} {v : Value} (h : R H ε v .hole) : R (H.less b) ε' v .hole := by
  cases h with
  | d _ _ h => cases h
section
variable {H : View} {ε ε' : Env} {ob : Nat → Option Ob} {p q sz0 n cap b : Nat} {es0 : List (List AV)}
mutual
theorem R.th (hlob : H.lo ≤ b) (hq : ε' q = some (.blk b)) (hle : ε.le ε') (hn : es0.length = n) (hcap : n ≤ cap) (hp : ε p = some (.row (.slice (some ⟨b, 0, none⟩) n cap) n))
    (hot : ∀ p' sz k, p' ≠ p → permIs ob p' sz k → ∃ v, ε p' = some (.row v k) ∧ v.ownBlock ≠ some b) : ∀ {a : AV} {v : Value}, R H ε v a → a.thok ob p sz0 es0 → R (H.less b) ε' v (a.th p q n cap)
  | .s u, v, h, _ => by rw [h.s_inv.1]; exact .d _ _ (.s u h.s_inv.2)
  | .junk, v, _, _ => .junk v
  | .hole, v, h, _ => h.hole_less
  | .mark id, v, h, _ => by
    obtain ⟨g, hg, hlo⟩ := h.mark_inv
    exact .mark _ _ g (hle id _ hg) hlo
  | .wref _, _, _, hk => by simp only [AV.thok] at hk
  | .ref _, _, _, hk => by simp only [AV.thok] at hk
  | .ptr id off, v, h, _ => by
    obtain ⟨g, rfl, hg⟩ := h.ptr_inv
    exact .ptr _ _ _ (hle id _ hg)
  | .bsl id off sz n' cap', v, h, _ => by
    obtain ⟨g, rfl, hg, hn', hlo⟩ := h.bsl_inv
    exact .bsl _ _ _ _ _ _ (hle id _ hg) hn' hlo
  | .ol sz es, v, h, hk => by
    simp only [AV.thok] at hk
    subst hk
    simp only [AV.th]
    rcases h.ol_inv.oslice with ⟨rfl, _⟩ | ⟨a, c, rfl, _⟩ | ⟨g, off, c, rfl, _⟩
    · exact .d _ _ (.onil _)
    · exact .d _ _ (.oemp _ _ _)
    · exact .d _ _ (.oemp _ _ _)
  | .wsl sz es, v, h, hk => by
    simp only [AV.thok] at hk
    subst hk
    simp only [AV.th]
    rcases h.wsl_inv.wslice with ⟨rfl, _⟩ | ⟨a, c, rfl, _⟩ | ⟨g, off, c, rfl, _⟩
    · exact .d _ _ (.wnil _)
    · exact .d _ _ (.wemp _ _ _)
    · exact .d _ _ (.wemp _ _ _)
  | .sl sz es, v, h, hk => by
    simp only [AV.thok] at hk
    subst hk
    simp only [AV.th]
    rcases h.sl_inv.slice with ⟨rfl, _⟩ | ⟨a, c, rfl, _⟩ | ⟨g, off, c, rfl, _⟩
    · exact .d _ _ (.nil _)
    · exact .d _ _ (.emp _ _ _)
    · exact .d _ _ (.emp _ _ _)
  | .osl p' sz es, v, h, hk => by
    simp only [AV.thok] at hk
    obtain ⟨hD, v0, m, hε, hle', he⟩ := h.osl_inv
    rcases hk with ⟨rfl, rfl, rfl⟩ | ⟨hne, hsc, hperm⟩
    · rw [hp] at hε; cases hε
      rw [he hn]
      simp only [AV.th, beq_dec, decide_true, cond_true]
      exact .bsl _ _ _ _ _ _ hq hcap hlob
    · have hb : Nat.beq p' p = false := by rw [beq_dec]; simpa using hne
      simp only [AV.th, hb, cond_false]
      obtain ⟨v', hε', hown⟩ := hot p' sz _ hne hperm
      rw [hε] at hε'; cases hε'
      have hv := he rfl
      obtain ⟨v2, n2, hε2, l2, q2⟩ := hle p' _ hε
      refine .osl _ _ _ _ v2 n2 ?_ hε2 l2 (fun hh => by rw [q2 hh.symm]; exact hv)
      rcases hD.slice2 with ⟨rfl, rfl⟩ | ⟨a, c, rfl, rfl⟩ | ⟨g, off, c, rfl, hc, hs, hlo, hdm⟩
      · exact .nil _
      · exact .emp _ _ _
      · refine .sl _ _ _ _ _ hc hs hlo ?_
        have hgb : g ≠ b := fun e => hown (by rw [← hv, e]; rfl)
        obtain ⟨vs, _, hcell, hdl, h1⟩ := hdm.to_list
        exact DM.of_list (hdl.scal (scalR_flat hsc)).1 (fun j u hj => by rw [View.less_f, if_neg hgb]; exact hcell j u hj) h1
  | .agg cs, v, h, hk => by
    simp only [AV.thok] at hk
    simp only [AV.th]
    obtain ⟨vs, rfl, hr⟩ := h.agg_inv
    exact .agg _ _ (RL.th hlob hq hle hn hcap hp hot hr hk)
  | .tup cs, v, h, hk => by
    simp only [AV.thok] at hk
    simp only [AV.th]
    obtain ⟨vs, rfl, hr⟩ := h.tup_inv
    exact .tup _ _ (RL.th hlob hq hle hn hcap hp hot hr hk)
  | .fn f f2 c2, v, h, hk => by
    simp only [AV.thok] at hk
    simp only [AV.th]
    obtain ⟨f1, c1, rfl, hf, hc⟩ := h.fn_inv
    exact .fn _ _ _ _ _ (RL.th hlob hq hle hn hcap hp hot hf hk.1) (RL.th hlob hq hle hn hcap hp hot hc hk.2)
theorem RL.th (hlob : H.lo ≤ b) (hq : ε' q = some (.blk b)) (hle : ε.le ε') (hn : es0.length = n) (hcap : n ≤ cap) (hp : ε p = some (.row (.slice (some ⟨b, 0, none⟩) n cap) n))
    (hot : ∀ p' sz k, p' ≠ p → permIs ob p' sz k → ∃ v, ε p' = some (.row v k) ∧ v.ownBlock ≠ some b) : ∀ {l : List AV} {vs : List Value}, RL H ε vs l → thokL ob p sz0 es0 l → RL (H.less b) ε' vs (thL p q n cap l)
  | [], vs, h, _ => by cases h; exact .nil
  | a :: l, vs, h, hk => by
    simp only [thokL] at hk
    simp only [thL]
    cases h with | cons v _ vs _ h t => exact .cons _ _ _ _ (R.th hlob hq hle hn hcap hp hot h hk.1) (RL.th hlob hq hle hn hcap hp hot t hk.2)
end
end

def Seen (tm : Nat → AV) (ob : Nat → Option Ob) (a : AV) : Prop := (∃ s, tm s = a) ∨ ∃ (i : Nat) (cs : List AV), ob i = some (.box cs) ∧ ∃ j : Nat, cs[j]? = some a

theorem RL.junks (H : View) (ε : Env) : ∀ (vs : List Value), RL H ε vs (List.replicate vs.length .junk)
  | [] => .nil
  | v :: vs => .cons _ _ _ _ (.junk v) (RL.junks H ε vs)

theorem w_thaw {P : Program} {N : Nat} {tm : Nat → AV} {ob : Nat → Option Ob} {nx m : Nat} {K : Exit → St → Prop} {code : Code} (p sz : Nat) (es : List (List AV)) (S : List (Nat × AV)) (B : List (Nat × Ob)) {e : TypeId}
    (hat : Seen tm ob (.osl p sz es)) (hp16 : 16 ≤ p) {n0 : Nat} (hpe : ob p = some (.perm e sz n0)) (hn0 : n0 = es.length) (h0 : 0 < es.length) (hsc : scalR es) (hS : leS ⟨tm, ob, nx⟩ S) (hB : leB ⟨tm, ob, nx⟩ B) (hSk : thokS ob p sz es S) (hBk : thokB ob p sz es B) (hm : nx + 16 = m)
    (h : ∀ cap, es.length ≤ cap → cap ≤ maxLen → Later P N code K ⟨wrs (fun _ => .junk) (thS p nx es.length cap S), wor (wo (fun _ => none) nx (.box (es.flatten ++ List.replicate ((cap - es.length) * sz) .junk))) (thB p nx es.length cap B), m⟩) : Tri P N code ⟨tm, ob, nx⟩ K := by
  subst hm; subst hn0
  intro c H ε a w hc hi Q hQ
  have hfr : ε nx = none := hi.dom _ (Nat.le_refl _)
  obtain ⟨v, xs, hεp, hrow, hsz, hplo⟩ := hi.mem.objs p _ hpe
  obtain ⟨hxl, hrow⟩ := hrow
  obtain ⟨b, cap, cur, rfl, _, hheap, hcap, hmax, hcs, htk⟩ : ∃ g cap cur, v = .slice (some ⟨g, 0, none⟩) es.length cap ∧ 0 ≤ g ∧ w.heap[g]? = some (.cells cur e (0, 0)) ∧ es.length ≤ cap ∧ cap ≤ maxLen ∧ cur.size = cap * sz ∧ cur.toList.take (es.length * sz) = xs := by
    rcases hrow with ⟨_, h⟩ | h
    · omega
    · exact h
  have hbp : blkOf (ε p) = some b := by rw [hεp]; rfl
  have hlob : H.lo ≤ b := (hplo b rfl).1
  have hne : ob p ≠ none := by rw [hpe]; simp
  -- what the row holds
  obtain ⟨v1, hv1⟩ : ∃ v, R H ε v (.osl p sz es) := by
    rcases hat with ⟨s, hs⟩ | ⟨i, cs, hi', j, hj⟩
    · exact ⟨_, by have := hi.tm s; rw [show (⟨tm, ob, nx⟩ : St).tm s = .osl p sz es from hs] at this; exact this⟩
    · obtain ⟨g, arr, T, _, _, hrl, _⟩ := hi.mem.objs i _ hi'
      obtain ⟨u, _, hu⟩ := hrl.get hj
      exact ⟨u, hu⟩
  obtain ⟨hD, v0, n0, hε0, hle0, he0⟩ := hv1.osl_inv
  rw [hεp] at hε0; cases hε0
  have hD := (he0 rfl) ▸ hD
  have hrl : ∀ H' ε', RL H' ε' cur.toList (es.flatten ++ List.replicate ((cap - es.length) * sz) .junk) := by
    intro H' ε'
    have hs : ∀ x ∈ es, x.length = sz := by
      rcases hD.slice with ⟨h, _⟩ | ⟨_, _, h, hh⟩ | ⟨_, _, _, _, _, h, _⟩
      · cases h
      · subst hh; simp at h0
      · exact h
    have hdm : DM H b 0 es.flatten := by
      rcases hD.slice with ⟨h, _⟩ | ⟨_, _, h, hh⟩ | ⟨_, _, _, h, _, _, hdm⟩
      · cases h
      · subst hh; simp at h0
      · cases h; exact hdm
    obtain ⟨vs, hvl, hcell, hdl, _⟩ := hdm.to_list
    have hfl := flatten_length hs
    have hvs : vs = cur.toList.take (es.length * sz) := by
      apply List.ext_getElem?
      intro j
      rcases Nat.lt_or_ge j (es.length * sz) with hj | hj
      · have hj' : j < vs.length := by omega
        have h2 := hi.mem.view _ _ _ (hcell j _ (List.getElem?_eq_getElem hj'))
        rw [cell_of_row w b (0 + j) cur e (0, 0) hheap, Nat.zero_add] at h2
        rw [List.getElem?_eq_getElem hj', List.getElem?_take_of_lt hj]
        simpa using h2.symm
      · rw [List.getElem?_eq_none (by omega), List.getElem?_eq_none (by rw [List.length_take]; omega)]
    rw [← List.take_append_drop (es.length * sz) cur.toList]
    refine RL.append (.of_DL (hvs ▸ (hdl.scal (scalR_flat hsc)).1)) ?_
    have hl : (cur.toList.drop (es.length * sz)).length = (cap - es.length) * sz := by
      rw [List.length_drop, Array.length_toList, hcs, Nat.sub_mul]
    rw [← hl]; exact RL.junks _ _ _
  have hless : ∀ b' o, b' ≠ b → H.less b b' o = H b' o := fun b' o hb => by rw [View.less_f, if_neg hb]
  have hself : ∀ o, H.less b b o = none := fun o => by rw [View.less_f, if_pos rfl]
  have hεle : ε.le (updEnv ε nx (.blk b)) := Env.le_new hfr
  have hεq : updEnv ε nx (.blk b) nx = some (.blk b) := updEnv_same _ _ _
  have hεo : ∀ i, i ≠ nx → updEnv ε nx (.blk b) i = ε i := fun i hi' => by unfold updEnv; rw [if_neg hi']
  have hot : ∀ p' sz k, p' ≠ p → permIs ob p' sz k → ∃ v, ε p' = some (.row v k) ∧ v.ownBlock ≠ some b := by
    rintro p' sz' k hpp ⟨e', hpe'⟩
    obtain ⟨v', xs', h1, _⟩ := hi.mem.objs p' _ hpe'
    refine ⟨v', h1, fun hb => ?_⟩
    exact hi.mem.dj p' p (show ob p' ≠ none by rw [hpe']; simp) hne hpp b (by rw [h1]; exact hb) hbp
  have hbnew : c.w0.heap.size ≤ b := by
    rcases hi.mem.own p hne b hbp with h | ⟨_, h⟩
    · exact h
    · rw [hi.mem.low p hp16] at h; cases h
  -- the new objects
  have hobn : ∀ i x, wor (wo (fun _ => none) nx (.box (es.flatten ++ List.replicate ((cap - es.length) * sz) .junk))) (thB p nx es.length cap B) i = some x →
      (∃ y, B.lookup i = some y ∧ x = y.th p nx es.length cap ∧ ObLe (ob i) y ∧ i ≠ p ∧ i ≠ nx) ∨ (i = nx ∧ x = .box (es.flatten ++ List.replicate ((cap - es.length) * sz) .junk)) := by
    intro i x hx
    rw [wor_lookup, thB_lookup] at hx
    cases hl : B.lookup i with
    | some y =>
      rw [hl] at hx
      cases hx
      have hle := leB_lookup hB hl
      refine .inl ⟨y, rfl, rfl, hle, (thokB_lookup hBk hl).1, fun e => ?_⟩
      have := hle.ok fun z hz => hi.mem.objs i z hz
      rw [e] at this
      cases y with
      | box cs => obtain ⟨_, _, _, h1, _⟩ := this; rw [hfr] at h1; cases h1
      | perm e sz n => obtain ⟨_, _, h1, _⟩ := this; rw [hfr] at h1; cases h1
      | raw b o cs => obtain ⟨_, _, h1, _⟩ := this; rw [hfr] at h1; cases h1
      | gone => exact this
    | none =>
      rw [hl] at hx
      simp only [Option.map_none, wo_get] at hx
      split at hx
      · rename_i h1; cases hx; exact .inr ⟨h1, rfl⟩
      · cases hx
  have hobne : ∀ i, wor (wo (fun _ => none) nx (.box (es.flatten ++ List.replicate ((cap - es.length) * sz) .junk))) (thB p nx es.length cap B) i ≠ none → (i ≠ nx ∧ i ≠ p ∧ ob i ≠ none) ∨ i = nx := by
    intro i hi'
    cases hx : wor (wo (fun _ => none) nx (.box (es.flatten ++ List.replicate ((cap - es.length) * sz) .junk))) (thB p nx es.length cap B) i with
    | none => exact absurd hx hi'
    | some x =>
      rcases hobn i x hx with ⟨y, _, _, h1, h2, h3⟩ | ⟨h1, _⟩
      · exact .inl ⟨h3, h2, fun e => by rw [e] at h1; exact h1⟩
      · exact .inr h1
  refine h cap hcap hmax c (H.less b) (updEnv ε nx (.blk b)) a w hc ⟨hi.sz, hi.df, fun i => ?_, ?_, fun id hid => ?_⟩ Q hQ
  · show R _ _ _ (wrs (fun _ => .junk) (thS p nx es.length cap S) i)
    rw [wrs_lookup, thS_lookup]
    cases hl : S.lookup i with
    | none => exact .junk _
    | some x => exact R.th hlob hεq hεle rfl hcap hεp hot (R.le (leS_lookup hS hl) (hi.tm i)) (thokS_lookup hSk hl)
  · exact {
      view := fun b' o u hu => hi.mem.view b' o u (View.less_le H b b' o u hu)
      objs := fun i x hx => by
        rcases hobn i x hx with ⟨y, hl, rfl, hle, hip, hin⟩ | ⟨rfl, rfl⟩
        · have hk := (thokB_lookup hBk hl).2
          have hok := hle.ok fun z hz => hi.mem.objs i z hz
          cases y with
          | box cs =>
            obtain ⟨g, arr, T, h1, h2, h3, h4, h5⟩ := hok
            exact ⟨g, arr, T, (hεo i hin).trans h1, h2, RL.th hlob hεq hεle rfl hcap hεp hot h3 hk, h4, fun o => by
              cases hq : H.less b g o with
              | none => rfl
              | some u => have := View.less_le H b g o u hq; rw [h5 o] at this; cases this⟩
          | perm e' sz' n' =>
            obtain ⟨u, ys, h1, h2, h3, h4⟩ := hok
            exact ⟨u, ys, (hεo i hin).trans h1, h2, h3, fun g hg => ⟨(h4 g hg).1, fun o ho => by
              cases hq : H.less b g o with
              | none => rfl
              | some u => have := View.less_le H b g o u hq; rw [(h4 g hg).2 o ho] at this; cases this⟩⟩
          | raw g q cs =>
            obtain ⟨vs, d, h1, h2, h3, h5⟩ := hok
            exact ⟨vs, d, (hεo i hin).trans h1, h2, RL.th hlob hεq hεle rfl hcap hεp hot h3 hk, fun o => by
              cases hq : H.less b g o with
              | none => rfl
              | some u => have := View.less_le H b g o u hq; rw [h5 o] at this; cases this⟩
          | gone => exact hok.elim
        · exact ⟨b, cur, e, hεq, hheap, hrl _ _, trivial, hself⟩
      dj := fun i j hi' hj' hij g hg hg' => by
        rcases hobne i hi' with ⟨a1, a2, a3⟩ | rfl
        · rw [hεo i a1] at hg
          rcases hobne j hj' with ⟨b1, b2, b3⟩ | rfl
          · rw [hεo j b1] at hg'
            exact hi.mem.dj i j a3 b3 hij g hg hg'
          · rw [hεq] at hg'; cases hg'
            exact hi.mem.dj i p a3 hne a2 _ hg hbp
        · rw [hεq] at hg; cases hg
          rcases hobne j hj' with ⟨b1, b2, b3⟩ | rfl
          · rw [hεo j b1] at hg'
            exact hi.mem.dj p j hne b3 (fun e => b2 e.symm) _ hbp hg'
          · exact hij rfl
      own := fun i hi' g hg => by
        rcases hobne i hi' with ⟨a1, a2, a3⟩ | rfl
        · rw [hεo i a1] at hg; exact hi.mem.own i a3 g hg
        · rw [hεq] at hg; cases hg; exact .inl hbnew
      os := hi.mem.os
      tape := hi.mem.tape
      output := hi.mem.output
      size := hi.mem.size
      block := hi.mem.block
      hle := ⟨fun b' o u hu => by
        have hne' : b' ≠ b := fun e => by rw [e, hi.mem.top b o hbnew] at hu; cases hu
        rw [hless b' o hne']; exact hi.mem.hle b' o u hu, hi.mem.hle.lo, hi.mem.hle.lo2, hi.mem.hle.wr⟩
      hold := fun b' o hb' hS hz => by rw [hless b' o (by omega)]; exact hi.mem.hold b' o hb' hS hz
      ele := Env.le_trans hi.mem.ele hεle
      low := hi.mem.low
      top := hi.mem.top
      lo := hi.mem.lo
      fz := fun b' o u hu hz => hi.mem.fz b' o u (View.less_le H b b' o u hu) hz
      wr := fun b' o h => by
        obtain ⟨q1, q2, q4⟩ := hi.mem.wr b' o h
        refine ⟨?_, q2, fun i hi' hg => ?_⟩
        · rw [View.less_f]; split
          · rfl
          · exact q1
        · rcases hobne i hi' with ⟨a1, a2, a3⟩ | rfl
          · rw [hεo i a1] at hg; exact q4 i a3 hg
          · rw [hεq] at hg; cases hg; exact q4 p hne hbp }
  · have hid' : nx + 16 ≤ id := hid
    rw [hεo id (by omega)]; exact hi.dom id (show nx ≤ id by omega)

theorem freeze_core {c : Ctx} {H : View} {ε : Env} {ob : Nat → Option Ob} {w : World} (hm : Mem c H ε ob w) {q off sz cap : Nat} {cs : List AV} {es : List (List AV)} (hq : ob q = some (.box cs)) (hes : (cs.drop off).take (es.length * sz) = es.flatten) (hs : ∀ x ∈ es, x.length = sz)
    (hpu : PuL es.flatten) (hone : ∀ a ∈ es.flatten, a.one = true) {v : Value} (hv : R H ε v (.bsl q off sz es.length cap)) : ∃ H', H.le H' ∧ D H' v (.sl sz es) ∧ Mem c H' ε (wo ob q .gone) w := by
  obtain ⟨b, rfl, hε, hcap, hlo⟩ := hv.bsl_inv
  obtain ⟨arr, T, hheap, hrl, _, hnone⟩ := (hm.objs q _ hq).box hε
  have hne : ob q ≠ none := by rw [hq]; simp
  have hbq : blkOf (ε q) = some b := by rw [hε]; rfl
  have hrl' := (hrl.drop off).take (es.length * sz)
  rw [hes] at hrl'
  have h1 := hrl'.one hone
  have hdl := hrl'.pu hpu
  let H' : View := { H with f := fun b' o => if b' = b then (if off ≤ o ∧ o < off + es.length * sz then arr[o]? else none) else H b' o }
  have hH : H.le H' := ⟨fun b' o u hu => by
    have : b' ≠ b := fun e => by rw [e, hnone o] at hu; cases hu
    simp only [H']; rw [if_neg this]; exact hu, rfl, rfl, rfl⟩
  have hoth : ∀ b' o, b' ≠ b → H' b' o = H b' o := fun b' o hb => by simp only [H']; rw [if_neg hb]
  have hcell : ∀ o, w.cell? ⟨b, o, none⟩ = arr[o]? := fun o => cell_of_row w b o arr T (0, 0) hheap
  refine ⟨H', hH, .sl _ _ _ _ _ hcap hs (fun _ => hlo) (DM.of_list (hdl.mono hH) (fun j u hj => ?_) h1), ?_⟩
  · have hj' : j < es.length * sz := by
      rcases Nat.lt_or_ge j (es.length * sz) with h | h
      · exact h
      · rw [List.getElem?_eq_none (by rw [List.length_take]; omega)] at hj; cases hj
    simp only [H', if_true]
    rw [if_pos ⟨by omega, by omega⟩]
    rw [List.getElem?_take_of_lt hj', List.getElem?_drop] at hj
    simpa using hj
  have hup : ∀ i, wo ob q .gone i ≠ none → i ≠ q ∧ ob i ≠ none := fun i hi => by
    rw [wo_get] at hi
    by_cases h : i = q
    · rw [if_pos h] at hi; exact absurd rfl hi
    · rw [if_neg h] at hi; exact ⟨h, hi⟩
  exact {
    view := fun b' o u hu => by
      by_cases hb : b' = b
      · subst hb
        simp only [H', if_true] at hu
        split at hu
        · rw [hcell]; exact hu
        · cases hu
      · rw [hoth b' o hb] at hu; exact hm.view b' o u hu
    objs := fun i x hx => by
      have hiq := (hup i (by rw [hx]; simp)).1
      rw [wo_get, if_neg hiq] at hx
      refine (hm.objs i x hx).ext hH (Env.le_refl ε) rfl (fun _ _ => rfl) (fun b' hb' o => hoth b' o ?_)
      intro e; subst e
      exact hm.dj i q (by rw [hx]; simp) hne hiq b' hb' hbq
    dj := fun i j hi hj => hm.dj i j (hup i hi).2 (hup j hj).2
    own := fun i hi => hm.own i (hup i hi).2
    os := hm.os
    tape := hm.tape
    output := hm.output
    size := hm.size
    block := hm.block
    hle := View.le_trans hm.hle hH
    hold := fun b' o hb' hS hz => by
      rw [hoth b' o (fun e => by
        subst e
        rcases hm.own q hne b' hbq with h | h
        · omega
        · exact hS h.1)]
      exact hm.hold b' o hb' hS hz
    ele := hm.ele
    low := hm.low
    top := hm.top
    lo := hm.lo
    fz := fun b' o u hu hz => by
      by_cases hb : b' = b
      · subst hb; exact frozen_row hheap
      · rw [hoth b' o hb] at hu; exact hm.fz b' o u hu hz
    wr := fun b' o h => by
      obtain ⟨q1, q2, q4⟩ := hm.wr b' o h
      exact ⟨by rw [hoth b' o (fun e => q4 q hne (by rw [hbq, e]))]; exact q1, q2, fun i hi => q4 i (hup i hi).2⟩ }

theorem w_freeze {P : Program} {N : Nat} {tm : Nat → AV} {ob : Nat → Option Ob} {nx : Nat} {K : Exit → St → Prop} {code : Code} (s : Nat) (es : List (List AV)) {q off sz cap n : Nat} {cs : List AV} (hs : tm s = .bsl q off sz n cap) (hq : ob q = some (.box cs)) (hn : n = es.length)
    (hes : (cs.drop off).take (es.length * sz) = es.flatten) (hl : ∀ x ∈ es, x.length = sz) (hpu : PuL es.flatten) (hone : ∀ a ∈ es.flatten, a.one = true)
    (h : Later P N code K ⟨wr tm s (.sl sz es), wo ob q .gone, nx⟩) : Tri P N code ⟨tm, ob, nx⟩ K := by
  subst hn
  intro c H ε a w hc hi Q hQ
  have hv := hi.tm s
  have hs' : (⟨tm, ob, nx⟩ : St).tm s = .bsl q off sz es.length cap := hs
  rw [hs'] at hv
  obtain ⟨H', hH, hD, hm⟩ := freeze_core hi.mem hq hes hl hpu hone hv
  refine h c H' ε a w hc ⟨hi.sz, hi.df, fun i => ?_, hm, hi.dom⟩ Q hQ
  show R H' ε _ (wr tm s (.sl sz es) i)
  rw [wr_get]
  split
  · rename_i he; subst he; exact .d _ _ hD
  · exact (hi.tm i).mono hH (Env.le_refl ε)
def LoopIn (P : Program) (N : Nat) (body : Code) (σ : St) (K : Exit → St → Prop) : Prop :=
  ∀ (c : Ctx) (H : View) (ε : Env) (a : Act) (w : World), c.N = N → Inv c H ε σ a w → ∀ Q : Exit → Act → World → Prop, (∀ e σ' H' ε' a' w', K e σ' → Inv c H' ε' σ' a' w' → Q e a' w') →
    ∀ (b : Frame) (k : List Item) (cs : List Frame), b.roundOf = (wf c.ro).round → (wf c.ro).fn b.fn → (wf c.ro).room (cs.length + 1 + 0) → ∃ e a' w', Q e a' w' ∧ ArrivesIn (Machine.fenced P (wf c.ro)) P (lone (b.atR a (.code body :: .inLoop body :: k)) cs w) b k cs e a' w'
def UnK (P : Program) (N : Nat) (body : Code) (K : Exit → St → Prop) : Exit → St → Prop
  | .normal, σ => LoopIn P N body σ K
  | e, σ => K e σ
theorem w_round {P : Program} {N : Nat} {σ : St} {K : Exit → St → Prop} {body : Code} (h : Later P N body (UnK P N body K) σ) : LoopIn P N body σ K := fun c H ε a w hc hi Q hQ => by
  intro b k cs hro hb hr
  obtain ⟨e, a₁, w₁, hq, harr⟩ := h c H ε a w hc hi (fun e a' w' => match e with | .normal => ∀ (b : Frame) (k : List Item) (cs : List Frame), b.roundOf = (wf c.ro).round → (wf c.ro).fn b.fn → (wf c.ro).room (cs.length + 1 + 0) → ∃ e a'' w'', Q e a'' w'' ∧ ArrivesIn (Machine.fenced P (wf c.ro)) P (lone (b.atR a' (.code body :: .inLoop body :: k)) cs w') b k cs e a'' w'' | e => Q e a' w') (fun e σ' H' ε' a' w' hK hi' => by
    cases e with
    | normal => exact hK c H' ε' a' w' hc hi' Q hQ
    | exit id => exact hQ _ _ _ _ _ _ hK hi'
    | goto l => exact hQ _ _ _ _ _ _ hK hi'
    | ret => exact hQ _ _ _ _ _ _ hK hi'
    | panic ch => exact hQ _ _ _ _ _ _ hK hi'
    | outgrown => exact hQ _ _ _ _ _ _ hK hi') b (.inLoop body :: k) cs hro hb hr
  cases e with
  | normal =>
    obtain ⟨e₂, a₂, w₂, hq₂, harr₂⟩ := hq b k cs hro hb hr
    exact ⟨e₂, a₂, w₂, hq₂, .of_steps (StepsIn.trans harr (.one (fenced_calm hb hr rfl) stepR_inLoop)) harr₂⟩
  | exit id => exact ⟨_, a₁, w₁, hq, .pass (x := .inLoop body) rfl (fun _ _ => .inl (by simp)) harr⟩
  | goto l => exact ⟨_, a₁, w₁, hq, .pass (x := .inLoop body) rfl (fun _ _ => .inl (by simp)) harr⟩
  | ret => exact ⟨_, a₁, w₁, hq, .pass (x := .inLoop body) rfl (fun _ _ => .inl (by simp)) harr⟩
  | panic ch => exact ⟨_, a₁, w₁, hq, .pass (x := .inLoop body) rfl (fun _ _ => .inl (by simp)) harr⟩
  | outgrown => exact ⟨_, a₁, w₁, hq, .pass (x := .inLoop body) rfl (fun _ _ => .inl (by simp)) harr⟩
theorem w_unroll {P : Program} {N : Nat} {σ : St} {K : Exit → St → Prop} {body : Code} (h : Later P N body (UnK P N body K) σ) : Tri P N (.loop body) σ K := fun c H ε a w hc hi Q hQ => by
  intro b k cs hro hb hr
  obtain ⟨e, a', w', hq, harr⟩ := w_round h c H ε a w hc hi Q hQ b k cs hro hb hr
  exact ⟨e, a', w', hq, .of_steps (.one (fenced_calm hb hr rfl) stepR_loop) harr⟩
theorem un_next {P : Program} {N : Nat} {σ : St} {K : Exit → St → Prop} {body : Code} (h : Later P N body (UnK P N body K) σ) : Out (UnK P N body K) .normal σ := w_round h
theorem un_nextS {P : Program} {N : Nat} {tm : Nat → AV} {ob : Nat → Option Ob} {nx : Nat} {K : Exit → St → Prop} {body : Code} (s : Nat) {a b : AV} (hv : tm s = a) (he : a = b) (h : Later P N body (UnK P N body K) ⟨wr tm s b, ob, nx⟩) : Out (UnK P N body K) .normal ⟨tm, ob, nx⟩ := by
  subst he; subst hv
  have e : wr tm s (tm s) = tm := by funext i; rw [wr_get]; split
                                     · rename_i h; rw [h]
                                     · rfl
  rw [e] at h
  exact w_round h
theorem un_ret {P : Program} {N : Nat} {σ : St} {K : Exit → St → Prop} {body : Code} (h : Out K .ret σ) : Out (UnK P N body K) .ret σ := h
theorem un_exit {P : Program} {N id : Nat} {σ : St} {K : Exit → St → Prop} {body : Code} (h : Out K (.exit id) σ) : Out (UnK P N body K) (.exit id) σ := h
theorem w_num {P : Program} {N : Nat} {tm : Nat → AV} {ob : Nat → Option Ob} {nx : Nat} {K : Exit → St → Prop} {code : Code} (s : Nat) {a b : AV} (hv : tm s = a) (he : a = b) (h : Later P N code K ⟨wr tm s b, ob, nx⟩) : Tri P N code ⟨tm, ob, nx⟩ K := by
  subst he; subst hv
  have e : wr tm s (tm s) = tm := by funext i; rw [wr_get]; split
                                     · rename_i h; rw [h]
                                     · rfl
  rw [e] at h
  exact h
theorem w_box {P : Program} {N : Nat} {tm : Nat → AV} {ob : Nat → Option Ob} {nx : Nat} {K : Exit → St → Prop} {code : Code} (id : Nat) {cs : List AV} (cs' : List AV) (hb : ob id = some (.box cs)) (he : cs = cs') (h : Later P N code K ⟨tm, wo ob id (.box cs'), nx⟩) : Tri P N code ⟨tm, ob, nx⟩ K := by
  subst he
  have e : wo ob id (.box cs) = ob := by
    funext i; rw [wo_get]; split
    · rename_i h; rw [h, hb]; rfl
    · rfl
  rw [e] at h
  exact h
mutual
theorem AV.th_s {p q n cap : Nat} : ∀ {l : List AV}, (∀ a ∈ l, ∃ v, a = .s v) → thL p q n cap l = l
  | [], _ => rfl
  | a :: l, h => by
    obtain ⟨v, rfl⟩ := h a (by simp)
    simp only [thL, AV.th]
    rw [AV.th_s fun b hb => h b (by simp [hb])]
end
theorem thokL_s {ob : Nat → Option Ob} {p sz0 : Nat} {es0 : List (List AV)} : ∀ {l : List AV}, (∀ a ∈ l, ∃ v, a = .s v) → thokL ob p sz0 es0 l
  | [], _ => by simp only [thokL]
  | a :: l, h => by
    obtain ⟨v, rfl⟩ := h a (by simp)
    simp only [thokL, AV.thok, true_and]
    exact thokL_s fun b hb => h b (by simp [hb])
theorem renL_append (φ : Nat → Nat) : ∀ (l m : List AV), renL φ (l ++ m) = renL φ l ++ renL φ m
  | [], _ => rfl
  | a :: l, m => by simp only [List.cons_append, renL]; rw [renL_append φ l m]
theorem renL_scal {φ : Nat → Nat} : ∀ {l : List AV}, (∀ a ∈ l, ∃ v, a = .s v) → renL φ l = l
  | [], _ => rfl
  | a :: l, h => by
    obtain ⟨v, rfl⟩ := h a (by simp)
    simp only [renL, AV.ren]
    rw [renL_scal fun b hb => h b (by simp [hb])]
theorem renL_junk (φ : Nat → Nat) : ∀ (n : Nat), renL φ (List.replicate n .junk) = List.replicate n .junk
  | 0 => rfl
  | n + 1 => by rw [List.replicate_succ]; simp only [renL, AV.ren]; rw [renL_junk φ n]
theorem ltL_append {n : Nat} : ∀ {l m : List AV}, ltL n l → ltL n m → ltL n (l ++ m)
  | [], _, _, h => h
  | a :: l, m, h, h' => by
    simp only [List.cons_append, ltL] at h ⊢
    exact ⟨h.1, ltL_append h.2 h'⟩
theorem ltL_scal {n : Nat} : ∀ {l : List AV}, (∀ a ∈ l, ∃ v, a = .s v) → ltL n l
  | [], _ => by simp only [ltL]
  | a :: l, h => by
    obtain ⟨v, rfl⟩ := h a (by simp)
    simp only [ltL, AV.lt, true_and]
    exact ltL_scal fun b hb => h b (by simp [hb])
theorem ltL_junk {k : Nat} : ∀ (n : Nat), ltL k (List.replicate n .junk)
  | 0 => by simp only [List.replicate_zero, ltL]
  | n + 1 => by rw [List.replicate_succ]; simp only [ltL, AV.lt, true_and]; exact ltL_junk n
def Pause (p : Prop) : Prop := p
theorem halt_in {P : Program} {N : Nat} {code : Code} {σ : St} {K : Exit → St → Prop} (h : Pause (Tri P N code σ K)) : Tri P N code σ K := h
theorem halt_out {p : Prop} (h : p) : Pause p := h
theorem nfL_stop {l : List AV} {k : List AV → Prop} (h : k l) : nfL l k := by rw [nfL_eq]; exact h
end Go.Sy
end
section
set_option linter.unusedVariables false
namespace Go.Sy
section
variable {P : Program} {nb : Nat} {t : TypeId} {σ : St} {K : Kont}
end

theorem Inv.only {c : Ctx} {H : View} {ε : Env} {σ : St} {a : Act} {w : World} (hi : Inv c H ε σ a w) (S : List (Nat × AV)) (B : List (Nat × Ob)) (hS : leS σ S) (hB : leB σ B) : Inv c H ε ⟨wrs (fun _ => .junk) S, wor (fun _ => none) B, σ.nx⟩ a w := by
  have hob : ∀ i x, wor (fun _ => none) B i = some x → ObLe (σ.ob i) x := fun i x hx => by
    rw [wor_lookup] at hx
    cases hl : B.lookup i with
    | none => rw [hl] at hx; cases hx
    | some y => rw [hl] at hx; cases hx; exact leB_lookup hB hl
  have hne : ∀ i, wor (fun _ => none) B i ≠ none → σ.ob i ≠ none := fun i hi' e => by
    cases hx : wor (fun _ => none) B i with
    | none => exact hi' hx
    | some x => have := hob i x hx; rw [e] at this; exact this
  refine ⟨hi.sz, hi.df, fun i => ?_, ?_, hi.dom⟩
  · show R _ _ _ (wrs (fun _ => .junk) S i)
    rw [wrs_lookup]
    cases hl : S.lookup i with
    | none => exact .junk _
    | some x => exact R.le (leS_lookup hS hl) (hi.tm i)
  · exact { hi.mem with
      objs := fun i x hx => (hob i x hx).ok fun z hz => hi.mem.objs i z hz
      dj := fun i j h1 h2 => hi.mem.dj i j (hne i h1) (hne j h2)
      own := fun i h1 => hi.mem.own i (hne i h1)
      wr := fun b o h => ⟨(hi.mem.wr b o h).1, (hi.mem.wr b o h).2.1, fun i h1 => (hi.mem.wr b o h).2.2 i (hne i h1)⟩ }
end Go.Sy
end

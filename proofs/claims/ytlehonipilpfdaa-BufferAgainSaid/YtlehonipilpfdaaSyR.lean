/- The symbolic layer, eighteenth part: the rules of the walk operation by operation. No condition. -/
import Derived.Test.YtlehonipilpfdaaSyQ
set_option linter.unusedVariables false
namespace Go.Sy

section
variable {P : Program} {T : TypeId → Option TY} {ops : Array Oper} {base nb i i' nx m : Nat} {l : List Oper} {tm : Nat → AV} {ob : Nat → Option Ob} {K : St → Prop} {d d0 g : Nat} {op : Op} {t : TypeId} {pos : String} {aft : Array Edge} {want : Bool}

/-- What comes later in the region. -/
def Reg (P : Program) (ops : Array Oper) (base : Nat) (l : List Oper) (i : Nat) (σ : St) (K : St → Prop) : Prop := regVC P ops base l i σ K

theorem w_reg {N id : Nat} {y : Code} {K : Exit → St → Prop} (hN : dstOK N l.toArray = true) (h : ∀ K1 : St → Prop, (∀ σ', Later P N y K σ' → K1 σ') → Reg P l.toArray nx l 0 ⟨tm, ob, nx⟩ K1) : Tri P N (.seq (.region id l.toArray false) y) ⟨tm, ob, nx⟩ K := go_reg hN h
theorem w_reg_end {N id : Nat} {K : Exit → St → Prop} (hN : dstOK N l.toArray = true) (h : ∀ K1 : St → Prop, (∀ σ', Out K .normal σ' → K1 σ') → Reg P l.toArray nx l 0 ⟨tm, ob, nx⟩ K1) : Tri P N (.region id l.toArray false) ⟨tm, ob, nx⟩ K := go_reg_end hN h
theorem v_nil (hm : base + 16 * i = m) (h : K ⟨tm, ob, m⟩) : Reg P ops base [] i ⟨tm, ob, nx⟩ K := by subst hm; exact h
theorem v_op (hT : TabOK P T) (hnb : base + 16 * i = nb) (hi : i + 1 = i')
    (h : ∀ K' : Kont, (∀ r deps, Reg P ops base l i' ⟨wr tm d r, ob, nx⟩ K → K' r deps []) → (∀ r deps ws, Reg P ops base l i' ⟨wr tm d r, wos ob ws, nx⟩ K → K' r deps ws) → vc T P nb op t ⟨tm, ob, nx⟩ (nfK K')) :
    Reg P ops base (⟨some d, op, t, pos, aft, none⟩ :: l) i ⟨tm, ob, nx⟩ K := by
  subst hnb hi
  have := vc_ok hT (h (fun r _ ws => regVC P ops base l (i + 1) (St.put ⟨tm, ob, nx⟩ (some d) r ws) K) ?_ ?_)
  · rw [nfK_eq] at this; exact this
  · intro r deps h; unfold Reg at h; rw [← wr_upd] at h; exact h
  · intro r deps ws h; unfold Reg at h; rw [← wr_upd, ← wos_upd] at h; exact h
theorem v_op0 (hT : TabOK P T) (hnb : base + 16 * i = nb) (hi : i + 1 = i')
    (h : ∀ K' : Kont, (∀ r deps, Reg P ops base l i' ⟨tm, ob, nx⟩ K → K' r deps []) → (∀ r deps ws, Reg P ops base l i' ⟨tm, wos ob ws, nx⟩ K → K' r deps ws) → vc T P nb op t ⟨tm, ob, nx⟩ (nfK K')) :
    Reg P ops base (⟨none, op, t, pos, aft, none⟩ :: l) i ⟨tm, ob, nx⟩ K := by
  subst hnb hi
  have := vc_ok hT (h (fun r _ ws => regVC P ops base l (i + 1) (St.put ⟨tm, ob, nx⟩ none r ws) K) ?_ ?_)
  · rw [nfK_eq] at this; exact this
  · intro r deps h; exact h
  · intro r deps ws h; unfold Reg at h; rw [← wos_upd] at h; exact h
/-- A guarded operation: the guard is not known. -/
theorem v_grd {b : Bool} (hg : gdst ops g = some d0) (hb : tm d0 = .s (.bool b)) (hi : i + 1 = i') (h1 : b = want → Reg P ops base (⟨some d, op, t, pos, aft, none⟩ :: l) i ⟨wr tm d0 (.s (.bool want)), ob, nx⟩ K)
    (h2 : b = (!want) → Reg P ops base l i' ⟨wr (wr tm d0 (.s (.bool (!want)))) d (.tup []), ob, nx⟩ K) : Reg P ops base (⟨some d, op, t, pos, aft, some (g, want)⟩ :: l) i ⟨tm, ob, nx⟩ K := by
  subst hi
  simp only [← wr_upd] at h1 h2
  show regVC P ops base (⟨some d, op, t, pos, aft, some (g, want)⟩ :: l) i ⟨tm, ob, nx⟩ K
  unfold regVC
  simp only [hg, hb]
  exact ⟨h1, h2⟩
theorem v_grd_yes (hg : gdst ops g = some d0) (hb : tm d0 = .s (.bool want)) (h1 : Reg P ops base (⟨some d, op, t, pos, aft, none⟩ :: l) i ⟨tm, ob, nx⟩ K) : Reg P ops base (⟨some d, op, t, pos, aft, some (g, want)⟩ :: l) i ⟨tm, ob, nx⟩ K := by
  have hs : wr tm d0 (.s (.bool want)) = tm := by
    rw [← wr_upd]; funext j; unfold upd; split
    · rename_i h; rw [h, hb]
    · rfl
  refine v_grd hg hb rfl (fun _ => by rw [hs]; exact h1) (fun h => ?_)
  cases want <;> cases h
theorem v_grd_no (hg : gdst ops g = some d0) (hb : tm d0 = .s (.bool (!want))) (hi : i + 1 = i') (h2 : Reg P ops base l i' ⟨wr tm d (.tup []), ob, nx⟩ K) : Reg P ops base (⟨some d, op, t, pos, aft, some (g, want)⟩ :: l) i ⟨tm, ob, nx⟩ K := by
  have hs : wr tm d0 (.s (.bool (!want))) = tm := by
    rw [← wr_upd]; funext j; unfold upd; split
    · rename_i h; rw [h, hb]
    · rfl
  refine v_grd hg hb hi (fun h => ?_) (fun _ => by rw [hs]; exact h2)
  cases want <;> cases h
theorem v_grd_undef (hg : gdst ops g = some d0) (hb : tm d0 = .tup []) (hi : i + 1 = i') (h2 : Reg P ops base l i' ⟨wr tm d (.tup []), ob, nx⟩ K) : Reg P ops base (⟨some d, op, t, pos, aft, some (g, want)⟩ :: l) i ⟨tm, ob, nx⟩ K := by
  subst hi
  rw [← wr_upd] at h2
  show regVC P ops base (⟨some d, op, t, pos, aft, some (g, want)⟩ :: l) i ⟨tm, ob, nx⟩ K
  unfold regVC
  simp only [hg, hb]
  exact h2
end

/-! ### Tables of types -/
def nth : List (Option TY) → Nat → Option TY
  | [], _ => none
  | a :: _, 0 => a
  | _ :: l, n + 1 => nth l n
def TabL (P : Program) (k : Nat) : List (Option TY) → Prop
  | [] => True
  | none :: l => TabL P (k + 1) l
  | some U :: l => ty P k = some U ∧ TabL P (k + 1) l
theorem tabL_nth {P : Program} : ∀ (l : List (Option TY)) (k : Nat), TabL P k l → ∀ n U, nth l n = some U → ty P (k + n) = some U
  | [], _, _, _, _, h => by cases h
  | none :: l, k, hl, 0, _, h => by cases h
  | some V :: l, k, hl, 0, U, h => by cases h; exact hl.1
  | none :: l, k, hl, n + 1, U, h => by have := tabL_nth l (k + 1) hl n U h; rwa [Nat.add_right_comm] at this
  | some V :: l, k, hl, n + 1, U, h => by have := tabL_nth l (k + 1) hl.2 n U h; rwa [Nat.add_right_comm] at this
theorem tabL_ok {P : Program} (l : List (Option TY)) (h : TabL P 0 l) : TabOK P (nth l) := fun t U ht => by have := tabL_nth l 0 h t U ht; rwa [Nat.zero_add] at this

/-! ### Results -/
def resT (T : TypeId → Option TY) (σ : St) : ResultVar → Option AV
  | .tmp t => some (σ.tm t)
  | .cell a t => match T t, σ.tm a with
    | some U, .ptr id off => (match σ.ob id with | some (.box cs) => (match (U.kd.agg || Nat.beq U.n 1) && Nat.ble (off + U.n) cs.length with | true => some (ofCells U.kd.agg ((cs.drop off).take U.n)) | false => none) | _ => none)
    | _, _ => none
def resTL (T : TypeId → Option TY) (σ : St) : List ResultVar → Option (List AV)
  | [] => some []
  | r :: l => match resT T σ r, resTL T σ l with
    | some a, some m => some (a :: m)
    | _, _ => none
theorem resT_ok {P : Program} {T : TypeId → Option TY} (hT : TabOK P T) {σ : St} {r : ResultVar} {a : AV} (h : resT T σ r = some a) : resAV P σ r = some a := by
  cases r with
  | tmp t => exact h
  | cell b t =>
    simp only [resT] at h
    simp only [resAV]
    cases hU : T t with
    | none => rw [hU] at h; cases h
    | some U =>
      rw [hU] at h; rw [hT _ _ hU]
      cases hb : σ.tm b <;> rw [hb] at h <;> simp only at h ⊢ <;> try cases h
      rename_i id off
      cases ho : σ.ob id with
      | none => rw [ho] at h; cases h
      | some x =>
        rw [ho] at h
        cases x with
        | perm e sz n => cases h
        | gone => cases h
        | box cs =>
          simp only at h ⊢
          split at h
          · rename_i hc
            have : ((U.kd.agg || U.n == 1) && decide (off + U.n ≤ cs.length)) = true := by
              simp only [Bool.and_eq_true, Bool.or_eq_true, decide_eq_true_eq, beq_iff_eq, Nat.beq_eq, Nat.ble_eq] at hc ⊢
              exact hc
            rw [if_pos this]; exact h
          · cases h
theorem resTL_ok {P : Program} {T : TypeId → Option TY} (hT : TabOK P T) {σ : St} : ∀ {rs : List ResultVar} {l : List AV}, resTL T σ rs = some l → resL P σ rs = some l
  | [], _, h => h
  | r :: rs, l, h => by
    simp only [resTL] at h
    simp only [resL]
    split at h
    · rename_i a m ha hm; rw [resT_ok hT ha, resTL_ok hT hm]; exact h
    · cases h
def retN (T : TypeId → Option TY) (σ : St) (rs : List ResultVar) (k : AV → Prop) : Prop := match resTL T σ rs with
  | some [a] => a.nf k
  | some l => nfL l fun l => k (.tup l)
  | none => False
theorem retN_ok {P : Program} {T : TypeId → Option TY} (hT : TabOK P T) {σ : St} {rs : List ResultVar} {r : AV} (h : ∀ K' : AV → Prop, (∀ a, Le a r → K' a) → retN T σ rs K') : retVC P rs σ r := by
  have h := h (fun a => Le a r) fun _ h => h
  unfold retN at h
  unfold retVC
  split at h
  · rename_i a ha; rw [resTL_ok hT ha]; simp only [nf_eq] at h; exact h
  · rename_i l hn ha
    rw [resTL_ok hT ha]
    rw [nfL_eq] at h
    split
    · rename_i b hb; exact (hn b (by simpa using hb)).elim
    · rename_i l' _ hl; cases hl; exact h
    · rename_i hl; cases hl
  · exact h.elim
theorem w_ret {P : Program} {T : TypeId → Option TY} (hT : TabOK P T) {σ : St} {rs : List ResultVar} {r : AV} (h : ∀ K' : AV → Prop, (∀ a, Le a r → K' a) → retN T σ rs K') : Out (retK P rs r) .ret σ := retN_ok hT h
theorem w_ret_end {P : Program} {T : TypeId → Option TY} (hT : TabOK P T) {σ : St} {rs : List ResultVar} {r : AV} (h : ∀ K' : AV → Prop, (∀ a, Le a r → K' a) → retN T σ rs K') : Out (retK P rs r) .normal σ := retN_ok hT h

/-- A function's beginning. -/
theorem v_pspec {P : Program} {f : FuncId} {fn : Func} {code : Code} {args : List AV} {r : AV} {N : Nat} (hf : P.funcs[f]? = some fn) (hb : fn.body = some code) (hN : fn.ntmps = N) {rs : Array ResultVar} (hr : fn.results = rs) (hn : args.length ≤ N) (hpu : Pu r)
    (h : Later P N code (retK P rs.toList r) ⟨slots args, fun _ => none, 0⟩) : PSpec P f args r := by
  subst hr
  refine pspec_of_tri hf hb hN hn hpu ?_
  have e : St.start args = ⟨slots args, fun _ => none, 0⟩ := by
    unfold St.start; congr 1; funext i; exact slots_get args i
  rw [e]; exact h
theorem v_cspec {P : Program} {f : FuncId} {fn : Func} {code : Code} {args : List AV} {obs obs' : List Ob} {r : AV} {N : Nat} (hf : P.funcs[f]? = some fn) (hb : fn.body = some code) (hN : fn.ntmps = N) {rs : Array ResultVar} (hr : fn.results = rs) (hn : args.length ≤ N) {k : Nat} (hk : obs.length = k)
    (h : Later P N code (retO P rs.toList k r obs') ⟨slots args, obF obs, k⟩) : CSpec P f args obs r obs' := by
  subst hr hk
  refine cspec_of_tri hf hb hN hn ?_
  have e : St.startO args obs = ⟨slots args, obF obs, obs.length⟩ := by
    unfold St.startO; congr 1; funext i; exact slots_get args i
  rw [e]; exact h
end Go.Sy

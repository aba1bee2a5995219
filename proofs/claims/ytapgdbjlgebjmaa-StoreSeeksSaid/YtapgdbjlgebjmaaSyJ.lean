/- The symbolic layer, tenth part: regions in order, and the rules for code. No condition. -/
import Derived.Test.YtapgdbjlgebjmaaSyI
set_option linter.unusedVariables false
namespace Go.Sy

section
variable {P : Program} {nb : Nat} {t : TypeId} {σ : St} {K : Kont}

def Bnd (ev : Operand → AV) (x : Option Operand) (d n : Nat) : Prop := match x with
  | some y => ∃ k, ev y = .s (.int k n)
  | none => n = d
theorem bound_some {x : Option Operand} {ev : Operand → AV} {d : Nat} {K' : Nat → Prop} (h : bound (x.map ev) d K') : ∃ n, K' n ∧ Bnd ev x d n := by
  cases x with
  | none => exact ⟨d, h, rfl⟩
  | some y =>
    simp only [Option.map_some, bound] at h
    split at h
    · rename_i k n hy
      have hy' : ev y = .s (.int k n) := by simpa using hy
      refine ⟨n.toNat, h.2, k, ?_⟩
      rw [hy', Int.toNat_of_nonneg h.1]
    · exact h.elim
    · rename_i hy; simp at hy

theorem good_slc {t' : TypeId} {x : Operand} {lo hi : Option Operand} (h : slcVC P (ty P t') (σ.ev x) (lo.map σ.ev) (hi.map σ.ev) K) : Good P nb (.slice t' x lo hi none) t σ K := by
  have hops : ∀ σ' : St, (∀ y ∈ (Op.slice t' x lo hi none).operands.toList, σ'.ev y = σ.ev y) → σ'.ev x = σ.ev x ∧ (∀ y, lo = some y → σ'.ev y = σ.ev y) ∧ (∀ y, hi = some y → σ'.ev y = σ.ev y) := by
    intro σ' hx
    refine ⟨hx x (by simp [Op.operands]), fun y hy => hx y (by subst hy; simp [Op.operands]), fun y hy => hx y (by subst hy; simp [Op.operands])⟩
  have lift : ∀ (σ' : St) (z : Option Operand) (n d : Nat), (∀ y, z = some y → σ'.ev y = σ.ev y) → Bnd σ.ev z d n → Bnd σ'.ev z d n := by
    intro σ' z n d hz h
    cases z with
    | none => exact h
    | some y => obtain ⟨k, hk⟩ := h; exact ⟨k, (hz y rfl).trans hk⟩
  unfold slcVC at h
  split at h
  · rename_i T hT
    split at h
    · rename_i s hk hx
      obtain ⟨l, h, hl⟩ := bound_some h
      obtain ⟨u, h, hu⟩ := bound_some h
      refine .plain (fun σ' hx' => ?_) h.2.2
      obtain ⟨e1, e2, e3⟩ := hops σ' hx'
      exact opS_slice_str t' x lo hi T s l u hT hk (e1.trans hx) (lift σ' lo l 0 e2 hl) (lift σ' hi u _ e3 hu) h.1 h.2.1
    · rename_i e hk
      split at h
      · rename_i U hU
        split at h
        · rename_i es hes
          obtain ⟨l, h, hl⟩ := bound_some h
          obtain ⟨u, h, hu⟩ := bound_some h
          refine .plain (fun σ' hx' => ?_) h.2.2
          obtain ⟨e1, e2, e3⟩ := hops σ' hx'
          exact opS_slice_rows t' x lo hi T U e U.n es l u hT hk hU rfl (by rw [e1]; exact hes) (lift σ' lo l 0 e2 hl) (lift σ' hi u _ e3 hu) h.1 h.2.1
        · exact h.elim
      · exact h.elim
    · exact h.elim
  · exact h.elim

theorem good_fn {f : Fn} {first caps : Array Operand} (hK : K (.fn f (first.toList.map σ.ev) (caps.toList.map σ.ev)) [] []) : Good P nb (.makeFunc f first caps) t σ K := by
  have mapL : ∀ {H : View} {ε : Env} {ρ : Operand → Value} {σ' : St} (hr : ∀ x, R H ε (ρ x) (σ'.ev x)) (l : List Operand), RL H ε (l.map ρ) (l.map σ'.ev) := by
    intro H ε ρ σ' hr l
    induction l with
    | nil => exact .nil
    | cons y ys ih => exact .cons _ _ _ _ (hr y) ih
  refine .plain (fun σ' hx => ?_) hK
  have e1 : first.toList.map σ.ev = first.toList.map σ'.ev := List.map_congr_left fun y hy => (hx y (by simp [Op.operands]; exact .inl (by simpa using hy))).symm
  have e2 : caps.toList.map σ.ev = caps.toList.map σ'.ev := List.map_congr_left fun y hy => (hx y (by simp [Op.operands]; exact .inr (by simpa using hy))).symm
  rw [e1, e2]
  refine .pure fun c H ε ρ w o ho _ hm hr => ⟨.func f (first.map ρ) (caps.map ρ), by simp [execOp, ho, Instr.makeFunc], ?_⟩
  have e : ∀ l : Array Operand, l.map ρ = (l.toList.map ρ).toArray := fun l => by rw [← Array.toList_map, Array.toArray_toList]
  rw [e, e]
  exact R.fn f _ _ _ _ (mapL hr first.toList) (mapL hr caps.toList)

theorem opVC_sound {op : Op} (h : opVC P nb op t σ K) : Good P nb op t σ K := by
  unfold opVC at h
  split at h
  · exact .plain (fun σ' hx => by rw [← hx _ (by simp [Op.operands])]; exact opS_move _) h
  · exact .plain (fun σ' hx => by rw [← hx _ (by simp [Op.operands])]; exact opS_assign _) h
  · exact good_pick h
  · exact good_ext h
  · exact good_un h
  · exact good_bin h
  · exact good_load h
  · exact good_store h
  · exact good_alloc h
  · exact good_box h
  · exact good_build h
  · exact good_lit h
  · exact good_nil h
  · exact good_fldAddr h
  · exact good_fld h
  · exact good_idxAddr h
  · exact good_idx h
  · exact good_slc h
  · exact good_conv h
  · exact good_fn h
  · exact good_len h
  · obtain ⟨rfl, h⟩ := h; exact good_app h
  · split at h
    · exact h
    · exact h.elim
  · exact h

/-- The contract of a function that only makes new memory, at a call. -/
theorem callV_pure {f : FuncId} {x : Operand} {args : Array Operand} {ts : Array TypeId} {first caps avs : List AV} {args' : List AV} {r : AV} (ho : Own P f) (hs : PSpec P f args' r) (hx : σ.ev x = .fn (.func f) first caps) (he : avs = first ++ args.toList.map σ.ev ++ caps)
    (hle : LeL avs args') (hpu : PuL args') (hK : K r [] []) : CallV P nb (.call { callee := .value x, args, argTypes := ts }) t f avs σ K := by
  obtain ⟨fn, h1, h2, h3⟩ := ho
  subst he
  refine ⟨r, [], [], fun σ' hx' _ => ?_, hK⟩
  have e0 : σ'.ev x = σ.ev x := hx' x (by simp [Op.operands, Call.operands])
  have e1 : args.toList.map σ'.ev = args.toList.map σ.ev := List.map_congr_left fun y hy => hx' y (by simp [Op.operands, Call.operands]; exact .inr (by simpa using hy))
  have := opS_callPure (P := P) (nb := nb) (t := t) (σ := σ') f fn x args.toList ts first caps args' r h1 h2 h3 (e0.trans hx) (by rw [e1]; exact hle) hpu hs
  simpa [applyW] using this
end

/-- A slot written. -/
def upd (tm : Nat → AV) (d : Nat) (r : AV) : Nat → AV := fun j => if j = d then r else tm j
theorem upd_get (tm : Nat → AV) (d : Nat) (r : AV) (i : Nat) : upd tm d r i = if i = d then r else tm i := rfl
theorem updOb_get (ob : Nat → Option Ob) (d : Nat) (r : Ob) (i : Nat) : updOb ob d r i = if i = d then some r else ob i := rfl
/-- The state behind an operation. -/
def St.put (σ : St) (dst : Option Tmp) (r : AV) (ws : List (Nat × Ob)) : St := { σ with tm := match dst with | some d => upd σ.tm d r | none => σ.tm, ob := applyW σ.ob ws }
/-- A slot known better. -/
def St.know (σ : St) (d : Nat) (r : AV) : St := { σ with tm := upd σ.tm d r }

def gdst (ops : Array Oper) (g : Nat) : Option Nat := (ops[g]?).bind (·.dst)

/-- What is to be shown of operations in order. -/
def regVC (P : Program) (ops : Array Oper) (base : Nat) : List Oper → Nat → St → (St → Prop) → Prop
  | [], n, σ, K => K { σ with nx := base + 16 * n }
  | o :: l, i, σ, K =>
    match o.guard with
    | none => opVC P (base + 16 * i) o.op o.type σ fun r _ ws => regVC P ops base l (i + 1) (σ.put o.dst r ws) K
    | some (g, want) =>
      match gdst ops g with
      | some d =>
        match σ.tm d with
        | .s (.bool b) =>
          (b = want → opVC P (base + 16 * i) o.op o.type (σ.know d (.s (.bool want))) fun r _ ws => regVC P ops base l (i + 1) ((σ.know d (.s (.bool want))).put o.dst r ws) K) ∧
          (b = (!want) → regVC P ops base l (i + 1) ((σ.know d (.s (.bool (!want)))).put o.dst (.tup []) []) K)
        | .tup [] => regVC P ops base l (i + 1) (σ.put o.dst (.tup []) []) K
        | _ => False
      | none => False

def dstOK (N : Nat) (ops : Array Oper) : Bool := ops.all fun o => match o.dst with | some d => decide (d < N) | none => true

theorem know_same {σ : St} {d : Nat} {r : AV} (h : σ.tm d = r) : σ.know d r = σ := by
  unfold St.know
  cases σ with
  | mk tm ob nx =>
    simp only [St.mk.injEq, and_true]
    funext j
    unfold upd
    split
    · rename_i hj; subst hj; exact h.symm
    · rfl

/-- All but the numbers: the slots read so, memory is so. -/
structure Inv0 (c : Ctx) (H : View) (ε : Env) (σ : St) (a : Act) (w : World) : Prop where
  sz : a.tmps.size = c.N
  df : a.defers = []
  tm : ∀ i, R H ε (a.tmps.getD i undef) (σ.tm i)
  mem : Mem c H ε σ.ob w

theorem put_tm {H' : View} {ε' : Env} {σ : St} {a : Act} {dst : Option Tmp} {v : Value} {r : AV} {ws : List (Nat × Ob)} (hd : ∀ d, dst = some d → d < a.tmps.size) (h : ∀ i, R H' ε' (a.tmps.getD i undef) (σ.tm i)) (hv : R H' ε' v r) :
    ∀ i, R H' ε' ((a.put dst v).tmps.getD i undef) ((σ.put dst r ws).tm i) := by
  intro i
  cases dst with
  | none => simpa [Act.put, St.put] using h i
  | some d =>
    have hlt := hd d rfl
    by_cases hi : d = i
    · subst hi
      simpa [Act.put, St.put, upd, hlt] using hv
    · have h2 : (a.tmps.setIfInBounds d v).getD i undef = a.tmps.getD i undef := by
        simp only [Array.getD_eq_getD_getElem?, Array.getElem?_setIfInBounds, if_neg hi]
      have hi' : ¬ i = d := fun e => hi e.symm
      simpa [Act.put, St.put, upd, hi', h2] using h i

theorem reg_sound {P : Program} {ops : Array Oper} {base : Nat} {c : Ctx} {Q : Exit → Act → World → Prop} (hN : dstOK c.N ops = true) : ∀ (l : List Oper) (i : Nat) (σ : St) (K : St → Prop) (H : View) (ε : Env) (a : Act) (w : World),
    ops.toList.drop i = l → regVC P ops base l i σ K → Inv0 c H ε σ a w → (∀ id, base + 16 * i ≤ id → ε id = none) →
      (∀ σ' H' ε' a' w', K σ' → Inv c H' ε' σ' a' w' → Q .normal a' w') → wpOps P ops Q (List.range' i l.length) a w
  | [], i, σ, K, H, ε, a, w, hd, h, hi, hdom, hQ => by
    simp only [List.length_nil, List.range'_zero, wpOps]
    exact hQ _ H ε a w h ⟨hi.sz, hi.df, hi.tm, hi.mem, hdom⟩
  | o :: l, i, σ, K, H, ε, a, w, hd, h, hi, hdom, hQ => by
    have hoi : ops[i]? = some o := by
      have := congrArg List.head? hd
      simpa using this
    have hd' : ops.toList.drop (i + 1) = l := by
      have := congrArg List.tail hd
      simpa using this
    have hdst : ∀ d, o.dst = some d → d < a.tmps.size := by
      intro d hdd
      rw [hi.sz]
      have hmem : o ∈ ops := Array.mem_of_getElem? hoi
      have := (Array.all_eq_true_iff_forall_mem.1 hN) o hmem
      simpa [hdd] using this
    have hdf : ∀ (dst : Option Tmp) (v : Value), (a.put dst v).defers = [] := fun dst v => by cases dst <;> exact hi.df
    have hsz : ∀ (dst : Option Tmp) (v : Value), (a.put dst v).tmps.size = c.N := fun dst v => by cases dst <;> simp [Act.put, hi.sz]
    -- the operation is done
    have did : ∀ σ1 : St, (∀ j, R H ε (a.tmps.getD j undef) (σ1.tm j)) → σ1.ob = σ.ob → (opVC P (base + 16 * i) o.op o.type σ1 fun r _ ws => regVC P ops base l (i + 1) (σ1.put o.dst r ws) K) →
        o.wp P a w (wpOps P ops Q (List.range' (i + 1) l.length)) Q := by
      intro σ1 htm hob hvc
      obtain ⟨r, deps, ws, hok, hK⟩ := opVC_sound hvc
      have hop := hok σ1 (fun _ _ => rfl) (fun _ _ => rfl)
      refine hop c H ε a w o rfl rfl (by rw [hob]; exact hi.mem) htm (fun id h1 h2 => hdom id h1) _ Q ?_
      intro v w' H' ε' hH hε hfr hv hm
      refine reg_sound hN l (i + 1) _ K H' ε' (a.put o.dst v) w' hd' hK ⟨hsz _ _, hdf _ _, ?_, hm⟩ ?_ hQ
      · exact put_tm hdst (fun j => (htm j).mono hH hε) hv
      · intro id hid
        exact hfr id (hdom id (by omega)) (by omega)
    -- the operation is passed over
    have passed : ∀ σ1 : St, (∀ j, R H ε (a.tmps.getD j undef) (σ1.tm j)) → σ1.ob = σ.ob → regVC P ops base l (i + 1) (σ1.put o.dst (.tup []) []) K → wpOps P ops Q (List.range' (i + 1) l.length) (a.put o.dst undef) w := by
      intro σ1 htm hob hK
      refine reg_sound hN l (i + 1) _ K H ε (a.put o.dst undef) w hd' hK ⟨hsz _ _, hdf _ _, ?_, ?_⟩ (fun id hid => hdom id (by omega)) hQ
      · exact put_tm hdst htm (.d _ _ (.tup [] [] .nil))
      · have : (σ1.put o.dst (.tup []) []).ob = σ.ob := hob
        rw [this]; exact hi.mem
    rw [List.length_cons, List.range'_succ]
    simp only [wpOps, hoi]
    unfold regVC at h
    split at h
    · rename_i hg
      have hw : Region.wanted o (yielded ops a.tmps) = true := by simp [Region.wanted, hg]
      rw [if_pos hw]
      exact .inl (did σ hi.tm rfl h)
    · rename_i g want hg
      split at h
      · rename_i d hgd
        have hy : yielded ops a.tmps g = (match a.tmps[d]? with | some (.bool b) => some b | _ => none) := by
          unfold yielded
          unfold gdst at hgd
          rw [hgd]; rfl
        split at h
        · rename_i b hb
          have hv := hi.tm d
          rw [hb] at hv
          have hv' := hv.s_inv.1
          have hget : a.tmps[d]? = some (.bool b) := by
            rw [Array.getD_eq_getD_getElem?] at hv'
            cases hq : a.tmps[d]? with
            | none => rw [hq] at hv'; cases hv'
            | some u => rw [hq] at hv'; simp at hv'; rw [hv']
          have hyb : yielded ops a.tmps g = some b := by rw [hy, hget]
          by_cases hbw : b = want
          · have hw : Region.wanted o (yielded ops a.tmps) = true := by simp [Region.wanted, hg, hyb, hbw]
            rw [if_pos hw]
            have hk : σ.know d (.s (.bool want)) = σ := know_same (by rw [hb, hbw])
            have h1 := h.1 hbw
            rw [hk] at h1
            exact .inl (did σ hi.tm rfl h1)
          · have hw : ¬ Region.wanted o (yielded ops a.tmps) = true := by simp [Region.wanted, hg, hyb, hbw]
            rw [if_neg hw]
            have hbn : b = (!want) := by cases b <;> cases want <;> simp_all
            have hk : σ.know d (.s (.bool (!want))) = σ := know_same (by rw [hb, hbn])
            have h2 := h.2 hbn
            rw [hk] at h2
            exact passed σ hi.tm rfl h2
        · rename_i hb
          have hv := hi.tm d
          rw [hb] at hv
          obtain ⟨vs, hv', hl⟩ := hv.tup_inv
          cases hl
          have hyn : yielded ops a.tmps g = none := by
            rw [hy]
            rw [Array.getD_eq_getD_getElem?] at hv'
            cases hq : a.tmps[d]? with
            | none => rfl
            | some u => rw [hq] at hv'; simp at hv'; rw [hv']
          have hw : ¬ Region.wanted o (yielded ops a.tmps) = true := by simp [Region.wanted, hg, hyn]
          rw [if_neg hw]
          exact passed σ hi.tm rfl h
        · exact h.elim
      · exact h.elim

/-- CODE DOES SO: from a state σ each way out is one that K names. -/
def Tri (P : Program) (N : Nat) (code : Code) (σ : St) (K : Exit → St → Prop) : Prop :=
  ∀ (c : Ctx) (H : View) (ε : Env) (a : Act) (w : World), c.N = N → Inv c H ε σ a w → ∀ Q : Exit → Act → World → Prop, (∀ e σ' H' ε' a' w', K e σ' → Inv c H' ε' σ' a' w' → Q e a' w') → code.wp P Q a w

section
variable {P : Program} {N : Nat} {σ : St} {K : Exit → St → Prop}

theorem tri_skip (h : K .normal σ) : Tri P N .skip σ K := fun c H ε a w _ hi Q hQ => wp_skip (hQ _ σ H ε a w h hi)
theorem tri_ret (h : K .ret σ) : Tri P N .ret σ K := fun c H ε a w _ hi Q hQ => wp_ret (hQ _ σ H ε a w h hi)
theorem tri_exit {id : Nat} (h : K (.exit id) σ) : Tri P N (.exit id) σ K := fun c H ε a w _ hi Q hQ => wp_exit (hQ _ σ H ε a w h hi)
theorem tri_mono {code : Code} {K' : Exit → St → Prop} (h : Tri P N code σ K) (hk : ∀ e σ', K e σ' → K' e σ') : Tri P N code σ K' := fun c H ε a w hc hi Q hQ => h c H ε a w hc hi Q fun e σ' H' ε' a' w' hK hi' => hQ e σ' H' ε' a' w' (hk e σ' hK) hi'

/-- What a way out leads to behind a first part. -/
def SeqK (P : Program) (N : Nat) (y : Code) (K : Exit → St → Prop) : Exit → St → Prop
  | .normal, σ => Tri P N y σ K
  | e, σ => K e σ
theorem tri_seq {x y : Code} (h : Tri P N x σ (SeqK P N y K)) : Tri P N (.seq x y) σ K := fun c H ε a w hc hi Q hQ => by
  refine wp_seq (h c H ε a w hc hi _ fun e σ' H' ε' a' w' hK hi' => ?_)
  cases e with
  | normal => exact hK c H' ε' a' w' hc hi' Q hQ
  | exit id => exact hQ _ σ' H' ε' a' w' hK hi'
  | goto l => exact hQ _ σ' H' ε' a' w' hK hi'
  | ret => exact hQ _ σ' H' ε' a' w' hK hi'
  | panic ch => exact hQ _ σ' H' ε' a' w' hK hi'
  | outgrown => exact hQ _ σ' H' ε' a' w' hK hi'
def BlockK (id : Nat) (K : Exit → St → Prop) : Exit → St → Prop
  | .exit id', σ => if id' = id then K .normal σ else K (.exit id') σ
  | e, σ => K e σ
theorem tri_block {id : Nat} {x : Code} (h : Tri P N x σ (BlockK id K)) : Tri P N (.block id x) σ K := fun c H ε a w hc hi Q hQ => by
  refine wp_block (h c H ε a w hc hi _ fun e σ' H' ε' a' w' hK hi' => ?_)
  cases e with
  | exit id' =>
    simp only [BlockK] at hK
    simp only [Exit.inBlock]
    split
    · rename_i he; rw [if_pos he] at hK; exact hQ _ σ' H' ε' a' w' hK hi'
    · rename_i he; rw [if_neg he] at hK; exact hQ _ σ' H' ε' a' w' hK hi'
  | normal => exact hQ _ σ' H' ε' a' w' hK hi'
  | goto l => exact hQ _ σ' H' ε' a' w' hK hi'
  | ret => exact hQ _ σ' H' ε' a' w' hK hi'
  | panic ch => exact hQ _ σ' H' ε' a' w' hK hi'
  | outgrown => exact hQ _ σ' H' ε' a' w' hK hi'
/-- What is to be shown of a test. -/
def condVC (P : Program) (N : Nat) (v : AV) (x y : Code) (σ : St) (K : Exit → St → Prop) : Prop := match v with
  | .s (.bool b) => (b = true → Tri P N x σ K) ∧ (b = false → Tri P N y σ K)
  | _ => False
theorem tri_cond {o : Operand} {x y : Code} (h : condVC P N (σ.ev o) x y σ K) : Tri P N (.cond o x y) σ K := fun c H ε a w hc hi Q hQ => by
  unfold condVC at h
  split at h
  · rename_i b hb
    have hv := R_ev hi.tm o
    rw [hb] at hv
    refine wp_cond_split hv.s_inv.1 (fun e => ?_) (fun e => ?_)
    · exact h.1 e c H ε a w hc hi Q hQ
    · exact h.2 e c H ε a w hc hi Q hQ
  · exact h.elim
theorem tri_region {id : Nat} {ops : Array Oper} (hN : dstOK N ops = true) (h : regVC P ops σ.nx ops.toList 0 σ (K .normal)) : Tri P N (.region id ops false) σ K := fun c H ε a w hc hi Q hQ => by
  refine wp_region ?_
  have := reg_sound (P := P) (ops := ops) (base := σ.nx) (c := c) (Q := Q) (by rw [hc]; exact hN) ops.toList 0 σ (K .normal) H ε a w (by simp) h ⟨hi.sz, hi.df, hi.tm, hi.mem⟩ (fun id hid => hi.dom id (by simpa using hid)) (fun σ' H' ε' a' w' hK hi' => hQ _ σ' H' ε' a' w' hK hi')
  simpa [List.range_eq_range'] using this
/-- A region in order, and what comes behind it. -/
theorem tri_seq_region {id : Nat} {ops : Array Oper} {y : Code} (hN : dstOK N ops = true) (h : ∀ K1 : St → Prop, (∀ σ', Tri P N y σ' K → K1 σ') → regVC P ops σ.nx ops.toList 0 σ K1) : Tri P N (.seq (.region id ops false) y) σ K :=
  tri_seq (tri_region hN (h _ fun _ h => h))
/-- Anything, and what comes behind it. -/
theorem tri_seq_k {x y : Code} (h : ∀ K1 : Exit → St → Prop, (∀ σ', Tri P N y σ' K → K1 .normal σ') → (∀ e σ', K e σ' → e ≠ .normal → K1 e σ') → Tri P N x σ K1) : Tri P N (.seq x y) σ K :=
  tri_seq (h _ (fun _ h => h) fun e σ' hk hne => by cases e <;> first | exact absurd rfl hne | exact hk)
end
end Go.Sy

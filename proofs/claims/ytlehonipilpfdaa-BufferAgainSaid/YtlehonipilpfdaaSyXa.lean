/- The symbolic layer: calls that may panic. No condition. -/
import Derived.Test.YtlehonipilpfdaaSyZc
set_option linter.unusedVariables false
namespace Go.Sy
/-- The contract of a function that is handed objects, whatever way it ends. -/
def CSpecG (P : Program) (f : FuncId) (args : List AV) (obs : List Ob) (E : View → Env → Ending → Prop) (obs' : List Ob) : Prop :=
  ∀ (w : World) (H : View) (ε : Env) (vs : List Value), Mem (callCtx w H ε obs.length) H ε (obF obs) w → RL H ε vs args → (∀ id, obs.length ≤ id → ε id = none) →
    Calls P f vs.toArray w fun e w' => ∃ H' ε', E H' ε' e ∧ H.le H' ∧ ε.le ε' ∧ (∀ id, obs'.length ≤ id → ε' id = none) ∧ Mem (callCtx w H ε obs.length) H' ε' (obF obs') w'
/-- THE CONTRACT OF A CALL THAT PANICS. -/
def XSpec (P : Program) (f : FuncId) (args : List AV) (obs : List Ob) (chain : List PanicEntry) (obs' : List Ob) : Prop := CSpecG P f args obs (fun _ _ e => e = .panicked chain) obs'
section
variable {P : Program} {nb : Nat} {t : TypeId} {σ : St}
theorem call_core {f : FuncId} {x : Operand} {args : Array Operand} {ts : Array TypeId} {first caps avs args' : List AV} {E : View → Env → Ending → Prop} {obs obs' : List Ob} (ps : List Nat) (ho : Own P f) (hs : CSpecG P f args' obs E obs') (hm : ps.length = obs.length) (hnd : ps.Nodup)
    (hm1' : obs.length ≤ obs'.length ∧ obs.length ≤ 16) (hm2 : obs'.length ≤ obs.length + 16) (hx : σ.ev x = .fn (.func f) first caps) (he : avs = first ++ args.toList.map σ.ev ++ caps)
    (hle : LeL avs (renL (callφ ps nb) args')) (hlt : ltL obs.length args') (hobs : obsOK σ (callφ ps nb) obs) (hobl : ∀ x ∈ obs, x.lt obs.length) :
    ∀ σ' : St, (∀ y ∈ (Op.call { callee := .value x, args, argTypes := ts }).operands.toList, σ'.ev y = σ.ev y) → (∀ id ∈ ps, σ'.ob id = σ.ob id) → ∀ (c : Ctx) (H : View) (ε : Env) (a : Act) (w : World) (o : Oper), o.op = .call { callee := .value x, args, argTypes := ts } → Mem c H ε σ'.ob w → (∀ i, R H ε (a.tmps.getD i undef) (σ'.tm i)) → Fresh ε nb →
    ∀ (next : Act → World → Prop) (Q : Exit → Act → World → Prop),
      (∀ e w' H' ε' ε'', E H' ε' e → H.le H' → ε.le ε'' → (∀ id, ε id = none → ¬ (nb ≤ id ∧ id < nb + 16) → ε'' id = none) → (∀ i l, ε' i = some l → ε'' (callφ ps nb i) = some l) → Mem c H' ε'' (applyW σ'.ob (callWs (callφ ps nb) obs')) w' →
        match e with
        | .returned v => next (a.put o.dst v) w'
        | .panicked chain => Q (.panic chain) a w'
        | .outgrown => LetsOut Q) → o.wp P a w next Q := by
  obtain ⟨fn, g1, g2, g3⟩ := ho
  obtain ⟨hm1, hm16⟩ := hm1'
  intro σ' hx' hob' c H ε a w o hop hmem hr hfr next Q hn'
  subst he
  have e0 : σ'.ev x = σ.ev x := hx' x (by simp [Op.operands, Call.operands])
  have e1 : args.toList.map σ'.ev = args.toList.map σ.ev := List.map_congr_left fun y hy => hx' y (by simp [Op.operands, Call.operands]; exact .inr (by simpa using hy))
  have hxv := R_ev hr x; rw [e0, hx] at hxv
  obtain ⟨f1, c1, hv, hf1, hc1⟩ := hxv.fn_inv
  have hxs : RL H ε (args.toList.map a.eval) (args.toList.map σ.ev) := by
    rw [← e1]
    generalize args.toList = l
    induction l with
    | nil => exact .nil
    | cons y ys ih => exact .cons _ _ _ _ (R_ev hr y) ih
  have hvs := RL.unren (RL.le hle ((hf1.append hxs).append hc1)) hlt
  have hrun : (execOp a.eval o).run P w = .ok (.enter f (f1 ++ args.toList.map a.eval ++ c1).toArray) w := by
    have e2 : args.map a.eval = (args.toList.map a.eval).toArray := by rw [← Array.toList_map, Array.toArray_toList]
    simp [execOp, hop, resolve, hv, Deferred.ofValue, invoke, callFunc_enter g1 g2 g3, e2]
  -- the objects that are handed over
  have hpob : ∀ k y, obs[k]? = some y → ObLe (σ'.ob (callφ ps nb k)) (y.ren (callφ ps nb)) := by
    intro k y hy
    have hk : k < ps.length := by rw [hm]; exact (List.getElem?_eq_some_iff.1 hy).1
    have : σ'.ob (callφ ps nb k) = σ.ob (callφ ps nb k) := by rw [callφ_lt hk]; exact hob' _ (List.getElem_mem hk)
    rw [this]; exact hobs k y hy
  have hpne : ∀ k, k < ps.length → σ'.ob (callφ ps nb k) ≠ none := by
    intro k hk hq
    have hy : obs[k]? = some (obs[k]'(by omega)) := by simp [show k < obs.length by omega]
    have := hpob k _ hy
    rw [hq] at this; exact this
  have hpε : ∀ k, k < ps.length → ∃ l, ε (callφ ps nb k) = some l := by
    intro k hk
    cases hq : σ'.ob (callφ ps nb k) with
    | none => exact absurd hq (hpne k hk)
    | some y =>
      have := hmem.objs _ y hq
      cases y with
      | box cs => obtain ⟨b, _, _, h1, _⟩ := this; exact ⟨_, h1⟩
      | perm e sz n => obtain ⟨v, _, h1, _⟩ := this; exact ⟨_, h1⟩
      | gone => exact this.elim
  have hpin : ∀ i, i ∈ ps → ∃ l, ε i = some l := by
    intro i hi
    obtain ⟨k, hk, rfl⟩ := List.mem_iff_getElem.1 hi
    have := hpε k hk
    rwa [callφ_lt hk] at this
  have hφinj : ∀ i j, i < ps.length → j < ps.length → i ≠ j → callφ ps nb i ≠ callφ ps nb j := by
    intro i j hi hj hij
    rw [callφ_lt hi, callφ_lt hj]
    exact fun e => hij (nodup_inj hnd hi hj e)
  let εc : Env := fun id => if id < obs.length then ε (callφ ps nb id) else none
  have hεc : ∀ k, k < ps.length → εc k = ε (callφ ps nb k) := fun k hk => by simp only [εc]; rw [if_pos (by omega)]
  have hmc : Mem (callCtx w H εc obs.length) H εc (obF obs) w := by
    refine ⟨hmem.view, fun id y hy => ?_, fun i j hi hj hij b hb => ?_, fun id hid b hb => ?_, rfl, rfl, rfl, Nat.le_refl _, fun _ _ _ => rfl, View.le_refl H, fun _ _ _ _ => rfl, Env.le_refl _, fun id hid => by show εc id = none; simp only [εc]; rw [if_neg (by omega)], fun b o hb => View.unseen hmem.view hb⟩
    · have hy := obF_some hy
      have hid : id < obs.length := (List.getElem?_eq_some_iff.1 hy).1
      exact ObOK.unren ((hpob id y hy).ok fun z hz => hmem.objs _ z hz) (hobl y (List.mem_of_getElem? hy)) hid
    · have hil : i < ps.length := by rw [hm]; exact obF_lt hi
      have hjl : j < ps.length := by rw [hm]; exact obF_lt hj
      rw [hεc i hil] at hb
      rw [hεc j hjl]
      exact hmem.dj _ _ (hpne i hil) (hpne j hjl) (hφinj i j hil hjl hij) b hb
    · exact .inr ⟨⟨id, obF_lt hid, hb⟩, hb⟩
  unfold Oper.wp
  rw [hrun, Oper.upon_enter]
  refine (hs w H εc _ hmc hvs (fun id hid => by simp only [εc]; rw [if_neg (by omega)])).mono fun e w' ⟨H', ε', hE, hH, hε, hdom, hm'⟩ => ?_
  -- numbers there and back
  have hnew : ∀ k, ps.length ≤ k → k < obs'.length → ps.idxOf? (callφ ps nb k) = none := by
    intro k h1 h2
    rw [callφ_ge h1]
    cases hq : ps.idxOf? (nb + (k - ps.length)) with
    | none => rfl
    | some j =>
      obtain ⟨hj, he, _⟩ := List.idxOf?_eq_some_iff.1 hq
      have he' : ps[j] = nb + (k - ps.length) := by simpa using he
      obtain ⟨l, hl⟩ := hpin ps[j] (List.getElem_mem hj)
      rw [he', hfr _ (by omega) (by omega)] at hl
      cases hl
  have hback : ∀ k, k < obs'.length → envBack ps nb ε ε' (callφ ps nb k) = ε' k := by
    intro k hk
    by_cases h1 : k < ps.length
    · unfold envBack
      rw [callφ_lt h1, idxOf_get hnd h1]
    · unfold envBack
      rw [hnew k (by omega) hk, callφ_ge (by omega)]
      simp only
      rw [if_pos ⟨by omega, by omega⟩]
      congr 1
      omega
  have hrenε : ∀ i l, ε' i = some l → envBack ps nb ε ε' (callφ ps nb i) = some l := by
    intro i l hl
    rcases Nat.lt_or_ge i obs'.length with h | h
    · rw [hback i h]; exact hl
    · rw [hdom i h] at hl; cases hl
  have hout : ∀ i, i ∉ ps → ¬ (nb ≤ i ∧ i < nb + 16) → envBack ps nb ε ε' i = ε i := by
    intro i h1 h2
    unfold envBack
    rw [List.idxOf?_eq_none_iff.2 h1]
    simp only
    rw [if_neg h2]
  have hεle : ε.le (envBack ps nb ε ε') := by
    intro i l hl
    by_cases h1 : i ∈ ps
    · obtain ⟨k, hk, rfl⟩ := List.mem_iff_getElem.1 h1
      have h2 : εc k = some l := by rw [hεc k hk, callφ_lt hk]; exact hl
      have h3 := hε k l h2
      have h4 : envBack ps nb ε ε' ps[k] = ε' k := by have := hback k (by omega); rwa [callφ_lt hk] at this
      cases l with
      | blk b => simp only at h3 ⊢; rw [h4]; exact h3
      | row v0 n0 => simp only at h3 ⊢; rw [h4]; exact h3
    · have h2 : ¬ (nb ≤ i ∧ i < nb + 16) := fun ⟨a1, a2⟩ => by rw [hfr i a1 a2] at hl; cases hl
      have h3 := hout i h1 h2
      cases l with
      | blk b => simp only; rw [h3]; exact hl
      | row v0 n0 => exact ⟨v0, n0, by rw [h3]; exact hl, Nat.le_refl _, fun _ => rfl⟩
  -- what the callee may turn is what it was handed
  have hS : ∀ b, (callCtx w H εc obs.length).S b → ∃ k, k < ps.length ∧ blkOf (ε (callφ ps nb k)) = some b := by
    rintro b ⟨k, hk, hb⟩
    refine ⟨k, by omega, ?_⟩
    rw [hεc k (by omega)] at hb
    exact hb
  have hold' : ∀ i y, wsLook (callWs (callφ ps nb) obs') i = none → σ'.ob i = some y → i ∉ ps ∧ envBack ps nb ε ε' i = ε i ∧ ∀ b, blkOf (ε i) = some b → b < w.heap.size ∧ ¬ (callCtx w H εc obs.length).S b := by
    intro i y hw hy
    have h1 : i ∉ ps := by
      intro h
      obtain ⟨k, hk, rfl⟩ := List.mem_iff_getElem.1 h
      have := callWs_none hw k (by omega)
      rw [callφ_lt hk] at this
      exact this rfl
    have hne : σ'.ob i ≠ none := by rw [hy]; simp
    have h2 : ¬ (nb ≤ i ∧ i < nb + 16) := by
      rintro ⟨a1, a2⟩
      have := hmem.objs i y hy
      cases y with
      | box cs => obtain ⟨b, _, _, q, _⟩ := this; rw [hfr i a1 a2] at q; cases q
      | perm e sz n => obtain ⟨v, _, q, _⟩ := this; rw [hfr i a1 a2] at q; cases q
      | gone => exact this.elim
    refine ⟨h1, hout i h1 h2, fun b hb => ⟨hmem.blk_lt hne hb, fun hsb => ?_⟩⟩
    obtain ⟨k, hk, hbk⟩ := hS b hsb
    refine hmem.dj i _ hne (hpne k hk) ?_ b hb hbk
    intro e
    rw [callφ_lt hk] at e
    exact h1 (e ▸ List.getElem_mem hk)
  have hcases : ∀ i, applyW σ'.ob (callWs (callφ ps nb) obs') i ≠ none → (∃ k y, obs'[k]? = some y ∧ callφ ps nb k = i ∧ k < obs'.length ∧ obF obs' k ≠ none) ∨ (wsLook (callWs (callφ ps nb) obs') i = none ∧ ∃ y, σ'.ob i = some y) := by
    intro i hi
    rw [applyW_get] at hi
    unfold wsAt at hi
    cases hq : wsLook (callWs (callφ ps nb) obs') i with
    | some z =>
      obtain ⟨k, y, h1, h2, h3⟩ := callWs_some hq
      rw [hq] at hi
      refine .inl ⟨k, y, h1, h2, (List.getElem?_eq_some_iff.1 h1).1, ?_⟩
      unfold obF
      rw [h1]
      subst h3
      cases y <;> first | exact fun _ => hi rfl | (intro e; cases e)
    | none =>
      rw [hq] at hi
      cases hy : σ'.ob i with
      | none => rw [hy] at hi; exact absurd rfl hi
      | some y => exact .inr ⟨rfl, y, rfl⟩
  suffices hs2 : (∀ id, ε id = none → ¬ (nb ≤ id ∧ id < nb + 16) → envBack ps nb ε ε' id = none) ∧ Mem c H' (envBack ps nb ε ε') (applyW σ'.ob (callWs (callφ ps nb) obs')) w' by
    have hfin := hn' e w' H' ε' (envBack ps nb ε ε') hE hH hεle hs2.1 hrenε hs2.2
    cases e <;> exact hfin
  refine ⟨?_, ?_⟩
  · intro i h1 h2
    by_cases h3 : i ∈ ps
    · obtain ⟨l, hl⟩ := hpin i h3
      rw [h1] at hl; cases hl
    · rw [hout i h3 h2]; exact h1
  · refine ⟨hm'.view, fun i y hy => ?_, fun i j hi hj hij b hb hb' => ?_, fun i hi b hb => ?_, hm'.os.trans hmem.os, hm'.tape.trans hmem.tape, hm'.output.trans hmem.output, Nat.le_trans hmem.size hm'.size, fun k hk hSk => ?_, View.le_trans hmem.hle hm'.hle, fun b o hb hSb => ?_, Env.le_trans hmem.ele hεle, hmem.low, hmem.top⟩
    · rw [applyW_get] at hy
      unfold wsAt at hy
      cases hq : wsLook (callWs (callφ ps nb) obs') i with
      | some z =>
        rw [hq] at hy
        obtain ⟨k, u, h1, rfl, rfl⟩ := callWs_some hq
        have hz := Ob.opt_some hy
        subst hz
        refine (hm'.objs k u ?_).reren hrenε
        unfold obF
        rw [h1]
        cases u <;> first | rfl | cases hy
      | none =>
        rw [hq] at hy
        simp only at hy
        obtain ⟨h1, h2, h3⟩ := hold' i y hq hy
        exact (hmem.objs i y hy).ext hH hεle h2 (fun b hb => hm'.block b (h3 b hb).1 (h3 b hb).2) (fun b hb o => hm'.hold b o (h3 b hb).1 (h3 b hb).2)
    · rcases hcases i hi with ⟨k, y, h1, rfl, h2, hnk⟩ | ⟨h1, y, h2⟩
      · rw [hback k h2] at hb
        rcases hcases j hj with ⟨k', y', h1', rfl, h2', hnk'⟩ | ⟨h1', y', h2'⟩
        · rw [hback k' h2'] at hb'
          exact hm'.dj k k' hnk hnk' (fun e => hij (by rw [e])) b hb hb'
        · obtain ⟨q1, q2, q3⟩ := hold' j y' h1' h2'
          rw [q2] at hb'
          obtain ⟨q4, q5⟩ := q3 b hb'
          rcases hm'.own k hnk b hb with h | h
          · have : w.heap.size ≤ b := h
            omega
          · exact q5 h.1
      · obtain ⟨q1, q2, q3⟩ := hold' i y h1 h2
        rw [q2] at hb
        obtain ⟨q4, q5⟩ := q3 b hb
        rcases hcases j hj with ⟨k', y', h1', rfl, h2', hnk'⟩ | ⟨h1', y', h2'⟩
        · rw [hback k' h2'] at hb'
          rcases hm'.own k' hnk' b hb' with h | h
          · have : w.heap.size ≤ b := h
            omega
          · exact q5 h.1
        · obtain ⟨_, q2', _⟩ := hold' j y' h1' h2'
          rw [q2'] at hb'
          exact hmem.dj i j (by rw [h2]; simp) (by rw [h2']; simp) hij b hb hb'
    · rcases hcases i hi with ⟨k, y, h1, rfl, h2, hnk⟩ | ⟨h1, y, h2⟩
      · rw [hback k h2] at hb
        rcases hm'.own k hnk b hb with h | h
        · exact .inl (Nat.le_trans hmem.size h)
        · by_cases hk : k < ps.length
          · exact hmem.own _ (hpne k hk) b (by rw [← hεc k hk]; exact h.2)
          · have h2 := h.2
            have e : (callCtx w H εc obs.length).E0 k = none := by show εc k = none; simp only [εc]; rw [if_neg (by omega)]
            rw [e] at h2; cases h2
      · obtain ⟨q1, q2, q3⟩ := hold' i y h1 h2
        rw [q2] at hb
        exact hmem.own i (by rw [h2]; simp) b hb
    · have hk' : k < w.heap.size := Nat.lt_of_lt_of_le hk hmem.size
      rw [hm'.block k hk' (fun h => by
        obtain ⟨k0, hk0, hb0⟩ := hS k h
        rcases hmem.own _ (hpne k0 hk0) k hb0 with h | h
        · omega
        · exact hSk h.1)]
      exact hmem.block k hk hSk
    · have hb' : b < w.heap.size := Nat.lt_of_lt_of_le hb hmem.size
      rw [hm'.hold b o hb' (fun h => by
        obtain ⟨k0, hk0, hb0⟩ := hS b h
        rcases hmem.own _ (hpne k0 hk0) b hb0 with h | h
        · omega
        · exact hSb h.1)]
      exact hmem.hold b o hb hSb

/-- An operation that panics from a state: the objects are ob' then. -/
def PanOp (P : Program) (nb : Nat) (op : Op) (σ : St) (chain : List PanicEntry) (ob' : Nat → Option Ob) : Prop :=
  ∀ (c : Ctx) (H : View) (ε : Env) (a : Act) (w : World) (o : Oper), o.op = op → Mem c H ε σ.ob w → (∀ i, R H ε (a.tmps.getD i undef) (σ.tm i)) → Fresh ε nb →
    ∀ (next : Act → World → Prop) (Q : Exit → Act → World → Prop),
      (∀ w' H' ε', H.le H' → ε.le ε' → (∀ id, ε id = none → ¬ (nb ≤ id ∧ id < nb + 16) → ε' id = none) → Mem c H' ε' ob' w' → Q (.panic chain) a w') → o.wp P a w next Q
theorem panOp_call {f : FuncId} {x : Operand} {args : Array Operand} {ts : Array TypeId} {first caps avs args' : List AV} {chain : List PanicEntry} {obs obs' : List Ob} (ps : List Nat) (ho : Own P f) (hs : XSpec P f args' obs chain obs') (hm : ps.length = obs.length) (hnd : ps.Nodup)
    (hm1' : obs.length ≤ obs'.length ∧ obs.length ≤ 16) (hm2 : obs'.length ≤ obs.length + 16) (hx : σ.ev x = .fn (.func f) first caps) (he : avs = first ++ args.toList.map σ.ev ++ caps)
    (hle : LeL avs (renL (callφ ps nb) args')) (hlt : ltL obs.length args') (hobs : obsBack σ (callφ ps nb) obs 0) (hobl : ltO obs.length obs) :
    PanOp P nb (.call { callee := .value x, args, argTypes := ts }) σ chain (applyW σ.ob (callWs (callφ ps nb) obs')) := by
  intro c H ε a w o hop hmem hr hfr next Q hn
  refine call_core (ts := ts) ps ho hs hm hnd hm1' hm2 hx he hle hlt (fun k y hy => by have := obsBack_get hobs hy; rwa [Nat.zero_add] at this) (fun y hy => by
    obtain ⟨j, hj, rfl⟩ := List.getElem_of_mem hy
    exact ltO_get (j := j) hobl (by simp [hj])) σ (fun _ _ => rfl) (fun _ _ => rfl) c H ε a w o hop hmem hr hfr next Q ?_
  intro e w' H' ε' ε'' hE hH hε hfr' hren hm'
  subst hE
  exact hn w' H' ε'' hH hε hfr' hm'
theorem panOp_panic {x : Operand} {T : TypeId} {v : Value} (hx : σ.ev x = .s (.iface T v)) : PanOp P nb (.panic x) σ [{ v := .iface T v, recovered := false }] σ.ob := by
  intro c H ε a w o hop hmem hr hfr next Q hn
  have hv := R_ev hr x
  rw [hx] at hv
  have hv := hv.s_inv.1
  unfold Oper.wp
  have hrun : (execOp a.eval o).run P w = .halt (.panic (.iface T v)) w := by
    simp only [execOp, hop, hv]
    rfl
  rw [hrun, Oper.upon_panic]
  exact hn w H ε (View.le_refl H) (Env.le_refl ε) (fun _ h _ => h) hmem
/-! ### A region of which an operation panics -/
theorem wpOps_split {ops : Array Oper} {Q Q' : Exit → Act → World → Prop} (l2 : List Nat) (h1 : ∀ a w, Q' .normal a w → wpOps P ops Q l2 a w) (h2 : ∀ e a w, e ≠ .normal → Q' e a w → Q e a w) : ∀ (l1 : List Nat) (a : Act) (w : World), wpOps P ops Q' l1 a w → wpOps P ops Q (l1 ++ l2) a w
  | [], a, w, h => h1 a w h
  | i :: rest, a, w, h => by
    simp only [List.cons_append, wpOps] at h ⊢
    cases ho : ops[i]? with
    | none => rw [ho] at h; exact wpOps_split l2 h1 h2 rest a w h
    | some o =>
      rw [ho] at h
      simp only at h ⊢
      split
      · rename_i hw
        rw [if_pos hw] at h
        have hLet : LetsOut Q' → LetsOut Q := fun ⟨a, w, hq⟩ => ⟨a, w, h2 _ _ _ (by simp) hq⟩
        rcases h with h | ⟨h3, h4⟩
        · refine .inl ?_
          unfold Oper.wp at h ⊢
          generalize (execOp a.eval o).run P w = r at h ⊢
          have hih := fun a w h => wpOps_split l2 h1 h2 rest a w h
          unfold Oper.upon at h ⊢
          split <;> simp only at h ⊢ <;> first
            | exact hih _ _ h
            | exact h2 _ _ _ (by simp) h
            | exact hLet h
            | (refine Calls.mono h fun e w' hh => ?_
               cases e <;> simp only at hh ⊢ <;> first | exact hih _ _ hh | exact h2 _ _ _ (by simp) hh | exact hLet hh)
            | (refine Rows.mono h fun v w' hh => hih _ _ hh)
            | exact h.elim
            | exact h
        · exact .inr ⟨h3, hLet h4⟩
      · rename_i hw
        rw [if_neg hw] at h
        exact wpOps_split l2 h1 h2 rest _ w h
end
theorem reg_soundP {P : Program} {ops : Array Oper} {base : Nat} {c : Ctx} {Q : Exit → Act → World → Prop} (hN : dstOK c.N ops = true) : ∀ (l : List Oper) (i : Nat) (σ : St) (K : St → Prop) (H : View) (ε : Env) (a : Act) (w : World),
    (∃ r, ops.toList.drop i = l ++ r) → regVC P ops base l i σ K → Inv0 c H ε σ a w → (∀ id, base + 16 * i ≤ id → ε id = none) →
      (∀ σ' H' ε' a' w', K σ' → Inv c H' ε' σ' a' w' → Q .normal a' w') → wpOps P ops Q (List.range' i l.length) a w
  | [], i, σ, K, H, ε, a, w, hd, h, hi, hdom, hQ => by
    simp only [List.length_nil, List.range'_zero, wpOps]
    exact hQ _ H ε a w h ⟨hi.sz, hi.df, hi.tm, hi.mem, hdom⟩
  | o :: l, i, σ, K, H, ε, a, w, hd, h, hi, hdom, hQ => by
    have hoi : ops[i]? = some o := by
      obtain ⟨r, hd⟩ := hd
      have := congrArg List.head? hd
      simpa using this
    have hd' : ∃ r, ops.toList.drop (i + 1) = l ++ r := by
      obtain ⟨r, hd⟩ := hd
      have := congrArg List.tail hd
      exact ⟨r, by simpa using this⟩
    have hdst : ∀ d, o.dst = some d → d < a.tmps.size := by
      intro d hdd
      rw [hi.sz]
      have hmem : o ∈ ops := Array.mem_of_getElem? hoi
      have := (Array.all_eq_true_iff_forall_mem.1 hN) o hmem
      simpa [hdd] using this
    have hdf : ∀ (dst : Option Tmp) (v : Value), (a.put dst v).defers = c.D := fun dst v => by cases dst <;> exact hi.df
    have hsz : ∀ (dst : Option Tmp) (v : Value), (a.put dst v).tmps.size = c.N := fun dst v => by cases dst <;> simp [Act.put, hi.sz]
    -- the operation is done
    have did : ∀ σ1 : St, (∀ j, R H ε (a.tmps.getD j undef) (σ1.tm j)) → σ1.ob = σ.ob → (opVC P (base + 16 * i) o.op o.type σ1 fun r _ ws => regVC P ops base l (i + 1) (σ1.put o.dst r ws) K) →
        o.wp P a w (wpOps P ops Q (List.range' (i + 1) l.length)) Q := by
      intro σ1 htm hob hvc
      obtain ⟨r, deps, ws, hok, hK⟩ := opVC_sound hvc
      have hop := hok σ1 (fun _ _ => rfl) (fun _ _ => rfl)
      refine hop c H ε a w o rfl rfl (by rw [hob]; exact hi.mem) htm (fun id h1 h2 => hdom id h1) _ Q ?_
      intro v w' H' ε' hH hε hfr hv hm
      refine reg_soundP hN l (i + 1) _ K H' ε' (a.put o.dst v) w' hd' hK ⟨hsz _ _, hdf _ _, ?_, hm⟩ ?_ hQ
      · exact put_tm hdst (fun j => (htm j).mono hH hε) hv
      · intro id hid
        exact hfr id (hdom id (by omega)) (by omega)
    -- the operation is passed over
    have passed : ∀ σ1 : St, (∀ j, R H ε (a.tmps.getD j undef) (σ1.tm j)) → σ1.ob = σ.ob → regVC P ops base l (i + 1) (σ1.put o.dst (.tup []) []) K → wpOps P ops Q (List.range' (i + 1) l.length) (a.put o.dst undef) w := by
      intro σ1 htm hob hK
      refine reg_soundP hN l (i + 1) _ K H ε (a.put o.dst undef) w hd' hK ⟨hsz _ _, hdf _ _, ?_, ?_⟩ (fun id hid => hdom id (by omega)) hQ
      · exact put_tm hdst htm (.d _ _ (.tup [] [] .nil))
      · have : (σ1.put o.dst (.tup []) []).ob = σ.ob := hob
        rw [this]; exact hi.mem
    rw [List.length_cons, List.range'_succ]
    simp only [wpOps, hoi]
    unfold regVC at h
    split at h
    · rename_i hg
      have hw : Region.wanted o (yielded ops a.tmps) = true := by simp [Region.wanted, hg]
      rw [if_pos hw]
      exact .inl (did σ hi.tm rfl h)
    · rename_i g want hg
      split at h
      · rename_i d hgd
        have hy : yielded ops a.tmps g = (match a.tmps[d]? with | some (.bool b) => some b | _ => none) := by
          unfold yielded
          unfold gdst at hgd
          rw [hgd]; rfl
        split at h
        · rename_i b hb
          have hv := hi.tm d
          rw [hb] at hv
          have hv' := hv.s_inv.1
          have hget : a.tmps[d]? = some (.bool b) := by
            rw [Array.getD_eq_getD_getElem?] at hv'
            cases hq : a.tmps[d]? with
            | none => rw [hq] at hv'; cases hv'
            | some u => rw [hq] at hv'; simp at hv'; rw [hv']
          have hyb : yielded ops a.tmps g = some b := by rw [hy, hget]
          by_cases hbw : b = want
          · have hw : Region.wanted o (yielded ops a.tmps) = true := by simp [Region.wanted, hg, hyb, hbw]
            rw [if_pos hw]
            have hk : σ.know d (.s (.bool want)) = σ := know_same (by rw [hb, hbw])
            have h1 := h.1 hbw
            rw [hk] at h1
            exact .inl (did σ hi.tm rfl h1)
          · have hw : ¬ Region.wanted o (yielded ops a.tmps) = true := by simp [Region.wanted, hg, hyb, hbw]
            rw [if_neg hw]
            have hbn : b = (!want) := by cases b <;> cases want <;> simp_all
            have hk : σ.know d (.s (.bool (!want))) = σ := know_same (by rw [hb, hbn])
            have h2 := h.2 hbn
            rw [hk] at h2
            exact passed σ hi.tm rfl h2
        · rename_i hb
          have hv := hi.tm d
          rw [hb] at hv
          obtain ⟨vs, hv', hl⟩ := hv.tup_inv
          cases hl
          have hyn : yielded ops a.tmps g = none := by
            rw [hy]
            rw [Array.getD_eq_getD_getElem?] at hv'
            cases hq : a.tmps[d]? with
            | none => rfl
            | some u => rw [hq] at hv'; simp at hv'; rw [hv']
          have hw : ¬ Region.wanted o (yielded ops a.tmps) = true := by simp [Region.wanted, hg, hyn]
          rw [if_neg hw]
          exact passed σ hi.tm rfl h
        · exact h.elim
      · exact h.elim


section
variable {P : Program} {N : Nat} {σ : St} {K : Exit → St → Prop}
/-- What is to be shown of the operation that panics. -/
def PanK (P : Program) (op : Op) (K : Exit → St → Prop) (σ : St) : Prop := ∃ chain ob', PanOp P σ.nx op σ chain ob' ∧ K (.panic chain) { σ with ob := ob', nx := σ.nx + 16 }
theorem tri_regionX {id : Nat} {ops : Array Oper} (j : Nat) (o : Oper) (hN : dstOK N ops = true) (ho : ops[j]? = some o) (hg : o.guard = none) (h : regVC P ops σ.nx (ops.toList.take j) 0 σ (PanK P o.op K)) : Tri P N (.region id ops false) σ K := fun c H ε a w hc hi Q hQ => by
  refine wp_region ?_
  have hj : j < ops.size := (Array.getElem?_eq_some_iff.1 ho).1
  have hrange : List.range ops.size = List.range' 0 j ++ (j :: List.range' (j + 1) (ops.size - (j + 1))) := by
    have h1 : List.range' 0 j ++ List.range' j (ops.size - j) = List.range' 0 (j + (ops.size - j)) := by simpa using List.range'_append_1 (s := 0) (m := j) (n := ops.size - j)
    rw [List.range_eq_range', ← List.range'_succ, show ops.size - (j + 1) + 1 = ops.size - j by omega, h1]
    congr 1; omega
  rw [hrange]
  refine wpOps_split (Q' := fun e a' w' => match e with | .normal => wpOps P ops Q (j :: List.range' (j + 1) (ops.size - (j + 1))) a' w' | e => Q e a' w') _ (fun _ _ h => h) (fun e _ _ hne h => by cases e <;> first | exact absurd rfl hne | exact h) _ _ _ ?_
  have hlen : (ops.toList.take j).length = j := by simp; omega
  have := reg_soundP (P := P) (ops := ops) (base := σ.nx) (c := c) (Q := fun e a' w' => match e with | .normal => wpOps P ops Q (j :: List.range' (j + 1) (ops.size - (j + 1))) a' w' | e => Q e a' w') (by rw [hc]; exact hN) (ops.toList.take j) 0 σ (PanK P o.op K) H ε a w ⟨ops.toList.drop j, by simp⟩ h ⟨hi.sz, hi.df, hi.tm, hi.mem⟩ (fun id hid => hi.dom id (by simpa using hid)) ?_
  · rw [hlen] at this; exact this
  · rintro σ' H' ε' a' w' ⟨chain, ob', hp, hK⟩ hi'
    simp only [wpOps, ho]
    have hw : Region.wanted o (yielded ops a'.tmps) = true := by simp [Region.wanted, hg]
    rw [if_pos hw]
    refine .inl (hp c H' ε' a' w' o rfl hi'.mem hi'.tm (fun id h1 h2 => hi'.dom id h1) _ Q ?_)
    intro w'' H'' ε'' h1 h2 h3 h4
    refine hQ _ _ H'' ε'' a' w'' hK ⟨hi'.sz, hi'.df, fun i => (hi'.tm i).mono h1 h2, h4, fun id hid => ?_⟩
    have hid' : σ'.nx + 16 ≤ id := hid
    exact h3 id (hi'.dom id (by omega)) (by omega)
end
/-- Back out of a body: objects are handed back. -/
theorem back_mem {w w' : World} {H H' : View} {ε ε' : Env} {obs obs' : List Ob} {N : Nat} {D : List Deferred} {σ' : St} {a' : Act} (new : List Nat) (hdom : ∀ id, obs.length ≤ id → ε id = none) (h1 : obs.length + new.length = obs'.length) (h2 : ∀ k ∈ new, obs.length ≤ k) (h3 : new.Nodup)
    (h5 : obsRet σ' (backN obs.length new) obs' 0) (h7 : ltO obs'.length obs') (hi : Inv { callCtx w H ε obs.length with N := N, D := D } H' ε' σ' a' w') :
    ε.le (fun id => if id < obs'.length then ε' (backN obs.length new id) else none) ∧ Mem (callCtx w H ε obs.length) H' (fun id => if id < obs'.length then ε' (backN obs.length new id) else none) (obF obs') w' := by
  have hmc : ∀ {H' : View} {ε' : Env} {ob : Nat → Option Ob} {w' : World}, Mem (callCtx w H ε obs.length) H' ε' ob w' ↔ Mem { callCtx w H ε obs.length with N := N, D := D } H' ε' ob w' := by
    intro H' ε' ob w'
    exact ⟨fun h => ⟨h.view, h.objs, h.dj, h.own, h.os, h.tape, h.output, h.size, h.block, h.hle, h.hold, h.ele, h.low, h.top⟩, fun h => ⟨h.view, h.objs, h.dj, h.own, h.os, h.tape, h.output, h.size, h.block, h.hle, h.hold, h.ele, h.low, h.top⟩⟩
  refine ⟨?_, ?_⟩
  · intro id l hl
    have hid : id < obs.length := by
      rcases Nat.lt_or_ge id obs.length with h | h
      · exact h
      · rw [hdom id h] at hl; cases hl
    have hid' : id < obs'.length := by omega
    have he := hi.mem.ele id l hl
    have hb' : backN obs.length new id = id := by simp [backN, hid]
    cases l with
    | blk b => simp only at he ⊢; rw [if_pos hid', hb']; exact he
    | row v n => simp only at he ⊢; rw [if_pos hid', hb']; exact he
  · have hinj : ∀ i j, i < obs'.length → j < obs'.length → i ≠ j → backN obs.length new i ≠ backN obs.length new j := by
      intro i j hi' hj' hij
      have hget : ∀ k, obs.length ≤ k → k < obs'.length → ∃ hk : k - obs.length < new.length, backN obs.length new k = new[k - obs.length] := by
        intro k k1 k2
        have hk : k - obs.length < new.length := by omega
        exact ⟨hk, by simp [backN, Nat.not_lt.2 k1, List.getD_eq_getElem?_getD, hk]⟩
      by_cases c1 : i < obs.length
      · have e1 : backN obs.length new i = i := by simp [backN, c1]
        by_cases c2 : j < obs.length
        · have e2 : backN obs.length new j = j := by simp [backN, c2]
          rw [e1, e2]; exact hij
        · obtain ⟨hk, e2⟩ := hget j (by omega) hj'
          rw [e1, e2]
          have := h2 new[j - obs.length] (List.getElem_mem hk)
          omega
      · obtain ⟨hk1, e1⟩ := hget i (by omega) hi'
        by_cases c2 : j < obs.length
        · have e2 : backN obs.length new j = j := by simp [backN, c2]
          rw [e1, e2]
          have := h2 new[i - obs.length] (List.getElem_mem hk1)
          omega
        · obtain ⟨hk2, e2⟩ := hget j (by omega) hj'
          rw [e1, e2]
          intro e
          have := nodup_inj h3 hk1 hk2 e
          omega
    have hob : ∀ k y, obF obs' k = some y → ObLe (σ'.ob (backN obs.length new k)) (y.ren (backN obs.length new)) := by
      intro k y hy
      have h5 := obsRet_get h5 (obF_some hy)
      rw [Nat.zero_add] at h5
      cases y with
      | box cs => exact h5
      | perm e sz n => exact h5
      | gone =>
        unfold obF at hy
        rw [obF_some hy] at hy; cases hy
    have hlt' : ∀ k y, obF obs' k = some y → k < obs'.length := fun k y hy => obF_lt (by rw [hy]; simp)
    have hne : ∀ k, obF obs' k ≠ none → k < obs'.length ∧ σ'.ob (backN obs.length new k) ≠ none := by
      intro k hk
      cases hq : obF obs' k with
      | none => exact absurd hq hk
      | some y =>
        refine ⟨hlt' k y hq, fun e => ?_⟩
        have := hob k y hq
        rw [e] at this; exact this
    have hi' := hmc.2 hi.mem
    exact { hi' with
      objs := fun k y hy => ObOK.unren ((hob k y hy).ok fun z hz => hi.mem.objs _ z hz) (ltO_get h7 (obF_some hy)) (hlt' k y hy)
      dj := fun i j hi1 hj1 hij b hb1 => by
        obtain ⟨l1, n1⟩ := hne i hi1
        obtain ⟨l2, n2⟩ := hne j hj1
        simp only [l1, l2, if_true] at hb1 ⊢
        exact hi.mem.dj _ _ n1 n2 (hinj i j l1 l2 hij) b hb1
      own := fun i hi1 b hb1 => by
        obtain ⟨l1, n1⟩ := hne i hi1
        simp only [l1, if_true] at hb1
        exact back_own hdom h1 h2 l1 (hi'.own _ n1 b hb1)
      ele := by
        intro id l hl
        have hl' : ε id = some l := hl
        have hid : id < obs.length := by
          rcases Nat.lt_or_ge id obs.length with h | h
          · exact h
          · rw [hdom id h] at hl'; cases hl'
        have hid' : id < obs'.length := by omega
        have he := hi.mem.ele id l hl
        have hb' : backN obs.length new id = id := by simp [backN, hid]
        cases l with
        | blk b => simp only at he ⊢; rw [if_pos hid', hb']; exact he
        | row v n => simp only at he ⊢; rw [if_pos hid', hb']; exact he }

def panO (m : Nat) (chain : List PanicEntry) (obs' : List Ob) : Exit → St → Prop
  | .panic ch, σ => ch = chain ∧ m = obs'.length ∧ obsRet σ (backN m []) obs' 0 ∧ ltO obs'.length obs'
  | _, _ => False
/-- How a body begins. -/
theorem start_inv {P : Program} {w : World} {H : View} {ε : Env} {vs : List Value} {args : List AV} {obs : List Ob} {fn : Func} {N : Nat} (hN : fn.ntmps = N) (hn : args.length ≤ N) (hm : Mem (callCtx w H ε obs.length) H ε (obF obs) w) (hvs : RL H ε vs args) (hdom : ∀ id, obs.length ≤ id → ε id = none) :
    Inv { callCtx w H ε obs.length with N := N } H ε (St.startO args obs) { tmps := vs.toArray ++ Array.replicate (fn.ntmps - vs.toArray.size) undef, defers := [] } w := by
  have hlen : vs.length = args.length := hvs.length_eq
  refine ⟨by simp [hN, hlen]; omega, rfl, fun i => ?_, ⟨hm.view, hm.objs, hm.dj, hm.own, hm.os, hm.tape, hm.output, hm.size, hm.block, hm.hle, hm.hold, hm.ele, hm.low, hm.top⟩, hdom⟩
  have := R_start hvs i
  have e : (vs.toArray ++ Array.replicate (fn.ntmps - vs.toArray.size) undef).getD i undef = vs.getD i undef := by
    rw [Array.getD_eq_getD_getElem?, Array.getElem?_append]
    simp only [List.size_toArray, List.getElem?_toArray, List.getD_eq_getElem?_getD]
    split
    · rfl
    · rename_i hi
      rw [List.getElem?_eq_none (by omega), Array.getElem?_replicate]
      split <;> rfl
  rw [e]; exact this
theorem xspec_of_tri {P : Program} {f : FuncId} {fn : Func} {code : Code} {args : List AV} {obs obs' : List Ob} {chain : List PanicEntry} {N : Nat} (hf : P.funcs[f]? = some fn) (hb : fn.body = some code) (hN : fn.ntmps = N) (hn : args.length ≤ N)
    (h : Tri P N code (St.startO args obs) (panO obs.length chain obs')) : XSpec P f args obs chain obs' := by
  intro w H ε vs hm hvs hdom
  refine calls_of_wp hf hb ?_
  refine h { callCtx w H ε obs.length with N := N } H ε _ w rfl (start_inv (P := P) hN hn hm hvs hdom) _ fun e σ' H' ε' a' w' hK hi => ?_
  cases e with
  | panic ch =>
    obtain ⟨rfl, h1, h5, h7⟩ := hK
    obtain ⟨q1, q2⟩ := back_mem (D := []) [] hdom (by simpa using h1) (by simp) (by simp) h5 h7 hi
    exact ⟨hi.df, H', _, rfl, hi.mem.hle, q1, fun id hid => if_neg (by omega), q2⟩
  | normal => exact hK.elim
  | ret => exact hK.elim
  | exit id => exact hK.elim
  | goto l => exact hK.elim
  | outgrown => exact hK.elim
section
variable {P : Program} {N nx : Nat} {tm : Nat → AV} {ob : Nat → Option Ob} {K : Exit → St → Prop} {l : List Oper}
theorem w_regX {id : Nat} {y : Code} (j : Nat) (o : Oper) (hN : dstOK N l.toArray = true) (ho : l[j]? = some o) (hg : o.guard = none)
    (h : ∀ K1 : St → Prop, (∀ tm' ob' nx' chain ob'', PanOp P nx' o.op ⟨tm', ob', nx'⟩ chain ob'' → Out K (.panic chain) ⟨tm', ob'', nx' + 16⟩ → K1 ⟨tm', ob', nx'⟩) → Reg P l.toArray nx (l.take j) 0 ⟨tm, ob, nx⟩ K1) : Tri P N (.seq (.region id l.toArray false) y) ⟨tm, ob, nx⟩ K := by
  refine tri_seq (tri_regionX j o hN (by simpa using ho) hg ?_)
  have := h (PanK P o.op (SeqK P N y K)) (fun tm' ob' nx' chain ob'' hp hK => ⟨chain, ob'', hp, hK⟩)
  simpa [Reg] using this
theorem w_regX_end {id : Nat} (j : Nat) (o : Oper) (hN : dstOK N l.toArray = true) (ho : l[j]? = some o) (hg : o.guard = none)
    (h : ∀ K1 : St → Prop, (∀ tm' ob' nx' chain ob'', PanOp P nx' o.op ⟨tm', ob', nx'⟩ chain ob'' → Out K (.panic chain) ⟨tm', ob'', nx' + 16⟩ → K1 ⟨tm', ob', nx'⟩) → Reg P l.toArray nx (l.take j) 0 ⟨tm, ob, nx⟩ K1) : Tri P N (.region id l.toArray false) ⟨tm, ob, nx⟩ K := by
  refine tri_regionX j o hN (by simpa using ho) hg ?_
  have := h (PanK P o.op K) (fun tm' ob' nx' chain ob'' hp hK => ⟨chain, ob'', hp, hK⟩)
  simpa [Reg] using this
end
theorem v_xspec {P : Program} {f : FuncId} {fn : Func} {code : Code} {args : List AV} {obs obs' : List Ob} {chain : List PanicEntry} {N : Nat} (hf : P.funcs[f]? = some fn) (hb : fn.body = some code) (hN : fn.ntmps = N) (hn : args.length ≤ N) {k : Nat} (hk : obs.length = k)
    (h : Later P N code (panO k chain obs') ⟨slots args, obF obs, k⟩) : XSpec P f args obs chain obs' := by
  subst hk
  refine xspec_of_tri hf hb hN hn ?_
  have e : St.startO args obs = ⟨slots args, obF obs, obs.length⟩ := by
    unfold St.startO; congr 1; funext i; exact slots_get args i
  rw [e]; exact h
section
variable {P : Program} {N id : Nat} {y : Code} {K : Exit → St → Prop} {σ : St} {ch : List PanicEntry}
theorem out_seq_panic (h : Out K (.panic ch) σ) : Out (SeqK P N y K) (.panic ch) σ := h
theorem out_block_panic (h : Out K (.panic ch) σ) : Out (BlockK id K) (.panic ch) σ := h
theorem out_loop_panic {X : Type} {σ0 : St} {W : List Nat} {S : X → List (Nat × AV)} {B : X → List (Nat × Ob)} {rel : X → Prop} {m : Nat} {μ : X → Nat} (h : Out K (.panic ch) σ) : Out (LoopK σ0 W S B rel m μ K) (.panic ch) σ := h
theorem w_xend {m : Nat} {obs' : List Ob} (h1 : m = obs'.length) (h2 : obsRet σ (backN m []) obs' 0) (h3 : ltO obs'.length obs') : Out (panO m ch obs') (.panic ch) σ := ⟨rfl, h1, h2, h3⟩
end
end Go.Sy

/- The symbolic layer, fourteenth part: functions that are handed objects of their caller's (pointer receivers, captured variables, rows to append to). No condition. -/
import Derived.Test.YtapgdbjlgebjmaaSyM
set_option linter.unusedVariables false
namespace Go.Sy

mutual
/-- The objects' numbers turned. -/
def AV.ren (φ : Nat → Nat) : AV → AV
  | .osl p sz es => .osl (φ p) sz es
  | .ptr id off => .ptr (φ id) off
  | .agg cs => .agg (renL φ cs)
  | .tup cs => .tup (renL φ cs)
  | .fn f a b => .fn f (renL φ a) (renL φ b)
  | .s v => .s v
  | .sl sz es => .sl sz es
  | .ref cs => .ref cs
  | .junk => .junk
def renL (φ : Nat → Nat) : List AV → List AV
  | [] => []
  | a :: l => a.ren φ :: renL φ l
end
def Ob.ren (φ : Nat → Nat) : Ob → Ob
  | .box cs => .box (renL φ cs)
  | .perm e sz n => .perm e sz n
  | .gone => .gone

mutual
theorem R.ren {H : View} {ε ε' : Env} {φ : Nat → Nat} (h : ∀ id l, ε id = some l → ε' (φ id) = some l) : ∀ {v : Value} {a : AV}, R H ε v a → R H ε' v (a.ren φ)
  | _, _, .d v c hd => D.ren hd
  | _, _, .junk v => by simp only [AV.ren]; exact .junk v
  | _, _, .ptr id off b hb => by simp only [AV.ren]; exact .ptr _ _ _ (h id _ hb)
  | _, _, .osl p sz es v v0 n hd hp hle he => by simp only [AV.ren]; exact .osl _ _ _ _ _ _ hd (h p _ hp) hle he
  | _, _, .agg vs cs hl => by simp only [AV.ren]; exact .agg _ _ (RL.ren h hl)
  | _, _, .tup vs cs hl => by simp only [AV.ren]; exact .tup _ _ (RL.ren h hl)
  | _, _, .fn f f1 c1 f2 c2 hf hc => by simp only [AV.ren]; exact .fn _ _ _ _ _ (RL.ren h hf) (RL.ren h hc)
theorem RL.ren {H : View} {ε ε' : Env} {φ : Nat → Nat} (h : ∀ id l, ε id = some l → ε' (φ id) = some l) : ∀ {vs : List Value} {cs : List AV}, RL H ε vs cs → RL H ε' vs (renL φ cs)
  | _, _, .nil => by simp only [renL]; exact .nil
  | _, _, .cons v c vs cs hv hl => by simp only [renL]; exact .cons _ _ _ _ (R.ren h hv) (RL.ren h hl)
theorem D.ren {H : View} {ε' : Env} {φ : Nat → Nat} : ∀ {v : Value} {a : AV}, D H v a → R H ε' v (a.ren φ)
  | _, _, .s v h => by simp only [AV.ren]; exact .d _ _ (.s v h)
  | _, _, .agg vs cs hl => by simp only [AV.ren]; exact .agg _ _ (DL.ren hl)
  | _, _, .tup vs cs hl => by simp only [AV.ren]; exact .tup _ _ (DL.ren hl)
  | _, _, .nil sz => by simp only [AV.ren]; exact .d _ _ (.nil sz)
  | _, _, .emp a cap sz => by simp only [AV.ren]; exact .d _ _ (.emp a cap sz)
  | _, _, .sl b off cap sz es hcap hsz h => by simp only [AV.ren]; exact .d _ _ (.sl b off cap sz es hcap hsz h)
  | _, _, .ref b off cs h => by simp only [AV.ren]; exact .d _ _ (.ref b off cs h)
theorem DL.ren {H : View} {ε' : Env} {φ : Nat → Nat} : ∀ {vs : List Value} {cs : List AV}, DL H vs cs → RL H ε' vs (renL φ cs)
  | _, _, .nil => by simp only [renL]; exact .nil
  | _, _, .cons v c vs cs hv hl => by simp only [renL]; exact .cons _ _ _ _ (D.ren hv) (DL.ren hl)
end

mutual
/-- Read back under the first numbers. -/
theorem R.unren {H : View} {ε : Env} {φ : Nat → Nat} {m : Nat} : ∀ {a : AV} {v : Value}, R H ε v (a.ren φ) → a.lt m → R H (fun id => if id < m then ε (φ id) else none) v a
  | .s u, v, h, _ => by simp only [AV.ren] at h; rw [h.s_inv.1]; exact .d _ _ (.s u h.s_inv.2)
  | .sl sz es, v, h, _ => by simp only [AV.ren] at h; exact .d _ _ h.sl_inv
  | .ref cs, v, h, _ => by simp only [AV.ren] at h; obtain ⟨b, off, rfl, hd⟩ := h.ref_inv; exact .d _ _ (.ref _ _ _ hd)
  | .junk, v, _, _ => .junk v
  | .osl p sz es, v, h, hl => by
    simp only [AV.ren] at h
    simp only [AV.lt] at hl
    obtain ⟨hd, v0, n, hp, hle, he⟩ := h.osl_inv
    exact .osl _ _ _ _ v0 n hd (by simp [hl, hp]) hle he
  | .ptr id off, v, h, hl => by
    simp only [AV.ren] at h
    simp only [AV.lt] at hl
    obtain ⟨b, rfl, hb⟩ := h.ptr_inv
    exact .ptr _ _ _ (by simp [hl, hb])
  | .agg cs, v, h, hl => by
    simp only [AV.ren] at h
    simp only [AV.lt] at hl
    obtain ⟨vs, rfl, hr⟩ := h.agg_inv
    exact .agg _ _ (RL.unren hr hl)
  | .tup cs, v, h, hl => by
    simp only [AV.ren] at h
    simp only [AV.lt] at hl
    obtain ⟨vs, rfl, hr⟩ := h.tup_inv
    exact .tup _ _ (RL.unren hr hl)
  | .fn f a b, v, h, hl => by
    simp only [AV.ren] at h
    simp only [AV.lt] at hl
    obtain ⟨f1, c1, rfl, hf, hc⟩ := h.fn_inv
    exact .fn _ _ _ _ _ (RL.unren hf hl.1) (RL.unren hc hl.2)
theorem RL.unren {H : View} {ε : Env} {φ : Nat → Nat} {m : Nat} : ∀ {l : List AV} {vs : List Value}, RL H ε vs (renL φ l) → ltL m l → RL H (fun id => if id < m then ε (φ id) else none) vs l
  | [], vs, h, _ => by simp only [renL] at h; cases h; exact .nil
  | a :: l, vs, h, hl => by
    simp only [renL] at h
    simp only [ltL] at hl
    cases h with | cons v _ vs _ h t => exact .cons _ _ _ _ (R.unren h hl.1) (RL.unren t hl.2)
end

/-- Objects by their places in a list. -/
def obF (l : List Ob) : Nat → Option Ob := fun i => (l[i]?).bind Ob.opt
theorem obF_some {l : List Ob} {i : Nat} {x : Ob} (h : obF l i = some x) : l[i]? = some x := by
  unfold obF at h
  cases hq : l[i]? with
  | none => rw [hq] at h; cases h
  | some y => rw [hq] at h; rw [Ob.opt_some h]
theorem obF_lt {l : List Ob} {i : Nat} (h : obF l i ≠ none) : i < l.length := by
  cases hq : l[i]? with
  | none => exact absurd (by unfold obF; rw [hq]; rfl) h
  | some y => exact (List.getElem?_eq_some_iff.1 hq).1

/-- The frame of a call: what it is handed it may turn. -/
def callCtx (w : World) (H : View) (ε : Env) (m : Nat) : Ctx := { N := 0, w0 := w, H0 := H, E0 := ε, S := fun b => ∃ id, id < m ∧ blkOf (ε id) = some b }

/-- THE CONTRACT OF A FUNCTION THAT IS HANDED OBJECTS 0, 1, .. : what it returns, and what they are then, new ones behind them. -/
def CSpec (P : Program) (f : FuncId) (args : List AV) (obs : List Ob) (r : AV) (obs' : List Ob) : Prop :=
  ∀ (w : World) (H : View) (ε : Env) (vs : List Value), Mem (callCtx w H ε obs.length) H ε (obF obs) w → RL H ε vs args → (∀ id, obs.length ≤ id → ε id = none) →
    Calls P f vs.toArray w fun e w' => ∃ v H' ε', e = .returned v ∧ H.le H' ∧ ε.le ε' ∧ (∀ id, obs'.length ≤ id → ε' id = none) ∧ R H' ε' v r ∧ Mem (callCtx w H ε obs.length) H' ε' (obF obs') w'

/-- How a caller's numbers stand to a callee's: the objects handed over, then new ones. -/
def callφ (ps : List Nat) (nb : Nat) : Nat → Nat := fun k => if h : k < ps.length then ps[k] else nb + (k - ps.length)

theorem callφ_lt {ps : List Nat} {nb k : Nat} (h : k < ps.length) : callφ ps nb k = ps[k] := by simp [callφ, h]
theorem callφ_ge {ps : List Nat} {nb k : Nat} (h : ps.length ≤ k) : callφ ps nb k = nb + (k - ps.length) := by simp [callφ, Nat.not_lt.2 h]

/-- The caller's environment behind the call. -/
def envBack (ps : List Nat) (nb : Nat) (ε ε' : Env) : Env := fun i => match ps.idxOf? i with
  | some k => ε' k
  | none => if nb ≤ i ∧ i < nb + 16 then ε' (ps.length + (i - nb)) else ε i

theorem nodup_inj {ps : List Nat} (hnd : ps.Nodup) {i j : Nat} (hi : i < ps.length) (hj : j < ps.length) (h : ps[i] = ps[j]) : i = j := by
  have hp := List.pairwise_iff_getElem.1 hnd
  rcases Nat.lt_trichotomy i j with h1 | h1 | h1
  · exact absurd h (hp i j hi hj h1)
  · exact h1
  · exact absurd h.symm (hp j i hj hi h1)
theorem idxOf_get {ps : List Nat} (hnd : ps.Nodup) {k : Nat} (hk : k < ps.length) : ps.idxOf? ps[k] = some k := by
  rw [List.idxOf?_eq_some_iff]
  refine ⟨hk, by simp, fun j hj => ?_⟩
  intro e
  have e' : ps[j] = ps[k] := by simpa using e
  have := nodup_inj hnd (by omega) hk e'
  omega

theorem obsL_le {σ : St} {φ : Nat → Nat} : ∀ {obs : List Ob} {k : Nat} {x : Ob}, (∀ j y, obs[j]? = some y → ObLe (σ.ob (φ j)) (y.ren φ)) → obs[k]? = some x → ObLe (σ.ob (φ k)) (x.ren φ) := fun h hk => h _ _ hk

theorem ObOK.unren {H : View} {ε : Env} {w : World} {φ : Nat → Nat} {m id : Nat} {x : Ob} (h : ObOK H ε w (φ id) (x.ren φ)) (hl : x.lt m) (hid : id < m) : ObOK H (fun i => if i < m then ε (φ i) else none) w id x := by
  cases x with
  | box cs =>
    obtain ⟨b, arr, T, h1, h2, h3, h4, h5⟩ := h
    exact ⟨b, arr, T, by simp [hid, h1], h2, RL.unren h3 hl, h4, h5⟩
  | perm e sz n =>
    obtain ⟨v, xs, h1, h2⟩ := h
    exact ⟨v, xs, by simp [hid, h1], h2⟩
  | gone => exact h.elim
theorem ObOK.reren {H : View} {ε ε' : Env} {w : World} {φ : Nat → Nat} {id : Nat} {x : Ob} (h : ObOK H ε w id x) (hε : ∀ i l, ε i = some l → ε' (φ i) = some l) : ObOK H ε' w (φ id) (x.ren φ) := by
  cases x with
  | box cs =>
    obtain ⟨b, arr, T, h1, h2, h3, h4, h5⟩ := h
    exact ⟨b, arr, T, hε _ _ h1, h2, RL.ren hε h3, h4, h5⟩
  | perm e sz n =>
    obtain ⟨v, xs, h1, h2⟩ := h
    exact ⟨v, xs, hε _ _ h1, h2⟩
  | gone => exact h.elim

/-- Writes of a call. -/
def callWs (φ : Nat → Nat) (obs' : List Ob) : List (Nat × Ob) := obs'.zipIdx.map fun x => (φ x.2, x.1.ren φ)
def obsOK (σ : St) (φ : Nat → Nat) (obs : List Ob) : Prop := ∀ k x, obs[k]? = some x → ObLe (σ.ob (φ k)) (x.ren φ)

theorem wsLook_mem {id : Nat} {x : Ob} : ∀ {ws : List (Nat × Ob)}, wsLook ws id = some x → (id, x) ∈ ws
  | [], h => by cases h
  | y :: ws, h => by
    rw [wsLook_cons] at h
    cases hq : wsLook ws id with
    | some z =>
      rw [hq] at h
      simp at h; subst h
      exact List.mem_cons_of_mem _ (wsLook_mem hq)
    | none =>
      rw [hq] at h
      simp at h
      obtain ⟨h1, h2⟩ := h
      subst h1; subst h2
      exact List.mem_cons_self
theorem wsLook_not {id : Nat} : ∀ {ws : List (Nat × Ob)}, wsLook ws id = none → ∀ y ∈ ws, y.1 ≠ id
  | [], _, y, hy => by cases hy
  | z :: ws, h, y, hy => by
    rw [wsLook_cons] at h
    cases hq : wsLook ws id with
    | some u => rw [hq] at h; simp at h
    | none =>
      rw [hq] at h
      simp at h
      rcases List.mem_cons.1 hy with rfl | hy
      · exact h
      · exact wsLook_not hq y hy

theorem callWs_some {φ : Nat → Nat} {obs' : List Ob} {id : Nat} {x : Ob} (h : wsLook (callWs φ obs') id = some x) : ∃ k y, obs'[k]? = some y ∧ φ k = id ∧ x = y.ren φ := by
  have := wsLook_mem h
  unfold callWs at this
  simp only [List.mem_map] at this
  obtain ⟨⟨y, k⟩, hk, he⟩ := this
  cases he
  exact ⟨k, y, by simpa using List.mem_zipIdx' hk |>.2 ▸ (by simp [(List.mem_zipIdx' hk).1]), rfl, rfl⟩
theorem callWs_none {φ : Nat → Nat} {obs' : List Ob} {id : Nat} (h : wsLook (callWs φ obs') id = none) : ∀ k, k < obs'.length → φ k ≠ id := by
  intro k hk
  refine wsLook_not h (φ k, obs'[k].ren φ) ?_
  unfold callWs
  simp only [List.mem_map]
  exact ⟨(obs'[k], k), by rw [List.mem_zipIdx_iff_getElem?]; simp [hk], rfl⟩

section
variable {P : Program} {nb : Nat} {t : TypeId} {σ : St} {K : Kont}

theorem callV_obj {f : FuncId} {x : Operand} {args : Array Operand} {ts : Array TypeId} {first caps avs args' : List AV} {r : AV} {obs obs' : List Ob} (ps : List Nat) (ho : Own P f) (hs : CSpec P f args' obs r obs') (hm : ps.length = obs.length) (hnd : ps.Nodup)
    (hm1 : obs.length ≤ obs'.length) (hm2 : obs'.length ≤ obs.length + 16) (hx : σ.ev x = .fn (.func f) first caps) (he : avs = first ++ args.toList.map σ.ev ++ caps)
    (hle : LeL avs (renL (callφ ps nb) args')) (hlt : ltL obs.length args') (hobs : obsOK σ (callφ ps nb) obs) (hobl : ∀ x ∈ obs, x.lt obs.length)
    (hK : K (r.ren (callφ ps nb)) ps (callWs (callφ ps nb) obs')) : CallV P nb (.call { callee := .value x, args, argTypes := ts }) t f avs σ K := by
  obtain ⟨fn, g1, g2, g3⟩ := ho
  subst he
  refine ⟨_, _, _, fun σ' hx' hob' => ?_, hK⟩
  intro c H ε a w o hop _ hmem hr hfr next Q hn'
  have e0 : σ'.ev x = σ.ev x := hx' x (by simp [Op.operands, Call.operands])
  have e1 : args.toList.map σ'.ev = args.toList.map σ.ev := List.map_congr_left fun y hy => hx' y (by simp [Op.operands, Call.operands]; exact .inr (by simpa using hy))
  have hxv := R_ev hr x; rw [e0, hx] at hxv
  obtain ⟨f1, c1, hv, hf1, hc1⟩ := hxv.fn_inv
  have hxs : RL H ε (args.toList.map a.eval) (args.toList.map σ.ev) := by
    rw [← e1]
    generalize args.toList = l
    induction l with
    | nil => exact .nil
    | cons y ys ih => exact .cons _ _ _ _ (R_ev hr y) ih
  have hvs := RL.unren (RL.le hle ((hf1.append hxs).append hc1)) hlt
  have hrun : (execOp a.eval o).run P w = .ok (.enter f (f1 ++ args.toList.map a.eval ++ c1).toArray) w := by
    have e2 : args.map a.eval = (args.toList.map a.eval).toArray := by rw [← Array.toList_map, Array.toArray_toList]
    simp [execOp, hop, resolve, hv, Deferred.ofValue, invoke, callFunc_enter g1 g2 g3, e2]
  -- the objects that are handed over
  have hpob : ∀ k y, obs[k]? = some y → ObLe (σ'.ob (callφ ps nb k)) (y.ren (callφ ps nb)) := by
    intro k y hy
    have hk : k < ps.length := by rw [hm]; exact (List.getElem?_eq_some_iff.1 hy).1
    have : σ'.ob (callφ ps nb k) = σ.ob (callφ ps nb k) := by rw [callφ_lt hk]; exact hob' _ (List.getElem_mem hk)
    rw [this]; exact hobs k y hy
  have hpne : ∀ k, k < ps.length → σ'.ob (callφ ps nb k) ≠ none := by
    intro k hk hq
    have hy : obs[k]? = some (obs[k]'(by omega)) := by simp [show k < obs.length by omega]
    have := hpob k _ hy
    rw [hq] at this; exact this
  have hpε : ∀ k, k < ps.length → ∃ l, ε (callφ ps nb k) = some l := by
    intro k hk
    cases hq : σ'.ob (callφ ps nb k) with
    | none => exact absurd hq (hpne k hk)
    | some y =>
      have := hmem.objs _ y hq
      cases y with
      | box cs => obtain ⟨b, _, _, h1, _⟩ := this; exact ⟨_, h1⟩
      | perm e sz n => obtain ⟨v, _, h1, _⟩ := this; exact ⟨_, h1⟩
      | gone => exact this.elim
  have hpin : ∀ i, i ∈ ps → ∃ l, ε i = some l := by
    intro i hi
    obtain ⟨k, hk, rfl⟩ := List.mem_iff_getElem.1 hi
    have := hpε k hk
    rwa [callφ_lt hk] at this
  have hφinj : ∀ i j, i < ps.length → j < ps.length → i ≠ j → callφ ps nb i ≠ callφ ps nb j := by
    intro i j hi hj hij
    rw [callφ_lt hi, callφ_lt hj]
    exact fun e => hij (nodup_inj hnd hi hj e)
  let εc : Env := fun id => if id < obs.length then ε (callφ ps nb id) else none
  have hεc : ∀ k, k < ps.length → εc k = ε (callφ ps nb k) := fun k hk => by simp only [εc]; rw [if_pos (by omega)]
  have hmc : Mem (callCtx w H εc obs.length) H εc (obF obs) w := by
    refine ⟨hmem.view, fun id y hy => ?_, fun i j hi hj hij b hb => ?_, fun id hid b hb => ?_, rfl, rfl, rfl, Nat.le_refl _, fun _ _ _ => rfl, View.le_refl H, fun _ _ _ _ => rfl, Env.le_refl _⟩
    · have hy := obF_some hy
      have hid : id < obs.length := (List.getElem?_eq_some_iff.1 hy).1
      exact ObOK.unren ((hpob id y hy).ok fun z hz => hmem.objs _ z hz) (hobl y (List.mem_of_getElem? hy)) hid
    · have hil : i < ps.length := by rw [hm]; exact obF_lt hi
      have hjl : j < ps.length := by rw [hm]; exact obF_lt hj
      rw [hεc i hil] at hb
      rw [hεc j hjl]
      exact hmem.dj _ _ (hpne i hil) (hpne j hjl) (hφinj i j hil hjl hij) b hb
    · exact .inr ⟨id, obF_lt hid, hb⟩
  unfold Oper.wp
  rw [hrun, Oper.upon_enter]
  refine (hs w H εc _ hmc hvs (fun id hid => by simp only [εc]; rw [if_neg (by omega)])).mono fun e w' ⟨v, H', ε', he, hH, hε, hdom, hR, hm'⟩ => ?_
  subst he
  -- numbers there and back
  have hnew : ∀ k, ps.length ≤ k → k < obs'.length → ps.idxOf? (callφ ps nb k) = none := by
    intro k h1 h2
    rw [callφ_ge h1]
    cases hq : ps.idxOf? (nb + (k - ps.length)) with
    | none => rfl
    | some j =>
      obtain ⟨hj, he, _⟩ := List.idxOf?_eq_some_iff.1 hq
      have he' : ps[j] = nb + (k - ps.length) := by simpa using he
      obtain ⟨l, hl⟩ := hpin ps[j] (List.getElem_mem hj)
      rw [he', hfr _ (by omega) (by omega)] at hl
      cases hl
  have hback : ∀ k, k < obs'.length → envBack ps nb ε ε' (callφ ps nb k) = ε' k := by
    intro k hk
    by_cases h1 : k < ps.length
    · unfold envBack
      rw [callφ_lt h1, idxOf_get hnd h1]
    · unfold envBack
      rw [hnew k (by omega) hk, callφ_ge (by omega)]
      simp only
      rw [if_pos ⟨by omega, by omega⟩]
      congr 1
      omega
  have hrenε : ∀ i l, ε' i = some l → envBack ps nb ε ε' (callφ ps nb i) = some l := by
    intro i l hl
    rcases Nat.lt_or_ge i obs'.length with h | h
    · rw [hback i h]; exact hl
    · rw [hdom i h] at hl; cases hl
  have hout : ∀ i, i ∉ ps → ¬ (nb ≤ i ∧ i < nb + 16) → envBack ps nb ε ε' i = ε i := by
    intro i h1 h2
    unfold envBack
    rw [List.idxOf?_eq_none_iff.2 h1]
    simp only
    rw [if_neg h2]
  have hεle : ε.le (envBack ps nb ε ε') := by
    intro i l hl
    by_cases h1 : i ∈ ps
    · obtain ⟨k, hk, rfl⟩ := List.mem_iff_getElem.1 h1
      have h2 : εc k = some l := by rw [hεc k hk, callφ_lt hk]; exact hl
      have h3 := hε k l h2
      have h4 : envBack ps nb ε ε' ps[k] = ε' k := by have := hback k (by omega); rwa [callφ_lt hk] at this
      cases l with
      | blk b => simp only at h3 ⊢; rw [h4]; exact h3
      | row v0 n0 => simp only at h3 ⊢; rw [h4]; exact h3
    · have h2 : ¬ (nb ≤ i ∧ i < nb + 16) := fun ⟨a1, a2⟩ => by rw [hfr i a1 a2] at hl; cases hl
      have h3 := hout i h1 h2
      cases l with
      | blk b => simp only; rw [h3]; exact hl
      | row v0 n0 => exact ⟨v0, n0, by rw [h3]; exact hl, Nat.le_refl _, fun _ => rfl⟩
  -- what the callee may turn is what it was handed
  have hS : ∀ b, (callCtx w H εc obs.length).S b → ∃ k, k < ps.length ∧ blkOf (ε (callφ ps nb k)) = some b := by
    rintro b ⟨k, hk, hb⟩
    refine ⟨k, by omega, ?_⟩
    rw [hεc k (by omega)] at hb
    exact hb
  have hold' : ∀ i y, wsLook (callWs (callφ ps nb) obs') i = none → σ'.ob i = some y → i ∉ ps ∧ envBack ps nb ε ε' i = ε i ∧ ∀ b, blkOf (ε i) = some b → b < w.heap.size ∧ ¬ (callCtx w H εc obs.length).S b := by
    intro i y hw hy
    have h1 : i ∉ ps := by
      intro h
      obtain ⟨k, hk, rfl⟩ := List.mem_iff_getElem.1 h
      have := callWs_none hw k (by omega)
      rw [callφ_lt hk] at this
      exact this rfl
    have hne : σ'.ob i ≠ none := by rw [hy]; simp
    have h2 : ¬ (nb ≤ i ∧ i < nb + 16) := by
      rintro ⟨a1, a2⟩
      have := hmem.objs i y hy
      cases y with
      | box cs => obtain ⟨b, _, _, q, _⟩ := this; rw [hfr i a1 a2] at q; cases q
      | perm e sz n => obtain ⟨v, _, q, _⟩ := this; rw [hfr i a1 a2] at q; cases q
      | gone => exact this.elim
    refine ⟨h1, hout i h1 h2, fun b hb => ⟨hmem.blk_lt hne hb, fun hsb => ?_⟩⟩
    obtain ⟨k, hk, hbk⟩ := hS b hsb
    refine hmem.dj i _ hne (hpne k hk) ?_ b hb hbk
    intro e
    rw [callφ_lt hk] at e
    exact h1 (e ▸ List.getElem_mem hk)
  have hcases : ∀ i, applyW σ'.ob (callWs (callφ ps nb) obs') i ≠ none → (∃ k y, obs'[k]? = some y ∧ callφ ps nb k = i ∧ k < obs'.length ∧ obF obs' k ≠ none) ∨ (wsLook (callWs (callφ ps nb) obs') i = none ∧ ∃ y, σ'.ob i = some y) := by
    intro i hi
    rw [applyW_get] at hi
    unfold wsAt at hi
    cases hq : wsLook (callWs (callφ ps nb) obs') i with
    | some z =>
      obtain ⟨k, y, h1, h2, h3⟩ := callWs_some hq
      rw [hq] at hi
      refine .inl ⟨k, y, h1, h2, (List.getElem?_eq_some_iff.1 h1).1, ?_⟩
      unfold obF
      rw [h1]
      subst h3
      cases y <;> first | exact fun _ => hi rfl | (intro e; cases e)
    | none =>
      rw [hq] at hi
      cases hy : σ'.ob i with
      | none => rw [hy] at hi; exact absurd rfl hi
      | some y => exact .inr ⟨rfl, y, rfl⟩
  refine hn' v w' H' (envBack ps nb ε ε') hH hεle ?_ (R.ren hrenε hR) ?_
  · intro i h1 h2
    by_cases h3 : i ∈ ps
    · obtain ⟨l, hl⟩ := hpin i h3
      rw [h1] at hl; cases hl
    · rw [hout i h3 h2]; exact h1
  · refine ⟨hm'.view, fun i y hy => ?_, fun i j hi hj hij b hb hb' => ?_, fun i hi b hb => ?_, hm'.os.trans hmem.os, hm'.tape.trans hmem.tape, hm'.output.trans hmem.output, Nat.le_trans hmem.size hm'.size, fun k hk hSk => ?_, View.le_trans hmem.hle hm'.hle, fun b o hb hSb => ?_, Env.le_trans hmem.ele hεle⟩
    · rw [applyW_get] at hy
      unfold wsAt at hy
      cases hq : wsLook (callWs (callφ ps nb) obs') i with
      | some z =>
        rw [hq] at hy
        obtain ⟨k, u, h1, rfl, rfl⟩ := callWs_some hq
        have hz := Ob.opt_some hy
        subst hz
        refine (hm'.objs k u ?_).reren hrenε
        unfold obF
        rw [h1]
        cases u <;> first | rfl | cases hy
      | none =>
        rw [hq] at hy
        simp only at hy
        obtain ⟨h1, h2, h3⟩ := hold' i y hq hy
        exact (hmem.objs i y hy).ext hH hεle h2 (fun b hb => hm'.block b (h3 b hb).1 (h3 b hb).2) (fun b hb o => hm'.hold b o (h3 b hb).1 (h3 b hb).2)
    · rcases hcases i hi with ⟨k, y, h1, rfl, h2, hnk⟩ | ⟨h1, y, h2⟩
      · rw [hback k h2] at hb
        rcases hcases j hj with ⟨k', y', h1', rfl, h2', hnk'⟩ | ⟨h1', y', h2'⟩
        · rw [hback k' h2'] at hb'
          exact hm'.dj k k' hnk hnk' (fun e => hij (by rw [e])) b hb hb'
        · obtain ⟨q1, q2, q3⟩ := hold' j y' h1' h2'
          rw [q2] at hb'
          obtain ⟨q4, q5⟩ := q3 b hb'
          rcases hm'.own k hnk b hb with h | h
          · have : w.heap.size ≤ b := h
            omega
          · exact q5 h
      · obtain ⟨q1, q2, q3⟩ := hold' i y h1 h2
        rw [q2] at hb
        obtain ⟨q4, q5⟩ := q3 b hb
        rcases hcases j hj with ⟨k', y', h1', rfl, h2', hnk'⟩ | ⟨h1', y', h2'⟩
        · rw [hback k' h2'] at hb'
          rcases hm'.own k' hnk' b hb' with h | h
          · have : w.heap.size ≤ b := h
            omega
          · exact q5 h
        · obtain ⟨_, q2', _⟩ := hold' j y' h1' h2'
          rw [q2'] at hb'
          exact hmem.dj i j (by rw [h2]; simp) (by rw [h2']; simp) hij b hb hb'
    · rcases hcases i hi with ⟨k, y, h1, rfl, h2, hnk⟩ | ⟨h1, y, h2⟩
      · rw [hback k h2] at hb
        rcases hm'.own k hnk b hb with h | h
        · exact .inl (Nat.le_trans hmem.size h)
        · obtain ⟨k0, hk0, hb0⟩ := hS b h
          exact hmem.own _ (hpne k0 hk0) b hb0
      · obtain ⟨q1, q2, q3⟩ := hold' i y h1 h2
        rw [q2] at hb
        exact hmem.own i (by rw [h2]; simp) b hb
    · have hk' : k < w.heap.size := Nat.lt_of_lt_of_le hk hmem.size
      rw [hm'.block k hk' (fun h => by
        obtain ⟨k0, hk0, hb0⟩ := hS k h
        rcases hmem.own _ (hpne k0 hk0) k hb0 with h | h
        · omega
        · exact hSk h)]
      exact hmem.block k hk hSk
    · have hb' : b < w.heap.size := Nat.lt_of_lt_of_le hb hmem.size
      rw [hm'.hold b o hb' (fun h => by
        obtain ⟨k0, hk0, hb0⟩ := hS b h
        rcases hmem.own _ (hpne k0 hk0) b hb0 with h | h
        · omega
        · exact hSb h)]
      exact hmem.hold b o hb hSb
end
end Go.Sy

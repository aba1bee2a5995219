/- The symbolic layer, fifteenth part: the contract of a function that is handed objects, out of its body. No condition. -/
import Derived.Test.YtapgdbjlgebjmaaSyN
set_option linter.unusedVariables false
namespace Go.Sy

def oneAV : List AV → AV
  | [a] => a
  | l => .tup l

/-- Which of the callee's numbers the objects have that it hands back: the first m as they were, then new ones. -/
def backN (m : Nat) (new : List Nat) : Nat → Nat := fun k => if k < m then k else new.getD (k - m) 0

def obsBack (σ : St) (φ : Nat → Nat) : List Ob → Nat → Prop
  | [], _ => True
  | x :: l, k => ObLe (σ.ob (φ k)) (x.ren φ) ∧ obsBack σ φ l (k + 1)
/-- As 'obsBack', where what is gone may be anything. -/
def ObLeG (o : Option Ob) : Ob → Prop
  | .gone => True
  | .box cs => ObLe o (.box cs)
  | .perm e sz n => ObLe o (.perm e sz n)
def obsRet (σ : St) (φ : Nat → Nat) : List Ob → Nat → Prop
  | [], _ => True
  | x :: l, k => ObLeG (σ.ob (φ k)) (x.ren φ) ∧ obsRet σ φ l (k + 1)
theorem obsRet_get {σ : St} {φ : Nat → Nat} : ∀ {l : List Ob} {k j : Nat} {x : Ob}, obsRet σ φ l k → l[j]? = some x → ObLeG (σ.ob (φ (k + j))) (x.ren φ)
  | y :: l, k, j, x, h, hx => by
    simp only [obsRet] at h
    cases j with
    | zero => simp at hx; subst hx; exact h.1
    | succ j =>
      have := obsRet_get (j := j) h.2 (by simpa using hx)
      rwa [show k + 1 + j = k + (j + 1) by omega] at this
def ltO (n : Nat) : List Ob → Prop
  | [] => True
  | x :: l => x.lt n ∧ ltO n l

/-- What is to be shown at a return. -/
def retVO (P : Program) (rs : List ResultVar) (m : Nat) (r : AV) (obs' : List Ob) (σ : St) (new : List Nat) : Prop :=
  m + new.length = obs'.length ∧ (∀ k ∈ new, m ≤ k) ∧ new.Nodup ∧ (match resL P σ rs with | some l => Le (oneAV l) (r.ren (backN m new)) | none => False) ∧ obsRet σ (backN m new) obs' 0 ∧ r.lt obs'.length ∧ ltO obs'.length obs'
def retO (P : Program) (rs : List ResultVar) (m : Nat) (r : AV) (obs' : List Ob) : Exit → St → Prop
  | .normal, σ | .ret, σ => ∃ new, retVO P rs m r obs' σ new
  | _, _ => False

theorem obsBack_get {σ : St} {φ : Nat → Nat} : ∀ {l : List Ob} {k j : Nat} {x : Ob}, obsBack σ φ l k → l[j]? = some x → ObLe (σ.ob (φ (k + j))) (x.ren φ)
  | y :: l, k, j, x, h, hx => by
    simp only [obsBack] at h
    cases j with
    | zero => simp at hx; subst hx; exact h.1
    | succ j =>
      have := obsBack_get (j := j) h.2 (by simpa using hx)
      rwa [show k + 1 + j = k + (j + 1) by omega] at this
theorem ltO_get {n : Nat} : ∀ {l : List Ob} {j : Nat} {x : Ob}, ltO n l → l[j]? = some x → x.lt n
  | y :: l, j, x, h, hx => by
    simp only [ltO] at h
    cases j with
    | zero => simp at hx; subst hx; exact h.1
    | succ j => exact ltO_get (j := j) h.2 (by simpa using hx)

def St.startO (args : List AV) (obs : List Ob) : St := { tm := fun i => args.getD i (.tup []), ob := obF obs, nx := obs.length }

theorem cspec_of_tri {P : Program} {f : FuncId} {fn : Func} {code : Code} {args : List AV} {obs obs' : List Ob} {r : AV} {N : Nat} (hf : P.funcs[f]? = some fn) (hb : fn.body = some code) (hN : fn.ntmps = N) (hn : args.length ≤ N)
    (h : Tri P N code (St.startO args obs) (retO P fn.results.toList obs.length r obs')) : CSpec P f args obs r obs' := by
  intro w H ε vs hm hvs hdom
  refine calls_of_wp hf hb ?_
  let c : Ctx := { callCtx w H ε obs.length with N := N }
  have hlen : vs.length = args.length := hvs.length_eq
  have hmc : ∀ {H' : View} {ε' : Env} {ob : Nat → Option Ob} {w' : World}, Mem (callCtx w H ε obs.length) H' ε' ob w' ↔ Mem c H' ε' ob w' := by
    intro H' ε' ob w'
    exact ⟨fun h => ⟨h.view, h.objs, h.dj, h.own, h.os, h.tape, h.output, h.size, h.block, h.hle, h.hold, h.ele⟩, fun h => ⟨h.view, h.objs, h.dj, h.own, h.os, h.tape, h.output, h.size, h.block, h.hle, h.hold, h.ele⟩⟩
  have hinv : Inv c H ε (St.startO args obs) { tmps := vs.toArray ++ Array.replicate (fn.ntmps - vs.toArray.size) undef, defers := [] } w := by
    refine ⟨by simp [c, hN, hlen]; omega, rfl, fun i => ?_, hmc.1 hm, hdom⟩
    have := R_start hvs i
    have e : (vs.toArray ++ Array.replicate (fn.ntmps - vs.toArray.size) undef).getD i undef = vs.getD i undef := by
      rw [Array.getD_eq_getD_getElem?, Array.getElem?_append]
      simp only [List.size_toArray, List.getElem?_toArray, List.getD_eq_getElem?_getD]
      split
      · rfl
      · rename_i hi
        rw [List.getElem?_eq_none (by omega), Array.getElem?_replicate]
        split <;> rfl
    rw [e]; exact this
  have fin : ∀ σ' H' ε' a' w', (∃ new, retVO P fn.results.toList obs.length r obs' σ' new) → Inv c H' ε' σ' a' w' → ∃ v, (results fn a'.tmps).run P w' = .ok v w' ∧
      (∃ v' H' ε', Ending.returned v = .returned v' ∧ H.le H' ∧ ε.le ε' ∧ (∀ id, obs'.length ≤ id → ε' id = none) ∧ R H' ε' v' r ∧ Mem (callCtx w H ε obs.length) H' ε' (obF obs') w') := by
    rintro σ' H' ε' a' w' ⟨new, h1, h2, h3, h4, h5, h6, h7⟩ hi
    split at h4
    · rename_i l hl
      obtain ⟨vs', q1, q2⟩ := res_run hi hl
      have hv : ∃ v, (results fn a'.tmps).run P w' = .ok v w' ∧ R H' ε' v (oneAV l) := by
        rw [results_eq]
        simp only [Sem.run_bind, q1, Result.andThen_ok, Sem.run_pure]
        match l, vs', q2 with
        | [], _, q2 => cases q2; exact ⟨_, rfl, .tup _ _ .nil⟩
        | [b], _, q2 => cases q2 with | cons v _ _ _ q3 q4 => cases q4; exact ⟨_, rfl, q3⟩
        | _ :: _ :: _, _ :: _ :: _, q2 => exact ⟨_, rfl, .tup _ _ q2⟩
      obtain ⟨v, hv1, hv2⟩ := hv
      refine ⟨v, hv1, v, H', fun id => if id < obs'.length then ε' (backN obs.length new id) else none, rfl, hi.mem.hle, ?_, fun id hid => if_neg (by omega), R.unren (R.le h4 hv2) h6, ?_⟩
      · intro id l hl
        have hid : id < obs.length := by
          rcases Nat.lt_or_ge id obs.length with h | h
          · exact h
          · rw [hdom id h] at hl; cases hl
        have hid' : id < obs'.length := by omega
        have he := hi.mem.ele id l hl
        have hb' : backN obs.length new id = id := by simp [backN, hid]
        cases l with
        | blk b => simp only at he ⊢; rw [if_pos hid', hb']; exact he
        | row v n => simp only at he ⊢; rw [if_pos hid', hb']; exact he
      · have hinj : ∀ i j, i < obs'.length → j < obs'.length → i ≠ j → backN obs.length new i ≠ backN obs.length new j := by
          intro i j hi' hj' hij
          have hget : ∀ k, obs.length ≤ k → k < obs'.length → ∃ hk : k - obs.length < new.length, backN obs.length new k = new[k - obs.length] := by
            intro k k1 k2
            have hk : k - obs.length < new.length := by omega
            exact ⟨hk, by simp [backN, Nat.not_lt.2 k1, List.getD_eq_getElem?_getD, hk]⟩
          by_cases c1 : i < obs.length
          · have e1 : backN obs.length new i = i := by simp [backN, c1]
            by_cases c2 : j < obs.length
            · have e2 : backN obs.length new j = j := by simp [backN, c2]
              rw [e1, e2]; exact hij
            · obtain ⟨hk, e2⟩ := hget j (by omega) hj'
              rw [e1, e2]
              have := h2 new[j - obs.length] (List.getElem_mem hk)
              omega
          · obtain ⟨hk1, e1⟩ := hget i (by omega) hi'
            by_cases c2 : j < obs.length
            · have e2 : backN obs.length new j = j := by simp [backN, c2]
              rw [e1, e2]
              have := h2 new[i - obs.length] (List.getElem_mem hk1)
              omega
            · obtain ⟨hk2, e2⟩ := hget j (by omega) hj'
              rw [e1, e2]
              intro e
              have := nodup_inj h3 hk1 hk2 e
              omega
        have hob : ∀ k y, obF obs' k = some y → ObLe (σ'.ob (backN obs.length new k)) (y.ren (backN obs.length new)) := by
          intro k y hy
          have h5 := obsRet_get h5 (obF_some hy)
          rw [Nat.zero_add] at h5
          cases y with
          | box cs => exact h5
          | perm e sz n => exact h5
          | gone =>
            unfold obF at hy
            rw [obF_some hy] at hy; cases hy
        have hlt' : ∀ k y, obF obs' k = some y → k < obs'.length := fun k y hy => obF_lt (by rw [hy]; simp)
        have hne : ∀ k, obF obs' k ≠ none → k < obs'.length ∧ σ'.ob (backN obs.length new k) ≠ none := by
          intro k hk
          cases hq : obF obs' k with
          | none => exact absurd hq hk
          | some y =>
            refine ⟨hlt' k y hq, fun e => ?_⟩
            have := hob k y hq
            rw [e] at this; exact this
        have hi' := hmc.2 hi.mem
        exact { hi' with
          objs := fun k y hy => ObOK.unren ((hob k y hy).ok fun z hz => hi.mem.objs _ z hz) (ltO_get h7 (obF_some hy)) (hlt' k y hy)
          dj := fun i j hi1 hj1 hij b hb1 => by
            obtain ⟨l1, n1⟩ := hne i hi1
            obtain ⟨l2, n2⟩ := hne j hj1
            simp only [l1, l2, if_true] at hb1 ⊢
            exact hi.mem.dj _ _ n1 n2 (hinj i j l1 l2 hij) b hb1
          own := fun i hi1 b hb1 => by
            obtain ⟨l1, n1⟩ := hne i hi1
            simp only [l1, if_true] at hb1
            exact hi'.own _ n1 b hb1
          ele := by
            intro id l hl
            have hl' : ε id = some l := hl
            have hid : id < obs.length := by
              rcases Nat.lt_or_ge id obs.length with h | h
              · exact h
              · rw [hdom id h] at hl'; cases hl'
            have hid' : id < obs'.length := by omega
            have he := hi.mem.ele id l hl
            have hb' : backN obs.length new id = id := by simp [backN, hid]
            cases l with
            | blk b => simp only at he ⊢; rw [if_pos hid', hb']; exact he
            | row v n => simp only at he ⊢; rw [if_pos hid', hb']; exact he }
    · exact h4.elim
  refine h c H ε _ w rfl hinv _ fun e σ' H' ε' a' w' hK hi => ?_
  cases e with
  | normal => exact ⟨hi.df, fin σ' H' ε' a' w' hK hi⟩
  | ret => exact ⟨hi.df, fin σ' H' ε' a' w' hK hi⟩
  | exit id => exact hK.elim
  | goto l => exact hK.elim
  | panic ch => exact hK.elim
  | outgrown => exact hK.elim
end Go.Sy

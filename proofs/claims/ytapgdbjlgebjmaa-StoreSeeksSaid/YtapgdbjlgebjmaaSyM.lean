/- The symbolic layer, thirteenth part: a region that draws its order: the proof. No condition. -/
import Derived.Test.YtapgdbjlgebjmaaSyL
set_option linter.unusedVariables false
namespace Go.Sy

theorem count_dec {p q : Nat → Bool} {i : Nat} (hpi : p i = true) (hqi : q i = false) (hqp : ∀ j, q j = true → p j = true) : ∀ {l : List Nat}, i ∈ l → l.countP q + 1 ≤ l.countP p
  | x :: l, h => by
    have mono : l.countP q ≤ l.countP p := List.countP_mono_left fun j _ hj => hqp j hj
    simp only [List.countP_cons]
    rcases List.mem_cons.1 h with rfl | h
    · simp [hpi, hqi]; exact mono
    · have ih := count_dec hpi hqi hqp h
      by_cases hx : q x = true
      · simp [hx, hqp x hx]; omega
      · have hx' : q x = false := by simpa using hx
        simp only [hx', Bool.false_eq_true, if_false]
        split <;> omega

theorem wanted_of {ops : Array Oper} {H : View} {ε : Env} {σ : St} {a : Act} {o : Oper} {b : Bool} (h : ∀ i, R H ε (a.tmps.getD i undef) (σ.tm i)) (hw : wantedAV ops σ o = some b) : Region.wanted o (yielded ops a.tmps) = b := by
  unfold wantedAV at hw
  split at hw
  · rename_i hg
    cases hw
    simp [Region.wanted, hg]
  · rename_i g want hg
    split at hw
    · rename_i d hgd
      have hy : yielded ops a.tmps g = (match a.tmps[d]? with | some (.bool b) => some b | _ => none) := by
        unfold yielded
        unfold gdst at hgd
        rw [hgd]; rfl
      split at hw
      · rename_i b' hb
        cases hw
        have hv := h d
        rw [hb] at hv
        have hv' := hv.s_inv.1
        have hget : a.tmps[d]? = some (.bool b') := by
          rw [Array.getD_eq_getD_getElem?] at hv'
          cases hq : a.tmps[d]? with
          | none => rw [hq] at hv'; cases hv'
          | some u => rw [hq] at hv'; simp at hv'; rw [hv']
        rw [hget] at hy
        simp [Region.wanted, hg, hy]
      · rename_i hb
        cases hw
        have hv := h d
        rw [hb] at hv
        obtain ⟨vs, hv', hl⟩ := hv.tup_inv
        cases hl
        have hyn : yielded ops a.tmps g = none := by
          rw [hy]
          rw [Array.getD_eq_getD_getElem?] at hv'
          cases hq : a.tmps[d]? with
          | none => rfl
          | some u => rw [hq] at hv'; simp at hv'; rw [hv']
        simp [Region.wanted, hg, hyn]
      · cases hw
    · cases hw

theorem wantedAV_congr {ops : Array Oper} {σ σ' : St} {o : Oper} (h : ∀ t ∈ o.looksAt ops, σ.tm t = σ'.tm t) : wantedAV ops σ o = wantedAV ops σ' o := by
  unfold wantedAV
  split
  · rfl
  · rename_i g want hg
    split
    · rename_i d hgd
      have : d ∈ o.looksAt ops := by
        unfold Oper.looksAt
        unfold gdst at hgd
        simp [hg, hgd]
      rw [h d this]
    · rfl

theorem ev_congr {ops : Array Oper} {σ σ' : St} {o : Oper} (h : ∀ t ∈ o.looksAt ops, σ.tm t = σ'.tm t) : ∀ x ∈ o.op.operands.toList, σ.ev x = σ'.ev x := by
  intro x hx
  cases x with
  | tmp t =>
    refine h t ?_
    unfold Oper.looksAt
    simp only [List.mem_append, List.mem_filterMap]
    exact .inl ⟨.tmp t, hx, rfl⟩
  | const v => rfl
  | global g => rfl
  | func f => rfl

section
variable {P : Program} {ops : Array Oper} {base : Nat}

def wrT (ops : Array Oper) (qs : List Rec) (k t : Nat) : Option AV := match ops[k]? with
  | some o => if o.dst = some t then some (qs.getD k .skip).val else none
  | none => none
def wrO (qs : List Rec) (k id : Nat) : Option (Option Ob) := (wsLook (qs.getD k .skip).ws id).map Ob.opt
def stAt (ops : Array Oper) (qs : List Rec) (σ : St) (D : Nat → Bool) (n : Nat) : St := { tm := repF (wrT ops qs) D σ.tm n, ob := repF (wrO qs) D σ.ob n, nx := σ.nx }

theorem put_eq {qs : List Rec} {σ : St} {k : Nat} {o : Oper} (ho : ops[k]? = some o) : σ.put o.dst (qs.getD k .skip).val (qs.getD k .skip).ws = { tm := fun x => (wrT ops qs k x).getD (σ.tm x), ob := fun x => (wrO qs k x).getD (σ.ob x), nx := σ.nx } := by
  unfold St.put
  congr 1
  · cases hd : o.dst with
    | none => funext x; simp [wrT, ho, hd]
    | some d =>
      funext x
      by_cases h : x = d
      · subst h; simp [wrT, ho, hd, upd]
      · have h' : ¬ d = x := fun e => h e.symm
        simp [wrT, ho, hd, upd, h, h']
  · funext x
    rw [applyW_get]
    unfold wrO wsAt
    cases wsLook (qs.getD k .skip).ws x <;> simp

theorem run_states {qs : List Rec} {σ0 : St} {l : List Oper} {i : Nat} {σ1 σ' : St} {qs' : List Rec} (h : Run P ops base l i σ1 qs' σ') (hl : ops.toList.drop i = l) (hq : qs.drop i = qs') (hs : σ1 = stAt ops qs σ0 (fun _ => true) i) (hi : i ≤ ops.size) :
    (∀ j, i ≤ j → ∀ o, ops[j]? = some o → Valid P ops (base + 16 * j) o (stAt ops qs σ0 (fun _ => true) j) (qs.getD j .skip)) ∧ σ' = stAt ops qs σ0 (fun _ => true) ops.size := by
  induction h with
  | nil i σ =>
    have hsz : ops.size ≤ i := by
      have := congrArg List.length hl
      simp at this; omega
    refine ⟨fun j hj o ho => ?_, ?_⟩
    · have : j < ops.size := (Array.getElem?_eq_some_iff.1 ho).1
      omega
    · have he : i = ops.size := by omega
      rw [hs, he]
  | cons o l i σ q qs' σ' hv _ ih =>
    have hoi : ops[i]? = some o := by
      have := congrArg List.head? hl
      simpa using this
    have hqi : qs.getD i .skip = q := by
      have := congrArg List.head? hq
      simp at this
      simp [this]
    have hl' : ops.toList.drop (i + 1) = l := by
      have := congrArg List.tail hl
      simpa using this
    have hq' : qs.drop (i + 1) = qs' := by
      have := congrArg List.tail hq
      simpa using this
    have hstep : σ.put o.dst q.val q.ws = stAt ops qs σ0 (fun _ => true) (i + 1) := by
      rw [← hqi, put_eq hoi, hs]
      simp [stAt, repF]
    have hlt : i < ops.size := (Array.getElem?_eq_some_iff.1 hoi).1
    obtain ⟨h1, h2⟩ := ih hl' hq' hstep (by omega)
    refine ⟨fun j hj o' ho' => ?_, h2⟩
    by_cases he : j = i
    · subst he
      rw [hoi] at ho'; cases ho'
      rw [hqi, ← hs]; exact hv
    · exact h1 j (by omega) o' ho'

theorem run_length {l : List Oper} {i : Nat} {σ σ' : St} {qs : List Rec} (h : Run P ops base l i σ qs σ') : qs.length = l.length := by
  induction h with
  | nil => rfl
  | cons _ _ _ _ _ _ _ _ _ ih => simp [ih]

theorem slots_apart {anc : List (List Nat)} (h : slotsOK ops anc = true) {i j : Nat} (hij : i < j) {x y : Oper} (hx : ops[i]? = some x) (hy : ops[j]? = some y) (hn : (anc.getD j []).contains i = false) : apartS ops x y = true := by
  have hj : j < ops.size := (Array.getElem?_eq_some_iff.1 hy).1
  have := (List.all_eq_true.1 ((List.all_eq_true.1 h) j (by simpa using hj))) i (by simpa using hij)
  rw [hn, hx, hy] at this
  simpa using this
theorem objs_apart {anc : List (List Nat)} {acc : List (List Nat × List Nat)} (h : objsOK anc acc = true) {i j : Nat} (hij : i < j) (hj : j < acc.length) (hn : (anc.getD j []).contains i = false) : apartO (acc.getD i ([], [])) (acc.getD j ([], [])) = true := by
  have := (List.all_eq_true.1 ((List.all_eq_true.1 h) j (by simpa using hj))) i (by simpa using hij)
  rw [hn] at this
  simpa using this

theorem apartS_spec {x y : Oper} (h : apartS ops x y = true) : (∀ d, x.dst = some d → d ∉ y.looksAt ops ∧ y.dst ≠ some d) ∧ (∀ d, y.dst = some d → d ∉ x.looksAt ops) := by
  unfold apartS at h
  simp only [Bool.and_eq_true] at h
  refine ⟨fun d hd => ?_, fun d hd => ?_⟩
  · have := h.1
    rw [hd] at this
    simpa using this
  · have := h.2
    rw [hd] at this
    simpa using this

theorem wrT_none {qs : List Rec} {k t : Nat} {o : Oper} (ho : ops[k]? = some o) (h : o.dst ≠ some t) : wrT ops qs k t = none := by simp [wrT, ho, h]
theorem wrT_dst {qs : List Rec} {k t : Nat} {o : Oper} (ho : ops[k]? = some o) (h : (wrT ops qs k t).isSome) : o.dst = some t := by
  cases hd : decide (o.dst = some t)
  · have := of_decide_eq_false hd
    rw [wrT_none ho this] at h; cases h
  · exact of_decide_eq_true hd
theorem ids_getD (qs : List Rec) (k : Nat) : (qs.map Rec.ids).getD k ([], []) = (qs.getD k .skip).ids := by
  simp only [List.getD_eq_getElem?_getD, List.getElem?_map]
  cases qs[k]? <;> rfl
theorem wrO_none {qs : List Rec} {k id : Nat} (h : ((qs.getD k .skip).ids.2).contains id = false) : wrO qs k id = none := by
  unfold wrO
  rw [wsLook_none (by simpa [Rec.ids] using h)]; rfl
theorem wrO_in {qs : List Rec} {k id : Nat} (h : (wrO qs k id).isSome) : ((qs.getD k .skip).ids.2).contains id = true := by
  cases hc : ((qs.getD k .skip).ids.2).contains id
  · rw [wrO_none hc] at h; cases h
  · rfl

theorem drew_mem {c : Ctx} {H : View} {ε : Env} {ob : Nat → Option Ob} {w : World} (hm : Mem c H ε ob w) : Mem c H ε ob { w with drawn := w.drawn + 1 } :=
  hm.ext (View.le_refl H) (fun _ _ _ => rfl) (fun b o v h => hm.view b o v h) (fun _ _ => rfl) (Nat.le_refl _) rfl rfl rfl

/-- IN WHATEVER ORDER. -/
theorem draw_any {c : Ctx} {Q : Exit → Act → World → Prop} {σ : St} {qs : List Rec} {K : St → Prop} (hok : drawOK c.N ops = true) (hlen : qs.length = ops.size)
    (hv : ∀ j o, ops[j]? = some o → Valid P ops (base + 16 * j) o (stAt ops qs σ (fun _ => true) j) (qs.getD j .skip)) (hobj : objsOK (ancT ops.toList) (qs.map Rec.ids) = true)
    (hK : K { stAt ops qs σ (fun _ => true) ops.size with nx := base + 16 * ops.size })
    (hQ : ∀ σ' H' ε' a' w', K σ' → Inv c H' ε' σ' a' w' → Q .normal a' w') :
    ∀ (fuel : Nat) (listed : Array Bool) (D : Nat → Bool) (H : View) (ε : Env) (a : Act) (w : World), listed.size = ops.size → (∀ i, listed.getD i false = D i) →
      (∀ k o, ops.toList[k]? = some o → D k = true → ∀ p ∈ predsOf o, D p = true) → Inv0 c H ε (stAt ops qs σ D ops.size) a w →
      (∀ id, base ≤ id → (∀ k, D k = true → ¬ (base + 16 * k ≤ id ∧ id < base + 16 * k + 16)) → ε id = none) → (List.range ops.size).countP (fun i => !D i) ≤ fuel → wpAny P .any ops Q fuel listed a w := by
  simp only [drawOK, Bool.and_eq_true] at hok
  obtain ⟨⟨hN, hanc⟩, hslots⟩ := hok
  have hDlt : ∀ (listed : Array Bool) (D : Nat → Bool), listed.size = ops.size → (∀ i, listed.getD i false = D i) → ∀ i, D i = true → i < ops.size := by
    intro listed D hs hl i hi
    rcases Nat.lt_or_ge i ops.size with h | h
    · exact h
    · rw [← hl i, Array.getD_eq_getD_getElem?, Array.getElem?_eq_none (by omega)] at hi
      cases hi
  have hready : ∀ (listed : Array Bool) (D : Nat → Bool), listed.size = ops.size → (∀ i, listed.getD i false = D i) → ∀ i, i ∈ Region.ready .any ops listed ↔ i < ops.size ∧ D i = false ∧ ∃ o, ops[i]? = some o ∧ ∀ p ∈ predsOf o, D p = true := by
    intro listed D hs hl i
    unfold Region.ready
    rw [List.mem_filter, List.mem_range]
    have hlt : i < ops.size → listed.getD i true = D i := by
      intro h
      rw [← hl i, Array.getD_eq_getD_getElem?, Array.getD_eq_getD_getElem?, Array.getElem?_eq_getElem (by omega)]
      rfl
    constructor
    · rintro ⟨h1, h2⟩
      simp only [Bool.and_eq_true] at h2
      obtain ⟨h2, h3⟩ := h2
      rw [hlt h1] at h2
      have ho : ops[i]? = some ops[i] := by simp [h1]
      rw [ho] at h3
      simp only [Option.map_some, Option.getD_some] at h3
      refine ⟨h1, by simpa using h2, ops[i], ho, fun p hp => ?_⟩
      unfold predsOf at hp
      simp only [List.mem_filterMap] at hp
      obtain ⟨e, he, hpe⟩ := hp
      split at hpe
      · rename_i hb
        cases hpe
        have := (Array.all_eq_true_iff_forall_mem.1 h3) e (by simpa using he)
        simp only [hb, Bool.not_true, Bool.false_or] at this
        rw [← hl]; exact this
      · cases hpe
    · rintro ⟨h1, h2, o, ho, h3⟩
      refine ⟨h1, ?_⟩
      simp only [Bool.and_eq_true]
      refine ⟨by rw [hlt h1, h2]; rfl, ?_⟩
      rw [ho]
      simp only [Option.map_some, Option.getD_some]
      refine Array.all_eq_true_iff_forall_mem.2 fun e he => ?_
      cases hb : Region.binds .any e
      · rfl
      · simp only [Bool.not_true, Bool.false_or]
        rw [hl]
        exact h3 e.on (by unfold predsOf; simp only [List.mem_filterMap]; exact ⟨e, by simpa using he, by simp [hb]⟩)
  have hback : ∀ k o, ops.toList[k]? = some o → ∀ p ∈ predsOf o, p < k := by
    intro k o ho p hp
    have hk : k < ops.toList.length := (List.getElem?_eq_some_iff.1 ho).1
    have hc := (List.all_eq_true.1 hanc) k (by simpa using hk)
    rw [ho] at hc
    simp only [Bool.and_eq_true] at hc
    simpa using (List.all_eq_true.1 hc.1) p hp
  have hfin : ∀ (D : Nat → Bool) (H : View) (ε : Env) (a : Act) (w : World), (∀ i, i < ops.size → D i = true) → (∀ i, D i = true → i < ops.size) → Inv0 c H ε (stAt ops qs σ D ops.size) a w →
      (∀ id, base ≤ id → (∀ k, D k = true → ¬ (base + 16 * k ≤ id ∧ id < base + 16 * k + 16)) → ε id = none) → Q .normal a w := by
    intro D H ε a w hD hDl hi hdom
    have e : stAt ops qs σ D ops.size = stAt ops qs σ (fun _ => true) ops.size := by
      unfold stAt
      rw [repF_congr (D' := fun _ => true) (fun i h => hD i h), repF_congr (f := σ.ob) (D' := fun _ => true) (fun i h => hD i h)]
    rw [e] at hi
    exact hQ _ H ε a w hK ⟨hi.sz, hi.df, hi.tm, hi.mem, fun id hid => hdom id (by simp only at hid; omega) (fun k hk => by have := hDl k hk; simp only at hid; omega)⟩
  intro fuel
  induction fuel with
  | zero =>
    intro listed D H ε a w hs hl hc hi hdom hf
    have hall : ∀ i, i < ops.size → D i = true := by
      intro i hi'
      have h0 : (List.range ops.size).countP (fun i => !D i) = 0 := by omega
      have := (List.countP_eq_zero.1 h0) i (by simpa using hi')
      simpa using this
    refine ⟨?_, hfin D H ε a w hall (hDlt listed D hs hl) hi hdom⟩
    apply List.eq_nil_iff_forall_not_mem.2
    intro i hmem
    have := (hready listed D hs hl i).1 hmem
    rw [hall i this.1] at this
    exact absurd this.2.1 (by simp)
  | succ fuel ih =>
    intro listed D H ε a w hs hl hc hi hdom hf
    refine ⟨fun hnil => ?_, fun i hmem => ?_⟩
    · have hall : ∀ i, i < ops.size → D i = true := by
        intro i
        induction i using Nat.strongRecOn with
        | _ i ihi =>
          intro hi'
          cases hDi : D i
          · have ho : ops[i]? = some ops[i] := by simp [hi']
            have : i ∈ Region.ready .any ops listed := (hready listed D hs hl i).2 ⟨hi', hDi, ops[i], ho, fun p hp => by
              have hpi := hback i ops[i] (by simp [hi']) p hp
              exact ihi p hpi (by omega)⟩
            rw [hnil] at this
            cases this
          · rfl
      exact hfin D H ε a w hall (hDlt listed D hs hl) hi hdom
    · obtain ⟨hlt, hDi, o, ho, hp⟩ := (hready listed D hs hl i).1 hmem
      have hoL : ops.toList[i]? = some o := by simpa using ho
      -- what is not ordered with i
      have hbefore : ∀ j x, j < i → ops[j]? = some x → D j = false → apartS ops x o = true ∧ apartO (qs.getD j .skip).ids (qs.getD i .skip).ids = true := by
        intro j x hj hx hDj
        have hn : ((ancT ops.toList).getD i []).contains j = false := by
          cases hq : ((ancT ops.toList).getD i []).contains j
          · rfl
          · have := anc_ready hanc hc hoL hp j (by simpa using hq)
            rw [hDj] at this; cases this
        refine ⟨slots_apart hslots hj hx ho hn, ?_⟩
        have := objs_apart hobj hj (by simp [hlen]; exact hlt) hn
        rwa [ids_getD, ids_getD] at this
      have hbehind : ∀ j x, i < j → ops[j]? = some x → D j = true → apartS ops o x = true ∧ apartO (qs.getD i .skip).ids (qs.getD j .skip).ids = true := by
        intro j x hj hx hDj
        have hjl : j < ops.size := (Array.getElem?_eq_some_iff.1 hx).1
        have hn : ((ancT ops.toList).getD j []).contains i = false := by
          cases hq : ((ancT ops.toList).getD j []).contains i
          · rfl
          · have := anc_closed hanc hc j (by simpa using hjl) hDj i (by simpa using hq)
            rw [hDi] at this; cases this
        refine ⟨slots_apart hslots hj ho hx hn, ?_⟩
        have := objs_apart hobj hj (by simp [hlen]; exact hjl) hn
        rwa [ids_getD, ids_getD] at this
      have hat : ∀ j, j < ops.size → ∃ x, ops[j]? = some x := fun j hj => ⟨ops[j], by simp [hj]⟩
      -- it sees what it saw
      have hseeT : ∀ t ∈ o.looksAt ops, (stAt ops qs σ D ops.size).tm t = (stAt ops qs σ (fun _ => true) i).tm t := by
        intro t ht
        refine repF_agree hDi (fun j hj hDj => ?_) (Nat.le_of_lt hlt) (fun j hj hjn hDj => ?_)
        · obtain ⟨x, hx⟩ := hat j (by omega)
          refine wrT_none hx fun hd => ?_
          exact ((apartS_spec (hbefore j x hj hx hDj).1).1 t hd).1 ht
        · obtain ⟨x, hx⟩ := hat j hjn
          refine wrT_none hx fun hd => ?_
          exact (apartS_spec (hbehind j x hj hx hDj).1).2 t hd ht
      have hseeO : ∀ id ∈ (qs.getD i .skip).deps, (stAt ops qs σ D ops.size).ob id = (stAt ops qs σ (fun _ => true) i).ob id := by
        intro id hid
        have hmem1 : ((qs.getD i .skip).ids.1).contains id = true := by simpa [Rec.ids] using hid
        refine repF_agree hDi (fun j hj hDj => ?_) (Nat.le_of_lt hlt) (fun j hj hjn hDj => ?_)
        · obtain ⟨x, hx⟩ := hat j (by omega)
          refine wrO_none ?_
          have := (hbefore j x hj hx hDj).2
          unfold apartO at this
          simp only [Bool.and_eq_true] at this
          cases hq : ((qs.getD j .skip).ids.2).contains id
          · rfl
          · have := (List.all_eq_true.1 this.1) id (by simpa using hq)
            rw [hmem1] at this; simp at this
        · obtain ⟨x, hx⟩ := hat j hjn
          refine wrO_none ?_
          have := (hbehind j x hj hx hDj).2
          unfold apartO at this
          simp only [Bool.and_eq_true] at this
          cases hq : ((qs.getD j .skip).ids.2).contains id
          · rfl
          · have := (List.all_eq_true.1 this.2) id (by simpa using hq)
            rw [hmem1] at this; simp at this
      -- the state behind it
      have hnext : (stAt ops qs σ D ops.size).put o.dst (qs.getD i .skip).val (qs.getD i .skip).ws = stAt ops qs σ (fun j => j == i || D j) ops.size := by
        rw [put_eq ho]
        unfold stAt
        congr 1
        · rw [repF_insert hDi (fun j x hj hDj hw => ?_) ops.size, if_pos hlt]
          obtain ⟨y, hy⟩ := hat j (hDlt listed D hs hl j hDj)
          exact wrT_none hy ((apartS_spec (hbehind j y hj hy hDj).1).1 x (wrT_dst ho hw)).2
        · rw [repF_insert hDi (fun j x hj hDj hw => ?_) ops.size, if_pos hlt]
          obtain ⟨y, hy⟩ := hat j (hDlt listed D hs hl j hDj)
          refine wrO_none ?_
          have := (hbehind j y hj hy hDj).2
          unfold apartO at this
          simp only [Bool.and_eq_true] at this
          have := (List.all_eq_true.1 this.1) x (by simpa using wrO_in hw)
          simp only [Bool.and_eq_true] at this
          simpa using this.2
      have hs' : (listed.setIfInBounds i true).size = ops.size := by simpa using hs
      have hl' : ∀ j, (listed.setIfInBounds i true).getD j false = (j == i || D j) := by
        intro j
        rw [Array.getD_eq_getD_getElem?, Array.getElem?_setIfInBounds]
        by_cases hj : i = j
        · subst hj; simp [hs, hlt]
        · have : (j == i) = false := by simpa using fun e => hj e.symm
          rw [if_neg hj, this, Bool.false_or, ← hl j, Array.getD_eq_getD_getElem?]
      have hc' : ∀ k x, ops.toList[k]? = some x → (k == i || D k) = true → ∀ p ∈ predsOf x, (p == i || D p) = true := by
        intro k x hx hk p hpx
        simp only [Bool.or_eq_true] at hk ⊢
        rcases hk with hk | hk
        · have : k = i := by simpa using hk
          subst this
          rw [hoL] at hx; cases hx
          exact .inr (hp p hpx)
        · exact .inr (hc k x hx hk p hpx)
      have hf' : (List.range ops.size).countP (fun j => !(j == i || D j)) ≤ fuel := by
        have := count_dec (p := fun j => !D j) (q := fun j => !(j == i || D j)) (i := i) (by simp [hDi]) (by simp) (fun j hj => by simp at hj ⊢; exact hj.2) (l := List.range ops.size) (by simpa using hlt)
        omega
      have hdst : ∀ d, o.dst = some d → d < a.tmps.size := by
        intro d hdd
        rw [hi.sz]
        have hm : o ∈ ops := Array.mem_of_getElem? ho
        have := (Array.all_eq_true_iff_forall_mem.1 hN) o hm
        simpa [hdd] using this
      have hdf : ∀ (dst : Option Tmp) (v : Value), (a.put dst v).defers = [] := fun dst v => by cases dst <;> exact hi.df
      have hsz : ∀ (dst : Option Tmp) (v : Value), (a.put dst v).tmps.size = c.N := fun dst v => by cases dst <;> simp [Act.put, hi.sz]
      have hvi := hv i o ho
      unfold wpOp
      rw [ho]
      simp only
      cases hq : qs.getD i .skip with
      | skip =>
        rw [hq] at hvi hnext
        have hw : wantedAV ops (stAt ops qs σ D ops.size) o = some false := by rw [wantedAV_congr hseeT]; exact hvi
        have hwf := wanted_of hi.tm hw
        rw [hwf]
        simp only [Bool.false_eq_true, if_false]
        refine ih _ (fun j => j == i || D j) H ε _ w hs' hl' hc' ⟨hsz _ _, hdf _ _, ?_, ?_⟩ (fun id hid hn => hdom id hid fun k hk => hn k (by simp [hk])) hf'
        · rw [← hnext]
          exact put_tm hdst hi.tm (.d _ _ (.tup [] [] .nil))
        · rw [← hnext]
          exact hi.mem
      | did r deps ws =>
        rw [hq] at hvi hnext hseeO
        obtain ⟨hvw, hok⟩ := hvi
        have hw : wantedAV ops (stAt ops qs σ D ops.size) o = some true := by rw [wantedAV_congr hseeT]; exact hvw
        have hwt := wanted_of hi.tm hw
        rw [hwt]
        simp only [if_true]
        left
        have hop := hok (stAt ops qs σ D ops.size) (ev_congr hseeT) hseeO
        refine hop c H ε a w o rfl rfl hi.mem hi.tm (fun id h1 h2 => hdom id (by omega) fun k hk => ?_) _ Q ?_
        · have : k ≠ i := fun e => by subst e; rw [hDi] at hk; cases hk
          omega
        · intro v w' H' ε' hH hε hfr hvR hm
          refine ih _ (fun j => j == i || D j) H' ε' _ w' hs' hl' hc' ⟨hsz _ _, hdf _ _, ?_, ?_⟩ ?_ hf'
          · rw [← hnext]
            exact put_tm hdst (fun j => (hi.tm j).mono hH hε) hvR
          · rw [← hnext]
            exact hm
          · intro id hid hn
            exact hfr id (hdom id hid fun k hk => hn k (by simp [hk])) (hn i (by simp))

theorem tri_draw {N : Nat} {σ : St} {K : Exit → St → Prop} {id : Nat} (hmix : P.follows .mixedOrders = true) (hok : drawOK N ops = true)
    (h : regVCD P ops σ.nx ops.toList 0 σ [] fun acc σ' => objsOK (ancT ops.toList) acc = true ∧ K .normal { σ' with nx := σ.nx + 16 * ops.size }) : Tri P N (.region id ops true) σ K := fun c H ε a w hc hi Q hQ => by
  obtain ⟨qs, σ', hrun, hobj, hK⟩ := regVCD_run h
  rw [List.nil_append] at hobj
  have hlen : qs.length = ops.size := by rw [run_length hrun]; simp
  obtain ⟨hv, hσ'⟩ := run_states (qs := qs) (σ0 := σ) hrun (by simp) (by simp) rfl (Nat.zero_le _)
  rw [hσ'] at hK
  refine wp_region_any hmix ?_
  refine draw_any (P := P) (base := σ.nx) (c := c) (Q := Q) (σ := σ) (qs := qs) (K := K .normal) (by rw [hc]; exact hok) hlen (fun j o ho => hv j (Nat.zero_le _) o ho) hobj hK (fun σ' H' ε' a' w' hk hi' => hQ _ σ' H' ε' a' w' hk hi')
    ops.size (Array.replicate ops.size false) (fun _ => false) H ε a _ (by simp) (fun i => by rw [Array.getD_eq_getD_getElem?, Array.getElem?_replicate]; split <;> rfl) (fun k o _ hk => by cases hk) ?_ (fun id hid _ => hi.dom id hid) (by simp)
  have e : stAt ops qs σ (fun _ => false) ops.size = σ := by
    have h1 : ∀ {L V : Type} (wr : Nat → L → Option V) (f : L → V) (n : Nat), repF wr (fun _ => false) f n = f := by
      intro L V wr f n
      induction n with
      | zero => rfl
      | succ n ih => simp only [repF, Bool.false_eq_true, if_false]; exact ih
    unfold stAt
    rw [h1, h1]
  rw [e]
  exact ⟨hi.sz, hi.df, hi.tm, drew_mem hi.mem⟩
theorem tri_seq_draw {N : Nat} {σ : St} {K : Exit → St → Prop} {id : Nat} {y : Code} (hmix : P.follows .mixedOrders = true) (hok : drawOK N ops = true)
    (h : ∀ K1 : St → Prop, (∀ σ', Tri P N y σ' K → K1 σ') → regVCD P ops σ.nx ops.toList 0 σ [] fun acc σ' => objsOK (ancT ops.toList) acc = true ∧ K1 { σ' with nx := σ.nx + 16 * ops.size }) : Tri P N (.seq (.region id ops true) y) σ K :=
  tri_seq (tri_draw hmix hok (h _ fun _ h => h))
end
end Go.Sy

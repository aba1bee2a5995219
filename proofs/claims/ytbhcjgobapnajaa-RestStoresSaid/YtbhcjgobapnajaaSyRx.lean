/- The symbolic layer: a region that draws its order, of which an operation panics. No condition. -/
import Derived.Test.YtbhcjgobapnajaaSy3
import Derived.Test.YtbhcjgobapnajaaSyRh
set_option linter.unusedVariables false
namespace Go.Sy
section
variable {L V : Type}
theorem repF_agree2 {wr : Nat → L → Option V} {D : Nat → Bool} {f : L → V} {x : L} : ∀ {n : Nat}, (∀ k, k < n → D k = false → wr k x = none) → repF wr D f n x = repF wr (fun _ => true) f n x
  | 0, _ => rfl
  | n + 1, h => by
    have ih := repF_agree2 (f := f) (n := n) fun k hk => h k (by omega)
    simp only [repF, if_true]
    cases hD : D n
    · simp [h n (by omega) hD, ih]
    · simp [ih]
theorem repF_none {wr : Nat → L → Option V} {D : Nat → Bool} {f : L → V} {x : L} (h : ∀ k, wr k x = none) : ∀ {n : Nat}, repF wr D f n x = f x
  | 0 => rfl
  | n + 1 => by
    simp only [repF]
    cases hD : D n
    · simpa using repF_none h
    · simp [h n, repF_none h]
end
section
variable {P : Program} {ops : Array Oper} {base : Nat}
theorem draw_anyX {opr : Array Oper} {j0 : Nat} {oj : Oper} {Z : Nat → Bool} {c : Ctx} {Q : Exit → Act → World → Prop} {σ : St} {qs : List Rec} {ch : List PanicEntry} {deps : List Nat} {ws : List (Nat × Ob)} (hsz : opr.size = ops.size) (haf : ∀ i : Nat, (opr[i]?).map Oper.after = (ops[i]?).map Oper.after) (hds : ∀ i : Nat, (opr[i]?).bind Oper.dst = (ops[i]?).bind Oper.dst) (hfree : ∀ i : Nat, Z i = false → opr[i]? = ops[i]?) (hj : Z j0 = true) (hjo : opr[j0]? = some oj) (hjg : oj.guard = none) (hZ : ∀ (i : Nat) o, ops[i]? = some o → Z i = true → i ≠ j0 → ∃ p ∈ predsOf o, Z p = true)
    (hnw : ∀ (k : Nat) o, ops[k]? = some o → k ≠ j0 → ∀ d, o.dst = some d → d ∈ oj.looksAt opr → k ∈ predsOf oj) (hjp : ∀ o, ops[j0]? = some o → predsOf o = predsOf oj) (hjd : ∀ d, oj.dst = some d → d ∉ oj.looksAt opr) (hnx : σ.nx = base) (hok : drawOK c.N ops = true) (hlen : qs.length = ops.size)
    (hv : ∀ j o, ops[j]? = some o → Z j = false → Valid P ops (base + 16 * j) o (stAt ops qs σ (fun _ => true) j) (qs.getD j .skip)) (hobj : objsOK (ancT ops.toList) (qs.map Rec.ids) = true)
    (hnew : ∀ k id, ((qs.getD k .skip).ids.2).contains id = true → base ≤ id) (hdl : ∀ id ∈ deps, id < base)
    (hpan : ∀ σ1 : St, (∀ x ∈ oj.op.operands.toList, σ1.ev x = (stAt ops qs σ (fun _ => true) ops.size).ev x) → (∀ id ∈ deps, σ1.ob id = σ.ob id) → PanOp P (base + 16 * j0) oj.op σ1 ch (applyW σ1.ob ws))
    (hQ : ∀ H' ε' a' w', Inv c H' ε' ⟨fun _ => .junk, fun id => if id < base then applyW σ.ob ws id else none, base + 16 * ops.size⟩ a' w' → Q (.panic ch) a' w') :
    ∀ (fuel : Nat) (listed : Array Bool) (D : Nat → Bool) (H : View) (ε : Env) (a : Act) (w : World), listed.size = ops.size → (∀ i, listed.getD i false = D i) →
      (∀ k o, ops.toList[k]? = some o → D k = true → ∀ p ∈ predsOf o, D p = true) → Inv0 c H ε (stAt ops qs σ D ops.size) a w → (∀ i, D i = true → Z i = false) →
      (∀ id, base ≤ id → (∀ k, D k = true → ¬ (base + 16 * k ≤ id ∧ id < base + 16 * k + 16)) → ε id = none) → (List.range ops.size).countP (fun i => !D i) ≤ fuel → wpAnyIn (wf c.ro) 0 P .any opr Q fuel listed a w := by
  simp only [drawOK, Bool.and_eq_true] at hok
  obtain ⟨⟨hN, hanc⟩, hslots⟩ := hok
  have hDlt : ∀ (listed : Array Bool) (D : Nat → Bool), listed.size = ops.size → (∀ i, listed.getD i false = D i) → ∀ i, D i = true → i < ops.size := by
    intro listed D hs hl i hi
    rcases Nat.lt_or_ge i ops.size with h | h
    · exact h
    · rw [← hl i, Array.getD_eq_getD_getElem?, Array.getElem?_eq_none (by omega)] at hi
      cases hi
  have hready : ∀ (listed : Array Bool) (D : Nat → Bool), listed.size = ops.size → (∀ i, listed.getD i false = D i) → ∀ i, i ∈ Region.ready .any ops listed ↔ i < ops.size ∧ D i = false ∧ ∃ o, ops[i]? = some o ∧ ∀ p ∈ predsOf o, D p = true := by
    intro listed D hs hl i
    unfold Region.ready
    rw [List.mem_filter, List.mem_range]
    have hlt : i < ops.size → listed.getD i true = D i := by
      intro h
      rw [← hl i, Array.getD_eq_getD_getElem?, Array.getD_eq_getD_getElem?, Array.getElem?_eq_getElem (by omega)]
      rfl
    constructor
    · rintro ⟨h1, h2⟩
      simp only [Bool.and_eq_true] at h2
      obtain ⟨h2, h3⟩ := h2
      rw [hlt h1] at h2
      have ho : ops[i]? = some ops[i] := by simp [h1]
      rw [ho] at h3
      simp only [Option.map_some, Option.getD_some] at h3
      refine ⟨h1, by simpa using h2, ops[i], ho, fun p hp => ?_⟩
      unfold predsOf at hp
      simp only [List.mem_filterMap] at hp
      obtain ⟨e, he, hpe⟩ := hp
      split at hpe
      · rename_i hb
        cases hpe
        have := (Array.all_eq_true_iff_forall_mem.1 h3) e (by simpa using he)
        simp only [hb, Bool.not_true, Bool.false_or] at this
        rw [← hl]; exact this
      · cases hpe
    · rintro ⟨h1, h2, o, ho, h3⟩
      refine ⟨h1, ?_⟩
      simp only [Bool.and_eq_true]
      refine ⟨by rw [hlt h1, h2]; rfl, ?_⟩
      rw [ho]
      simp only [Option.map_some, Option.getD_some]
      refine Array.all_eq_true_iff_forall_mem.2 fun e he => ?_
      cases hb : Region.binds .any e
      · rfl
      · simp only [Bool.not_true, Bool.false_or]
        rw [hl]
        exact h3 e.on (by unfold predsOf; simp only [List.mem_filterMap]; exact ⟨e, by simpa using he, by simp [hb]⟩)
  have hback : ∀ k o, ops.toList[k]? = some o → ∀ p ∈ predsOf o, p < k := by
    intro k o ho p hp
    have hk : k < ops.toList.length := (List.getElem?_eq_some_iff.1 ho).1
    have hc := (List.all_eq_true.1 hanc) k (by simpa using hk)
    rw [ho] at hc
    simp only [Bool.and_eq_true] at hc
    simpa using (List.all_eq_true.1 hc.1) p hp
  have hrdy : ∀ listed, Region.ready .any opr listed = Region.ready .any ops listed := by
    intro listed
    unfold Region.ready
    rw [hsz]
    congr 1
    funext i
    congr 1
    have := haf i
    cases h1 : opr[i]? with
    | none => rw [h1] at this; cases h2 : ops[i]? with
      | none => rfl
      | some y => rw [h2] at this; cases this
    | some x => rw [h1] at this; cases h2 : ops[i]? with
      | none => rw [h2] at this; cases this
      | some y => rw [h2] at this; simp only [Option.map_some, Option.some.injEq] at this ⊢; rw [this]
  have hyl : ∀ a : Act, yielded opr a.tmps = yielded ops a.tmps := by
    intro a
    funext g
    unfold yielded
    have := hds g
    rw [this]
  have hjlt : j0 < ops.size := by rw [← hsz]; exact (Array.getElem?_eq_some_iff.1 hjo).1
  intro fuel
  induction fuel with
  | zero =>
    intro listed D H ε a w hs hl hc hi hDZ hdom hf
    have hall : ∀ i, i < ops.size → D i = true := by
      intro i hi'
      have h0 : (List.range ops.size).countP (fun i => !D i) = 0 := by omega
      have := (List.countP_eq_zero.1 h0) i (by simpa using hi')
      simpa using this
    have := hDZ j0 (hall j0 hjlt)
    rw [hj] at this; cases this
  | succ fuel ih =>
    intro listed D H ε a w hs hl hc hi hDZ hdom hf
    rw [wpAnyIn, hrdy]
    refine ⟨fun hnil => ?_, fun i hmem => ?_⟩
    · have hall : ∀ i, i < ops.size → D i = true := by
        intro i
        induction i using Nat.strongRecOn with
        | _ i ihi =>
          intro hi'
          cases hDi : D i
          · have ho : ops[i]? = some ops[i] := by simp [hi']
            have : i ∈ Region.ready .any ops listed := (hready listed D hs hl i).2 ⟨hi', hDi, ops[i], ho, fun p hp => by
              have hpi := hback i ops[i] (by simp [hi']) p hp
              exact ihi p hpi (by omega)⟩
            rw [hnil] at this
            cases this
          · rfl
      have := hDZ j0 (hall j0 hjlt)
      rw [hj] at this; cases this
    · obtain ⟨hlt, hDi, o, ho, hp⟩ := (hready listed D hs hl i).1 hmem
      have hoL : ops.toList[i]? = some o := by simpa using ho
      by_cases hzi : Z i = true
      · by_cases hij : i = j0
        · subst hij
          unfold wpOpIn
          rw [hjo]
          simp only
          have hwt : Region.wanted oj (yielded opr a.tmps) = true := by simp [Region.wanted, hjg]
          rw [hwt]
          simp only [if_true]
          have hpo := hjp o ho
          have hseeT : ∀ t ∈ oj.looksAt opr, (stAt ops qs σ D ops.size).tm t = (stAt ops qs σ (fun _ => true) ops.size).tm t := by
            intro t ht
            refine repF_agree2 (fun k hk hDk => ?_)
            have hx : ops[k]? = some ops[k] := by simp [hk]
            refine wrT_none hx fun hd => ?_
            by_cases hki : k = i
            · subst hki
              have h1 := hds k
              rw [hjo, hx] at h1
              simp only [Option.bind_some] at h1
              exact hjd t (by rw [h1]; exact hd) ht
            · have := hp k (by rw [hpo]; exact hnw k _ hx hki t hd ht)
              rw [hDk] at this; cases this
          have hseeO : ∀ id, id < base → (stAt ops qs σ D ops.size).ob id = σ.ob id := by
            intro id hid
            refine repF_none (fun k => ?_)
            refine wrO_none ?_
            cases hq : ((qs.getD k .skip).ids.2).contains id
            · rfl
            · have := hnew k id hq; omega
          refine hpan (stAt ops qs σ D ops.size) (ev_congr hseeT) (fun id hid => hseeO id (hdl id hid)) c H ε a w oj rfl hi.mem hi.tm (fun id h1 h2 => hdom id (by omega) fun k hk => ?_) _ Q ?_
          · have : k ≠ i := fun e => by subst e; rw [hDi] at hk; cases hk
            omega
          · intro w' H' ε' hH hε hfr hm
            have hob : ∀ id x, (if id < base then applyW σ.ob ws id else none) = some x → applyW (stAt ops qs σ D ops.size).ob ws id = some x := by
              intro id x hx
              split at hx
              · rename_i hlt'
                rw [applyW_get] at hx ⊢
                rw [hseeO id hlt']; exact hx
              · cases hx
            have hne : ∀ id, (if id < base then applyW σ.ob ws id else none) ≠ none → applyW (stAt ops qs σ D ops.size).ob ws id ≠ none := by
              intro id hx e
              cases hq : (if id < base then applyW σ.ob ws id else none) with
              | none => exact hx hq
              | some x => rw [hob id x hq] at e; cases e
            refine hQ H' ε' a w' ⟨hi.sz, hi.df, fun _ => .junk _, { hm with objs := fun id x hx => hm.objs id x (hob id x hx), dj := fun i j h1 h2 => hm.dj i j (hne i h1) (hne j h2), own := fun i h1 => hm.own i (hne i h1), wr := fun b o h => ⟨(hm.wr b o h).1, (hm.wr b o h).2.1, fun i h1 => (hm.wr b o h).2.2 i (hne i h1)⟩ }, fun id hid => ?_⟩
            have hid' : base + 16 * ops.size ≤ id := hid
            exact hfr id (hdom id (by omega) fun k hk => by have := hDlt listed D hs hl k hk; omega) (by omega)
        · obtain ⟨p, hpp, hzp⟩ := hZ i o ho hzi hij
          have := hDZ p (hp p hpp)
          rw [hzp] at this; cases this
      have hzi : Z i = false := by simpa using hzi
      have hori : opr[i]? = some o := (hfree i hzi).trans ho
      -- what is not ordered with i
      have hbefore : ∀ j x, j < i → ops[j]? = some x → D j = false → apartS ops x o = true ∧ apartO (qs.getD j .skip).ids (qs.getD i .skip).ids = true := by
        intro j x hj hx hDj
        have hn : ((ancT ops.toList).getD i []).contains j = false := by
          cases hq : ((ancT ops.toList).getD i []).contains j
          · rfl
          · have := anc_ready hanc hc hoL hp j (by simpa using hq)
            rw [hDj] at this; cases this
        refine ⟨slots_apart hslots hj hx ho hn, ?_⟩
        have := objs_apart hobj hj (by simp [hlen]; exact hlt) hn
        rwa [ids_getD, ids_getD] at this
      have hbehind : ∀ j x, i < j → ops[j]? = some x → D j = true → apartS ops o x = true ∧ apartO (qs.getD i .skip).ids (qs.getD j .skip).ids = true := by
        intro j x hj hx hDj
        have hjl : j < ops.size := (Array.getElem?_eq_some_iff.1 hx).1
        have hn : ((ancT ops.toList).getD j []).contains i = false := by
          cases hq : ((ancT ops.toList).getD j []).contains i
          · rfl
          · have := anc_closed hanc hc j (by simpa using hjl) hDj i (by simpa using hq)
            rw [hDi] at this; cases this
        refine ⟨slots_apart hslots hj ho hx hn, ?_⟩
        have := objs_apart hobj hj (by simp [hlen]; exact hjl) hn
        rwa [ids_getD, ids_getD] at this
      have hat : ∀ j, j < ops.size → ∃ x, ops[j]? = some x := fun j hj => ⟨ops[j], by simp [hj]⟩
      -- it sees what it saw
      have hseeT : ∀ t ∈ o.looksAt ops, (stAt ops qs σ D ops.size).tm t = (stAt ops qs σ (fun _ => true) i).tm t := by
        intro t ht
        refine repF_agree hDi (fun j hj hDj => ?_) (Nat.le_of_lt hlt) (fun j hj hjn hDj => ?_)
        · obtain ⟨x, hx⟩ := hat j (by omega)
          refine wrT_none hx fun hd => ?_
          exact ((apartS_spec (hbefore j x hj hx hDj).1).1 t hd).1 ht
        · obtain ⟨x, hx⟩ := hat j hjn
          refine wrT_none hx fun hd => ?_
          exact (apartS_spec (hbehind j x hj hx hDj).1).2 t hd ht
      have hseeO : ∀ id ∈ (qs.getD i .skip).deps, (stAt ops qs σ D ops.size).ob id = (stAt ops qs σ (fun _ => true) i).ob id := by
        intro id hid
        have hmem1 : ((qs.getD i .skip).ids.1).contains id = true := by simpa [Rec.ids] using hid
        refine repF_agree hDi (fun j hj hDj => ?_) (Nat.le_of_lt hlt) (fun j hj hjn hDj => ?_)
        · obtain ⟨x, hx⟩ := hat j (by omega)
          refine wrO_none ?_
          have := (hbefore j x hj hx hDj).2
          unfold apartO at this
          simp only [Bool.and_eq_true] at this
          cases hq : ((qs.getD j .skip).ids.2).contains id
          · rfl
          · have := (List.all_eq_true.1 this.1) id (by simpa using hq)
            rw [hmem1] at this; simp at this
        · obtain ⟨x, hx⟩ := hat j hjn
          refine wrO_none ?_
          have := (hbehind j x hj hx hDj).2
          unfold apartO at this
          simp only [Bool.and_eq_true] at this
          cases hq : ((qs.getD j .skip).ids.2).contains id
          · rfl
          · have := (List.all_eq_true.1 this.2) id (by simpa using hq)
            rw [hmem1] at this; simp at this
      -- the state behind it
      have hnext : (stAt ops qs σ D ops.size).put o.dst (qs.getD i .skip).val (qs.getD i .skip).ws = stAt ops qs σ (fun j => j == i || D j) ops.size := by
        rw [put_eq ho]
        unfold stAt
        congr 1
        · rw [repF_insert hDi (fun j x hj hDj hw => ?_) ops.size, if_pos hlt]
          obtain ⟨y, hy⟩ := hat j (hDlt listed D hs hl j hDj)
          exact wrT_none hy ((apartS_spec (hbehind j y hj hy hDj).1).1 x (wrT_dst ho hw)).2
        · rw [repF_insert hDi (fun j x hj hDj hw => ?_) ops.size, if_pos hlt]
          obtain ⟨y, hy⟩ := hat j (hDlt listed D hs hl j hDj)
          refine wrO_none ?_
          have := (hbehind j y hj hy hDj).2
          unfold apartO at this
          simp only [Bool.and_eq_true] at this
          have := (List.all_eq_true.1 this.1) x (by simpa using wrO_in hw)
          simp only [Bool.and_eq_true] at this
          simpa using this.2
      have hs' : (listed.setIfInBounds i true).size = ops.size := by simpa using hs
      have hl' : ∀ j, (listed.setIfInBounds i true).getD j false = (j == i || D j) := by
        intro j
        rw [Array.getD_eq_getD_getElem?, Array.getElem?_setIfInBounds]
        by_cases hj : i = j
        · subst hj; simp [hs, hlt]
        · have : (j == i) = false := by simpa using fun e => hj e.symm
          rw [if_neg hj, this, Bool.false_or, ← hl j, Array.getD_eq_getD_getElem?]
      have hc' : ∀ k x, ops.toList[k]? = some x → (k == i || D k) = true → ∀ p ∈ predsOf x, (p == i || D p) = true := by
        intro k x hx hk p hpx
        simp only [Bool.or_eq_true] at hk ⊢
        rcases hk with hk | hk
        · have : k = i := by simpa using hk
          subst this
          rw [hoL] at hx; cases hx
          exact .inr (hp p hpx)
        · exact .inr (hc k x hx hk p hpx)
      have hf' : (List.range ops.size).countP (fun j => !(j == i || D j)) ≤ fuel := by
        have := count_dec (p := fun j => !D j) (q := fun j => !(j == i || D j)) (i := i) (by simp [hDi]) (by simp) (fun j hj => by simp at hj ⊢; exact hj.2) (l := List.range ops.size) (by simpa using hlt)
        omega
      have hDZ' : ∀ k, (k == i || D k) = true → Z k = false := by
        intro k hk
        simp only [Bool.or_eq_true] at hk
        rcases hk with hk | hk
        · have : k = i := by simpa using hk
          subst this; exact hzi
        · exact hDZ k hk
      have hdst : ∀ d, o.dst = some d → d < a.tmps.size := by
        intro d hdd
        rw [hi.sz]
        have hm : o ∈ ops := Array.mem_of_getElem? ho
        have := (Array.all_eq_true_iff_forall_mem.1 hN) o hm
        simpa [hdd] using this
      have hdf : ∀ (dst : Option Tmp) (v : Value), (a.put dst v).defers = c.D := fun dst v => by cases dst <;> exact hi.df
      have hsz' : ∀ (dst : Option Tmp) (v : Value), (a.put dst v).tmps.size = c.N := fun dst v => by cases dst <;> simp [Act.put, hi.sz]
      have hvi := hv i o ho hzi
      unfold wpOpIn
      rw [hori]
      simp only
      rw [hyl]
      cases hq : qs.getD i .skip with
      | skip =>
        rw [hq] at hvi hnext
        have hw : wantedAV ops (stAt ops qs σ D ops.size) o = some false := by rw [wantedAV_congr hseeT]; exact hvi
        have hwf := wanted_of hi.tm hw
        rw [hwf]
        simp only [Bool.false_eq_true, if_false]
        refine ⟨fun _ _ => trivial, ?_⟩
        refine ih _ (fun j => j == i || D j) H ε _ w hs' hl' hc' ⟨hsz' _ _, hdf _ _, ?_, ?_⟩ hDZ' (fun id hid hn => hdom id hid fun k hk => hn k (by simp [hk])) hf'
        · rw [← hnext]
          exact put_tm hdst hi.tm (.d _ _ (.tup [] [] .nil))
        · rw [← hnext]
          exact hi.mem
      | did r deps ws =>
        rw [hq] at hvi hnext hseeO
        obtain ⟨hvw, hok⟩ := hvi
        have hw : wantedAV ops (stAt ops qs σ D ops.size) o = some true := by rw [wantedAV_congr hseeT]; exact hvw
        have hwt := wanted_of hi.tm hw
        rw [hwt]
        simp only [if_true]
        have hop := hok (stAt ops qs σ D ops.size) (ev_congr hseeT) hseeO
        refine hop c H ε a w o rfl rfl hi.mem hi.tm (fun id h1 h2 => hdom id (by omega) fun k hk => ?_) _ Q ?_
        · have : k ≠ i := fun e => by subst e; rw [hDi] at hk; cases hk
          omega
        · intro v w' H' ε' hH hε hfr hvR hm
          refine ih _ (fun j => j == i || D j) H' ε' _ w' hs' hl' hc' ⟨hsz' _ _, hdf _ _, ?_, ?_⟩ hDZ' ?_ hf'
          · rw [← hnext]
            exact put_tm hdst (fun j => (hi.tm j).mono hH hε) hvR
          · rw [← hnext]
            exact hm
          · intro id hid hn
            exact hfr id (hdom id hid fun k hk => hn k (by simp [hk])) (hn i (by simp))

end

def zop (o : Oper) : Oper := { dst := o.dst, op := .move (.const undef), type := o.type, pos := o.pos, after := o.after, guard := none }
def maskB : List Bool → List Oper → List Oper
  | true :: b, o :: l => zop o :: maskB b l
  | false :: b, o :: l => o :: maskB b l
  | _, l => l
theorem maskB_len : ∀ (bs : List Bool) (l : List Oper), (maskB bs l).length = l.length
  | [], l => by simp [maskB]
  | true :: b, [] => by simp [maskB]
  | false :: b, [] => by simp [maskB]
  | true :: b, o :: l => by simp [maskB, maskB_len b l]
  | false :: b, o :: l => by simp [maskB, maskB_len b l]
theorem maskB_get : ∀ (bs : List Bool) (l : List Oper) (i : Nat), (maskB bs l)[i]? = (l[i]?).map fun o => if bs.getD i false then zop o else o
  | [], l, i => by simp [maskB]
  | true :: b, [], i => by simp [maskB]
  | false :: b, [], i => by simp [maskB]
  | true :: b, o :: l, 0 => by simp [maskB]
  | false :: b, o :: l, 0 => by simp [maskB]
  | true :: b, o :: l, i + 1 => by simpa [maskB] using maskB_get b l i
  | false :: b, o :: l, i + 1 => by simpa [maskB] using maskB_get b l i
def drawXok (l : List Oper) (bs : List Bool) (j : Nat) : Bool :=
  bs.getD j false && (match l[j]? with
  | none => false
  | some oj => oj.guard.isNone && (match oj.dst with | some d => !(oj.looksAt l.toArray).contains d | none => true) &&
    (List.range l.length).all fun k => match l[k]? with
    | none => true
    | some o => (!bs.getD k false || k == j || (predsOf o).any fun p => bs.getD p false) && (k == j || (match o.dst with | some d => !(oj.looksAt l.toArray).contains d || (predsOf oj).contains k | none => true)))
def newB (nx : Nat) (acc : List (List Nat × List Nat)) : Bool := acc.all fun x => x.2.all fun id => Nat.ble nx id
def PanX (P : Program) (nb : Nat) (op : Op) (nx n : Nat) (K : Exit → St → Prop) (σ σ' : St) : Prop := ∃ (ch : List PanicEntry) (deps : List Nat) (ws : List (Nat × Ob)), (∀ id ∈ deps, id < nx) ∧
  (∀ σ1 : St, (∀ x ∈ op.operands.toList, σ1.ev x = σ'.ev x) → (∀ id ∈ deps, σ1.ob id = σ.ob id) → PanOp P nb op σ1 ch (applyW σ1.ob ws)) ∧ K (.panic ch) ⟨fun _ => .junk, fun id => if id < nx then applyW σ.ob ws id else none, nx + 16 * n⟩
theorem tri_drawX {P : Program} {N id : Nat} {σ : St} {K : Exit → St → Prop} (l l' : List Oper) (bs : List Bool) (j : Nat) (oj : Oper) (hl : maskB bs l = l') (hmix : P.follows .mixedOrders = true) (hok : drawOK N l'.toArray = true) (hx : drawXok l bs j = true) (ho : l[j]? = some oj)
    (h : regVCD P l'.toArray σ.nx l' 0 σ [] fun acc σ' => objsOK (ancT l') acc = true ∧ newB σ.nx acc = true ∧ PanX P (σ.nx + 16 * j) oj.op σ.nx l.length K σ σ') : Tri P N (.region id l.toArray true) σ K := fun c H ε a w hc hi Q hQ => by
  obtain ⟨qs, σ', hrun, hobj, hnew, ch, deps, ws, hd, hp, hK⟩ := regVCD_run h
  rw [List.nil_append] at hobj hnew
  have hlen : qs.length = l'.toArray.size := by rw [run_length hrun]; simp
  have hll : l'.length = l.length := by rw [← hl]; exact maskB_len bs l
  obtain ⟨hv, hσ'⟩ := run_states (ops := l'.toArray) (qs := qs) (σ0 := σ) hrun (by simp) (by simp) rfl (Nat.zero_le _)
  have hget : ∀ i, l'[i]? = (l[i]?).map fun o => if bs.getD i false then zop o else o := fun i => by rw [← hl]; exact maskB_get bs l i
  unfold drawXok at hx
  rw [ho] at hx
  simp only [Bool.and_eq_true] at hx
  obtain ⟨hx1, ⟨hx2, hx3⟩, hx4⟩ := hx
  have hx5 : ∀ k o, l[k]? = some o → (bs.getD k false = true → k ≠ j → ∃ p ∈ predsOf o, bs.getD p false = true) ∧ (k ≠ j → ∀ d, o.dst = some d → d ∈ oj.looksAt l.toArray → k ∈ predsOf oj) := by
    intro k o hk
    have hkl : k < l.length := (List.getElem?_eq_some_iff.1 hk).1
    have := (List.all_eq_true.1 hx4) k (by simpa using hkl)
    rw [hk] at this
    simp only [Bool.and_eq_true, Bool.or_eq_true, beq_iff_eq] at this
    obtain ⟨q1, q2⟩ := this
    refine ⟨fun hb hne => ?_, fun hne d hdd hdl => ?_⟩
    · rcases q1 with (q1 | q1) | q1
      · rw [hb] at q1; cases q1
      · exact absurd q1 hne
      · obtain ⟨p, hp1, hp2⟩ := List.any_eq_true.1 q1
        exact ⟨p, hp1, hp2⟩
    · rcases q2 with q2 | q2
      · exact absurd q2 hne
      · rw [hdd] at q2
        simp only [Bool.or_eq_true, Bool.not_eq_true'] at q2
        rcases q2 with q2 | q2
        · have : (oj.looksAt l.toArray).contains d = true := by simpa using hdl
          rw [this] at q2; cases q2
        · simpa using q2
  have hzp : ∀ o, predsOf (zop o) = predsOf o := fun o => rfl
  refine wpIn_region_any hmix ?_
  have hinv0 : Inv0 c H ε (stAt l'.toArray qs σ (fun _ => false) l'.toArray.size) a { w with drawn := w.drawn + 1 } := by
    have e : stAt l'.toArray qs σ (fun _ => false) l'.toArray.size = σ := by
      have h1 : ∀ {L V : Type} (wr : Nat → L → Option V) (f : L → V) (n : Nat), repF wr (fun _ => false) f n = f := by
        intro L V wr f n
        induction n with
        | zero => rfl
        | succ n ih => simp only [repF, Bool.false_eq_true, if_false]; exact ih
      unfold stAt
      rw [h1, h1]
    rw [e]
    exact ⟨hi.sz, hi.df, hi.tm, drew_mem hi.mem⟩
  have hfin := draw_anyX (P := P) (ops := l'.toArray) (opr := l.toArray) (base := σ.nx) (j0 := j) (oj := oj) (Z := fun i => bs.getD i false) (c := c) (Q := Q) (σ := σ) (qs := qs) (ch := ch) (deps := deps) (ws := ws) (by simp [hll])
    (fun i => by simp only [List.getElem?_toArray, hget]; cases l[i]? with
      | none => rfl
      | some o => simp only [Option.map_some]; split <;> rfl)
    (fun i => by simp only [List.getElem?_toArray, hget]; cases l[i]? with
      | none => rfl
      | some o => simp only [Option.map_some, Option.bind_some]; split <;> rfl)
    (fun i hz => by simp only [List.getElem?_toArray, hget]; cases l[i]? with
      | none => rfl
      | some o => simp only [Option.map_some]; rw [if_neg (by simpa using hz)])
    hx1 (by simpa using ho) (by simpa using hx2)
    (fun i o hio hz hne => by
      simp only [List.getElem?_toArray, hget] at hio
      cases hq : l[i]? with
      | none => rw [hq] at hio; cases hio
      | some o' =>
        rw [hq] at hio
        simp only [Option.map_some, Option.some.injEq] at hio
        have := (hx5 i o' hq).1 hz hne
        rw [← hio]
        split
        · exact this
        · exact this)
    (fun k o hko hne d hd hdl => by
      simp only [List.getElem?_toArray, hget] at hko
      cases hq : l[k]? with
      | none => rw [hq] at hko; cases hko
      | some o' =>
        rw [hq] at hko
        simp only [Option.map_some, Option.some.injEq] at hko
        refine (hx5 k o' hq).2 hne d ?_ hdl
        rw [← hko] at hd
        split at hd <;> exact hd)
    (fun o hjo => by
      simp only [List.getElem?_toArray, hget, ho, Option.map_some, Option.some.injEq] at hjo
      rw [← hjo]; split <;> rfl)
    (fun d hd hdl => by
      rw [hd] at hx3
      have : (oj.looksAt l.toArray).contains d = true := by simpa using hdl
      simp only at hx3; rw [this] at hx3; simp at hx3)
    rfl (by rw [hc]; exact hok) hlen (fun i o hio _ => hv i (Nat.zero_le _) o hio) (by simpa using hobj)
    (fun k id hk => by
      have hk' : id ∈ (qs.getD k .skip).ids.2 := by simpa using hk
      by_cases hkl : k < qs.length
      · have hm : (qs.getD k .skip).ids ∈ qs.map Rec.ids := by
          rw [List.getD_eq_getElem?_getD, List.getElem?_eq_getElem hkl]
          exact List.mem_map_of_mem (List.getElem_mem hkl)
        have := (List.all_eq_true.1 ((List.all_eq_true.1 hnew) _ hm)) id hk'
        exact Nat.le_of_ble_eq_true this
      · rw [List.getD_eq_getElem?_getD, List.getElem?_eq_none (by omega)] at hk'
        simp [Rec.ids, Rec.ws] at hk')
    hd (fun σ1 h1 h2 => hp σ1 (fun x hx => by rw [h1 x hx, hσ']) h2)
    (fun H' ε' a' w' hi' => hQ _ _ H' ε' a' w' hK (by simpa [hll] using hi'))
    l.length (Array.replicate l.length false) (fun _ => false) H ε a _ (by simp [hll]) (fun i => by rw [Array.getD_eq_getD_getElem?, Array.getElem?_replicate]; split <;> rfl) (fun k o _ hk => by cases hk) hinv0 (fun i hi => by cases hi) (fun id hid _ => hi.dom id hid) (by simp [hll])
  simpa using hfin
theorem w_drawX {P : Program} {N id : Nat} {y : Code} {tm : Nat → AV} {ob : Nat → Option Ob} {nx : Nat} {K : Exit → St → Prop} {l l' : List Oper} (bs : List Bool) (j : Nat) {oj : Oper} (hl : maskB bs l = l') (hmix : P.follows .mixedOrders = true) (hok : drawOK N l'.toArray = true) (hx : drawXok l bs j = true) (ho : l[j]? = some oj)
    (h : ∀ K1 : List (List Nat × List Nat) → St → Prop, (∀ acc tm' ob' nx', objsOK (ancT l') acc = true → newB nx acc = true → PanX P (nx + 16 * j) oj.op nx l.length (Out K) ⟨tm, ob, nx⟩ ⟨tm', ob', nx'⟩ → K1 acc ⟨tm', ob', nx'⟩) → RegD P l'.toArray nx l' 0 ⟨tm, ob, nx⟩ [] K1) : Tri P N (.seq (.region id l.toArray true) y) ⟨tm, ob, nx⟩ K := by
  refine tri_seq (tri_drawX l l' bs j oj hl hmix hok hx ho ?_)
  refine h _ fun acc tm' ob' nx' h1 h2 ⟨ch, deps, ws, a1, a2, a3⟩ => ⟨h1, h2, ch, deps, ws, a1, a2, a3⟩
theorem w_drawX_end {P : Program} {N id : Nat} {tm : Nat → AV} {ob : Nat → Option Ob} {nx : Nat} {K : Exit → St → Prop} {l l' : List Oper} (bs : List Bool) (j : Nat) {oj : Oper} (hl : maskB bs l = l') (hmix : P.follows .mixedOrders = true) (hok : drawOK N l'.toArray = true) (hx : drawXok l bs j = true) (ho : l[j]? = some oj)
    (h : ∀ K1 : List (List Nat × List Nat) → St → Prop, (∀ acc tm' ob' nx', objsOK (ancT l') acc = true → newB nx acc = true → PanX P (nx + 16 * j) oj.op nx l.length (Out K) ⟨tm, ob, nx⟩ ⟨tm', ob', nx'⟩ → K1 acc ⟨tm', ob', nx'⟩) → RegD P l'.toArray nx l' 0 ⟨tm, ob, nx⟩ [] K1) : Tri P N (.region id l.toArray true) ⟨tm, ob, nx⟩ K :=
  tri_drawX l l' bs j oj hl hmix hok hx ho (h _ fun acc tm' ob' nx' h1 h2 ⟨ch, deps, ws, a1, a2, a3⟩ => ⟨h1, h2, ch, deps, ws, a1, a2, a3⟩)
theorem panX_call {P : Program} {nb nx n : Nat} {K : Exit → St → Prop} {tm tm' : Nat → AV} {ob ob' : Nat → Option Ob} {nx' : Nat} {f : FuncId} {x : Operand} {args : Array Operand} {ts : Array TypeId} {first caps avs args' : List AV} {chain : List PanicEntry} {obs obs' : List Ob} (ps : List Nat) (ho : Own P f) (hs : XSpec P f args' obs chain obs') (hm : ps.length = obs.length) (hnd : ps.Nodup)
    (hm1' : obs.length ≤ obs'.length ∧ obs.length ≤ 16) (hm2 : obs'.length ≤ obs.length + 16) (hx : (⟨tm', ob', nx'⟩ : St).ev x = .fn (.func f) first caps) (he : avs = first ++ args.toList.map (⟨tm', ob', nx'⟩ : St).ev ++ caps)
    (hle : LeL avs (renL (callφ ps nb) args')) (hlt : ltL obs.length args') (hobs : obsBack ⟨tm, ob, nx⟩ (callφ ps nb) obs 0) (hobl : ltO obs.length obs) (hpn : (ps.all fun p => Nat.blt p nx) = true)
    (hK : Out K (.panic chain) ⟨fun _ => .junk, fun id => if id < nx then applyW ob (callWs (callφ ps nb) obs') id else none, nx + 16 * n⟩) :
    PanX P nb (.call { callee := .value x, args, argTypes := ts }) nx n (Out K) ⟨tm, ob, nx⟩ ⟨tm', ob', nx'⟩ := by
  refine ⟨chain, ps, callWs (callφ ps nb) obs', fun id hid => ?_, fun σ1 h1 h2 => ?_, hK⟩
  · have := (List.all_eq_true.1 hpn) id hid
    simpa [Nat.blt_eq] using this
  · intro c H ε a w o hop hmem hr hfr next Q hn
    refine call_core (σ := ⟨tm', ob, nx⟩) (ts := ts) ps ho hs hm hnd hm1' hm2 hx he hle hlt (fun k y hy => by have := obsBack_get hobs hy; rwa [Nat.zero_add] at this) (fun y hy => by
      obtain ⟨j, hj, rfl⟩ := List.getElem_of_mem hy
      exact ltO_get (j := j) hobl (by simp [hj])) σ1 h1 h2 c H ε a w o hop hmem hr hfr next Q ?_
    intro e w' H' ε' ε'' hE hH hε hfr' hren hm'
    subst hE
    exact hn w' H' ε'' hH hε hfr' hm'
end Go.Sy

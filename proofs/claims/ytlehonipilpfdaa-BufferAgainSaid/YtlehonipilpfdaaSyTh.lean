/- The symbolic layer: a row that its slice owns turns into a variable, so that its elements may be written; and back: what a variable holds comes to be seen. No condition. -/
import Derived.Test.YtlehonipilpfdaaSyXa
set_option linter.unusedVariables false
namespace Go.Sy

mutual
/-- The slice that owns the row p, taken for one over the variable q. -/
def AV.th (p q n cap : Nat) : AV → AV
  | .osl p' sz es => bif Nat.beq p' p then .bsl q 0 sz n cap else .osl p' sz es
  | .agg cs => .agg (thL p q n cap cs)
  | .tup cs => .tup (thL p q n cap cs)
  | .fn f a b => .fn f (thL p q n cap a) (thL p q n cap b)
  | .s v => .s v
  | .sl sz es => .sl sz es
  | .ref cs => .ref cs
  | .ptr id off => .ptr id off
  | .bsl id off sz n' cap' => .bsl id off sz n' cap'
  | .junk => .junk
def thL (p q n cap : Nat) : List AV → List AV
  | [] => []
  | a :: l => a.th p q n cap :: thL p q n cap l
end
def Ob.th (p q n cap : Nat) : Ob → Ob
  | .box cs => .box (thL p q n cap cs)
  | .perm e sz n => .perm e sz n
  | .gone => .gone
def thS (p q n cap : Nat) : List (Nat × AV) → List (Nat × AV)
  | [] => []
  | (s, a) :: l => (s, a.th p q n cap) :: thS p q n cap l
def thB (p q n cap : Nat) : List (Nat × Ob) → List (Nat × Ob)
  | [] => []
  | (s, a) :: l => (s, a.th p q n cap) :: thB p q n cap l

def permIs (ob : Nat → Option Ob) (p sz n : Nat) : Prop := ∃ e, ob p = some (.perm e sz n)

mutual
/-- What hangs on the row p by its own slice alone. -/
def AV.thok (ob : Nat → Option Ob) (p sz0 : Nat) (es0 : List (List AV)) : AV → Prop
  | .osl p' sz es => (p' = p ∧ sz = sz0 ∧ es = es0) ∨ (p' ≠ p ∧ scalR es ∧ permIs ob p' sz es.length)
  | .agg cs => thokL ob p sz0 es0 cs
  | .tup cs => thokL ob p sz0 es0 cs
  | .fn _ a b => thokL ob p sz0 es0 a ∧ thokL ob p sz0 es0 b
  | .s _ => True
  | .sl _ es => es = []
  | .ref _ => False
  | .ptr _ _ => True
  | .bsl _ _ _ _ _ => True
  | .junk => True
def thokL (ob : Nat → Option Ob) (p sz0 : Nat) (es0 : List (List AV)) : List AV → Prop
  | [] => True
  | a :: l => a.thok ob p sz0 es0 ∧ thokL ob p sz0 es0 l
end
def Ob.thok (ob : Nat → Option Ob) (p sz0 : Nat) (es0 : List (List AV)) : Ob → Prop
  | .box cs => thokL ob p sz0 es0 cs
  | .perm _ _ _ => True
  | .gone => True
def thokS (ob : Nat → Option Ob) (p sz0 : Nat) (es0 : List (List AV)) : List (Nat × AV) → Prop
  | [] => True
  | (_, a) :: l => a.thok ob p sz0 es0 ∧ thokS ob p sz0 es0 l
def thokB (ob : Nat → Option Ob) (p sz0 : Nat) (es0 : List (List AV)) : List (Nat × Ob) → Prop
  | [] => True
  | (i, x) :: l => (i ≠ p ∧ x.thok ob p sz0 es0) ∧ thokB ob p sz0 es0 l

theorem thS_lookup {p q n cap : Nat} : ∀ {S : List (Nat × AV)} {i : Nat}, (thS p q n cap S).lookup i = (S.lookup i).map (AV.th p q n cap)
  | [], i => rfl
  | (s, a) :: l, i => by
    by_cases h : i = s
    · subst h; simp [thS]
    · have hb : (i == s) = false := by simpa using h
      simp only [thS, List.lookup_cons, hb]; exact thS_lookup
theorem thB_lookup {p q n cap : Nat} : ∀ {S : List (Nat × Ob)} {i : Nat}, (thB p q n cap S).lookup i = (S.lookup i).map (Ob.th p q n cap)
  | [], i => rfl
  | (s, a) :: l, i => by
    by_cases h : i = s
    · subst h; simp [thB]
    · have hb : (i == s) = false := by simpa using h
      simp only [thB, List.lookup_cons, hb]; exact thB_lookup
theorem thokS_lookup {ob : Nat → Option Ob} {p sz0 : Nat} {es0 : List (List AV)} : ∀ {S : List (Nat × AV)} {i : Nat} {a : AV}, thokS ob p sz0 es0 S → S.lookup i = some a → a.thok ob p sz0 es0
  | (s, u) :: l, i, a, h, hl => by
    simp only [thokS] at h
    by_cases hi : i = s
    · subst hi; simp at hl; subst hl; exact h.1
    · have : (i == s) = false := by simpa using hi
      rw [List.lookup_cons, this] at hl
      exact thokS_lookup h.2 hl
theorem thokB_lookup {ob : Nat → Option Ob} {p sz0 : Nat} {es0 : List (List AV)} : ∀ {S : List (Nat × Ob)} {i : Nat} {a : Ob}, thokB ob p sz0 es0 S → S.lookup i = some a → i ≠ p ∧ a.thok ob p sz0 es0
  | (s, u) :: l, i, a, h, hl => by
    simp only [thokB] at h
    by_cases hi : i = s
    · subst hi; simp at hl; subst hl; exact h.1
    · have : (i == s) = false := by simpa using hi
      rw [List.lookup_cons, this] at hl
      exact thokB_lookup h.2 hl

theorem DL.scal {H H' : View} : ∀ {vs : List Value} {cs : List AV}, DL H vs cs → (∀ a ∈ cs, ∃ v, a = .s v) → DL H' vs cs ∧ ∀ v ∈ vs, v.oneCell' = true
  | _, _, .nil, _ => ⟨.nil, by simp⟩
  | _, _, .cons v c vs cs h t, hs => by
    obtain ⟨u, rfl⟩ := hs c (by simp)
    have h1 := (R.d (H := H) (ε := fun _ => none) v _ h).s_inv
    obtain ⟨t1, t2⟩ := DL.scal t fun a ha => hs a (by simp [ha])
    refine ⟨.cons _ _ _ _ (by rw [h1.1]; exact .s u h1.2) t1, fun w hw => ?_⟩
    rcases List.mem_cons.1 hw with rfl | hw
    · rw [h1.1]; exact h1.2
    · exact t2 w hw
/-- What is seen without a block. -/
def View.less (H : View) (b : Nat) : View := fun b' o => if b' = b then none else H b' o
theorem View.less_le (H : View) (b : Nat) : (H.less b).le H := fun b' o v h => by
  unfold View.less at h; split at h
  · cases h
  · exact h

section
variable {H : View} {ε ε' : Env} {ob : Nat → Option Ob} {p q sz0 n cap b : Nat} {es0 : List (List AV)}
mutual
theorem R.th (hq : ε' q = some (.blk b)) (hle : ε.le ε') (hn : es0.length = n) (hcap : n ≤ cap) (hp : ε p = some (.row (.slice (some ⟨b, 0, none⟩) n cap) n))
    (hot : ∀ p' sz k, p' ≠ p → permIs ob p' sz k → ∃ v, ε p' = some (.row v k) ∧ v.ownBlock ≠ some b) : ∀ {a : AV} {v : Value}, R H ε v a → a.thok ob p sz0 es0 → R (H.less b) ε' v (a.th p q n cap)
  | .s u, v, h, _ => by rw [h.s_inv.1]; exact .d _ _ (.s u h.s_inv.2)
  | .junk, v, _, _ => .junk v
  | .ref _, _, _, hk => by simp only [AV.thok] at hk
  | .ptr id off, v, h, _ => by
    obtain ⟨g, rfl, hg⟩ := h.ptr_inv
    exact .ptr _ _ _ (hle id _ hg)
  | .bsl id off sz n' cap', v, h, _ => by
    obtain ⟨g, rfl, hg, hn'⟩ := h.bsl_inv
    exact .bsl _ _ _ _ _ _ (hle id _ hg) hn'
  | .sl sz es, v, h, hk => by
    simp only [AV.thok] at hk
    subst hk
    simp only [AV.th]
    rcases h.sl_inv.slice with ⟨rfl, _⟩ | ⟨a, c, rfl, _⟩ | ⟨g, off, c, rfl, _⟩
    · exact .d _ _ (.nil _)
    · exact .d _ _ (.emp _ _ _)
    · exact .d _ _ (.emp _ _ _)
  | .osl p' sz es, v, h, hk => by
    simp only [AV.thok] at hk
    obtain ⟨hD, v0, m, hε, hle', he⟩ := h.osl_inv
    rcases hk with ⟨rfl, rfl, rfl⟩ | ⟨hne, hsc, hperm⟩
    · rw [hp] at hε; cases hε
      rw [he hn]
      simp only [AV.th, beq_dec, decide_true, cond_true]
      exact .bsl _ _ _ _ _ _ hq hcap
    · have hb : Nat.beq p' p = false := by rw [beq_dec]; simpa using hne
      simp only [AV.th, hb, cond_false]
      obtain ⟨v', hε', hown⟩ := hot p' sz _ hne hperm
      rw [hε] at hε'; cases hε'
      have hv := he rfl
      obtain ⟨v2, n2, hε2, l2, q2⟩ := hle p' _ hε
      refine .osl _ _ _ _ v2 n2 ?_ hε2 l2 (fun hh => by rw [q2 hh.symm]; exact hv)
      rcases hD.slice with ⟨rfl, rfl⟩ | ⟨a, c, rfl, rfl⟩ | ⟨g, off, c, rfl, hc, hs, hdm⟩
      · exact .nil _
      · exact .emp _ _ _
      · refine .sl _ _ _ _ _ hc hs ?_
        have hgb : g ≠ b := fun e => hown (by rw [← hv, e]; rfl)
        obtain ⟨vs, _, hcell, hdl, h1⟩ := hdm.to_list
        exact DM.of_list (hdl.scal (scalR_flat hsc)).1 (fun j u hj => by unfold View.less; rw [if_neg hgb]; exact hcell j u hj) h1
  | .agg cs, v, h, hk => by
    simp only [AV.thok] at hk
    simp only [AV.th]
    obtain ⟨vs, rfl, hr⟩ := h.agg_inv
    exact .agg _ _ (RL.th hq hle hn hcap hp hot hr hk)
  | .tup cs, v, h, hk => by
    simp only [AV.thok] at hk
    simp only [AV.th]
    obtain ⟨vs, rfl, hr⟩ := h.tup_inv
    exact .tup _ _ (RL.th hq hle hn hcap hp hot hr hk)
  | .fn f f2 c2, v, h, hk => by
    simp only [AV.thok] at hk
    simp only [AV.th]
    obtain ⟨f1, c1, rfl, hf, hc⟩ := h.fn_inv
    exact .fn _ _ _ _ _ (RL.th hq hle hn hcap hp hot hf hk.1) (RL.th hq hle hn hcap hp hot hc hk.2)
theorem RL.th (hq : ε' q = some (.blk b)) (hle : ε.le ε') (hn : es0.length = n) (hcap : n ≤ cap) (hp : ε p = some (.row (.slice (some ⟨b, 0, none⟩) n cap) n))
    (hot : ∀ p' sz k, p' ≠ p → permIs ob p' sz k → ∃ v, ε p' = some (.row v k) ∧ v.ownBlock ≠ some b) : ∀ {l : List AV} {vs : List Value}, RL H ε vs l → thokL ob p sz0 es0 l → RL (H.less b) ε' vs (thL p q n cap l)
  | [], vs, h, _ => by cases h; exact .nil
  | a :: l, vs, h, hk => by
    simp only [thokL] at hk
    simp only [thL]
    cases h with | cons v _ vs _ h t => exact .cons _ _ _ _ (R.th hq hle hn hcap hp hot h hk.1) (RL.th hq hle hn hcap hp hot t hk.2)
end
end

/-- The row is there to be seen: in a slot, or in a variable. -/
def Seen (tm : Nat → AV) (ob : Nat → Option Ob) (a : AV) : Prop := (∃ s, tm s = a) ∨ ∃ (i : Nat) (cs : List AV), ob i = some (.box cs) ∧ ∃ j : Nat, cs[j]? = some a

theorem RL.junks (H : View) (ε : Env) : ∀ (vs : List Value), RL H ε vs (List.replicate vs.length .junk)
  | [] => .nil
  | v :: vs => .cons _ _ _ _ (.junk v) (RL.junks H ε vs)

theorem w_thaw {P : Program} {N : Nat} {tm : Nat → AV} {ob : Nat → Option Ob} {nx m : Nat} {K : Exit → St → Prop} {code : Code} (p sz : Nat) (es : List (List AV)) (S : List (Nat × AV)) (B : List (Nat × Ob)) {e : TypeId}
    (hat : Seen tm ob (.osl p sz es)) (hp16 : 16 ≤ p) {n0 : Nat} (hpe : ob p = some (.perm e sz n0)) (hn0 : n0 = es.length) (h0 : 0 < es.length) (hsc : scalR es) (hS : leS ⟨tm, ob, nx⟩ S) (hB : leB ⟨tm, ob, nx⟩ B) (hSk : thokS ob p sz es S) (hBk : thokB ob p sz es B) (hm : nx + 16 = m)
    (h : ∀ cap, es.length ≤ cap → cap ≤ maxLen → Later P N code K ⟨wrs (fun _ => .junk) (thS p nx es.length cap S), wor (wo (fun _ => none) nx (.box (es.flatten ++ List.replicate ((cap - es.length) * sz) .junk))) (thB p nx es.length cap B), m⟩) : Tri P N code ⟨tm, ob, nx⟩ K := by
  subst hm; subst hn0
  intro c H ε a w hc hi Q hQ
  have hfr : ε nx = none := hi.dom _ (Nat.le_refl _)
  obtain ⟨v, xs, hεp, hrow, hsz, _⟩ := hi.mem.objs p _ hpe
  obtain ⟨hxl, hrow⟩ := hrow
  obtain ⟨b, cap, cur, rfl, _, hheap, hcap, hmax, hcs, htk⟩ : ∃ g cap cur, v = .slice (some ⟨g, 0, none⟩) es.length cap ∧ 0 ≤ g ∧ w.heap[g]? = some (.cells cur e (0, 0)) ∧ es.length ≤ cap ∧ cap ≤ maxLen ∧ cur.size = cap * sz ∧ cur.toList.take (es.length * sz) = xs := by
    rcases hrow with ⟨_, h⟩ | h
    · omega
    · exact h
  have hbp : blkOf (ε p) = some b := by rw [hεp]; rfl
  have hne : ob p ≠ none := by rw [hpe]; simp
  -- what the row holds
  obtain ⟨v1, hv1⟩ : ∃ v, R H ε v (.osl p sz es) := by
    rcases hat with ⟨s, hs⟩ | ⟨i, cs, hi', j, hj⟩
    · exact ⟨_, by have := hi.tm s; rw [show (⟨tm, ob, nx⟩ : St).tm s = .osl p sz es from hs] at this; exact this⟩
    · obtain ⟨g, arr, T, _, _, hrl, _⟩ := hi.mem.objs i _ hi'
      obtain ⟨u, _, hu⟩ := hrl.get hj
      exact ⟨u, hu⟩
  obtain ⟨hD, v0, n0, hε0, hle0, he0⟩ := hv1.osl_inv
  rw [hεp] at hε0; cases hε0
  have hD := (he0 rfl) ▸ hD
  have hrl : ∀ H' ε', RL H' ε' cur.toList (es.flatten ++ List.replicate ((cap - es.length) * sz) .junk) := by
    intro H' ε'
    have hs : ∀ x ∈ es, x.length = sz := by
      rcases hD.slice with ⟨h, _⟩ | ⟨_, _, h, hh⟩ | ⟨_, _, _, _, _, h, _⟩
      · cases h
      · subst hh; simp at h0
      · exact h
    have hdm : DM H b 0 es.flatten := by
      rcases hD.slice with ⟨h, _⟩ | ⟨_, _, h, hh⟩ | ⟨_, _, _, h, _, _, hdm⟩
      · cases h
      · subst hh; simp at h0
      · cases h; exact hdm
    obtain ⟨vs, hvl, hcell, hdl, _⟩ := hdm.to_list
    have hfl := flatten_length hs
    have hvs : vs = cur.toList.take (es.length * sz) := by
      apply List.ext_getElem?
      intro j
      rcases Nat.lt_or_ge j (es.length * sz) with hj | hj
      · have hj' : j < vs.length := by omega
        have h2 := hi.mem.view _ _ _ (hcell j _ (List.getElem?_eq_getElem hj'))
        rw [cell_of_row w b (0 + j) cur e (0, 0) hheap, Nat.zero_add] at h2
        rw [List.getElem?_eq_getElem hj', List.getElem?_take_of_lt hj]
        simpa using h2.symm
      · rw [List.getElem?_eq_none (by omega), List.getElem?_eq_none (by rw [List.length_take]; omega)]
    rw [← List.take_append_drop (es.length * sz) cur.toList]
    refine RL.append (.of_DL (hvs ▸ (hdl.scal (scalR_flat hsc)).1)) ?_
    have hl : (cur.toList.drop (es.length * sz)).length = (cap - es.length) * sz := by
      rw [List.length_drop, Array.length_toList, hcs, Nat.sub_mul]
    rw [← hl]; exact RL.junks _ _ _
  have hless : ∀ b' o, b' ≠ b → H.less b b' o = H b' o := fun b' o hb => by unfold View.less; rw [if_neg hb]
  have hself : ∀ o, H.less b b o = none := fun o => by unfold View.less; rw [if_pos rfl]
  have hεle : ε.le (updEnv ε nx (.blk b)) := Env.le_new hfr
  have hεq : updEnv ε nx (.blk b) nx = some (.blk b) := updEnv_same _ _ _
  have hεo : ∀ i, i ≠ nx → updEnv ε nx (.blk b) i = ε i := fun i hi' => by unfold updEnv; rw [if_neg hi']
  have hot : ∀ p' sz k, p' ≠ p → permIs ob p' sz k → ∃ v, ε p' = some (.row v k) ∧ v.ownBlock ≠ some b := by
    rintro p' sz' k hpp ⟨e', hpe'⟩
    obtain ⟨v', xs', h1, _⟩ := hi.mem.objs p' _ hpe'
    refine ⟨v', h1, fun hb => ?_⟩
    exact hi.mem.dj p' p (show ob p' ≠ none by rw [hpe']; simp) hne hpp b (by rw [h1]; exact hb) hbp
  have hbnew : c.w0.heap.size ≤ b := by
    rcases hi.mem.own p hne b hbp with h | ⟨_, h⟩
    · exact h
    · rw [hi.mem.low p hp16] at h; cases h
  -- the new objects
  have hobn : ∀ i x, wor (wo (fun _ => none) nx (.box (es.flatten ++ List.replicate ((cap - es.length) * sz) .junk))) (thB p nx es.length cap B) i = some x →
      (∃ y, B.lookup i = some y ∧ x = y.th p nx es.length cap ∧ ObLe (ob i) y ∧ i ≠ p ∧ i ≠ nx) ∨ (i = nx ∧ x = .box (es.flatten ++ List.replicate ((cap - es.length) * sz) .junk)) := by
    intro i x hx
    rw [wor_lookup, thB_lookup] at hx
    cases hl : B.lookup i with
    | some y =>
      rw [hl] at hx
      cases hx
      have hle := leB_lookup hB hl
      refine .inl ⟨y, rfl, rfl, hle, (thokB_lookup hBk hl).1, fun e => ?_⟩
      have := hle.ok fun z hz => hi.mem.objs i z hz
      rw [e] at this
      cases y with
      | box cs => obtain ⟨_, _, _, h1, _⟩ := this; rw [hfr] at h1; cases h1
      | perm e sz n => obtain ⟨_, _, h1, _⟩ := this; rw [hfr] at h1; cases h1
      | gone => exact this
    | none =>
      rw [hl] at hx
      simp only [Option.map_none, wo_get] at hx
      split at hx
      · rename_i h1; cases hx; exact .inr ⟨h1, rfl⟩
      · cases hx
  have hobne : ∀ i, wor (wo (fun _ => none) nx (.box (es.flatten ++ List.replicate ((cap - es.length) * sz) .junk))) (thB p nx es.length cap B) i ≠ none → (i ≠ nx ∧ i ≠ p ∧ ob i ≠ none) ∨ i = nx := by
    intro i hi'
    cases hx : wor (wo (fun _ => none) nx (.box (es.flatten ++ List.replicate ((cap - es.length) * sz) .junk))) (thB p nx es.length cap B) i with
    | none => exact absurd hx hi'
    | some x =>
      rcases hobn i x hx with ⟨y, _, _, h1, h2, h3⟩ | ⟨h1, _⟩
      · exact .inl ⟨h3, h2, fun e => by rw [e] at h1; exact h1⟩
      · exact .inr h1
  refine h cap hcap hmax c (H.less b) (updEnv ε nx (.blk b)) a w hc ⟨hi.sz, hi.df, fun i => ?_, ?_, fun id hid => ?_⟩ Q hQ
  · show R _ _ _ (wrs (fun _ => .junk) (thS p nx es.length cap S) i)
    rw [wrs_lookup, thS_lookup]
    cases hl : S.lookup i with
    | none => exact .junk _
    | some x => exact R.th hεq hεle rfl hcap hεp hot (R.le (leS_lookup hS hl) (hi.tm i)) (thokS_lookup hSk hl)
  · exact {
      view := fun b' o u hu => hi.mem.view b' o u (View.less_le H b b' o u hu)
      objs := fun i x hx => by
        rcases hobn i x hx with ⟨y, hl, rfl, hle, hip, hin⟩ | ⟨rfl, rfl⟩
        · have hk := (thokB_lookup hBk hl).2
          have hok := hle.ok fun z hz => hi.mem.objs i z hz
          cases y with
          | box cs =>
            obtain ⟨g, arr, T, h1, h2, h3, h4, h5⟩ := hok
            exact ⟨g, arr, T, (hεo i hin).trans h1, h2, RL.th hεq hεle rfl hcap hεp hot h3 hk, h4, fun o => by
              cases hq : H.less b g o with
              | none => rfl
              | some u => have := View.less_le H b g o u hq; rw [h5 o] at this; cases this⟩
          | perm e' sz' n' =>
            obtain ⟨u, ys, h1, h2, h3, h4⟩ := hok
            exact ⟨u, ys, (hεo i hin).trans h1, h2, h3, fun g hg o ho => by
              cases hq : H.less b g o with
              | none => rfl
              | some u => have := View.less_le H b g o u hq; rw [h4 g hg o ho] at this; cases this⟩
          | gone => exact hok.elim
        · exact ⟨b, cur, e, hεq, hheap, hrl _ _, trivial, hself⟩
      dj := fun i j hi' hj' hij g hg hg' => by
        rcases hobne i hi' with ⟨a1, a2, a3⟩ | rfl
        · rw [hεo i a1] at hg
          rcases hobne j hj' with ⟨b1, b2, b3⟩ | rfl
          · rw [hεo j b1] at hg'
            exact hi.mem.dj i j a3 b3 hij g hg hg'
          · rw [hεq] at hg'; cases hg'
            exact hi.mem.dj i p a3 hne a2 _ hg hbp
        · rw [hεq] at hg; cases hg
          rcases hobne j hj' with ⟨b1, b2, b3⟩ | rfl
          · rw [hεo j b1] at hg'
            exact hi.mem.dj p j hne b3 (fun e => b2 e.symm) _ hbp hg'
          · exact hij rfl
      own := fun i hi' g hg => by
        rcases hobne i hi' with ⟨a1, a2, a3⟩ | rfl
        · rw [hεo i a1] at hg; exact hi.mem.own i a3 g hg
        · rw [hεq] at hg; cases hg; exact .inl hbnew
      os := hi.mem.os
      tape := hi.mem.tape
      output := hi.mem.output
      size := hi.mem.size
      block := hi.mem.block
      hle := fun b' o u hu => by
        have hne' : b' ≠ b := fun e => by rw [e, hi.mem.top b o hbnew] at hu; cases hu
        rw [hless b' o hne']; exact hi.mem.hle b' o u hu
      hold := fun b' o hb' hS => by rw [hless b' o (by omega)]; exact hi.mem.hold b' o hb' hS
      ele := Env.le_trans hi.mem.ele hεle
      low := hi.mem.low
      top := hi.mem.top }
  · have hid' : nx + 16 ≤ id := hid
    rw [hεo id (by omega)]; exact hi.dom id (show nx ≤ id by omega)

/-- A variable over which a slice lies comes to be seen, and is written no more. -/
theorem freeze_core {c : Ctx} {H : View} {ε : Env} {ob : Nat → Option Ob} {w : World} (hm : Mem c H ε ob w) {q off sz cap : Nat} {cs : List AV} {es : List (List AV)} (hq : ob q = some (.box cs)) (hes : (cs.drop off).take (es.length * sz) = es.flatten) (hs : ∀ x ∈ es, x.length = sz)
    (hpu : PuL es.flatten) (hone : ∀ a ∈ es.flatten, a.one = true) {v : Value} (hv : R H ε v (.bsl q off sz es.length cap)) : ∃ H', H.le H' ∧ D H' v (.sl sz es) ∧ Mem c H' ε (wo ob q .gone) w := by
  obtain ⟨b, rfl, hε, hcap⟩ := hv.bsl_inv
  obtain ⟨arr, T, hheap, hrl, _, hnone⟩ := (hm.objs q _ hq).box hε
  have hne : ob q ≠ none := by rw [hq]; simp
  have hbq : blkOf (ε q) = some b := by rw [hε]; rfl
  have hrl' := (hrl.drop off).take (es.length * sz)
  rw [hes] at hrl'
  have h1 := hrl'.one hone
  have hdl := hrl'.pu hpu
  let H' : View := fun b' o => if b' = b then (if off ≤ o ∧ o < off + es.length * sz then arr[o]? else none) else H b' o
  have hH : H.le H' := fun b' o u hu => by
    have : b' ≠ b := fun e => by rw [e, hnone o] at hu; cases hu
    simp only [H']; rw [if_neg this]; exact hu
  have hoth : ∀ b' o, b' ≠ b → H' b' o = H b' o := fun b' o hb => by simp only [H']; rw [if_neg hb]
  have hcell : ∀ o, w.cell? ⟨b, o, none⟩ = arr[o]? := fun o => cell_of_row w b o arr T (0, 0) hheap
  refine ⟨H', hH, .sl _ _ _ _ _ hcap hs (DM.of_list (hdl.mono hH) (fun j u hj => ?_) h1), ?_⟩
  · have hj' : j < es.length * sz := by
      rcases Nat.lt_or_ge j (es.length * sz) with h | h
      · exact h
      · rw [List.getElem?_eq_none (by rw [List.length_take]; omega)] at hj; cases hj
    simp only [H', if_true]
    rw [if_pos ⟨by omega, by omega⟩]
    rw [List.getElem?_take_of_lt hj', List.getElem?_drop] at hj
    simpa using hj
  have hup : ∀ i, wo ob q .gone i ≠ none → i ≠ q ∧ ob i ≠ none := fun i hi => by
    rw [wo_get] at hi
    by_cases h : i = q
    · rw [if_pos h] at hi; exact absurd rfl hi
    · rw [if_neg h] at hi; exact ⟨h, hi⟩
  exact {
    view := fun b' o u hu => by
      by_cases hb : b' = b
      · subst hb
        simp only [H', if_true] at hu
        split at hu
        · rw [hcell]; exact hu
        · cases hu
      · rw [hoth b' o hb] at hu; exact hm.view b' o u hu
    objs := fun i x hx => by
      have hiq := (hup i (by rw [hx]; simp)).1
      rw [wo_get, if_neg hiq] at hx
      refine (hm.objs i x hx).ext hH (Env.le_refl ε) rfl (fun _ _ => rfl) (fun b' hb' o => hoth b' o ?_)
      intro e; subst e
      exact hm.dj i q (by rw [hx]; simp) hne hiq b' hb' hbq
    dj := fun i j hi hj => hm.dj i j (hup i hi).2 (hup j hj).2
    own := fun i hi => hm.own i (hup i hi).2
    os := hm.os
    tape := hm.tape
    output := hm.output
    size := hm.size
    block := hm.block
    hle := View.le_trans hm.hle hH
    hold := fun b' o hb' hS => by
      rw [hoth b' o (fun e => by
        subst e
        rcases hm.own q hne b' hbq with h | h
        · omega
        · exact hS h.1)]
      exact hm.hold b' o hb' hS
    ele := hm.ele
    low := hm.low
    top := hm.top }

theorem w_freeze {P : Program} {N : Nat} {tm : Nat → AV} {ob : Nat → Option Ob} {nx : Nat} {K : Exit → St → Prop} {code : Code} (s : Nat) (es : List (List AV)) {q off sz cap n : Nat} {cs : List AV} (hs : tm s = .bsl q off sz n cap) (hq : ob q = some (.box cs)) (hn : n = es.length)
    (hes : (cs.drop off).take (es.length * sz) = es.flatten) (hl : ∀ x ∈ es, x.length = sz) (hpu : PuL es.flatten) (hone : ∀ a ∈ es.flatten, a.one = true)
    (h : Later P N code K ⟨wr tm s (.sl sz es), wo ob q .gone, nx⟩) : Tri P N code ⟨tm, ob, nx⟩ K := by
  subst hn
  intro c H ε a w hc hi Q hQ
  have hv := hi.tm s
  have hs' : (⟨tm, ob, nx⟩ : St).tm s = .bsl q off sz es.length cap := hs
  rw [hs'] at hv
  obtain ⟨H', hH, hD, hm⟩ := freeze_core hi.mem hq hes hl hpu hone hv
  refine h c H' ε a w hc ⟨hi.sz, hi.df, fun i => ?_, hm, hi.dom⟩ Q hQ
  show R H' ε _ (wr tm s (.sl sz es) i)
  rw [wr_get]
  split
  · rename_i he; subst he; exact .d _ _ hD
  · exact (hi.tm i).mono hH (Env.le_refl ε)
/-- .. the slice stands in a variable. -/
theorem w_freezeCell {P : Program} {N : Nat} {tm : Nat → AV} {ob : Nat → Option Ob} {nx : Nat} {K : Exit → St → Prop} {code : Code} (k j : Nat) (es : List (List AV)) {q off sz cap n : Nat} {ds cs : List AV} (hk : ob k = some (.box ds)) (hj : ds[j]? = some (.bsl q off sz n cap)) (hkq : k ≠ q) (hq : ob q = some (.box cs)) (hn : n = es.length)
    (hes : (cs.drop off).take (es.length * sz) = es.flatten) (hl : ∀ x ∈ es, x.length = sz) (hpu : PuL es.flatten) (hone : ∀ a ∈ es.flatten, a.one = true)
    (h : Later P N code K ⟨tm, wo (wo ob q .gone) k (.box (ds.set j (.sl sz es))), nx⟩) : Tri P N code ⟨tm, ob, nx⟩ K := by
  subst hn
  intro c H ε a w hc hi Q hQ
  obtain ⟨g, arr, T, h1, h2, h3, _⟩ := hi.mem.objs k _ hk
  obtain ⟨v, hvj, hv⟩ := h3.get hj
  obtain ⟨H', hH, hD, hm⟩ := freeze_core hi.mem hq hes hl hpu hone hv
  have hk' : wo ob q .gone k = some (.box ds) := by rw [wo_get, if_neg hkq]; exact hk
  have hm2 := hm.reread hk' (y := .box (ds.set j (.sl sz es))) (by
    obtain ⟨g, arr, T, h1', h2', h3', h4', h5'⟩ := hm.objs k _ hk'
    rw [h1] at h1'; cases h1'
    rw [h2] at h2'; cases h2'
    refine ⟨g, arr, T, h1, h2, h3'.set fun u hu => ?_, trivial, h5'⟩
    rw [hvj] at hu; cases hu
    exact .d _ _ hD)
  rw [wo_box] at hm2
  exact h c H' ε a w hc ⟨hi.sz, hi.df, fun i => (hi.tm i).mono hH (Env.le_refl ε), hm2, hi.dom⟩ Q hQ

/-- Within a loop, ahead of a round. -/
def LoopIn (P : Program) (N : Nat) (body : Code) (σ : St) (K : Exit → St → Prop) : Prop :=
  ∀ (c : Ctx) (H : View) (ε : Env) (a : Act) (w : World), c.N = N → Inv c H ε σ a w → ∀ Q : Exit → Act → World → Prop, (∀ e σ' H' ε' a' w', K e σ' → Inv c H' ε' σ' a' w' → Q e a' w') →
    ∀ b k cs, ∃ e a' w', Q e a' w' ∧ Arrives P (lone (b.at a (.code body :: .inLoop body :: k)) cs w) b k cs e a' w'
/-- A loop's round by itself. -/
def UnK (P : Program) (N : Nat) (body : Code) (K : Exit → St → Prop) : Exit → St → Prop
  | .normal, σ => LoopIn P N body σ K
  | e, σ => K e σ
theorem w_round {P : Program} {N : Nat} {σ : St} {K : Exit → St → Prop} {body : Code} (h : Later P N body (UnK P N body K) σ) : LoopIn P N body σ K := fun c H ε a w hc hi Q hQ => by
  intro b k cs
  obtain ⟨e, a₁, w₁, hq, harr⟩ := h c H ε a w hc hi (fun e a' w' => match e with | .normal => ∀ b k cs, ∃ e a'' w'', Q e a'' w'' ∧ Arrives P (lone (b.at a' (.code body :: .inLoop body :: k)) cs w') b k cs e a'' w'' | e => Q e a' w') (fun e σ' H' ε' a' w' hK hi' => by
    cases e with
    | normal => exact hK c H' ε' a' w' hc hi' Q hQ
    | exit id => exact hQ _ _ _ _ _ _ hK hi'
    | goto l => exact hQ _ _ _ _ _ _ hK hi'
    | ret => exact hQ _ _ _ _ _ _ hK hi'
    | panic ch => exact hQ _ _ _ _ _ _ hK hi'
    | outgrown => exact hQ _ _ _ _ _ _ hK hi') b (.inLoop body :: k) cs
  cases e with
  | normal =>
    obtain ⟨e₂, a₂, w₂, hq₂, harr₂⟩ := hq b k cs
    exact ⟨e₂, a₂, w₂, hq₂, .of_steps (Steps.trans harr (.one step_inLoop)) harr₂⟩
  | exit id => exact ⟨_, a₁, w₁, hq, .pass (x := .inLoop body) rfl (fun _ _ => .inl (by simp)) harr⟩
  | goto l => exact ⟨_, a₁, w₁, hq, .pass (x := .inLoop body) rfl (fun _ _ => .inl (by simp)) harr⟩
  | ret => exact ⟨_, a₁, w₁, hq, .pass (x := .inLoop body) rfl (fun _ _ => .inl (by simp)) harr⟩
  | panic ch => exact ⟨_, a₁, w₁, hq, .pass (x := .inLoop body) rfl (fun _ _ => .inl (by simp)) harr⟩
  | outgrown => exact ⟨_, a₁, w₁, hq, .pass (x := .inLoop body) rfl (fun _ _ => .inl (by simp)) harr⟩
theorem w_unroll {P : Program} {N : Nat} {σ : St} {K : Exit → St → Prop} {body : Code} (h : Later P N body (UnK P N body K) σ) : Tri P N (.loop body) σ K := fun c H ε a w hc hi Q hQ => by
  intro b k cs
  obtain ⟨e, a', w', hq, harr⟩ := w_round h c H ε a w hc hi Q hQ b k cs
  exact ⟨e, a', w', hq, .of_steps (.one step_loop) harr⟩
theorem un_next {P : Program} {N : Nat} {σ : St} {K : Exit → St → Prop} {body : Code} (h : Later P N body (UnK P N body K) σ) : Out (UnK P N body K) .normal σ := w_round h
/-- .. and a slot's value is reckoned. -/
theorem un_nextS {P : Program} {N : Nat} {tm : Nat → AV} {ob : Nat → Option Ob} {nx : Nat} {K : Exit → St → Prop} {body : Code} (s : Nat) {a b : AV} (hv : tm s = a) (he : a = b) (h : Later P N body (UnK P N body K) ⟨wr tm s b, ob, nx⟩) : Out (UnK P N body K) .normal ⟨tm, ob, nx⟩ := by
  subst he; subst hv
  have e : wr tm s (tm s) = tm := by funext i; rw [wr_get]; split
                                     · rename_i h; rw [h]
                                     · rfl
  rw [e] at h
  exact w_round h
theorem un_ret {P : Program} {N : Nat} {σ : St} {K : Exit → St → Prop} {body : Code} (h : Out K .ret σ) : Out (UnK P N body K) .ret σ := h
theorem un_exit {P : Program} {N id : Nat} {σ : St} {K : Exit → St → Prop} {body : Code} (h : Out K (.exit id) σ) : Out (UnK P N body K) (.exit id) σ := h
/-- A slot's value is reckoned. -/
theorem w_num {P : Program} {N : Nat} {tm : Nat → AV} {ob : Nat → Option Ob} {nx : Nat} {K : Exit → St → Prop} {code : Code} (s : Nat) {a b : AV} (hv : tm s = a) (he : a = b) (h : Later P N code K ⟨wr tm s b, ob, nx⟩) : Tri P N code ⟨tm, ob, nx⟩ K := by
  subst he; subst hv
  have e : wr tm s (tm s) = tm := by funext i; rw [wr_get]; split
                                     · rename_i h; rw [h]
                                     · rfl
  rw [e] at h
  exact h
/-- A variable's cells, told otherwise. -/
theorem w_box {P : Program} {N : Nat} {tm : Nat → AV} {ob : Nat → Option Ob} {nx : Nat} {K : Exit → St → Prop} {code : Code} (id : Nat) {cs : List AV} (cs' : List AV) (hb : ob id = some (.box cs)) (he : cs = cs') (h : Later P N code K ⟨tm, wo ob id (.box cs'), nx⟩) : Tri P N code ⟨tm, ob, nx⟩ K := by
  subst he
  have e : wo ob id (.box cs) = ob := by
    funext i; rw [wo_get]; split
    · rename_i h; rw [h, hb]; rfl
    · rfl
  rw [e] at h
  exact h
mutual
theorem AV.th_s {p q n cap : Nat} : ∀ {l : List AV}, (∀ a ∈ l, ∃ v, a = .s v) → thL p q n cap l = l
  | [], _ => rfl
  | a :: l, h => by
    obtain ⟨v, rfl⟩ := h a (by simp)
    simp only [thL, AV.th]
    rw [AV.th_s fun b hb => h b (by simp [hb])]
end
theorem thokL_s {ob : Nat → Option Ob} {p sz0 : Nat} {es0 : List (List AV)} : ∀ {l : List AV}, (∀ a ∈ l, ∃ v, a = .s v) → thokL ob p sz0 es0 l
  | [], _ => by simp only [thokL]
  | a :: l, h => by
    obtain ⟨v, rfl⟩ := h a (by simp)
    simp only [thokL, AV.thok, true_and]
    exact thokL_s fun b hb => h b (by simp [hb])
theorem renL_append (φ : Nat → Nat) : ∀ (l m : List AV), renL φ (l ++ m) = renL φ l ++ renL φ m
  | [], _ => rfl
  | a :: l, m => by simp only [List.cons_append, renL]; rw [renL_append φ l m]
theorem renL_scal {φ : Nat → Nat} : ∀ {l : List AV}, (∀ a ∈ l, ∃ v, a = .s v) → renL φ l = l
  | [], _ => rfl
  | a :: l, h => by
    obtain ⟨v, rfl⟩ := h a (by simp)
    simp only [renL, AV.ren]
    rw [renL_scal fun b hb => h b (by simp [hb])]
theorem renL_junk (φ : Nat → Nat) : ∀ (n : Nat), renL φ (List.replicate n .junk) = List.replicate n .junk
  | 0 => rfl
  | n + 1 => by rw [List.replicate_succ]; simp only [renL, AV.ren]; rw [renL_junk φ n]
theorem ltL_append {n : Nat} : ∀ {l m : List AV}, ltL n l → ltL n m → ltL n (l ++ m)
  | [], _, _, h => h
  | a :: l, m, h, h' => by
    simp only [List.cons_append, ltL] at h ⊢
    exact ⟨h.1, ltL_append h.2 h'⟩
theorem ltL_scal {n : Nat} : ∀ {l : List AV}, (∀ a ∈ l, ∃ v, a = .s v) → ltL n l
  | [], _ => by simp only [ltL]
  | a :: l, h => by
    obtain ⟨v, rfl⟩ := h a (by simp)
    simp only [ltL, AV.lt, true_and]
    exact ltL_scal fun b hb => h b (by simp [hb])
theorem ltL_junk {k : Nat} : ∀ (n : Nat), ltL k (List.replicate n .junk)
  | 0 => by simp only [List.replicate_zero, ltL]
  | n + 1 => by rw [List.replicate_succ]; simp only [ltL, AV.lt, true_and]; exact ltL_junk n
/-- A halt of the walk. -/
def Pause (p : Prop) : Prop := p
theorem halt_in {P : Program} {N : Nat} {code : Code} {σ : St} {K : Exit → St → Prop} (h : Pause (Tri P N code σ K)) : Tri P N code σ K := h
theorem halt_out {p : Prop} (h : p) : Pause p := h
theorem nfL_stop {l : List AV} {k : List AV → Prop} (h : k l) : nfL l k := by rw [nfL_eq]; exact h
end Go.Sy

/- Disks that are opened, grow, and crash; plain. No condition. -/
import Derived.Test.YtbhcjgobapnajaaDiskBack
namespace Go.Proofs.Ytbhcjgobapnajaa
open Go Go.Sy
set_option maxRecDepth 4000
set_option linter.unusedSimpArgs false
set_option linter.unusedVariables false
theorem right_mk {s : ByteArray} {y : Int} {l : List Rc} (hz : s.size ≤ 2000) (hd : diskL s s.size 0 none = some l) (hs : y ∈ endsL 0 l) : readR ⟨s, y⟩ = ((l, endsL 0 l), 0) := by
  unfold readR
  rw [if_neg (by simp only; omega)]
  simp only [hd]
  rw [if_pos hs]
theorem ends_zero (l : List Rc) : (0 : Int) ∈ endsL 0 l := by cases l <;> simp [endsL]
theorem ends_end (o : Int) (l : List Rc) : endR o l ∈ endsL o l := List.mem_of_getLast? (endsL_last o l)
def stOf (l : List Rc) : Sto := ⟨(trimS (firstOf l) (gsOf l)).1, (trimS (firstOf l) (gsOf l)).2, []⟩
theorem openS_of {d : Dk} {l : List Rc} {E : List Int} (h : readR d = ((l, E), 0)) : openS d = ((stOf l, ⟨d.data.extract 0 (endR 0 l).toNat, endR 0 l⟩), 0) := by
  rw [openS, if_pos (by rw [dkE, h]), h]; rfl
theorem dkE_of {d : Dk} {x : List Rc × List Int} (h : readR d = (x, 0)) : dkE d = 0 := by rw [dkE, h]
structure Full (d : Dk) (l : List Rc) : Prop where
  hz : d.data.size ≤ 2000
  hl : diskL d.data d.data.size 0 none = some l
  hs : d.sync ∈ endsL 0 l
  he : endR 0 l = d.data.size
theorem Full.read {d : Dk} {l : List Rc} (h : Full d l) : readR d = ((l, endsL 0 l), 0) := right_mk h.hz h.hl h.hs
theorem Full.ok {d : Dk} {l : List Rc} (h : Full d l) : dkE d = 0 := dkE_of h.read
theorem Full.whole {d : Dk} {l : List Rc} (h : Full d l) : (wholeR d).2 = 0 := by
  have h1 := h.read
  unfold wholeR
  rw [h1]
  simp only [if_true]
  rw [h.he, if_neg (by omega)]
theorem extract_all (s : ByteArray) : s.extract 0 s.size = s := by simp
theorem Full.open {d : Dk} {l : List Rc} (h : Full d l) : openS d = ((stOf l, ⟨d.data, d.data.size⟩), 0) := by
  rw [openS_of h.read, h.he, Int.toNat_natCast, extract_all]
theorem opened {d : Dk} (h : dkE d = 0) : ∃ l, diskL d.data d.data.size 0 none = some l ∧ (openS d).1.1 = stOf l ∧ Full (openS d).1.2 l ∧ (openS d).1.2.sync = (openS d).1.2.data.size ∧ (openS d).2 = 0 := by
  obtain ⟨hz, l, hd, hs, e⟩ := readR_ok h
  obtain ⟨he1, he2, _⟩ := diskL_end _ _ _ _ _ (Nat.zero_le _) hd
  rw [show ((0 : Nat) : Int) = 0 from rfl] at he1 he2
  have ho := openS_of e
  obtain ⟨m, m1, m2, m3, m4⟩ := diskL_pre d.data (endR 0 l).toNat (by omega) _ _ _ _ (Nat.zero_le _) hd
  have hm : m = l.length := by
    have := m4 l.length (Nat.le_refl _) (by rw [List.take_of_length_le (Nat.le_refl _)]; show endR 0 l ≤ _; omega)
    omega
  rw [hm, List.take_of_length_le (Nat.le_refl _)] at m2
  have hsz := pre_size (s := d.data) (n := (endR 0 l).toNat) (by omega)
  rw [diskL_fuel _ _ (d.data.extract 0 (endR 0 l).toNat).size _ _ (by omega) (by omega)] at m2
  refine ⟨l, hd, by rw [ho], ?_, by rw [ho]; simp only [hsz]; omega, by rw [ho]⟩
  rw [ho]
  exact ⟨by simp only [hsz]; omega, m2, ends_end 0 l, by simp only [hsz]; omega⟩
theorem lastOr_none (l : List Rc) : lastOr none l = lastN l := by unfold lastOr lastN; cases l.getLast? <;> rfl
theorem grown {o : Dk} {l : List Rc} {n : Int} {g : List Fr} (ho : Full o l) (h : appE o n g = 0) : ∃ r : Rc, r.n = n ∧ r.g = g ∧ Full ⟨o.data ++ recB n g, o.sync⟩ (l ++ [r]) := by
  have hr := ho.read
  unfold appE at h
  rw [if_neg (by simp [ho.ok])] at h
  by_cases c2 : encE n g = 0
  · rw [if_neg (by simp [c2]), if_neg (by simp [ho.whole]), hr] at h
    obtain ⟨hn, hg⟩ := (encE_zero n g).1 c2
    simp only at h
    cases c3 : goesB (lastN l) n with
    | false => rw [c3, if_pos rfl] at h; cases h
    | true =>
      rw [c3, if_neg (by simp)] at h
      by_cases c4 : 2000 < o.data.size + (recB n g).size
      · rw [if_pos c4] at h; cases h
      · have hb := oneX_body hn hg
        have hrb : (cat (bodyCk n g)).size + 2 = (recB n g).size := by rw [recB, ByteArray.size_append, beN_size]; omega
        have ha := diskL_app o.data (cat (bodyCk n g)) (by omega) _ _ _ l (Nat.zero_le _) ho.hl ho.he (by rw [hb]) (by rw [hb, lastOr_none]; exact c3) (o.data ++ recB n g).size (by rw [recB]; omega)
        rw [hb] at ha
        refine ⟨_, rfl, rfl, by simp only [ByteArray.size_append]; omega, ha, ?_, ?_⟩
        · rw [endsL_snoc]; exact List.mem_append_left _ ho.hs
        · rw [endR_snoc, ho.he]
          simp only [ByteArray.size_append]
          omega
  · rw [if_pos c2] at h; exact absurd h c2
theorem app_ok {o : Dk} {n : Int} {g : List Fr} (h : appE o n g = 0) : appR o n g = (⟨o.data ++ recB n g, o.sync⟩, 0) := if_pos h
theorem app_no {o : Dk} {n : Int} {g : List Fr} (h : ¬ appE o n g = 0) : appR o n g = (dk0, appE o n g) := if_neg h
theorem crashed {o : Dk} {l : List Rc} {r : Rc} {b : ByteArray} (ho : Full o l) (hs : o.sync = o.data.size) (ha : Full ⟨o.data ++ b, o.sync⟩ (l ++ [r])) {keep : Int} (hk : 0 ≤ keep) :
    (crashR ⟨o.data ++ b, o.sync⟩ keep).2 = 0 ∧ ∃ L, (L = l ∨ L = l ++ [r]) ∧ readR (crashR ⟨o.data ++ b, o.sync⟩ keep).1 = ((L, endsL 0 L), 0) := by
  have hz : (o.data ++ b).size = o.data.size + b.size := ByteArray.size_append
  have h1 : crashR ⟨o.data ++ b, o.sync⟩ keep = (⟨(o.data ++ b).extract 0 (o.sync + min keep ((o.data ++ b).size - o.sync)).toNat, o.sync⟩, 0) := by
    rw [crashR, if_pos ha.ok, if_neg (by omega)]
  rw [h1]
  refine ⟨rfl, ?_⟩
  simp only
  obtain ⟨k, hk1⟩ : ∃ k, (o.sync + min keep ((o.data ++ b).size - o.sync)).toNat = k := ⟨_, rfl⟩
  rw [hk1]
  have hk2 : o.data.size ≤ k ∧ k ≤ (o.data ++ b).size := by omega
  have hl := ha.hl
  simp only at hl
  obtain ⟨m, m1, m2, m3, m4⟩ := diskL_pre (o.data ++ b) k hk2.2 _ _ _ _ (Nat.zero_le _) hl
  have hml := m4 l.length (by simp) (by rw [List.take_append_of_le_length (Nat.le_refl _), List.take_of_length_le (Nat.le_refl _)]; show endR 0 l ≤ _; rw [ho.he]; omega)
  have hsz := pre_size (s := o.data ++ b) (n := k) hk2.2
  rw [diskL_fuel _ _ ((o.data ++ b).extract 0 k).size _ _ (by omega) (by omega)] at m2
  have haz := ha.hz
  simp only at haz
  rw [List.length_append, List.length_singleton] at m1
  rcases Nat.lt_or_ge l.length m with hq | hq
  · rw [List.take_of_length_le (by simp; omega)] at m2
    exact ⟨l ++ [r], .inr rfl, right_mk (by omega) m2 ha.hs⟩
  · rw [show m = l.length by omega, List.take_append_of_le_length (Nat.le_refl _), List.take_of_length_le (Nat.le_refl _)] at m2
    exact ⟨l, .inl rfl, right_mk (by omega) m2 ho.hs⟩
theorem crash_whole {p : Dk} (h : dkE p = 0) (hs : p.sync = p.data.size) {more : Int} (hm : 0 ≤ more) : crashR p more = (p, 0) := by
  rw [crashR, if_pos h, if_neg (by omega), hs, show min more ((p.data.size : Int) - p.data.size) = 0 by omega, Int.add_zero, Int.toNat_natCast, extract_all, ← hs]
theorem sync_full {d : Dk} {l : List Rc} (h : Full d l) : syncR d = (⟨d.data, d.data.size⟩, 0) ∧ Full ⟨d.data, d.data.size⟩ l := by
  refine ⟨by rw [syncR, if_pos h.whole], h.hz, h.hl, ?_, h.he⟩
  simp only
  rw [← h.he]; exact ends_end 0 l
theorem dk_storeE {s : Sto} (h : RightS s) : storeE s = 0 := by
  obtain ⟨h1, h2, h3, h4, h5⟩ := h
  have hg : goS s.gs = 0 := by
    have : ∀ l : List (List Fr), (∀ g ∈ l, groupE g = 0) → goS l = 0 := by
      intro l
      induction l with
      | nil => intro _; rfl
      | cons g l ih =>
        intro h
        rw [goS, if_neg (by simp [h g List.mem_cons_self])]
        exact ih fun x hx => h x (List.mem_cons_of_mem _ hx)
    exact this _ h3
  rw [storeE, if_neg (by simp; omega), if_neg (by omega), if_neg (by simp [hg]), if_neg (by simp [h5])]
  rcases h4 with h4 | h4
  · rw [h4]; rfl
  · split
    · exact h4
    · rfl
theorem Full.right {d : Dk} {l : List Rc} (h : Full d l) : RightS (stOf l) := by
  have := open_right h.ok
  rwa [openS_of h.read] at this
theorem stOf_op (l : List Rc) : (stOf l).op = [] := rfl
theorem stOf_all (l : List Rc) : allS (stOf l) = (stOf l).gs := rfl
theorem newest {d : Dk} {l : List Rc} {r : Rc} (h : Full d (l ++ [r])) : 0 < (stOf (l ++ [r])).gs.length ∧ (stOf (l ++ [r])).first + (stOf (l ++ [r])).gs.length - 1 = r.n ∧ getS (stOf (l ++ [r])) r.n = (r.g, 0) := by
  have hs := dk_storeE h.right
  obtain ⟨k, k1, k2, k3, k4, k5⟩ := trimS_drop _ (firstOf (l ++ [r])) (gsOf (l ++ [r])) rfl
  have hG : gsOf (l ++ [r]) = gsOf l ++ [r.g] := by rw [gsOf, List.map_append]; rfl
  have hlen : (gsOf (l ++ [r])).length = l.length + 1 := by rw [gsOf_len, List.length_append]; rfl
  have hk := k4 (by omega)
  have e1 : (stOf (l ++ [r])).first = firstOf (l ++ [r]) + k := by rw [stOf, k2]
  have e2 : (stOf (l ++ [r])).gs = (gsOf (l ++ [r])).drop k := by rw [stOf, k2]
  have e3 : (stOf (l ++ [r])).gs.length = l.length + 1 - k := by rw [e2, List.length_drop, hlen]
  have hn := (diskL_seq _ _ _ _ _ h.hl).1 l.length r (by simp)
  refine ⟨by omega, by rw [e1, e3, hn]; omega, ?_⟩
  rw [getS, if_pos hs, stOf_all, if_neg (by rw [e1, e3, hn]; omega)]
  refine Prod.ext ?_ rfl
  simp only
  rw [e1, show (r.n - (firstOf (l ++ [r]) + (k : Int))).toNat = l.length - k by rw [hn]; omega, e2, List.getD_eq_getElem?_getD, List.getElem?_drop, show k + (l.length - k) = (gsOf l).length by rw [gsOf_len]; omega, hG]
  simp
theorem trimS_min : ∀ (n : Nat) (first : Int) (l : List (List Fr)), l.length = n → ∃ k : Nat, k ≤ l.length ∧ trimS first l = (first + k, l.drop k) ∧ full (l.drop k) = false ∧ ∀ j, j < k → full (l.drop j) = true := by
  intro n
  induction n with
  | zero =>
    intro first l h
    have : l = [] := List.eq_nil_of_length_eq_zero h
    subst this
    have hf : full [] = false := by decide
    exact ⟨0, by simp, by rw [trimS, dif_neg (by simp [hf])]; simp, by simpa using hf, by simp⟩
  | succ n ih =>
    intro first l h
    by_cases hf : full l = true
    · have hp := full_pos hf
      obtain ⟨k, h1, h2, h3, h4⟩ := ih (first + 1) l.tail (by simp; omega)
      refine ⟨k + 1, by simp at h1; omega, ?_, by rw [List.drop_tail] at h3; exact h3, fun j hj => ?_⟩
      · rw [trimS, dif_pos hf, h2]
        simp; omega
      · cases j with
        | zero => exact hf
        | succ j => have := h4 j (by omega); rwa [List.drop_tail] at this
    · exact ⟨0, by omega, by rw [trimS, dif_neg hf]; simp, by simpa using hf, by omega⟩
theorem full_take {l : List (List Fr)} {m : Nat} (h : full (l.take m) = true) : full l = true := by
  have h1 : sumB l = sumB (l.take m) + sumB (l.drop m) := by rw [← sumB_app, List.take_append_drop]
  have h2 : (l.take m).length ≤ l.length := by rw [List.length_take]; omega
  unfold full at h ⊢
  simp only [Bool.or_eq_true, Bool.and_eq_true, decide_eq_true_eq] at h ⊢
  omega
theorem parts {L : List Rc} {m : Nat} (hm : m ≤ L.length) : (0 < (stOf (L.take m)).gs.length → (stOf (L.take m)).first ≤ (stOf L).first) ∧
    ∀ (i : Nat) g, (stOf (L.take m)).gs[i]? = some g → (stOf (L.take m)).first + i - (stOf L).first < (stOf L).gs.length ∧ (0 ≤ (stOf (L.take m)).first + i - (stOf L).first → (stOf L).gs[((stOf (L.take m)).first + i - (stOf L).first).toNat]? = some g) := by
  obtain ⟨k, k1, k2, k3, k4⟩ := trimS_min _ (firstOf L) (gsOf L) rfl
  obtain ⟨j, j1, j2, j3, j4⟩ := trimS_min _ (firstOf (L.take m)) (gsOf (L.take m)) rfl
  have hG : gsOf (L.take m) = (gsOf L).take m := by rw [gsOf, gsOf, List.map_take]
  rw [hG] at j1 j2 j3 j4
  rw [gsOf_len] at k1
  rw [List.length_take, gsOf_len] at j1
  have e1 : (stOf (L.take m)).first = firstOf (L.take m) + j := by rw [stOf, hG, j2]
  have e2 : (stOf (L.take m)).gs = ((gsOf L).take m).drop j := by rw [stOf, hG, j2]
  have e3 : (stOf L).first = firstOf L + k := by rw [stOf, k2]
  have e4 : (stOf L).gs = (gsOf L).drop k := by rw [stOf, k2]
  have e5 : 0 < m → firstOf (L.take m) = firstOf L := fun h => by
    cases L with
    | nil => rw [List.take_nil]
    | cons r L => cases m with
      | zero => omega
      | succ m => rfl
  have hjk : j ≤ k := by
    rcases Nat.lt_or_ge k j with h | h
    · have := j4 k h
      rw [List.drop_take] at this
      rw [full_take this] at k3
      cases k3
    · exact h
  have e6 : (stOf L).gs.length = L.length - k := by rw [e4, List.length_drop, gsOf_len]
  refine ⟨fun h => ?_, fun i g hg => ?_⟩
  · rw [e2, List.length_drop, List.length_take, gsOf_len] at h
    rw [e1, e3, e5 (by omega)]; omega
  · rw [e2, List.getElem?_drop] at hg
    have hi := (List.getElem?_eq_some_iff.1 hg).1
    rw [List.length_take, gsOf_len] at hi
    rw [List.getElem?_take_of_lt (by omega)] at hg
    rw [e1, e3, e5 (by omega), e6]
    refine ⟨by omega, fun h0 => ?_⟩
    rw [e4, List.getElem?_drop, show k + (firstOf L + (j : Int) + i - (firstOf L + k)).toNat = j + i by omega]
    exact hg
end Go.Proofs.Ytbhcjgobapnajaa

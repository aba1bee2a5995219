/- The whole: what an act brings about; plain facts. No condition. -/
import Derived.Test.YtokkencbpmjdaaaGreatTrackLaw2
import Derived.Test.YtokkencbpmjdaaaGreatCuA
import Derived.Test.YtokkencbpmjdaaaGreatOuA
namespace Go.Proofs.YtokkencbpmjdaaaGreat
open Go Go.Sy
set_option linter.unusedSimpArgs false
set_option linter.unusedVariables false
structure Vw where
  cu : Cu
  ou : Ou
abbrev vwC (v : Vw) : List AV := [I v.cu.mode, I v.cu.group, I v.cu.frame, I v.ou.last, I v.ou.time, I v.ou.shift]
def vw0 : Vw := ⟨cu0, ou0⟩
structure Ac where
  kind : Int
  n : Int
  text : ByteArray
abbrev acC (a : Ac) : List AV := [I a.kind, I a.n, Tx a.text]
def freshB (c : Cu) : Bool := decide (c.mode = 0 ∧ c.group = 0 ∧ c.frame = 0)
def viewerE (v : Vw) : Int := if freshB v.cu = true then outE v.ou else if cuE v.cu = 0 then outE v.ou else cuE v.cu
def formE (a : Ac) : Int := if a.kind < 1 ∨ 5 < a.kind then 6 else if a.kind ≠ 1 ∧ a.text ≠ ⟨#[]⟩ ∨ a.kind < 4 ∧ a.n ≠ 0 then 1 else 0
def remC (s : Sto) (c : Cu) : Nat := if lostB (allS s) s.first c = true then 100 else (8 * (s.first + (allS s).length - c.group) - c.frame).toNat
theorem next_ok {s : Sto} {c : Cu} {upto : Int} (hr : RightS s) (hc : cuE c = 0) (h : (nextR s c upto).2.2.1 = true) :
    remC s (nextR s c upto).1 < remC s c ∧ cuE (nextR s c upto).1 = 0 ∧ frameE (nextR s c upto).2.1 = 0 ∧ c.mode ≠ 2 ∧ 1 ≤ (nextR s c upto).1.frame ∧ ((nextR s c upto).2.1.key = decide ((nextR s c upto).1.frame = 1)) ∧ ((nextR s c upto).2.2.2 = true → (nextR s c upto).1.frame = 1) := by
  have hsc := right_smallC hr hc
  have hne : ∀ g ∈ allS s, 0 < g.length := fun g hg => List.length_pos_iff.2 (groupE_ok (hr.all.2 g hg)).1
  have hco := cuE_ok hc
  unfold nextR at h ⊢
  split at h
  · cases h
  rename_i h1
  rw [if_neg h1]
  split at h
  · cases h
  rename_i h2
  rw [if_neg h2]
  simp only at h ⊢
  have hm : c.mode ≠ 2 := fun e => h1 (.inl e)
  have hl : allS s ≠ [] := fun e => h1 (.inr (.inl e))
  have hq : setG (allS s) s.first c < s.first + (allS s).length := Decidable.byContradiction fun e => h1 (.inr (.inr e))
  obtain ⟨q1, q2, q3, q4⟩ := settle_in hsc hne hl hq
  have hg : grpAt (allS s) s.first (setC (allS s) s.first c) ∈ allS s := grpAt_mem (by omega)
  have hgr := hr.all.2 _ hg
  have hg6 := (groupE_ok hgr).2.1
  have hal := hr.all.1
  have h1r := hr.1
  obtain ⟨g, hge⟩ : ∃ g, g = grpAt (allS s) s.first (setC (allS s) s.first c) := ⟨_, rfl⟩
  rw [← hge] at q3 hg hgr hg6 ⊢
  have hx : g[(setF (allS s) s.first c).toNat]? = some (g.getD (setF (allS s) s.first c).toNat fr0) := by
    rw [List.getD_eq_getElem?_getD, List.getElem?_eq_getElem (by omega)]; rfl
  have hlost : lostB (allS s) s.first ⟨c.mode, setG (allS s) s.first c, setF (allS s) s.first c + 1⟩ = false := by
    have e1 : inB (allS s) s.first ⟨c.mode, setG (allS s) s.first c, setF (allS s) s.first c + 1⟩ = inB (allS s) s.first (setC (allS s) s.first c) := rfl
    have e2 : grpAt (allS s) s.first ⟨c.mode, setG (allS s) s.first c, setF (allS s) s.first c + 1⟩ = g := hge.symm
    rw [lostB, e1, e2, q1]; simp; omega
  refine ⟨?_, ?_, goE_ok (groupE_ok hgr).2.2.1 _ (List.mem_of_getElem? hx), hm, by omega, ?_, ?_⟩
  · unfold remC
    rw [hlost]
    simp only [Bool.false_eq_true, if_false]
    by_cases hb : lostB (allS s) s.first c = true
    · rw [if_pos hb]; omega
    · rw [if_neg hb]
      have hb' : lostB (allS s) s.first c = false := by simpa using hb
      obtain ⟨i1, i2⟩ := lost_in hb'
      have hg0 := hr.all.2 _ (grpAt_mem (l := allS s) (first := s.first) (c := c) (by
        simp only [inB, decide_eq_true_eq] at i1
        unfold grpAt
        rw [List.getD_eq_getElem?_getD, List.getElem?_eq_getElem (show (c.group - s.first).toNat < (allS s).length by omega)]
        exact hne _ (List.getElem_mem _)))
      have hg06 := (groupE_ok hg0).2.1
      have eG : setG (allS s) s.first c = if c.frame = (grpAt (allS s) s.first c).length then c.group + 1 else c.group := by simp [setG, hb']
      have eF : setF (allS s) s.first c = if c.frame = (grpAt (allS s) s.first c).length then 0 else c.frame := by simp [setF, hb']
      rw [eG] at hq q4
      rw [eG, eF]
      rw [eF] at q2 q3
      split <;> rename_i hf <;> (try rw [if_pos hf] at hq q2 q3 q4) <;> (try rw [if_neg hf] at hq q2 q3 q4) <;> omega
  · unfold cuE
    rw [if_neg (by simp only; have := hco.1; omega), if_neg (by simp only; omega)]
  · have := key_at hgr hx
    rw [this]; apply decide_eq_decide.2; omega
  · intro hb
    have : setF (allS s) s.first c = 0 := by simp [setF, hb]
    omega
def sendL (s : Sto) (upto : Int) : Nat → Cu → Ou → List Pkt → Cu × Ou × List Pkt × Int
  | 0, c, o, l => (c, o, l, 0)
  | n + 1, c, o, l => if (nextR s c upto).2.2.1 = true then
      (if (rawS o (nextR s c upto).2.1 ((nextR s c upto).2.2.2 || decide (c.frame = 0))).2.2 = 0 then
        sendL s upto n (nextR s c upto).1 (rawS o (nextR s c upto).2.1 ((nextR s c upto).2.2.2 || decide (c.frame = 0))).1 (l ++ (rawS o (nextR s c upto).2.1 ((nextR s c upto).2.2.2 || decide (c.frame = 0))).2.1)
      else (c, o, l, (rawS o (nextR s c upto).2.1 ((nextR s c upto).2.2.2 || decide (c.frame = 0))).2.2))
    else (c, o, l, 0)
theorem raw_send {o : Ou} {f : Fr} {turn : Bool} (ho : outOK o) (hf : frameE f = 0) : sendS o f turn = rawS o f turn := by
  unfold sendS
  rw [if_pos]
  unfold sendE
  have he : outE o = 0 := if_pos ho
  rw [if_pos he, hf]
theorem raw_ok {o : Ou} {f : Fr} {turn : Bool} (ho : outOK o) (hf : frameE f = 0) (h : (rawS o f turn).2.2 = 0) : ∃ t sh, rawS o f turn = (⟨o.last + f.parts.length, t, sh⟩, pksTo o.last t f f.parts.length, 0) ∧ outOK ⟨o.last + f.parts.length, t, sh⟩ ∧ o.time ≤ t ∧ (turn = true → t = o.time + 10) := by
  have e := raw_send (turn := turn) ho hf
  rw [← e] at h ⊢
  obtain ⟨t, sh, h1, h2, h3, h4, h5, h6, h7, h8⟩ := send_ok h
  exact ⟨t, sh, h1, outE_ok h2, h5, h8⟩
theorem raw_no {o : Ou} {f : Fr} {turn : Bool} (h : ¬ (rawS o f turn).2.2 = 0) : rawS o f turn = (ou0, [], (rawS o f turn).2.2) := by
  unfold rawS at h ⊢
  by_cases c : (frameS o f turn).2.2 = 0
  · rw [if_pos c] at h; exact absurd c h
  · rw [if_neg c]
structure Ds where
  v : Vw
  t : Tk
  l : List Pkt
def sendA (d : Ds) (upto : Int) : Ds × Int :=
  if freshB d.v.cu = true then (d, 4) else if upto < 0 ∨ 1000000 < upto then (d, 3)
  else (⟨⟨(sendL d.t.st upto 101 d.v.cu d.v.ou d.l).1, (sendL d.t.st upto 101 d.v.cu d.v.ou d.l).2.1⟩, d.t, (sendL d.t.st upto 101 d.v.cu d.v.ou d.l).2.2.1⟩, (sendL d.t.st upto 101 d.v.cu d.v.ou d.l).2.2.2)
def setA (d : Ds) (r : Cu × Int) : Ds × Int := (if r.2 = 0 then ⟨⟨r.1, d.v.ou⟩, d.t, d.l⟩ else d, r.2)
def doA (d : Ds) (a : Ac) : Ds × Int :=
  if a.kind = 1 then (⟨d.v, (feedR d.t a.text).1, d.l⟩, (feedR d.t a.text).2.2)
  else if a.kind = 2 then setA d (liveS d.t.st)
  else if a.kind = 3 then (if freshB d.v.cu = true then (d, 4) else setA d (pauseC d.v.cu))
  else if a.kind = 4 then setA d (seekC d.t.st a.n)
  else sendA d a.n
def ds0 : Ds := ⟨vw0, tk0, []⟩
def actR (t : Tk) (v : Vw) (a : Ac) : Ds × Int := if formE a = 0 then (if (doA ⟨v, t, []⟩ a).2 = 0 then doA ⟨v, t, []⟩ a else (ds0, (doA ⟨v, t, []⟩ a).2)) else (ds0, formE a)
def actE (t : Tk) (v : Vw) : Int := if trackE t = 0 then viewerE v else trackE t
def actS (t : Tk) (v : Vw) (a : Ac) : Ds × Int := if actE t v = 0 then actR t v a else (ds0, actE t v)
structure OkV (v : Vw) : Prop where
  cu : freshB v.cu = true ∨ cuE v.cu = 0
  ou : outOK v.ou
theorem viewerE_ok {v : Vw} (h : viewerE v = 0) : OkV v := by
  unfold viewerE at h
  by_cases c : freshB v.cu = true
  · rw [if_pos c] at h; exact ⟨.inl c, outE_ok h⟩
  · rw [if_neg c] at h
    by_cases c2 : cuE v.cu = 0
    · rw [if_pos c2] at h; exact ⟨.inr c2, outE_ok h⟩
    · rw [if_neg c2] at h; exact absurd h c2
theorem OkV.e {v : Vw} (h : OkV v) : viewerE v = 0 := by
  unfold viewerE
  have ho : outE v.ou = 0 := if_pos h.ou
  split
  · exact ho
  · rename_i c
    rcases h.cu with h1 | h1
    · exact absurd h1 c
    · rw [if_pos h1]; exact ho
theorem send_ok' (s : Sto) (upto : Int) (hr : RightS s) : ∀ (n : Nat) (c : Cu) (o : Ou) (l : List Pkt), cuE c = 0 → outOK o → cuE (sendL s upto n c o l).1 = 0 ∧ outOK (sendL s upto n c o l).2.1 ∧ (sendL s upto n c o l).2.2.1.length ≤ l.length + 4 * n
  | 0, c, o, l, hc, ho => ⟨hc, ho, by simp [sendL]⟩
  | n + 1, c, o, l, hc, ho => by
    unfold sendL
    by_cases h1 : (nextR s c upto).2.2.1 = true
    · rw [if_pos h1]
      obtain ⟨k1, k2, k3, k4, k5, k6, k7⟩ := next_ok hr hc h1
      split
      · rename_i h2
        obtain ⟨t, sh, e, e1, e2, e3⟩ := raw_ok ho k3 h2
        have hp := (frameE_ok k3).2.2.1
        have hrec := send_ok' s upto hr n (nextR s c upto).1 (rawS o (nextR s c upto).2.1 ((nextR s c upto).2.2.2 || decide (c.frame = 0))).1 (l ++ (rawS o (nextR s c upto).2.1 ((nextR s c upto).2.2.2 || decide (c.frame = 0))).2.1) k2 (by rw [e]; exact e1)
        refine ⟨hrec.1, hrec.2.1, Nat.le_trans hrec.2.2 ?_⟩
        rw [e]
        simp only [List.length_append, pksTo_len]
        omega
      · exact ⟨hc, ho, by simp⟩
    · rw [if_neg h1]; exact ⟨hc, ho, by simp⟩
theorem live_right {s : Sto} (hr : RightS s) (h : (liveS s).2 = 0) : cuE (liveS s).1 = 0 := by
  obtain ⟨_, h2, h3⟩ := live_ok h
  have := hr.all.1
  have := hr.1
  rw [h3]
  unfold cuE
  rw [if_neg (by simp), if_neg (by simp only; omega)]
theorem atUp_in {l : List (List Fr)} {t : Int} (h : 0 < l.length) : atUp l t l.length < l.length := by
  have : ∀ n, 0 < n → n ≤ l.length → atUp l t n < n := by
    intro n
    induction n with
    | zero => intro h; omega
    | succ n ih =>
      intro _ hn
      unfold atUp
      split
      · omega
      · by_cases h0 : 0 < n
        · have := ih h0 (by omega); omega
        · have : n = 0 := by omega
          subst this; simp [atUp]
  exact this _ h (Nat.le_refl _)
theorem seek_right {s : Sto} {t : Int} (hr : RightS s) (h : (seekC s t).2 = 0) : cuE (seekC s t).1 = 0 := by
  have ha := hr.all.1
  have hf := hr.1
  unfold seekC at h ⊢
  by_cases c : (seekS s t).2 = 0
  · rw [if_pos c]
    have : 0 ≤ (seekS s t).1 ∧ (seekS s t).1 ≤ 100006 := by
      unfold seekS
      split
      · simp only [seekR]
        split
        · rename_i h0; have := atUp_in (t := t) h0; simp only; omega
        · simp
      · simp
    unfold cuE
    rw [if_neg (by simp), if_neg (by simp only; omega)]
  · rw [if_neg c] at h; exact absurd h c
theorem pause_right {c : Cu} (h : (pauseC c).2 = 0) : cuE (pauseC c).1 = 0 := by
  unfold pauseC at h ⊢
  by_cases h1 : cuE c = 0
  · rw [if_pos h1]
    have := cuE_ok h1
    unfold cuOK at this
    unfold cuE
    rw [if_neg (by simp), if_neg (by simp only; omega)]
  · rw [if_neg h1] at h; exact absurd h h1
theorem doA_ok {d : Ds} {a : Ac} (ht : RightT d.t) (hv : OkV d.v) (h : (doA d a).2 = 0) : RightT (doA d a).1.t ∧ OkV (doA d a).1.v ∧ (doA d a).1.l.length ≤ d.l.length + 404 := by
  have hset : ∀ r : Cu × Int, (r.2 = 0 → cuE r.1 = 0) → RightT (setA d r).1.t ∧ OkV (setA d r).1.v ∧ (setA d r).1.l.length ≤ d.l.length + 404 := fun r hr => by
    unfold setA
    simp only
    split
    · rename_i h; exact ⟨ht, ⟨.inr (hr h), hv.ou⟩, by simp⟩
    · exact ⟨ht, hv, by simp⟩
  unfold doA at h ⊢
  split
  · rename_i c; rw [if_pos c] at h; exact ⟨(feedR_right ht h).1, hv, by simp⟩
  rename_i c1; rw [if_neg c1] at h
  split
  · exact hset _ (live_right ht.st)
  rename_i c2; rw [if_neg c2] at h
  split
  · rename_i c3; rw [if_pos c3] at h
    split
    · rename_i c; rw [if_pos c] at h; cases h
    · exact hset _ pause_right
  rename_i c3; rw [if_neg c3] at h
  split
  · exact hset _ (seek_right ht.st)
  rename_i c4; rw [if_neg c4] at h
  unfold sendA at h ⊢
  split
  · rename_i c; rw [if_pos c] at h; cases h
  rename_i c5; rw [if_neg c5] at h
  split
  · rename_i c; rw [if_pos c] at h; cases h
  · have hcu : cuE d.v.cu = 0 := by rcases hv.cu with h1 | h1; exact absurd h1 c5; exact h1
    obtain ⟨k1, k2, k3⟩ := send_ok' d.t.st a.n ht.st 101 d.v.cu d.v.ou d.l hcu hv.ou
    exact ⟨ht, ⟨.inr k1, k2⟩, by simpa using k3⟩
theorem actR_no {t : Tk} {v : Vw} {a : Ac} (h : ¬ (actR t v a).2 = 0) : actR t v a = (ds0, (actR t v a).2) := by
  unfold actR at h ⊢
  by_cases c : formE a = 0
  · rw [if_pos c] at h ⊢
    by_cases c2 : (doA ⟨v, t, []⟩ a).2 = 0
    · rw [if_pos c2] at h; exact absurd c2 h
    · rw [if_neg c2]
  · rw [if_neg c]
theorem actR_ok {t : Tk} {v : Vw} {a : Ac} (ht : RightT t) (hv : OkV v) (h : (actR t v a).2 = 0) : formE a = 0 ∧ actR t v a = doA ⟨v, t, []⟩ a ∧ RightT (actR t v a).1.t ∧ OkV (actR t v a).1.v ∧ (actR t v a).1.l.length ≤ 404 := by
  unfold actR at h ⊢
  by_cases c : formE a = 0
  · rw [if_pos c] at h ⊢
    by_cases c2 : (doA ⟨v, t, []⟩ a).2 = 0
    · rw [if_pos c2]
      obtain ⟨h1, h2, h3⟩ := doA_ok (d := ⟨v, t, []⟩) ht hv c2
      exact ⟨c, rfl, h1, h2, by simpa using h3⟩
    · rw [if_neg c2] at h; exact absurd h c2
  · rw [if_neg c] at h; exact absurd h c
theorem actR_len {t : Tk} {v : Vw} (a : Ac) (ht : RightT t) (hv : OkV v) : (actR t v a).1.l.length ≤ 404 := by
  by_cases h : (actR t v a).2 = 0
  · exact (actR_ok ht hv h).2.2.2.2
  · rw [actR_no h]; simp [ds0]
def runL : List Ac → Ds → List Int → Ds × List Int
  | [], d, es => (d, es)
  | a :: l, d, es => if (actR d.t d.v a).2 = 0 then runL l ⟨(actR d.t d.v a).1.v, (actR d.t d.v a).1.t, d.l ++ (actR d.t d.v a).1.l⟩ (es ++ [(actR d.t d.v a).2]) else runL l d (es ++ [(actR d.t d.v a).2])
theorem runL_at {l : List Ac} {i : Nat} {a : Ac} {d : Ds} {es : List Int} (h : l[i]? = some a) : runL (l.drop i) d es = if (actR d.t d.v a).2 = 0 then runL (l.drop (i + 1)) ⟨(actR d.t d.v a).1.v, (actR d.t d.v a).1.t, d.l ++ (actR d.t d.v a).1.l⟩ (es ++ [(actR d.t d.v a).2]) else runL (l.drop (i + 1)) d (es ++ [(actR d.t d.v a).2]) := by rw [drop_at h]; rfl
def runS (l : List Ac) : (Ds × List Int) × Int := if 60 < l.length then ((ds0, []), 2) else (runL l ds0 [], 0)
abbrev rowA (l : List Ac) : List (List AV) := l.map acC
abbrev acts (l : List Ac) : AV := .sl 3 (rowA l)
abbrev rowE (l : List Int) : List (List AV) := l.map fun n => [I n]
abbrev errs (l : List Int) : AV := .sl 1 (rowE l)
theorem vw0_ok : OkV vw0 := ⟨.inl rfl, by unfold outOK vw0 ou0; simp⟩
end Go.Proofs.YtokkencbpmjdaaaGreat

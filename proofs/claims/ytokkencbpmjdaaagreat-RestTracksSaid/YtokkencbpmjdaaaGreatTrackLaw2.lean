/- Tracks: what a packet brings about; plain facts. No condition. -/
import Derived.Test.YtokkencbpmjdaaaGreatTrackLaw
namespace Go.Proofs.YtokkencbpmjdaaaGreat
open Go Go.Sy
set_option linter.unusedSimpArgs false
set_option linter.unusedVariables false
def numS (t : Tk) (p : Pkt) : Int := if t.last = 0 then p.seq + 65536 else (unwrapS t.last p.seq).1
def numE (t : Tk) (p : Pkt) : Int := if t.last = 0 then 0 else (unwrapS t.last p.seq).2
def putT (t : Tk) (n : Int) (p : Pkt) : Tk := ⟨if t.last < n then n else t.last, ⟨(rawB t.buf ⟨n, p⟩).1, (rawB t.buf ⟨n, p⟩).2.1⟩, t.op, t.st⟩
def feedP (t : Tk) (p : Pkt) : Tk × Int × Int := if numE t p = 0 then takenL (rawB t.buf ⟨numS t p, p⟩).2.2 (putT t (numS t p) p) 0 else (t, 0, numE t p)
def feedR (t : Tk) (s : ByteArray) : Tk × Int × Int := if (decS s).2 = 0 then doneT (feedP t (decS s).1) else (tk0, 0, (decS s).2)
def emptyT (t : Tk) : Tk := ⟨t.last, ⟨(relS 0 t.buf.next t.buf.held []).1, (relS 0 t.buf.next t.buf.held []).2.1⟩, t.op, t.st⟩
def drainR (t : Tk) : Tk × Int × Int := doneT (takenL (relS 0 t.buf.next t.buf.held []).2.2 (emptyT t) 0)
def feedS (t : Tk) (s : ByteArray) : Tk × Int × Int := if trackE t = 0 then feedR t s else (tk0, 0, trackE t)
def drainS (t : Tk) : Tk × Int × Int := if trackE t = 0 then drainR t else (tk0, 0, trackE t)
structure RightT (t : Tk) : Prop where
  last : t.last = 0 ∨ 65536 ≤ t.last ∧ t.last ≤ 1000000000
  buf : bufE t.buf = 0
  op : buildE t.op = 0
  st : RightS t.st
  zero : t.last = 0 ↔ t.buf.next = 0
theorem trackE_ok {t : Tk} (h : trackE t = 0) : RightT t := by
  unfold trackE at h
  by_cases h1 : t.last ≠ 0 ∧ rightB t.last = false
  · rw [if_pos h1] at h; cases h
  rw [if_neg h1] at h
  by_cases h2 : bufE t.buf = 0
  · rw [if_neg (by simp [h2])] at h
    by_cases h3 : buildE t.op = 0
    · rw [if_neg (by simp [h3])] at h
      by_cases h4 : storeE t.st = 0
      · rw [if_neg (by simp [h4])] at h
        by_cases h5 : (decide (t.last = 0) != decide (t.buf.next = 0)) = true
        · rw [if_pos h5] at h; cases h
        · refine ⟨?_, h2, h3, storeE_ok h4, ?_⟩
          · by_cases c : t.last = 0
            · exact .inl c
            · right
              have : rightB t.last = true := by
                cases q : rightB t.last with
                | true => rfl
                | false => exact absurd ⟨c, q⟩ h1
              exact rightB_iff.1 this
          · have h6 : decide (t.last = 0) = decide (t.buf.next = 0) := by simpa using h5
            exact decide_eq_decide.1 h6
      · rw [if_pos h4] at h; exact absurd h h4
    · rw [if_pos h3] at h; exact absurd h h3
  · rw [if_pos h2] at h; exact absurd h h2
theorem RightT.e {t : Tk} (h : RightT t) : trackE t = 0 := by
  obtain ⟨h1, h2, h3, h4, h5⟩ := h
  unfold trackE
  rw [if_neg, if_neg (by simp [h2]), if_neg (by simp [h3]), if_neg (by simp [right_storeE h4]), if_neg]
  · simp [h5]
  · rintro ⟨c1, c2⟩
    have : rightB t.last = true := rightB_iff.2 (by omega)
    rw [this] at c2; cases c2
theorem num_right {t : Tk} {p : Pkt} (h : RightT t) (hp : pktE p = 0) (he : numE t p = 0) : sltE ⟨numS t p, p⟩ = 0 := by
  have hq := pktE_ok4 hp
  have key : rightB (numS t p) = true ∧ numS t p % 65536 = p.seq := by
    unfold numS numE at *
    by_cases c : t.last = 0
    · rw [if_pos c]
      exact ⟨rightB_iff.2 (by omega), by omega⟩
    · rw [if_neg c] at he ⊢
      obtain ⟨a1, a2, a3, a4, a5, a6⟩ := unwrapS_ok he
      have hl := rightB_iff.1 a1
      rw [a4]
      exact ⟨rightB_iff.2 ⟨a5, a6⟩, (unwrapN_near (by omega) a2 a3).1⟩
  unfold sltE
  rw [if_neg (by simp [key.1]), if_neg (by simp [hp]), if_neg (by simp [key.2])]
structure OkTk (t : Tk) : Prop where
  op : buildE t.op = 0
  st : RightS t.st
theorem raw_two {s : Sto} {f : Fr} (h : ¬ (storeRaw s f).2.2 = 0) : (storeRaw s f).2.2 = 2 := by
  unfold storeRaw at h ⊢
  split
  · rfl
  · rename_i q; rw [if_neg q] at h; exact absurd rfl h
theorem taken_ok : ∀ (l : List Slt) (t : Tk) (k : Int), OkTk t → (∀ a ∈ l, sltE a = 0) → OkTk (takenL l t k).1 ∧ (takenL l t k).1.last = t.last ∧ (takenL l t k).1.buf = t.buf ∧ k ≤ (takenL l t k).2.1 ∧ (takenL l t k).2.1 ≤ k + l.length ∧ ((takenL l t k).2.2 = 0 ∨ (takenL l t k).2.2 = 2)
  | [], t, k, h, _ => by simp [takenL, h]
  | x :: l, t, k, h, hl => by
    have hx := hl x (by simp)
    have hl' : ∀ a ∈ l, sltE a = 0 := fun a ha => hl a (by simp [ha])
    have hb := add_build h.op hx
    unfold takenL
    by_cases c1 : (addS t.op x).2.2 = true
    · rw [if_pos c1]
      have hf := add_frame (buildE_ok h.op) hx c1
      by_cases c2 : (storeRaw t.st (addS t.op x).2.1).2.2 = 0
      · rw [if_pos c2]
        obtain ⟨k', hk'⟩ : ∃ k', k' = if (storeRaw t.st (addS t.op x).2.1).2.1 = true then k + 1 else k := ⟨_, rfl⟩
        rw [← hk']
        have hkk : k ≤ k' ∧ k' ≤ k + 1 := by rw [hk']; split <;> omega
        obtain ⟨h1, h2, h3, h4, h5, h6⟩ := taken_ok l ⟨t.last, t.buf, (addS t.op x).1, (storeRaw t.st (addS t.op x).2.1).1⟩ k' ⟨hb, raw_rightS h.st hf c2⟩ hl'
        have hlc : (x :: l).length = l.length + 1 := rfl
        refine ⟨h1, h2, h3, ?_, ?_, h6⟩
        · omega
        · rw [hlc]; omega
      · rw [if_neg c2]
        exact ⟨⟨hb, h.st⟩, rfl, rfl, Int.le_refl _, by simp; omega, .inr (raw_two c2)⟩
    · rw [if_neg c1]
      obtain ⟨h1, h2, h3, h4, h5, h6⟩ := taken_ok l ⟨t.last, t.buf, (addS t.op x).1, t.st⟩ k ⟨hb, h.st⟩ hl'
      exact ⟨h1, h2, h3, h4, by simp only [List.length_cons]; omega, h6⟩
theorem decS_right {s : ByteArray} (h : (decS s).2 = 0) : pktE (decS s).1 = 0 := by
  obtain ⟨h1, h2, _⟩ := dec_ok h
  rw [h1]; exact h2
theorem feedP_ok {t : Tk} {p : Pkt} (h : RightT t) (hp : pktE p = 0) (he : numE t p = 0) : OkTk (putT t (numS t p) p) ∧ (∀ a ∈ (rawB t.buf ⟨numS t p, p⟩).2.2, sltE a = 0) ∧ (rawB t.buf ⟨numS t p, p⟩).2.2.length ≤ 5 ∧ bufE (putT t (numS t p) p).buf = 0 := by
  have hx := num_right h hp he
  obtain ⟨h1, h2, h3, h4, h5, h6, h7, h8⟩ := rawB_spec h.buf hx
  refine ⟨⟨h.op, h.st⟩, fun a ha => ?_, h6, h1⟩
  rcases h5 a (by simp [ha]) with rfl | h9
  · exact hx
  · exact ((bufE_ok h.buf).2.2.1 a h9).1
theorem feedP_right {t : Tk} {p : Pkt} (h : RightT t) (hp : pktE p = 0) (h0 : (feedP t p).2.2 = 0) : RightT (feedP t p).1 ∧ numE t p = 0 ∧ (feedP t p).1.last = (if t.last < numS t p then numS t p else t.last) ∧ (feedP t p).1.buf = ⟨(rawB t.buf ⟨numS t p, p⟩).1, (rawB t.buf ⟨numS t p, p⟩).2.1⟩ := by
  unfold feedP at h0 ⊢
  by_cases he : numE t p = 0
  · rw [if_pos he] at h0 ⊢
    obtain ⟨h1, h2, h3, h4⟩ := feedP_ok h hp he
    have hx := num_right h hp he
    have hxn := (sltE_ok hx).1
    simp only at hxn
    obtain ⟨r1, r2, r3, r4, r5, r6, r7, r8⟩ := rawB_spec h.buf hx
    obtain ⟨k1, k2, k3, k4, k5, k6⟩ := taken_ok (rawB t.buf ⟨numS t p, p⟩).2.2 (putT t (numS t p) p) 0 h1 h2
    have hl := h.last
    have e : (putT t (numS t p) p).last = if t.last < numS t p then numS t p else t.last := rfl
    refine ⟨⟨?_, by rw [k3]; exact h4, k1.op, k1.st, ?_⟩, he, by rw [k2, e], by rw [k3]; rfl⟩
    · rw [k2, e]; split <;> omega
    · rw [k2, k3, e]
      have : (putT t (numS t p) p).buf.next = (rawB t.buf ⟨numS t p, p⟩).1 := rfl
      rw [this]
      split <;> omega
  · rw [if_neg he] at h0; exact absurd h0 he
theorem drain_ok {t : Tk} (h : RightT t) : OkTk (emptyT t) ∧ (∀ a ∈ (relS 0 t.buf.next t.buf.held []).2.2, sltE a = 0) ∧ (relS 0 t.buf.next t.buf.held []).2.2.length ≤ 5 ∧ bufE (emptyT t).buf = 0 ∧ (emptyT t).buf.held = [] ∧ (t.last = 0 ↔ (emptyT t).buf.next = 0) := by
  obtain ⟨p1, p2, p3, p4⟩ := bufE_ok h.buf
  obtain ⟨out, h1, h2, h3, h4, h5, h6, h7⟩ := relS_spec 0 t.buf.held t.buf.next [] p4 (fun a ha => by have := (p3 a ha).2; omega)
  have e : relS 0 t.buf.next t.buf.held [] = ((relS 0 t.buf.next t.buf.held []).1, (relS 0 t.buf.next t.buf.held []).2.1, out) := by rw [← List.nil_append out, ← h1]
  have h8 : (relS 0 t.buf.next t.buf.held []).2.1 = [] := List.length_eq_zero_iff.1 (by omega)
  have h9 : t.buf.held = out := by rw [h8, List.append_nil] at h2; exact h2
  rw [List.nil_append] at h1
  have hz := h.zero
  have hnx : t.buf.next = 0 ∧ t.buf.held = [] ∨ 65536 ≤ t.buf.next := by
    rcases p1 with c | c
    · exact .inl c
    · exact .inr c.1
  refine ⟨⟨h.op, h.st⟩, fun a ha => ?_, ?_, ?_, h8, ?_⟩
  · rw [h1, ← h9] at ha; exact (p3 a ha).1
  · rw [h1, ← h9]; omega
  · have hb : (emptyT t).buf = ⟨(relS 0 t.buf.next t.buf.held []).1, []⟩ := by unfold emptyT; rw [h8]
    rw [hb]
    rcases hnx with ⟨c1, c2⟩ | c
    · rw [c1, c2]; rfl
    · refine bufE_mk ⟨by omega, ?_⟩ (by simp) (by simp) List.Pairwise.nil
      rcases h7 with h7 | ⟨a, ha, h7⟩
      · omega
      · have := (sltE_ok (p3 a ha).1).1; omega
  · have : (emptyT t).buf.next = (relS 0 t.buf.next t.buf.held []).1 := rfl
    rw [this]
    rcases hnx with ⟨c1, c2⟩ | c
    · rw [c1, c2]; simp [relS, hz, c1]
    · constructor
      · intro hh; have := hz.1 hh; omega
      · intro hh; omega
theorem drainR_right {t : Tk} (h : RightT t) (h0 : (drainR t).2.2 = 0) : RightT (drainR t).1 ∧ (drainR t).1.buf.held = [] := by
  obtain ⟨h1, h2, h3, h4, h5, h6⟩ := drain_ok h
  obtain ⟨k1, k2, k3, k4, k5, k6⟩ := taken_ok _ (emptyT t) 0 h1 h2
  unfold drainR doneT at h0 ⊢
  by_cases c : (takenL (relS 0 t.buf.next t.buf.held []).2.2 (emptyT t) 0).2.2 = 0
  · rw [if_pos c]
    refine ⟨⟨?_, by rw [k3]; exact h4, k1.op, k1.st, ?_⟩, by rw [k3]; exact h5⟩
    · rw [k2]; exact h.last
    · rw [k2, k3]; exact h6
  · rw [if_neg c] at h0; exact absurd h0 c
theorem tk0_right : RightT tk0 := ⟨.inl rfl, rfl, rfl, storeE_ok (by rfl), Iff.rfl⟩
theorem feedR_right {t : Tk} {s : ByteArray} (h : RightT t) (h0 : (feedR t s).2.2 = 0) : RightT (feedR t s).1 ∧ (decS s).2 = 0 ∧ feedR t s = feedP t (decS s).1 := by
  unfold feedR at h0 ⊢
  by_cases c : (decS s).2 = 0
  · rw [if_pos c] at h0 ⊢
    unfold doneT at h0 ⊢
    by_cases c2 : (feedP t (decS s).1).2.2 = 0
    · rw [if_pos c2]; exact ⟨(feedP_right h (decS_right c) c2).1, c, rfl⟩
    · rw [if_neg c2] at h0; exact absurd h0 c2
  · rw [if_neg c] at h0; exact absurd h0 c
theorem feedR_no {t : Tk} {s : ByteArray} (h : ¬ (feedR t s).2.2 = 0) : feedR t s = (tk0, 0, (feedR t s).2.2) := by
  unfold feedR at h ⊢
  by_cases c : (decS s).2 = 0
  · rw [if_pos c] at h ⊢
    unfold doneT at h ⊢
    by_cases c2 : (feedP t (decS s).1).2.2 = 0
    · rw [if_pos c2] at h; exact absurd c2 h
    · rw [if_neg c2]
  · rw [if_neg c]
end Go.Proofs.YtokkencbpmjdaaaGreat

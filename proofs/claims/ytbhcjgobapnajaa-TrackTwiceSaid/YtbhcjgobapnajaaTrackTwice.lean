/- TrackTwice and TrackOrder, walked. No condition. -/
import Derived.Test.YtbhcjgobapnajaaTrackTells
namespace Go.Proofs.Ytbhcjgobapnajaa
open Go Go.Sy
set_option maxRecDepth 4000
set_option linter.unusedSimpArgs false
set_option linter.unusedVariables false
attribute [local irreducible] Reg RegD Later Out CallV Tri Side EqV
theorem feedS_of {t : Tk} {s : ByteArray} (h : RightT t) : feedS t s = feedR t s := if_pos h.e
theorem drainS_of {t : Tk} (h : RightT t) : drainS t = drainR t := if_pos h.e
theorem feedS_again {t : Tk} {s : ByteArray} (h : (feedS t s).2.2 = 0) : feedS (feedS t s).1 s = ((feedS t s).1, 0, 0) := by
  obtain ⟨h1, h2, h3⟩ := feedS_ok h
  rw [feedS_of h3]
  rw [h2] at h h3 ⊢
  obtain ⟨h4, h5, h6⟩ := feedR_right h1 h
  rw [h6] at h ⊢
  have := feedP_twice h1 (decS_right h5) h
  rw [feedR, if_pos h5, this]; rfl
set_option maxHeartbeats 4000000 in
theorem c_trackTwice (t : Tk) (s : ByteArray) (ht : FitsT t) (hs : s.size ≤ 1000000000000000) : PSpec Try.prog 8 [.agg (tkC t), Tx s] (B true) := by
  have q1 := c_trackFeed t s ht hs
  by_cases h : (feedS t s).2.2 = 0
  · obtain ⟨h1, h2, h3⟩ := feedS_ok h
    have ha := feedS_again h
    obtain ⟨a, hae⟩ : ∃ a, a = (feedS t s).1 := ⟨_, rfl⟩
    obtain ⟨n, hne⟩ : ∃ n, n = (feedS t s).2.1 := ⟨_, rfl⟩
    rw [show feedS t s = (a, n, 0) from Prod.ext hae.symm (Prod.ext hne.symm h)] at q1
    rw [← hae] at ha h3
    have hsm := h3.small
    have q2 := c_trackFeed a s hsm.fits hs
    rw [ha] at q2
    have q3 := c_trackDrain a hsm.fits
    rw [drainS_of h3] at q3
    have q4 := c_sameTrack a a hsm
    rw [show decide (a = a) = true by simp] at q4
    have q5 := c_trackCheck a hsm.fits
    rw [h3.e] at q5
    have hd2 := drain_e h3
    by_cases hd : (drainR a).2.2 = 0
    · obtain ⟨d1, d2⟩ := drainR_right h3 hd
      have q6 := c_trackCheck (drainR a).1 d1.small.fits
      rw [d1.e] at q6
      rw [show drainR a = ((drainR a).1, (drainR a).2.1, 0) from Prod.ext rfl (Prod.ext rfl hd)] at q3
      have e0 : (drainR a).1.buf.held.length = 0 := by rw [d2]; rfl
      refine v_pspec Try.func8 rfl Try.ntmps8 Try.results8 (by simp) (by first | exact .s _ | repeat constructor) ?_
      repeat' (first
 | (with_reducible first | refine go_later ?_ | (refine h0 _ _ ?_; clear h0 hw) | (refine hw _ _ _ ?_; clear h0 hw) | refine go_ret ?_ | refine go_skip ?_ | refine out_seq_ret ?_ | refine out_seq_normal ?_ | (refine hL _ ?_; clear hL))
 | (with_reducible first | refine w_reg (by decide +kernel) fun K1 hK => ?_ | refine w_reg_end (by decide +kernel) fun K1 hK => ?_)
 | with_reducible refine go_seq ?_
 | ((with_reducible first | apply v_op Try.tab | apply v_op0 Try.tab) <;> first | (intro K' h0 hw; conv => whnf) | (simp only [Nat.reduceAdd, Nat.reduceMul]; rfl))
 | ((with_reducible apply v_nil); (case hm => (simp only [Nat.reduceAdd, Nat.reduceMul]; rfl)); (case' h => with_reducible refine hK _ ?_; clear hK))
 | (first | refine v_grd_yes (by rfl) (by rfl) ?_)
 | ((first | (apply v_grd_no; (case hg => rfl); (case hb => rfl)) | (apply v_grd_undef; (case hg => rfl); (case hb => rfl)) | (apply v_grd; (case hg => rfl); (case hb => rfl))); (case hi => (simp only [Nat.reduceAdd, Nat.reduceMul]; rfl)))
 | ((with_reducible refine callV_id (f := 32) ?_); have hcs_ := q1; (with_reducible apply callV_f own32 (hcs_)); (case hx => rfl); (case he => rfl); (case hle => first | ((repeat constructor); done) | (simp; done)); (case hpu => repeat constructor); (case' hK => (try clear hcs_); conv => whnf))
 | ((with_reducible refine callV_id (f := 32) ?_); have hcs_ := q2; (with_reducible apply callV_f own32 (hcs_)); (case hx => rfl); (case he => rfl); (case hle => first | ((repeat constructor); done) | (simp; done)); (case hpu => repeat constructor); (case' hK => (try clear hcs_); conv => whnf))
 | ((with_reducible refine callV_id (f := 33) ?_); have hcs_ := q3; (with_reducible apply callV_f own33 (hcs_)); (case hx => rfl); (case he => rfl); (case hle => first | ((repeat constructor); done) | (simp; done)); (case hpu => repeat constructor); (case' hK => (try clear hcs_); conv => whnf))
 | ((with_reducible refine callV_id (f := 37) ?_); have hcs_ := c_trackBegun; (with_reducible apply callV_f own37 (hcs_)); (case hx => rfl); (case he => rfl); (case hle => first | ((repeat constructor); done) | (simp; done)); (case hpu => repeat constructor); (case' hK => (try clear hcs_); conv => whnf))
 | ((with_reducible refine callV_id (f := 40) ?_); have hcs_ := q4; (with_reducible apply callV_f own40 (hcs_)); (case hx => rfl); (case he => rfl); (case hle => first | ((repeat constructor); done) | (simp; done)); (case hpu => repeat constructor); (case' hK => (try clear hcs_); conv => whnf))
 | ((with_reducible refine callV_id (f := 38) ?_); have hcs_ := q5; (with_reducible apply callV_f own38 (hcs_)); (case hx => rfl); (case he => rfl); (case hle => first | ((repeat constructor); done) | (simp; done)); (case hpu => repeat constructor); (case' hK => (try clear hcs_); conv => whnf))
 | ((with_reducible refine callV_id (f := 38) ?_); have hcs_ := q6; (with_reducible apply callV_f own38 (hcs_)); (case hx => rfl); (case he => rfl); (case hle => first | ((repeat constructor); done) | (simp; done)); (case hpu => repeat constructor); (case' hK => (try clear hcs_); conv => whnf))
 | ((with_reducible apply go_cond); (case hb => rfl))
 | ((with_reducible first | refine w_ret Try.tab fun K' hL => ?_ | refine w_ret_end Try.tab fun K' hL => ?_); (conv => whnf))
 | ((with_reducible apply And.intro); (case' right => try (conv => whnf)); (case' left => try first | rfl | decide | (simp; done) | (simp (disch := omega) only [wrp]; omega) | (simp (disch := omega) [wrp]; (try omega); done)))
 | ((with_reducible apply Side.mk); (try simp (disch := omega) only [wrp]); (try simp); (try simp (disch := omega) only [wrp]); (try omega))
 | (refine ⟨_, eqAT (by rfl) (by rfl) (by rfl) (by rfl), ?_⟩; conv => whnf)
 | (first  | intro g1; try simp at g1))
      all_goals first | exact .refl _ | (exfalso; simp_all; done)
    · have e2 : (drainR a).2.2 = 2 := by rcases hd2 with c | c <;> first | exact absurd c hd | exact c
      rw [show drainR a = ((drainR a).1, (drainR a).2.1, 2) from Prod.ext rfl (Prod.ext rfl e2)] at q3
      refine v_pspec Try.func8 rfl Try.ntmps8 Try.results8 (by simp) (by first | exact .s _ | repeat constructor) ?_
      repeat' (first
 | (with_reducible first | refine go_later ?_ | (refine h0 _ _ ?_; clear h0 hw) | (refine hw _ _ _ ?_; clear h0 hw) | refine go_ret ?_ | refine go_skip ?_ | refine out_seq_ret ?_ | refine out_seq_normal ?_ | (refine hL _ ?_; clear hL))
 | (with_reducible first | refine w_reg (by decide +kernel) fun K1 hK => ?_ | refine w_reg_end (by decide +kernel) fun K1 hK => ?_)
 | with_reducible refine go_seq ?_
 | ((with_reducible first | apply v_op Try.tab | apply v_op0 Try.tab) <;> first | (intro K' h0 hw; conv => whnf) | (simp only [Nat.reduceAdd, Nat.reduceMul]; rfl))
 | ((with_reducible apply v_nil); (case hm => (simp only [Nat.reduceAdd, Nat.reduceMul]; rfl)); (case' h => with_reducible refine hK _ ?_; clear hK))
 | (first | refine v_grd_yes (by rfl) (by rfl) ?_)
 | ((first | (apply v_grd_no; (case hg => rfl); (case hb => rfl)) | (apply v_grd_undef; (case hg => rfl); (case hb => rfl)) | (apply v_grd; (case hg => rfl); (case hb => rfl))); (case hi => (simp only [Nat.reduceAdd, Nat.reduceMul]; rfl)))
 | ((with_reducible refine callV_id (f := 32) ?_); have hcs_ := q1; (with_reducible apply callV_f own32 (hcs_)); (case hx => rfl); (case he => rfl); (case hle => first | ((repeat constructor); done) | (simp; done)); (case hpu => repeat constructor); (case' hK => (try clear hcs_); conv => whnf))
 | ((with_reducible refine callV_id (f := 32) ?_); have hcs_ := q2; (with_reducible apply callV_f own32 (hcs_)); (case hx => rfl); (case he => rfl); (case hle => first | ((repeat constructor); done) | (simp; done)); (case hpu => repeat constructor); (case' hK => (try clear hcs_); conv => whnf))
 | ((with_reducible refine callV_id (f := 33) ?_); have hcs_ := q3; (with_reducible apply callV_f own33 (hcs_)); (case hx => rfl); (case he => rfl); (case hle => first | ((repeat constructor); done) | (simp; done)); (case hpu => repeat constructor); (case' hK => (try clear hcs_); conv => whnf))
 | ((with_reducible refine callV_id (f := 37) ?_); have hcs_ := c_trackBegun; (with_reducible apply callV_f own37 (hcs_)); (case hx => rfl); (case he => rfl); (case hle => first | ((repeat constructor); done) | (simp; done)); (case hpu => repeat constructor); (case' hK => (try clear hcs_); conv => whnf))
 | ((with_reducible refine callV_id (f := 40) ?_); have hcs_ := q4; (with_reducible apply callV_f own40 (hcs_)); (case hx => rfl); (case he => rfl); (case hle => first | ((repeat constructor); done) | (simp; done)); (case hpu => repeat constructor); (case' hK => (try clear hcs_); conv => whnf))
 | ((with_reducible refine callV_id (f := 38) ?_); have hcs_ := q5; (with_reducible apply callV_f own38 (hcs_)); (case hx => rfl); (case he => rfl); (case hle => first | ((repeat constructor); done) | (simp; done)); (case hpu => repeat constructor); (case' hK => (try clear hcs_); conv => whnf))
 | ((with_reducible apply go_cond); (case hb => rfl))
 | ((with_reducible first | refine w_ret Try.tab fun K' hL => ?_ | refine w_ret_end Try.tab fun K' hL => ?_); (conv => whnf))
 | ((with_reducible apply And.intro); (case' right => try (conv => whnf)); (case' left => try first | rfl | decide | (simp; done) | (simp (disch := omega) only [wrp]; omega) | (simp (disch := omega) [wrp]; (try omega); done)))
 | ((with_reducible apply Side.mk); (try simp (disch := omega) only [wrp]); (try simp); (try simp (disch := omega) only [wrp]); (try omega))
 | (refine ⟨_, eqAT (by rfl) (by rfl) (by rfl) (by rfl), ?_⟩; conv => whnf)
 | (first  | intro g1; try simp at g1))
      all_goals exact .refl _
  · obtain ⟨e1, e2⟩ := feedS_no h
    rw [show feedS t s = (tk0, 0, (feedS t s).2.2) from Prod.ext e1 (Prod.ext e2 rfl)] at q1
    refine v_pspec Try.func8 rfl Try.ntmps8 Try.results8 (by simp) (by first | exact .s _ | repeat constructor) ?_
    repeat' (first
 | (with_reducible first | refine go_later ?_ | (refine h0 _ _ ?_; clear h0 hw) | (refine hw _ _ _ ?_; clear h0 hw) | refine go_ret ?_ | refine go_skip ?_ | refine out_seq_ret ?_ | refine out_seq_normal ?_ | (refine hL _ ?_; clear hL))
 | (with_reducible first | refine w_reg (by decide +kernel) fun K1 hK => ?_ | refine w_reg_end (by decide +kernel) fun K1 hK => ?_)
 | with_reducible refine go_seq ?_
 | ((with_reducible first | apply v_op Try.tab | apply v_op0 Try.tab) <;> first | (intro K' h0 hw; conv => whnf) | (simp only [Nat.reduceAdd, Nat.reduceMul]; rfl))
 | ((with_reducible apply v_nil); (case hm => (simp only [Nat.reduceAdd, Nat.reduceMul]; rfl)); (case' h => with_reducible refine hK _ ?_; clear hK))
 | (first | refine v_grd_yes (by rfl) (by rfl) ?_)
 | ((first | (apply v_grd_no; (case hg => rfl); (case hb => rfl)) | (apply v_grd_undef; (case hg => rfl); (case hb => rfl)) | (apply v_grd; (case hg => rfl); (case hb => rfl))); (case hi => (simp only [Nat.reduceAdd, Nat.reduceMul]; rfl)))
 | ((with_reducible refine callV_id (f := 32) ?_); have hcs_ := q1; (with_reducible apply callV_f own32 (hcs_)); (case hx => rfl); (case he => rfl); (case hle => first | ((repeat constructor); done) | (simp [tk0, st0]; done)); (case hpu => repeat constructor); (case' hK => (try clear hcs_); conv => whnf))
 | ((with_reducible refine callV_id (f := 37) ?_); have hcs_ := c_trackBegun; (with_reducible apply callV_f own37 (hcs_)); (case hx => rfl); (case he => rfl); (case hle => first | ((repeat constructor); done) | (simp [tk0, st0]; done)); (case hpu => repeat constructor); (case' hK => (try clear hcs_); conv => whnf))
 | ((with_reducible apply go_cond); (case hb => rfl))
 | ((with_reducible first | refine w_ret Try.tab fun K' hL => ?_ | refine w_ret_end Try.tab fun K' hL => ?_); (conv => whnf))
 | ((with_reducible apply And.intro); (case' right => try (conv => whnf)); (case' left => try first | rfl | decide | (simp [tk0, st0]; done) | (simp (disch := omega) only [wrp]; omega) | (simp (disch := omega) [tk0, st0, wrp]; (try omega); done)))
 | ((with_reducible apply Side.mk); (try simp (disch := omega) only [wrp]); (try simp); (try simp (disch := omega) only [wrp]); (try omega))
 | (refine ⟨_, eqAT (by rfl) (by rfl) (by rfl) (by rfl), ?_⟩; conv => whnf)
 | (first  | intro g1; try simp at g1))
    all_goals first | exact .refl _ | (exfalso; simp_all; done)
/-- What is told by neither the last number nor the buffer. -/
theorem taken_set : ∀ (l : List Slt) (t : Tk) (k : Int) (la : Int) (bu : Bf), takenL l ⟨la, bu, t.op, t.st⟩ k = (⟨la, bu, (takenL l t k).1.op, (takenL l t k).1.st⟩, (takenL l t k).2)
  | [], t, k, la, bu => rfl
  | x :: l, t, k, la, bu => by
    rw [takenL, takenL]
    simp only
    by_cases c1 : (addS t.op x).2.2 = true
    · rw [if_pos c1, if_pos c1]
      by_cases c2 : (storeRaw t.st (addS t.op x).2.1).2.2 = 0
      · rw [if_pos c2, if_pos c2]
        exact taken_set l ⟨t.last, t.buf, (addS t.op x).1, (storeRaw t.st (addS t.op x).2.1).1⟩ _ la bu
      · rw [if_neg c2, if_neg c2]
    · rw [if_neg c1, if_neg c1]
      exact taken_set l ⟨t.last, t.buf, (addS t.op x).1, t.st⟩ k la bu
abbrev withSeq (p : Pkt) (n : Int) : Pkt := ⟨n, p.time, p.first, p.fin, p.key, p.text⟩
structure Ord (t : Tk) (p q : Pkt) : Prop where
  right : RightT t
  last : t.last ≠ 0
  held : t.buf.held = []
  next : t.buf.next = t.last + 1
  most : t.last ≤ 999999998
  hp : pktE (withSeq p ((t.last + 1) % 65536)) = 0
  hq : pktE (withSeq q ((t.last + 2) % 65536)) = 0
section
variable {t : Tk} {p q : Pkt}
theorem feed_enc {t : Tk} {p : Pkt} (h : RightT t) (hp : pktE p = 0) : feedS t (encP p) = doneT (feedP t p) := by
  rw [feedS_of h, feedR, dec_enc hp, if_pos rfl]
theorem rel_one (n : Int) (x : Slt) (h : x.n = n) : relS 4 n [x] [] = (n + 1, [], [x]) := by rw [relS, if_pos h]; rfl
theorem num_at {t : Tk} {p : Pkt} {b : Int} (hl : 65536 ≤ t.last ∧ t.last ≤ 1000000000) (h2 : -32767 ≤ b) (h3 : b ≤ 32768) (h4 : 65536 ≤ t.last + b ∧ t.last + b ≤ 1000000000) (hs : p.seq = (t.last + b) % 65536) : numE t p = 0 ∧ numS t p = t.last + b := by
  have := unwrapS_round (n := t.last) (b := b) (rightB_iff.2 hl) h2 h3 (rightB_iff.2 h4)
  rw [← hs] at this
  unfold numE numS
  rw [if_neg (by omega), if_neg (by omega), this]; exact ⟨rfl, rfl⟩
abbrev xS (t : Tk) (p : Pkt) : Slt := ⟨t.last + 1, withSeq p ((t.last + 1) % 65536)⟩
abbrev yS (t : Tk) (q : Pkt) : Slt := ⟨t.last + 2, withSeq q ((t.last + 2) % 65536)⟩
theorem Ord.rng (h : Ord t p q) : 65536 ≤ t.last ∧ t.last ≤ 999999998 := by have := h.right.last; have := h.last; have := h.most; omega
theorem Ord.first (h : Ord t p q) : feedP t (withSeq p ((t.last + 1) % 65536)) = takenL [xS t p] ⟨t.last + 1, ⟨t.last + 2, []⟩, t.op, t.st⟩ 0 := by
  have hr := h.rng
  obtain ⟨e1, e2⟩ := num_at (t := t) (p := withSeq p ((t.last + 1) % 65536)) (b := 1) (by omega) (by omega) (by omega) (by omega) rfl
  have hb : rawB t.buf ⟨t.last + 1, withSeq p ((t.last + 1) % 65536)⟩ = (t.last + 2, [], [xS t p]) := by
    have hn : bnxS t.buf (xS t p) = t.last + 1 := by rw [bnxS, if_neg (by rw [h.next]; omega), h.next]
    rw [rawB, hn, if_pos ⟨Int.le_refl _, by rw [h.held]; rfl⟩, h.held, show insS [] (xS t p) = [xS t p] from rfl, rel_one (t.last + 1) (xS t p) rfl, show t.last + 1 + 1 = t.last + 2 by omega]
  rw [feedP, if_pos e1, e2, putT, hb, if_pos (by omega)]
theorem Ord.late (h : Ord t p q) : feedP t (withSeq q ((t.last + 2) % 65536)) = (⟨t.last + 2, ⟨t.last + 1, [yS t q]⟩, t.op, t.st⟩, 0, 0) := by
  have hr := h.rng
  obtain ⟨e1, e2⟩ := num_at (t := t) (p := withSeq q ((t.last + 2) % 65536)) (b := 2) (by omega) (by omega) (by omega) (by omega) rfl
  have hb : rawB t.buf ⟨t.last + 2, withSeq q ((t.last + 2) % 65536)⟩ = (t.last + 1, [yS t q], []) := by
    have hn : bnxS t.buf (yS t q) = t.last + 1 := by rw [bnxS, if_neg (by rw [h.next]; omega), h.next]
    rw [rawB, hn, if_pos ⟨by simp only; omega, by rw [h.held]; rfl⟩, h.held, show insS [] (yS t q) = [yS t q] from rfl, relS, if_neg (by simp only; omega), if_pos (by simp)]
  rw [feedP, if_pos e1, e2, putT, hb, if_pos (by omega)]; rfl
theorem Ord.second {a : Tk} (h : Ord t p q) (h1 : a.last = t.last + 1) (h2 : a.buf = ⟨t.last + 2, []⟩) : feedP a (withSeq q ((t.last + 2) % 65536)) = takenL [yS t q] ⟨t.last + 2, ⟨t.last + 3, []⟩, a.op, a.st⟩ 0 := by
  have hr := h.rng
  obtain ⟨e1, e2⟩ := num_at (t := a) (p := withSeq q ((t.last + 2) % 65536)) (b := 1) (by omega) (by omega) (by omega) (by omega) (by simp only; congr 1; omega)
  rw [h1, show t.last + 1 + 1 = t.last + 2 by omega] at e2
  have hb : rawB a.buf ⟨t.last + 2, withSeq q ((t.last + 2) % 65536)⟩ = (t.last + 3, [], [yS t q]) := by
    rw [h2]
    have hn : bnxS ⟨t.last + 2, []⟩ (yS t q) = t.last + 2 := by rw [bnxS, if_neg (by simp only; omega)]
    rw [rawB, hn, if_pos ⟨Int.le_refl _, rfl⟩, show insS [] (yS t q) = [yS t q] from rfl, rel_one (t.last + 2) (yS t q) rfl, show t.last + 2 + 1 = t.last + 3 by omega]
  rw [feedP, if_pos e1, e2, putT, hb, if_pos (by omega)]
theorem Ord.both (h : Ord t p q) : feedP ⟨t.last + 2, ⟨t.last + 1, [yS t q]⟩, t.op, t.st⟩ (withSeq p ((t.last + 1) % 65536)) = takenL [xS t p, yS t q] ⟨t.last + 2, ⟨t.last + 3, []⟩, t.op, t.st⟩ 0 := by
  have hr := h.rng
  obtain ⟨e1, e2⟩ := num_at (t := ⟨t.last + 2, ⟨t.last + 1, [yS t q]⟩, t.op, t.st⟩) (p := withSeq p ((t.last + 1) % 65536)) (b := -1) (by simp only; omega) (by omega) (by omega) (by simp only; omega) (by simp only; congr 1; omega)
  simp only at e2
  rw [show t.last + 2 + -1 = t.last + 1 by omega] at e2
  have hb : rawB ⟨t.last + 1, [yS t q]⟩ ⟨t.last + 1, withSeq p ((t.last + 1) % 65536)⟩ = (t.last + 3, [], [xS t p, yS t q]) := by
    have hn : bnxS ⟨t.last + 1, [yS t q]⟩ (xS t p) = t.last + 1 := by rw [bnxS, if_neg (by simp only; omega)]
    have hi : insS [yS t q] (xS t p) = [xS t p, yS t q] := by
      have : ¬ (t.last + 2 < t.last + 1) := by omega
      simp [insS, insL, posS_cons, this]
    rw [rawB, hn, if_pos ⟨Int.le_refl _, by simp [hasS]⟩, hi, relS, if_pos rfl, relS, if_pos (by simp only; omega), show t.last + 1 + 1 + 1 = t.last + 3 by omega]
    rfl
  rw [feedP, if_pos e1, e2, putT, hb, if_neg (by simp only; omega)]
/-- What two packets bring about, whichever comes first. -/
theorem Ord.all (h : Ord t p q) : ∃ (r1 r2 : Tk × Int × Int) (c : Tk), feedS t (encP (withSeq p ((t.last + 1) % 65536))) = doneT r1 ∧ feedS t (encP (withSeq q ((t.last + 2) % 65536))) = (c, 0, 0) ∧ (r1.2.2 = 0 ∨ r1.2.2 = 2) ∧
    (r1.2.2 = 0 → feedS r1.1 (encP (withSeq q ((t.last + 2) % 65536))) = doneT r2 ∧ (r2.2.2 = 0 ∨ r2.2.2 = 2) ∧ (r2.2.2 = 0 → feedS c (encP (withSeq p ((t.last + 1) % 65536))) = (r2.1, r2.2.1 + r1.2.1, 0) ∧ SmallT r2.1) ∧ (0 ≤ r1.2.1 ∧ r1.2.1 ≤ 1) ∧ 0 ≤ r2.2.1 ∧ r2.2.1 ≤ 1) ∧ SmallT c := by
  have hr := h.rng
  have hx : sltE (xS t p) = 0 := by
    unfold sltE
    rw [if_neg (by simp [rightB]; omega), if_neg (by simp [h.hp]), if_neg (by simp)]
  have hy : sltE (yS t q) = 0 := by
    unfold sltE
    rw [if_neg (by simp [rightB]; omega), if_neg (by simp [h.hq]), if_neg (by simp)]
  have h1 := h.first
  have h3 := h.late
  have h4 := h.both
  obtain ⟨k1, k2, k3, k4, k5, k6⟩ := taken_ok [xS t p] ⟨t.last + 1, ⟨t.last + 2, []⟩, t.op, t.st⟩ 0 ⟨h.right.op, h.right.st⟩ (by simpa using hx)
  obtain ⟨r1, e1⟩ : ∃ r, r = takenL [xS t p] ⟨t.last + 1, ⟨t.last + 2, []⟩, t.op, t.st⟩ 0 := ⟨_, rfl⟩
  rw [← e1] at h1 k1 k2 k3 k4 k5 k6
  have h2 := h.second (a := r1.1) k2 k3
  obtain ⟨j1, j2, j3, j4, j5, j6⟩ := taken_ok [yS t q] ⟨t.last + 2, ⟨t.last + 3, []⟩, r1.1.op, r1.1.st⟩ 0 ⟨k1.op, k1.st⟩ (by simpa using hy)
  obtain ⟨r2, e2⟩ : ∃ r, r = takenL [yS t q] ⟨t.last + 2, ⟨t.last + 3, []⟩, r1.1.op, r1.1.st⟩ 0 := ⟨_, rfl⟩
  rw [← e2] at h2 j1 j2 j3 j4 j5 j6
  have hc := (feedP_right h.right h.hq (by rw [h3])).1
  rw [h3] at hc
  simp at k5 j5
  refine ⟨r1, r2, ⟨t.last + 2, ⟨t.last + 1, [yS t q]⟩, t.op, t.st⟩, by rw [feed_enc h.right h.hp, h1], by rw [feed_enc h.right h.hq, h3]; rfl, k6, fun h0 => ?_, hc.small⟩
  have ha := (feedP_right h.right h.hp (by rw [h1]; exact h0)).1
  rw [h1] at ha
  refine ⟨by rw [feed_enc ha h.hq, h2], j6, fun h5 => ?_, ⟨k4, k5⟩, j4, j5⟩
  have hb := (feedP_right ha h.hq (by rw [h2]; exact h5)).1
  rw [h2] at hb
  refine ⟨?_, hb.small⟩
  rw [feed_enc hc h.hp, h4]
  have s1 := taken_set [xS t p] ⟨t.last + 1, ⟨t.last + 2, []⟩, t.op, t.st⟩ 0 (t.last + 2) ⟨t.last + 3, []⟩
  rw [← e1] at s1
  simp only at s1
  have s2 := taken_shift [yS t q] ⟨t.last + 2, ⟨t.last + 3, []⟩, r1.1.op, r1.1.st⟩ 0 r1.2.1
  rw [← e2, Int.zero_add] at s2
  have s3 := taken_app [xS t p] [yS t q] ⟨t.last + 2, ⟨t.last + 3, []⟩, t.op, t.st⟩ 0
  rw [s1, if_pos h0, s2] at s3
  rw [show [xS t p, yS t q] = [xS t p] ++ [yS t q] from rfl, s3, doneT, if_pos h5, h5]
end
set_option maxHeartbeats 8000000 in
theorem c_trackOrder (t : Tk) (p q : Pkt) (ht : FitsT t) : PSpec Try.prog 9 [.agg (tkC t), .agg (pktC p), .agg (pktC q)] (B true) := by
  have q0 := c_trackCheck t ht
  by_cases hc : trackE t = 0 ∧ t.last ≠ 0 ∧ t.buf.held = [] ∧ t.buf.next = t.last + 1 ∧ t.last ≤ 999999998
  · obtain ⟨c1, c2, c3, c4, c5⟩ := hc
    have hr := trackE_ok c1
    have hl := hr.last
    have hhl : t.buf.held.length = 0 := by rw [c3]; rfl
    have e1 : (IntKind.i64.wrap (t.last + 1)).tmod 65536 = (t.last + 1) % 65536 := by rw [wrp (by omega) (by omega), Int.tmod_eq_emod_of_nonneg (by omega)]
    have e2 : (IntKind.i64.wrap (t.last + 2)).tmod 65536 = (t.last + 2) % 65536 := by rw [wrp (by omega) (by omega), Int.tmod_eq_emod_of_nonneg (by omega)]
    have q1 := c_checkPacket (withSeq p ((t.last + 1) % 65536))
    have q2 := c_checkPacket (withSeq q ((t.last + 2) % 65536))
    by_cases hp : pktE (withSeq p ((t.last + 1) % 65536)) = 0 ∧ pktE (withSeq q ((t.last + 2) % 65536)) = 0
    · have ho : Ord t p q := ⟨hr, c2, c3, c4, c5, hp.1, hp.2⟩
      obtain ⟨r1, r2, c, f1, f3, k1, f4, hcs⟩ := ho.all
      have b1 := c_bytesOf (withSeq p ((t.last + 1) % 65536)) hp.1
      have b2 := c_bytesOf (withSeq q ((t.last + 2) % 65536)) hp.2
      have s1 : (encP (withSeq p ((t.last + 1) % 65536))).size ≤ 1000000000000000 := by rw [encP_size]; have := (pktE_ok4 hp.1).2.2.1; simp only at this ⊢; omega
      have s2 : (encP (withSeq q ((t.last + 2) % 65536))).size ≤ 1000000000000000 := by rw [encP_size]; have := (pktE_ok4 hp.2).2.2.1; simp only at this ⊢; omega
      have w1 := c_trackFeed t _ ht s1
      have w3 := c_trackFeed t _ ht s2
      rw [f1] at w1
      rw [f3] at w3
      by_cases k0 : r1.2.2 = 0
      · obtain ⟨f2, k2, f5, k3, k4⟩ := f4 k0
        have e3 : doneT r1 = (r1.1, r1.2.1, 0) := by rw [doneT, if_pos k0]; exact Prod.ext rfl (Prod.ext rfl k0)
        rw [e3] at w1
        have hra : SmallT r1.1 := by have := feedS_small t (encP (withSeq p ((t.last + 1) % 65536))); rw [f1, e3] at this; exact this
        have w2 := c_trackFeed r1.1 _ hra.fits s2
        rw [f2] at w2
        by_cases k5 : r2.2.2 = 0
        · obtain ⟨f6, hsm⟩ := f5 k5
          have e4 : doneT r2 = (r2.1, r2.2.1, 0) := by rw [doneT, if_pos k5]; exact Prod.ext rfl (Prod.ext rfl k5)
          rw [e4] at w2
          have w4 := c_trackFeed c _ hcs.fits s1
          rw [f6] at w4
          have w5 := c_sameTrack r2.1 r2.1 hsm
          rw [show decide (r2.1 = r2.1) = true by simp] at w5
          have e5 : IntKind.i64.wrap (r1.2.1 + r2.2.1) = r2.2.1 + r1.2.1 := by rw [wrp (by omega) (by omega)]; omega
          refine v_pspec Try.func9 rfl Try.ntmps9 Try.results9 (by simp) (by first | exact .s _ | repeat constructor) ?_
          repeat' (first
 | (with_reducible first | refine go_later ?_ | (refine h0 _ _ ?_; clear h0 hw) | (refine hw _ _ _ ?_; clear h0 hw) | refine go_ret ?_ | refine go_skip ?_ | refine out_seq_ret ?_ | refine out_seq_normal ?_ | (refine hL _ ?_; clear hL))
 | (with_reducible first | refine w_reg (by decide +kernel) fun K1 hK => ?_ | refine w_reg_end (by decide +kernel) fun K1 hK => ?_)
 | ((with_reducible first | apply d_reg Try.mix (by decide +kernel) | apply d_reg_end Try.mix (by decide +kernel)); (case hm => simp only [List.length_cons, List.length_nil, Nat.reduceAdd, Nat.reduceMul]; rfl); (case' h => intro K1 hK))
 | with_reducible refine go_seq ?_
 | ((with_reducible first | apply v_op Try.tab | apply v_op0 Try.tab | apply d_op Try.tab | apply d_op0 Try.tab) <;> first | (intro K' h0 hw; conv => whnf) | (simp only [Nat.reduceAdd, Nat.reduceMul]; rfl))
 | ((with_reducible apply v_nil); (case hm => (simp only [Nat.reduceAdd, Nat.reduceMul]; rfl)); (case' h => with_reducible refine hK _ ?_; clear hK))
 | ((with_reducible apply d_nil); (refine hK _ _ _ _ (by first | decide +kernel | (simp only [List.map_cons, List.map_nil, List.nil_append, List.cons_append]; decide +kernel) | rfl) ?_; clear hK))
 | (first | refine d_grd_yes (by rfl) (by rfl) ?_ | refine v_grd_yes (by rfl) (by rfl) ?_)
 | ((first | (apply d_grd_no; (case hg => rfl); (case hb => rfl)) | (apply d_grd_undef; (case hg => rfl); (case hb => rfl)) | (apply d_grd; (case hg => rfl); (case hb => rfl)) | (apply v_grd_no; (case hg => rfl); (case hb => rfl)) | (apply v_grd_undef; (case hg => rfl); (case hb => rfl)) | (apply v_grd; (case hg => rfl); (case hb => rfl))); (case hi => (simp only [Nat.reduceAdd, Nat.reduceMul]; rfl)))
 | ((with_reducible refine callV_id (f := 37) ?_); have hcs_ := c_trackBegun; (with_reducible apply callV_f own37 (hcs_)); (case hx => rfl); (case he => rfl); (case hle => first | ((repeat constructor); done) | (simp [e1, e2]; done)); (case hpu => repeat constructor); (case' hK => (try clear hcs_); conv => whnf))
 | ((with_reducible refine callV_id (f := 38) ?_); have hcs_ := q0; (with_reducible apply callV_f own38 (hcs_)); (case hx => rfl); (case he => rfl); (case hle => first | ((repeat constructor); done) | (simp [e1, e2]; done)); (case hpu => repeat constructor); (case' hK => (try clear hcs_); conv => whnf))
 | ((with_reducible refine callV_id (f := 41) ?_); have hcs_ := q1; (with_reducible apply callV_f own41 (hcs_)); (case hx => rfl); (case he => rfl); (case hle => first | ((repeat constructor); done) | (simp [e1, e2]; done)); (case hpu => repeat constructor); (case' hK => (try clear hcs_); conv => whnf))
 | ((with_reducible refine callV_id (f := 41) ?_); have hcs_ := q2; (with_reducible apply callV_f own41 (hcs_)); (case hx => rfl); (case he => rfl); (case hle => first | ((repeat constructor); done) | (simp [e1, e2]; done)); (case hpu => repeat constructor); (case' hK => (try clear hcs_); conv => whnf))
 | ((with_reducible refine callV_id (f := 42) ?_); have hcs_ := b1; (with_reducible apply callV_f own42 (hcs_)); (case hx => rfl); (case he => rfl); (case hle => first | ((repeat constructor); done) | (simp [e1, e2]; done)); (case hpu => repeat constructor); (case' hK => (try clear hcs_); conv => whnf))
 | ((with_reducible refine callV_id (f := 42) ?_); have hcs_ := b2; (with_reducible apply callV_f own42 (hcs_)); (case hx => rfl); (case he => rfl); (case hle => first | ((repeat constructor); done) | (simp [e1, e2]; done)); (case hpu => repeat constructor); (case' hK => (try clear hcs_); conv => whnf))
 | ((with_reducible refine callV_id (f := 32) ?_); have hcs_ := w1; (with_reducible apply callV_f own32 (hcs_)); (case hx => rfl); (case he => rfl); (case hle => first | ((repeat constructor); done) | (simp [e1, e2]; done)); (case hpu => repeat constructor); (case' hK => (try clear hcs_); conv => whnf))
 | ((with_reducible refine callV_id (f := 32) ?_); have hcs_ := w2; (with_reducible apply callV_f own32 (hcs_)); (case hx => rfl); (case he => rfl); (case hle => first | ((repeat constructor); done) | (simp [e1, e2]; done)); (case hpu => repeat constructor); (case' hK => (try clear hcs_); conv => whnf))
 | ((with_reducible refine callV_id (f := 32) ?_); have hcs_ := w3; (with_reducible apply callV_f own32 (hcs_)); (case hx => rfl); (case he => rfl); (case hle => first | ((repeat constructor); done) | (simp [e1, e2]; done)); (case hpu => repeat constructor); (case' hK => (try clear hcs_); conv => whnf))
 | ((with_reducible refine callV_id (f := 32) ?_); have hcs_ := w4; (with_reducible apply callV_f own32 (hcs_)); (case hx => rfl); (case he => rfl); (case hle => first | ((repeat constructor); done) | (simp [e1, e2]; done)); (case hpu => repeat constructor); (case' hK => (try clear hcs_); conv => whnf))
 | ((with_reducible refine callV_id (f := 40) ?_); have hcs_ := w5; (with_reducible apply callV_f own40 (hcs_)); (case hx => rfl); (case he => rfl); (case hle => first | ((repeat constructor); done) | (simp [e1, e2]; done)); (case hpu => repeat constructor); (case' hK => (try clear hcs_); conv => whnf))
 | ((with_reducible apply go_cond); (case hb => rfl))
 | ((with_reducible first | refine w_ret Try.tab fun K' hL => ?_ | refine w_ret_end Try.tab fun K' hL => ?_); (conv => whnf))
 | ((with_reducible apply And.intro); (case' right => try (conv => whnf)); (case' left => try first | rfl | decide | (simp [e1, e2]; done) | (simp (disch := omega) only [wrp]; omega) | (simp (disch := omega) [e1, e2, wrp]; (try omega); done)))
 | ((with_reducible apply Side.mk); (try simp (disch := omega) only [wrp]); (try simp); (try simp (disch := omega) only [wrp]); (try omega))
 | (refine ⟨_, eqAT (by rfl) (by rfl) (by rfl) (by rfl), ?_⟩; conv => whnf)
 | (first | (guard_hyp g6; intro g7; try simp at g7) | (guard_hyp g5; intro g6; try simp at g6) | (guard_hyp g4; intro g5; try simp at g5) | (guard_hyp g3; intro g4; try simp at g4) | (guard_hyp g2; intro g3; try simp at g3) | (guard_hyp g1; intro g2; try simp at g2) | intro g1; try simp at g1))
          all_goals first | exact .refl _ | (refine le_of_eq (congrArg B ?_); simp [e5]; done) | (exfalso; simp_all; done)
        · have e4 : doneT r2 = (tk0, 0, 2) := by rw [doneT, if_neg k5]; rcases k2 with k | k <;> first | exact absurd k k5 | rw [k]
          rw [e4] at w2
          have w4 := c_trackFeed c _ hcs.fits s1
          refine v_pspec Try.func9 rfl Try.ntmps9 Try.results9 (by simp) (by first | exact .s _ | repeat constructor) ?_
          repeat' (first
 | (with_reducible first | refine go_later ?_ | (refine h0 _ _ ?_; clear h0 hw) | (refine hw _ _ _ ?_; clear h0 hw) | refine go_ret ?_ | refine go_skip ?_ | refine out_seq_ret ?_ | refine out_seq_normal ?_ | (refine hL _ ?_; clear hL))
 | (with_reducible first | refine w_reg (by decide +kernel) fun K1 hK => ?_ | refine w_reg_end (by decide +kernel) fun K1 hK => ?_)
 | ((with_reducible first | apply d_reg Try.mix (by decide +kernel) | apply d_reg_end Try.mix (by decide +kernel)); (case hm => simp only [List.length_cons, List.length_nil, Nat.reduceAdd, Nat.reduceMul]; rfl); (case' h => intro K1 hK))
 | with_reducible refine go_seq ?_
 | ((with_reducible first | apply v_op Try.tab | apply v_op0 Try.tab | apply d_op Try.tab | apply d_op0 Try.tab) <;> first | (intro K' h0 hw; conv => whnf) | (simp only [Nat.reduceAdd, Nat.reduceMul]; rfl))
 | ((with_reducible apply v_nil); (case hm => (simp only [Nat.reduceAdd, Nat.reduceMul]; rfl)); (case' h => with_reducible refine hK _ ?_; clear hK))
 | ((with_reducible apply d_nil); (refine hK _ _ _ _ (by first | decide +kernel | (simp only [List.map_cons, List.map_nil, List.nil_append, List.cons_append]; decide +kernel) | rfl) ?_; clear hK))
 | (first | refine d_grd_yes (by rfl) (by rfl) ?_ | refine v_grd_yes (by rfl) (by rfl) ?_)
 | ((first | (apply d_grd_no; (case hg => rfl); (case hb => rfl)) | (apply d_grd_undef; (case hg => rfl); (case hb => rfl)) | (apply d_grd; (case hg => rfl); (case hb => rfl)) | (apply v_grd_no; (case hg => rfl); (case hb => rfl)) | (apply v_grd_undef; (case hg => rfl); (case hb => rfl)) | (apply v_grd; (case hg => rfl); (case hb => rfl))); (case hi => (simp only [Nat.reduceAdd, Nat.reduceMul]; rfl)))
 | ((with_reducible refine callV_id (f := 37) ?_); have hcs_ := c_trackBegun; (with_reducible apply callV_f own37 (hcs_)); (case hx => rfl); (case he => rfl); (case hle => first | ((repeat constructor); done) | (simp [e1, e2]; done)); (case hpu => repeat constructor); (case' hK => (try clear hcs_); conv => whnf))
 | ((with_reducible refine callV_id (f := 38) ?_); have hcs_ := q0; (with_reducible apply callV_f own38 (hcs_)); (case hx => rfl); (case he => rfl); (case hle => first | ((repeat constructor); done) | (simp [e1, e2]; done)); (case hpu => repeat constructor); (case' hK => (try clear hcs_); conv => whnf))
 | ((with_reducible refine callV_id (f := 41) ?_); have hcs_ := q1; (with_reducible apply callV_f own41 (hcs_)); (case hx => rfl); (case he => rfl); (case hle => first | ((repeat constructor); done) | (simp [e1, e2]; done)); (case hpu => repeat constructor); (case' hK => (try clear hcs_); conv => whnf))
 | ((with_reducible refine callV_id (f := 41) ?_); have hcs_ := q2; (with_reducible apply callV_f own41 (hcs_)); (case hx => rfl); (case he => rfl); (case hle => first | ((repeat constructor); done) | (simp [e1, e2]; done)); (case hpu => repeat constructor); (case' hK => (try clear hcs_); conv => whnf))
 | ((with_reducible refine callV_id (f := 42) ?_); have hcs_ := b1; (with_reducible apply callV_f own42 (hcs_)); (case hx => rfl); (case he => rfl); (case hle => first | ((repeat constructor); done) | (simp [e1, e2]; done)); (case hpu => repeat constructor); (case' hK => (try clear hcs_); conv => whnf))
 | ((with_reducible refine callV_id (f := 42) ?_); have hcs_ := b2; (with_reducible apply callV_f own42 (hcs_)); (case hx => rfl); (case he => rfl); (case hle => first | ((repeat constructor); done) | (simp [e1, e2]; done)); (case hpu => repeat constructor); (case' hK => (try clear hcs_); conv => whnf))
 | ((with_reducible refine callV_id (f := 32) ?_); have hcs_ := w1; (with_reducible apply callV_f own32 (hcs_)); (case hx => rfl); (case he => rfl); (case hle => first | ((repeat constructor); done) | (simp [e1, e2]; done)); (case hpu => repeat constructor); (case' hK => (try clear hcs_); conv => whnf))
 | ((with_reducible refine callV_id (f := 32) ?_); have hcs_ := w2; (with_reducible apply callV_f own32 (hcs_)); (case hx => rfl); (case he => rfl); (case hle => first | ((repeat constructor); done) | (simp [e1, e2]; done)); (case hpu => repeat constructor); (case' hK => (try clear hcs_); conv => whnf))
 | ((with_reducible refine callV_id (f := 32) ?_); have hcs_ := w3; (with_reducible apply callV_f own32 (hcs_)); (case hx => rfl); (case he => rfl); (case hle => first | ((repeat constructor); done) | (simp [e1, e2]; done)); (case hpu => repeat constructor); (case' hK => (try clear hcs_); conv => whnf))
 | ((with_reducible refine callV_id (f := 32) ?_); have hcs_ := w4; (with_reducible apply callV_f own32 (hcs_)); (case hx => rfl); (case he => rfl); (case hle => first | ((repeat constructor); done) | (simp [e1, e2]; done)); (case hpu => repeat constructor); (case' hK => (try clear hcs_); conv => whnf))
 | ((with_reducible apply go_cond); (case hb => rfl))
 | ((with_reducible first | refine w_ret Try.tab fun K' hL => ?_ | refine w_ret_end Try.tab fun K' hL => ?_); (conv => whnf))
 | ((with_reducible apply And.intro); (case' right => try (conv => whnf)); (case' left => try first | rfl | decide | (simp [e1, e2]; done) | (simp (disch := omega) only [wrp]; omega) | (simp (disch := omega) [e1, e2, wrp]; (try omega); done)))
 | ((with_reducible apply Side.mk); (try simp (disch := omega) only [wrp]); (try simp); (try simp (disch := omega) only [wrp]); (try omega))
 | (refine ⟨_, eqAT (by rfl) (by rfl) (by rfl) (by rfl), ?_⟩; conv => whnf)
 | (first | (guard_hyp g6; intro g7; try simp at g7) | (guard_hyp g5; intro g6; try simp at g6) | (guard_hyp g4; intro g5; try simp at g5) | (guard_hyp g3; intro g4; try simp at g4) | (guard_hyp g2; intro g3; try simp at g3) | (guard_hyp g1; intro g2; try simp at g2) | intro g1; try simp at g1))
          all_goals exact .refl _
      · have e3 : doneT r1 = (tk0, 0, 2) := by rw [doneT, if_neg k0]; rcases k1 with k | k <;> first | exact absurd k k0 | rw [k]
        rw [e3] at w1
        have w2 := c_trackFeed tk0 _ tk0_small.fits s2
        have w4 := c_trackFeed c _ hcs.fits s1
        refine v_pspec Try.func9 rfl Try.ntmps9 Try.results9 (by simp) (by first | exact .s _ | repeat constructor) ?_
        repeat' (first
 | (with_reducible first | refine go_later ?_ | (refine h0 _ _ ?_; clear h0 hw) | (refine hw _ _ _ ?_; clear h0 hw) | refine go_ret ?_ | refine go_skip ?_ | refine out_seq_ret ?_ | refine out_seq_normal ?_ | (refine hL _ ?_; clear hL))
 | (with_reducible first | refine w_reg (by decide +kernel) fun K1 hK => ?_ | refine w_reg_end (by decide +kernel) fun K1 hK => ?_)
 | ((with_reducible first | apply d_reg Try.mix (by decide +kernel) | apply d_reg_end Try.mix (by decide +kernel)); (case hm => simp only [List.length_cons, List.length_nil, Nat.reduceAdd, Nat.reduceMul]; rfl); (case' h => intro K1 hK))
 | with_reducible refine go_seq ?_
 | ((with_reducible first | apply v_op Try.tab | apply v_op0 Try.tab | apply d_op Try.tab | apply d_op0 Try.tab) <;> first | (intro K' h0 hw; conv => whnf) | (simp only [Nat.reduceAdd, Nat.reduceMul]; rfl))
 | ((with_reducible apply v_nil); (case hm => (simp only [Nat.reduceAdd, Nat.reduceMul]; rfl)); (case' h => with_reducible refine hK _ ?_; clear hK))
 | ((with_reducible apply d_nil); (refine hK _ _ _ _ (by first | decide +kernel | (simp only [List.map_cons, List.map_nil, List.nil_append, List.cons_append]; decide +kernel) | rfl) ?_; clear hK))
 | (first | refine d_grd_yes (by rfl) (by rfl) ?_ | refine v_grd_yes (by rfl) (by rfl) ?_)
 | ((first | (apply d_grd_no; (case hg => rfl); (case hb => rfl)) | (apply d_grd_undef; (case hg => rfl); (case hb => rfl)) | (apply d_grd; (case hg => rfl); (case hb => rfl)) | (apply v_grd_no; (case hg => rfl); (case hb => rfl)) | (apply v_grd_undef; (case hg => rfl); (case hb => rfl)) | (apply v_grd; (case hg => rfl); (case hb => rfl))); (case hi => (simp only [Nat.reduceAdd, Nat.reduceMul]; rfl)))
 | ((with_reducible refine callV_id (f := 37) ?_); have hcs_ := c_trackBegun; (with_reducible apply callV_f own37 (hcs_)); (case hx => rfl); (case he => rfl); (case hle => first | ((repeat constructor); done) | (simp [e1, e2]; done)); (case hpu => repeat constructor); (case' hK => (try clear hcs_); conv => whnf))
 | ((with_reducible refine callV_id (f := 38) ?_); have hcs_ := q0; (with_reducible apply callV_f own38 (hcs_)); (case hx => rfl); (case he => rfl); (case hle => first | ((repeat constructor); done) | (simp [e1, e2]; done)); (case hpu => repeat constructor); (case' hK => (try clear hcs_); conv => whnf))
 | ((with_reducible refine callV_id (f := 41) ?_); have hcs_ := q1; (with_reducible apply callV_f own41 (hcs_)); (case hx => rfl); (case he => rfl); (case hle => first | ((repeat constructor); done) | (simp [e1, e2]; done)); (case hpu => repeat constructor); (case' hK => (try clear hcs_); conv => whnf))
 | ((with_reducible refine callV_id (f := 41) ?_); have hcs_ := q2; (with_reducible apply callV_f own41 (hcs_)); (case hx => rfl); (case he => rfl); (case hle => first | ((repeat constructor); done) | (simp [e1, e2]; done)); (case hpu => repeat constructor); (case' hK => (try clear hcs_); conv => whnf))
 | ((with_reducible refine callV_id (f := 42) ?_); have hcs_ := b1; (with_reducible apply callV_f own42 (hcs_)); (case hx => rfl); (case he => rfl); (case hle => first | ((repeat constructor); done) | (simp [e1, e2]; done)); (case hpu => repeat constructor); (case' hK => (try clear hcs_); conv => whnf))
 | ((with_reducible refine callV_id (f := 42) ?_); have hcs_ := b2; (with_reducible apply callV_f own42 (hcs_)); (case hx => rfl); (case he => rfl); (case hle => first | ((repeat constructor); done) | (simp [e1, e2]; done)); (case hpu => repeat constructor); (case' hK => (try clear hcs_); conv => whnf))
 | ((with_reducible refine callV_id (f := 32) ?_); have hcs_ := w1; (with_reducible apply callV_f own32 (hcs_)); (case hx => rfl); (case he => rfl); (case hle => first | ((repeat constructor); done) | (simp [e1, e2]; done)); (case hpu => repeat constructor); (case' hK => (try clear hcs_); conv => whnf))
 | ((with_reducible refine callV_id (f := 32) ?_); have hcs_ := w2; (with_reducible apply callV_f own32 (hcs_)); (case hx => rfl); (case he => rfl); (case hle => first | ((repeat constructor); done) | (simp [e1, e2]; done)); (case hpu => repeat constructor); (case' hK => (try clear hcs_); conv => whnf))
 | ((with_reducible refine callV_id (f := 32) ?_); have hcs_ := w3; (with_reducible apply callV_f own32 (hcs_)); (case hx => rfl); (case he => rfl); (case hle => first | ((repeat constructor); done) | (simp [e1, e2]; done)); (case hpu => repeat constructor); (case' hK => (try clear hcs_); conv => whnf))
 | ((with_reducible refine callV_id (f := 32) ?_); have hcs_ := w4; (with_reducible apply callV_f own32 (hcs_)); (case hx => rfl); (case he => rfl); (case hle => first | ((repeat constructor); done) | (simp [e1, e2]; done)); (case hpu => repeat constructor); (case' hK => (try clear hcs_); conv => whnf))
 | ((with_reducible apply go_cond); (case hb => rfl))
 | ((with_reducible first | refine w_ret Try.tab fun K' hL => ?_ | refine w_ret_end Try.tab fun K' hL => ?_); (conv => whnf))
 | ((with_reducible apply And.intro); (case' right => try (conv => whnf)); (case' left => try first | rfl | decide | (simp [e1, e2]; done) | (simp (disch := omega) only [wrp]; omega) | (simp (disch := omega) [e1, e2, wrp]; (try omega); done)))
 | ((with_reducible apply Side.mk); (try simp (disch := omega) only [wrp]); (try simp); (try simp (disch := omega) only [wrp]); (try omega))
 | (refine ⟨_, eqAT (by rfl) (by rfl) (by rfl) (by rfl), ?_⟩; conv => whnf)
 | (first | (guard_hyp g6; intro g7; try simp at g7) | (guard_hyp g5; intro g6; try simp at g6) | (guard_hyp g4; intro g5; try simp at g5) | (guard_hyp g3; intro g4; try simp at g4) | (guard_hyp g2; intro g3; try simp at g3) | (guard_hyp g1; intro g2; try simp at g2) | intro g1; try simp at g1))
        all_goals exact .refl _
    · refine v_pspec Try.func9 rfl Try.ntmps9 Try.results9 (by simp) (by first | exact .s _ | repeat constructor) ?_
      repeat' (first
 | ((with_reducible refine halt_in (code := .seq (.region 8 _ _) _) ?_); exfalso; exact hp ⟨by assumption, by assumption⟩)
 | (with_reducible first | refine go_later ?_ | (refine h0 _ _ ?_; clear h0 hw) | (refine hw _ _ _ ?_; clear h0 hw) | refine go_ret ?_ | refine go_skip ?_ | refine out_seq_ret ?_ | refine out_seq_normal ?_ | (refine hL _ ?_; clear hL))
 | (with_reducible first | refine w_reg (by decide +kernel) fun K1 hK => ?_ | refine w_reg_end (by decide +kernel) fun K1 hK => ?_)
 | ((with_reducible first | apply d_reg Try.mix (by decide +kernel) | apply d_reg_end Try.mix (by decide +kernel)); (case hm => simp only [List.length_cons, List.length_nil, Nat.reduceAdd, Nat.reduceMul]; rfl); (case' h => intro K1 hK))
 | with_reducible refine go_seq ?_
 | ((with_reducible first | apply v_op Try.tab | apply v_op0 Try.tab | apply d_op Try.tab | apply d_op0 Try.tab) <;> first | (intro K' h0 hw; conv => whnf) | (simp only [Nat.reduceAdd, Nat.reduceMul]; rfl))
 | ((with_reducible apply v_nil); (case hm => (simp only [Nat.reduceAdd, Nat.reduceMul]; rfl)); (case' h => with_reducible refine hK _ ?_; clear hK))
 | ((with_reducible apply d_nil); (refine hK _ _ _ _ (by first | decide +kernel | (simp only [List.map_cons, List.map_nil, List.nil_append, List.cons_append]; decide +kernel) | rfl) ?_; clear hK))
 | (first | refine d_grd_yes (by rfl) (by rfl) ?_ | refine v_grd_yes (by rfl) (by rfl) ?_)
 | ((first | (apply d_grd_no; (case hg => rfl); (case hb => rfl)) | (apply d_grd_undef; (case hg => rfl); (case hb => rfl)) | (apply d_grd; (case hg => rfl); (case hb => rfl)) | (apply v_grd_no; (case hg => rfl); (case hb => rfl)) | (apply v_grd_undef; (case hg => rfl); (case hb => rfl)) | (apply v_grd; (case hg => rfl); (case hb => rfl))); (case hi => (simp only [Nat.reduceAdd, Nat.reduceMul]; rfl)))
 | ((with_reducible refine callV_id (f := 37) ?_); have hcs_ := c_trackBegun; (with_reducible apply callV_f own37 (hcs_)); (case hx => rfl); (case he => rfl); (case hle => first | ((repeat constructor); done) | (simp [e1, e2]; done)); (case hpu => repeat constructor); (case' hK => (try clear hcs_); conv => whnf))
 | ((with_reducible refine callV_id (f := 38) ?_); have hcs_ := q0; (with_reducible apply callV_f own38 (hcs_)); (case hx => rfl); (case he => rfl); (case hle => first | ((repeat constructor); done) | (simp [e1, e2]; done)); (case hpu => repeat constructor); (case' hK => (try clear hcs_); conv => whnf))
 | ((with_reducible refine callV_id (f := 41) ?_); have hcs_ := q1; (with_reducible apply callV_f own41 (hcs_)); (case hx => rfl); (case he => rfl); (case hle => first | ((repeat constructor); done) | (simp [e1, e2]; done)); (case hpu => repeat constructor); (case' hK => (try clear hcs_); conv => whnf))
 | ((with_reducible refine callV_id (f := 41) ?_); have hcs_ := q2; (with_reducible apply callV_f own41 (hcs_)); (case hx => rfl); (case he => rfl); (case hle => first | ((repeat constructor); done) | (simp [e1, e2]; done)); (case hpu => repeat constructor); (case' hK => (try clear hcs_); conv => whnf))
 | ((with_reducible apply go_cond); (case hb => rfl))
 | ((with_reducible first | refine w_ret Try.tab fun K' hL => ?_ | refine w_ret_end Try.tab fun K' hL => ?_); (conv => whnf))
 | ((with_reducible apply And.intro); (case' right => try (conv => whnf)); (case' left => try first | rfl | decide | (simp [e1, e2]; done) | (simp (disch := omega) only [wrp]; omega) | (simp (disch := omega) [e1, e2, wrp]; (try omega); done)))
 | ((with_reducible apply Side.mk); (try simp (disch := omega) only [wrp]); (try simp); (try simp (disch := omega) only [wrp]); (try omega))
 | (refine ⟨_, eqAT (by rfl) (by rfl) (by rfl) (by rfl), ?_⟩; conv => whnf)
 | (first | (guard_hyp g6; intro g7; try simp at g7) | (guard_hyp g5; intro g6; try simp at g6) | (guard_hyp g4; intro g5; try simp at g5) | (guard_hyp g3; intro g4; try simp at g4) | (guard_hyp g2; intro g3; try simp at g3) | (guard_hyp g1; intro g2; try simp at g2) | intro g1; try simp at g1))
      all_goals exact .refl _
  · refine v_pspec Try.func9 rfl Try.ntmps9 Try.results9 (by simp) (by first | exact .s _ | repeat constructor) ?_
    repeat' (first
 | (with_reducible refine halt_in (code := .seq (.region 5 _ _) _) ?_)
 | (with_reducible first | refine go_later ?_ | (refine h0 _ _ ?_; clear h0 hw) | (refine hw _ _ _ ?_; clear h0 hw) | refine go_ret ?_ | refine go_skip ?_ | refine out_seq_ret ?_ | refine out_seq_normal ?_ | (refine hL _ ?_; clear hL))
 | (with_reducible first | refine w_reg (by decide +kernel) fun K1 hK => ?_ | refine w_reg_end (by decide +kernel) fun K1 hK => ?_)
 | ((with_reducible first | apply d_reg Try.mix (by decide +kernel) | apply d_reg_end Try.mix (by decide +kernel)); (case hm => simp only [List.length_cons, List.length_nil, Nat.reduceAdd, Nat.reduceMul]; rfl); (case' h => intro K1 hK))
 | with_reducible refine go_seq ?_
 | ((with_reducible first | apply v_op Try.tab | apply v_op0 Try.tab | apply d_op Try.tab | apply d_op0 Try.tab) <;> first | (intro K' h0 hw; conv => whnf) | (simp only [Nat.reduceAdd, Nat.reduceMul]; rfl))
 | ((with_reducible apply v_nil); (case hm => (simp only [Nat.reduceAdd, Nat.reduceMul]; rfl)); (case' h => with_reducible refine hK _ ?_; clear hK))
 | ((with_reducible apply d_nil); (refine hK _ _ _ _ (by first | decide +kernel | (simp only [List.map_cons, List.map_nil, List.nil_append, List.cons_append]; decide +kernel) | rfl) ?_; clear hK))
 | (first | refine d_grd_yes (by rfl) (by rfl) ?_ | refine v_grd_yes (by rfl) (by rfl) ?_)
 | ((first | (apply d_grd_no; (case hg => rfl); (case hb => rfl)) | (apply d_grd_undef; (case hg => rfl); (case hb => rfl)) | (apply d_grd; (case hg => rfl); (case hb => rfl)) | (apply v_grd_no; (case hg => rfl); (case hb => rfl)) | (apply v_grd_undef; (case hg => rfl); (case hb => rfl)) | (apply v_grd; (case hg => rfl); (case hb => rfl))); (case hi => (simp only [Nat.reduceAdd, Nat.reduceMul]; rfl)))
 | ((with_reducible refine callV_id (f := 37) ?_); have hcs_ := c_trackBegun; (with_reducible apply callV_f own37 (hcs_)); (case hx => rfl); (case he => rfl); (case hle => first | ((repeat constructor); done) | (simp; done)); (case hpu => repeat constructor); (case' hK => (try clear hcs_); conv => whnf))
 | ((with_reducible refine callV_id (f := 38) ?_); have hcs_ := q0; (with_reducible apply callV_f own38 (hcs_)); (case hx => rfl); (case he => rfl); (case hle => first | ((repeat constructor); done) | (simp; done)); (case hpu => repeat constructor); (case' hK => (try clear hcs_); conv => whnf))
 | ((with_reducible apply go_cond); (case hb => rfl))
 | ((with_reducible first | refine w_ret Try.tab fun K' hL => ?_ | refine w_ret_end Try.tab fun K' hL => ?_); (conv => whnf))
 | ((with_reducible apply And.intro); (case' right => try (conv => whnf)); (case' left => try first | rfl | decide | (simp; done) | (simp (disch := omega) only [wrp]; omega) | (simp (disch := omega) [wrp]; (try omega); done)))
 | ((with_reducible apply Side.mk); (try simp (disch := omega) only [wrp]); (try simp); (try simp (disch := omega) only [wrp]); (try omega))
 | (refine ⟨_, eqAT (by rfl) (by rfl) (by rfl) (by rfl), ?_⟩; conv => whnf)
 | (first | (guard_hyp g6; intro g7; try simp at g7) | (guard_hyp g5; intro g6; try simp at g6) | (guard_hyp g4; intro g5; try simp at g5) | (guard_hyp g3; intro g4; try simp at g4) | (guard_hyp g2; intro g3; try simp at g3) | (guard_hyp g1; intro g2; try simp at g2) | intro g1; try simp at g1))
    all_goals first | exact .refl _ | (exfalso; refine hc ⟨g2, g3, g4, ?_, g6⟩; rw [g5, wrp (by have := (trackE_ok g2).last; omega) (by omega)])
theorem law_trackTwice (args : List AV) (h : ReadsArgs [shTk, .str] args) (_ : True) : PSpec Try.prog 8 args (B true) := by
  obtain ⟨_, _, rfl, h1, _, _, rfl, h2, rfl⟩ := h
  obtain ⟨t, rfl, ht⟩ := reads_tk h1
  obtain ⟨s, rfl, hs⟩ := reads_str h2
  exact c_trackTwice _ _ ht hs
abbrev shPk : Sh := .agg [.int .i64, .int .i64, .bool, .bool, .bool, .str]
theorem law_trackOrder (args : List AV) (h : ReadsArgs [shTk, shPk, shPk] args) (_ : True) : PSpec Try.prog 9 args (B true) := by
  obtain ⟨_, _, rfl, h1, _, _, rfl, h2, _, _, rfl, h3, rfl⟩ := h
  obtain ⟨t, rfl, ht⟩ := reads_tk h1
  obtain ⟨p, rfl, _⟩ := reads_pkt h2
  obtain ⟨q, rfl, _⟩ := reads_pkt h3
  exact c_trackOrder _ _ _ ht
end Go.Proofs.Ytbhcjgobapnajaa

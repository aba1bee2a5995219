/- TrackTells, walked. No condition. -/
import Derived.Test.YtbhcjgobapnajaaTrack3
namespace Go.Proofs.Ytbhcjgobapnajaa
open Go Go.Sy
set_option maxRecDepth 4000
set_option linter.unusedSimpArgs false
set_option linter.unusedVariables false
attribute [local irreducible] Reg RegD Later Out CallV Tri Side EqV
theorem Bf.ext' {p q : Bf} (h1 : p.next = q.next) (h2 : p.held = q.held) : p = q := by cases p; cases q; simp_all
theorem Tk.ext' {p q : Tk} (h1 : p.last = q.last) (h2 : p.buf.next = q.buf.next ∧ p.buf.held = q.buf.held) (h3 : p.op = q.op) (h4 : p.st = q.st) : p = q := by
  have := Bf.ext' h2.1 h2.2
  cases p; cases q; simp_all
instance : DecidableEq Tk := fun p q => decidable_of_iff (p.last = q.last ∧ (p.buf.next = q.buf.next ∧ p.buf.held = q.buf.held) ∧ p.op = q.op ∧ p.st = q.st) ⟨fun ⟨h1, h2, h3, h4⟩ => Tk.ext' h1 h2 h3 h4, fun h => by subst h; simp⟩
def SmallT (t : Tk) : Prop := t.buf.held.length ≤ 1000000 ∧ t.op.length ≤ 1000000 ∧ Small t.st
theorem RightT.small {t : Tk} (h : RightT t) : SmallT t := by
  have h1 := buf_small h.buf
  have h2 := (buildE_ok h.op).1
  exact ⟨by omega, by omega, h.st.small⟩
theorem tk0_small : SmallT tk0 := tk0_right.small
set_option maxHeartbeats 1000000 in
theorem c_sameTrack (a b : Tk) (ha : SmallT a) : PSpec Try.prog 40 [.agg (tkC a), .agg (tkC b)] (B (decide (a = b))) := by
  refine v_pspec Try.func40 rfl Try.ntmps40 Try.results40 (by simp) (by first | exact .s _ | repeat constructor) ?_
  repeat' (first
 | (with_reducible first | refine go_later ?_ | (refine h0 _ _ ?_; clear h0 hw) | (refine hw _ _ _ ?_; clear h0 hw) | refine go_ret ?_ | refine go_skip ?_ | refine out_seq_ret ?_ | refine out_seq_normal ?_ | (refine hL _ ?_; clear hL))
 | (with_reducible first | refine w_reg (by decide +kernel) fun K1 hK => ?_ | refine w_reg_end (by decide +kernel) fun K1 hK => ?_)
 | with_reducible refine go_seq ?_
 | ((with_reducible first | apply v_op Try.tab | apply v_op0 Try.tab) <;> first | (intro K' h0 hw; conv => whnf) | (simp only [Nat.reduceAdd, Nat.reduceMul]; rfl))
 | ((with_reducible apply v_nil); (case hm => (simp only [Nat.reduceAdd, Nat.reduceMul]; rfl)); (case' h => with_reducible refine hK _ ?_; clear hK))
 | (first | refine v_grd_yes (by rfl) (by rfl) ?_)
 | ((first | (apply v_grd_no; (case hg => rfl); (case hb => rfl)) | (apply v_grd_undef; (case hg => rfl); (case hb => rfl)) | (apply v_grd; (case hg => rfl); (case hb => rfl))); (case hi => (simp only [Nat.reduceAdd, Nat.reduceMul]; rfl)))
 | ((with_reducible refine callV_id (f := 93) ?_); have hcs_ := c_sameBuffer a.buf b.buf (by have := ha.1; omega); (with_reducible apply callV_f own93 (hcs_)); (case hx => rfl); (case he => rfl); (case hle => first | ((repeat constructor); done) | (simp; done)); (case hpu => repeat constructor); (case' hK => (try clear hcs_); conv => whnf))
 | ((with_reducible refine callV_id (f := 94) ?_); have hcs_ := c_sameSlots a.op b.op (by have := ha.2.1; omega); (with_reducible apply callV_f own94 (hcs_)); (case hx => rfl); (case he => rfl); (case hle => first | ((repeat constructor); done) | (simp; done)); (case hpu => repeat constructor); (case' hK => (try clear hcs_); conv => whnf))
 | ((with_reducible refine callV_id (f := 28) ?_); have hcs_ := c_sameStore a.st b.st ha.2.2; (with_reducible apply callV_f own28 (hcs_)); (case hx => rfl); (case he => rfl); (case hle => first | ((repeat constructor); done) | (simp; done)); (case hpu => repeat constructor); (case' hK => (try clear hcs_); conv => whnf))
 | ((with_reducible first | refine w_ret Try.tab fun K' hL => ?_ | refine w_ret_end Try.tab fun K' hL => ?_); (conv => whnf))
 | ((with_reducible apply And.intro); (case' right => try (conv => whnf)); (case' left => try first | rfl | decide | (simp; done) | (simp (disch := omega) only [wrp]; omega) | (simp (disch := omega) [wrp]; (try omega); done)))
 | ((with_reducible apply Side.mk); (try simp (disch := omega) only [wrp]); (try simp); (try simp (disch := omega) only [wrp]); (try omega))
 | (refine ⟨_, eqAT (by rfl) (by rfl) (by rfl) (by rfl), ?_⟩; conv => whnf)
 | (first | (guard_hyp g3; intro g4; try simp at g4) | (guard_hyp g2; intro g3; try simp at g3) | (guard_hyp g1; intro g2; try simp at g2) | intro g1; try simp at g1))
  · refine le_of_eq (congrArg B ?_)
    rw [Bool.eq_iff_iff]; simp
    exact ⟨fun h => Tk.ext' g1 g2 g3 h, fun h => by rw [h]⟩
  all_goals
    refine le_of_eq (congrArg B ?_)
    simp; intro h; subst h; simp_all
set_option maxHeartbeats 1000000 in
theorem c_trackIs (r : Tk × Int × Int) (h : ¬ r.2.2 = 0 → r.1 = tk0 ∧ r.2.1 = 0) (hs : SmallT r.1) : PSpec Try.prog 39 [.agg (tkC r.1), I r.2.1, I r.2.2, I r.2.2, .agg (tkC r.1), I r.2.1] (B true) := by
  have e1 := c_sameTrack r.1 r.1 hs
  rw [show decide (r.1 = r.1) = true by simp] at e1
  by_cases c : r.2.2 = 0
  · refine v_pspec Try.func39 rfl Try.ntmps39 Try.results39 (by simp) (by first | exact .s _ | repeat constructor) ?_
    repeat' (first
 | ((with_reducible refine halt_in (code := .seq (.region 2 _ _) _) ?_); exfalso; exact g1 c)
 | (with_reducible first | refine go_later ?_ | (refine h0 _ _ ?_; clear h0 hw) | (refine hw _ _ _ ?_; clear h0 hw) | refine go_ret ?_ | refine go_skip ?_ | refine out_seq_ret ?_ | refine out_seq_normal ?_ | (refine hL _ ?_; clear hL))
 | (with_reducible first | refine w_reg (by decide +kernel) fun K1 hK => ?_ | refine w_reg_end (by decide +kernel) fun K1 hK => ?_)
 | with_reducible refine go_seq ?_
 | ((with_reducible first | apply v_op Try.tab | apply v_op0 Try.tab) <;> first | (intro K' h0 hw; conv => whnf) | (simp only [Nat.reduceAdd, Nat.reduceMul]; rfl))
 | ((with_reducible apply v_nil); (case hm => (simp only [Nat.reduceAdd, Nat.reduceMul]; rfl)); (case' h => with_reducible refine hK _ ?_; clear hK))
 | (first | refine v_grd_yes (by rfl) (by rfl) ?_)
 | ((first | (apply v_grd_no; (case hg => rfl); (case hb => rfl)) | (apply v_grd_undef; (case hg => rfl); (case hb => rfl)) | (apply v_grd; (case hg => rfl); (case hb => rfl))); (case hi => (simp only [Nat.reduceAdd, Nat.reduceMul]; rfl)))
 | ((with_reducible refine callV_id (f := 40) ?_); have hcs_ := e1; (with_reducible apply callV_f own40 (hcs_)); (case hx => rfl); (case he => rfl); (case hle => first | ((repeat constructor); done) | (simp; done)); (case hpu => repeat constructor); (case' hK => (try clear hcs_); conv => whnf))
 | ((with_reducible apply go_cond); (case hb => rfl))
 | ((with_reducible first | refine w_ret Try.tab fun K' hL => ?_ | refine w_ret_end Try.tab fun K' hL => ?_); (conv => whnf))
 | ((with_reducible apply And.intro); (case' right => try (conv => whnf)); (case' left => try first | rfl | decide | (simp; done) | (simp (disch := omega) only [wrp]; omega) | (simp (disch := omega) [wrp]; (try omega); done)))
 | ((with_reducible apply Side.mk); (try simp (disch := omega) only [wrp]); (try simp); (try simp (disch := omega) only [wrp]); (try omega))
 | (refine ⟨_, eqAT (by rfl) (by rfl) (by rfl) (by rfl), ?_⟩; conv => whnf)
 | (first | (guard_hyp g1; intro g2; try simp at g2) | intro g1; try simp at g1))
    all_goals first | exact .refl _ | exact absurd c g1
  · obtain ⟨h1, h2⟩ := h c
    rw [h1] at e1
    rw [h1, h2]
    refine v_pspec Try.func39 rfl Try.ntmps39 Try.results39 (by simp) (by first | exact .s _ | repeat constructor) ?_
    repeat' (first
 | (with_reducible first | refine go_later ?_ | (refine h0 _ _ ?_; clear h0 hw) | (refine hw _ _ _ ?_; clear h0 hw) | refine go_ret ?_ | refine go_skip ?_ | refine out_seq_ret ?_ | refine out_seq_normal ?_ | (refine hL _ ?_; clear hL))
 | (with_reducible first | refine w_reg (by decide +kernel) fun K1 hK => ?_ | refine w_reg_end (by decide +kernel) fun K1 hK => ?_)
 | with_reducible refine go_seq ?_
 | ((with_reducible first | apply v_op Try.tab | apply v_op0 Try.tab) <;> first | (intro K' h0 hw; conv => whnf) | (simp only [Nat.reduceAdd, Nat.reduceMul]; rfl))
 | ((with_reducible apply v_nil); (case hm => (simp only [Nat.reduceAdd, Nat.reduceMul]; rfl)); (case' h => with_reducible refine hK _ ?_; clear hK))
 | (first | refine v_grd_yes (by rfl) (by rfl) ?_)
 | ((first | (apply v_grd_no; (case hg => rfl); (case hb => rfl)) | (apply v_grd_undef; (case hg => rfl); (case hb => rfl)) | (apply v_grd; (case hg => rfl); (case hb => rfl))); (case hi => (simp only [Nat.reduceAdd, Nat.reduceMul]; rfl)))
 | ((with_reducible refine callV_id (f := 40) ?_); have hcs_ := e1; (with_reducible apply callV_f own40 (hcs_)); (case hx => rfl); (case he => rfl); (case hle => first | ((repeat constructor); done) | (simp [tk0, st0]; done)); (case hpu => repeat constructor); (case' hK => (try clear hcs_); conv => whnf))
 | ((with_reducible apply go_cond); (case hb => rfl))
 | ((with_reducible first | refine w_ret Try.tab fun K' hL => ?_ | refine w_ret_end Try.tab fun K' hL => ?_); (conv => whnf))
 | ((with_reducible apply And.intro); (case' right => try (conv => whnf)); (case' left => try first | rfl | decide | (simp [tk0, st0]; done) | (simp (disch := omega) only [wrp]; omega) | (simp (disch := omega) [tk0, st0, wrp]; (try omega); done)))
 | ((with_reducible apply Side.mk); (try simp (disch := omega) only [wrp]); (try simp); (try simp (disch := omega) only [wrp]); (try omega))
 | (refine ⟨_, eqAT (by rfl) (by rfl) (by rfl) (by rfl), ?_⟩; conv => whnf)
 | (first | (guard_hyp g1; intro g2; try simp at g2) | intro g1; try simp at g1))
    all_goals exact .refl _
set_option maxHeartbeats 400000 in
theorem c_bytesOf (p : Pkt) (hp : pktE p = 0) : PSpec Try.prog 42 [.agg (pktC p)] (Tx (encP p)) := by
  refine v_pspec Try.func42 rfl Try.ntmps42 Try.results42 (by simp) (by first | exact .s _ | repeat constructor) ?_
  repeat' (first
 | (with_reducible first | refine go_later ?_ | (refine h0 _ _ ?_; clear h0 hw) | (refine hw _ _ _ ?_; clear h0 hw) | refine go_ret ?_ | refine go_skip ?_ | refine out_seq_ret ?_ | refine out_seq_normal ?_ | (refine hL _ ?_; clear hL))
 | (with_reducible first | refine w_reg (by decide +kernel) fun K1 hK => ?_ | refine w_reg_end (by decide +kernel) fun K1 hK => ?_)
 | with_reducible refine go_seq ?_
 | ((with_reducible first | apply v_op Try.tab | apply v_op0 Try.tab) <;> first | (intro K' h0 hw; conv => whnf) | (simp only [Nat.reduceAdd, Nat.reduceMul]; rfl))
 | ((with_reducible apply v_nil); (case hm => (simp only [Nat.reduceAdd, Nat.reduceMul]; rfl)); (case' h => with_reducible refine hK _ ?_; clear hK))
 | ((with_reducible refine callV_id (f := 95) ?_); have hcs_ := c_packetBytes p hp; (with_reducible apply callV_f own95 (hcs_)); (case hx => rfl); (case he => rfl); (case hle => first | ((repeat constructor); done) | (simp; done)); (case hpu => repeat constructor); (case' hK => (try clear hcs_); conv => whnf))
 | ((with_reducible first | refine w_ret Try.tab fun K' hL => ?_ | refine w_ret_end Try.tab fun K' hL => ?_); (conv => whnf))
 | ((with_reducible apply And.intro); (case' right => try (conv => whnf)); (case' left => try first | rfl | decide | (simp; done) | (simp (disch := omega) only [wrp]; omega) | (simp (disch := omega) [wrp]; (try omega); done)))
 | ((with_reducible apply Side.mk); (try simp (disch := omega) only [wrp]); (try simp); (try simp (disch := omega) only [wrp]); (try omega))
 | (first  | intro g1; try simp at g1))
  exact .refl _
def sa : ByteArray := ⟨#[97]⟩
def sb : ByteArray := ⟨#[98]⟩
def sc : ByteArray := ⟨#[99]⟩
abbrev kp (q t : Int) (s : ByteArray) : Pkt := ⟨q, t, true, true, true, s⟩
abbrev kf (t : Int) (s : ByteArray) : Fr := ⟨t, true, [s]⟩
def tA : Tk := ⟨131071, ⟨131072, []⟩, [], ⟨0, [], [kf 5 sa]⟩⟩
def tB : Tk := ⟨131073, ⟨131072, [⟨131073, kp 1 9 sc⟩]⟩, [], ⟨0, [], [kf 5 sa]⟩⟩
def tC : Tk := ⟨131073, ⟨131074, []⟩, [], ⟨0, [[kf 5 sa], [kf 7 sb]], [kf 9 sc]⟩⟩
def tD : Tk := ⟨131073, ⟨131074, []⟩, [], ⟨0, [[kf 5 sa]], [kf 9 sc]⟩⟩
theorem SmallT.fits {t : Tk} (h : SmallT t) : FitsT t := ⟨by have := h.1; omega, by have := h.2.1; omega, h.2.2.fits⟩
theorem tA_small : SmallT tA := ⟨by decide, by decide, by decide, by decide, by decide, by decide⟩
theorem tB_small : SmallT tB := ⟨by decide, by decide, by decide, by decide, by decide, by decide⟩
theorem tC_small : SmallT tC := ⟨by decide, by decide, by decide, by decide, by decide, by decide⟩
theorem tb1 : PSpec Try.prog 32 [.agg (tkC tk0), Tx (encP (kp 65535 5 sa))] (tkT (tA, 0, 0)) := by
  have h := c_trackFeed tk0 (encP (kp 65535 5 sa)) tk0_small.fits (by decide)
  rwa [show feedS tk0 (encP (kp 65535 5 sa)) = (tA, 0, 0) by decide +kernel] at h
theorem tb2 : PSpec Try.prog 32 [.agg (tkC tA), Tx (encP (kp 1 9 sc))] (tkT (tB, 0, 0)) := by
  have h := c_trackFeed tA (encP (kp 1 9 sc)) tA_small.fits (by decide)
  rwa [show feedS tA (encP (kp 1 9 sc)) = (tB, 0, 0) by decide +kernel] at h
theorem tb3 : PSpec Try.prog 32 [.agg (tkC tB), Tx (encP (kp 0 7 sb))] (tkT (tC, 2, 0)) := by
  have h := c_trackFeed tB (encP (kp 0 7 sb)) tB_small.fits (by decide)
  rwa [show feedS tB (encP (kp 0 7 sb)) = (tC, 2, 0) by decide +kernel] at h
theorem tb4 : PSpec Try.prog 33 [.agg (tkC tB)] (tkT (tD, 1, 0)) := by
  have h := c_trackDrain tB tB_small.fits
  rwa [show drainS tB = (tD, 1, 0) by decide +kernel] at h
theorem tb5 : PSpec Try.prog 38 [.agg (tkC tC)] (I 0) := by
  have h := c_trackCheck tC tC_small.fits
  rwa [show trackE tC = 0 by decide +kernel] at h
set_option maxHeartbeats 4000000 in
theorem c_trackBegun : PSpec Try.prog 37 [] (B true) := by
  refine v_pspec Try.func37 rfl Try.ntmps37 Try.results37 (by simp) (by first | exact .s _ | repeat constructor) ?_
  repeat' (first
 | (with_reducible first | refine go_later ?_ | (refine h0 _ _ ?_; clear h0 hw) | (refine hw _ _ _ ?_; clear h0 hw) | refine go_ret ?_ | refine go_skip ?_ | refine out_seq_ret ?_ | refine out_seq_normal ?_ | (refine hL _ ?_; clear hL))
 | (with_reducible first | refine w_reg (by decide +kernel) fun K1 hK => ?_ | refine w_reg_end (by decide +kernel) fun K1 hK => ?_)
 | ((with_reducible first | apply d_reg Try.mix (by decide +kernel) | apply d_reg_end Try.mix (by decide +kernel)); (case hm => simp only [List.length_cons, List.length_nil, Nat.reduceAdd, Nat.reduceMul]; rfl); (case' h => intro K1 hK))
 | with_reducible refine go_seq ?_
 | ((with_reducible first | apply v_op Try.tab | apply v_op0 Try.tab | apply d_op Try.tab | apply d_op0 Try.tab) <;> first | (intro K' h0 hw; conv => whnf) | (simp only [Nat.reduceAdd, Nat.reduceMul]; rfl))
 | ((with_reducible apply v_nil); (case hm => (simp only [Nat.reduceAdd, Nat.reduceMul]; rfl)); (case' h => with_reducible refine hK _ ?_; clear hK))
 | ((with_reducible apply d_nil); (refine hK _ _ _ _ (by first | decide +kernel | (simp only [List.map_cons, List.map_nil, List.nil_append, List.cons_append]; decide +kernel) | rfl) ?_; clear hK))
 | (first | refine d_grd_yes (by rfl) (by rfl) ?_ | refine v_grd_yes (by rfl) (by rfl) ?_)
 | ((first | (apply d_grd_no; (case hg => rfl); (case hb => rfl)) | (apply d_grd_undef; (case hg => rfl); (case hb => rfl)) | (apply d_grd; (case hg => rfl); (case hb => rfl)) | (apply v_grd_no; (case hg => rfl); (case hb => rfl)) | (apply v_grd_undef; (case hg => rfl); (case hb => rfl)) | (apply v_grd; (case hg => rfl); (case hb => rfl))); (case hi => (simp only [Nat.reduceAdd, Nat.reduceMul]; rfl)))
 | ((with_reducible refine callV_id (f := 89) ?_); have hcs_ := c_whole 65535 5 sa; (with_reducible apply callV_f own89 (hcs_)); (case hx => rfl); (case he => rfl); (case hle => first | ((repeat constructor); done) | (simp [tk0, st0, tA, tB, tC, tD]; done)); (case hpu => repeat constructor); (case' hK => (try clear hcs_); conv => whnf))
 | ((with_reducible refine callV_id (f := 89) ?_); have hcs_ := c_whole 1 9 sc; (with_reducible apply callV_f own89 (hcs_)); (case hx => rfl); (case he => rfl); (case hle => first | ((repeat constructor); done) | (simp [tk0, st0, tA, tB, tC, tD]; done)); (case hpu => repeat constructor); (case' hK => (try clear hcs_); conv => whnf))
 | ((with_reducible refine callV_id (f := 89) ?_); have hcs_ := c_whole 0 7 sb; (with_reducible apply callV_f own89 (hcs_)); (case hx => rfl); (case he => rfl); (case hle => first | ((repeat constructor); done) | (simp [tk0, st0, tA, tB, tC, tD]; done)); (case hpu => repeat constructor); (case' hK => (try clear hcs_); conv => whnf))
 | ((with_reducible refine callV_id (f := 42) ?_); have hcs_ := c_bytesOf (kp 65535 5 sa) (by decide +kernel); (with_reducible apply callV_f own42 (hcs_)); (case hx => rfl); (case he => rfl); (case hle => first | ((repeat constructor); done) | (simp [tk0, st0, tA, tB, tC, tD]; done)); (case hpu => repeat constructor); (case' hK => (try clear hcs_); conv => whnf))
 | ((with_reducible refine callV_id (f := 42) ?_); have hcs_ := c_bytesOf (kp 1 9 sc) (by decide +kernel); (with_reducible apply callV_f own42 (hcs_)); (case hx => rfl); (case he => rfl); (case hle => first | ((repeat constructor); done) | (simp [tk0, st0, tA, tB, tC, tD]; done)); (case hpu => repeat constructor); (case' hK => (try clear hcs_); conv => whnf))
 | ((with_reducible refine callV_id (f := 42) ?_); have hcs_ := c_bytesOf (kp 0 7 sb) (by decide +kernel); (with_reducible apply callV_f own42 (hcs_)); (case hx => rfl); (case he => rfl); (case hle => first | ((repeat constructor); done) | (simp [tk0, st0, tA, tB, tC, tD]; done)); (case hpu => repeat constructor); (case' hK => (try clear hcs_); conv => whnf))
 | ((with_reducible refine callV_id (f := 32) ?_); have hcs_ := tb1; (with_reducible apply callV_f own32 (hcs_)); (case hx => rfl); (case he => rfl); (case hle => first | ((repeat constructor); done) | (simp [tk0, st0, tA, tB, tC, tD]; done)); (case hpu => repeat constructor); (case' hK => (try clear hcs_); conv => whnf))
 | ((with_reducible refine callV_id (f := 32) ?_); have hcs_ := tb2; (with_reducible apply callV_f own32 (hcs_)); (case hx => rfl); (case he => rfl); (case hle => first | ((repeat constructor); done) | (simp [tk0, st0, tA, tB, tC, tD]; done)); (case hpu => repeat constructor); (case' hK => (try clear hcs_); conv => whnf))
 | ((with_reducible refine callV_id (f := 32) ?_); have hcs_ := tb3; (with_reducible apply callV_f own32 (hcs_)); (case hx => rfl); (case he => rfl); (case hle => first | ((repeat constructor); done) | (simp [tk0, st0, tA, tB, tC, tD]; done)); (case hpu => repeat constructor); (case' hK => (try clear hcs_); conv => whnf))
 | ((with_reducible refine callV_id (f := 33) ?_); have hcs_ := tb4; (with_reducible apply callV_f own33 (hcs_)); (case hx => rfl); (case he => rfl); (case hle => first | ((repeat constructor); done) | (simp [tk0, st0, tA, tB, tC, tD]; done)); (case hpu => repeat constructor); (case' hK => (try clear hcs_); conv => whnf))
 | ((with_reducible refine callV_id (f := 38) ?_); have hcs_ := tb5; (with_reducible apply callV_f own38 (hcs_)); (case hx => rfl); (case he => rfl); (case hle => first | ((repeat constructor); done) | (simp [tk0, st0, tA, tB, tC, tD]; done)); (case hpu => repeat constructor); (case' hK => (try clear hcs_); conv => whnf))
 | ((with_reducible first | refine w_ret Try.tab fun K' hL => ?_ | refine w_ret_end Try.tab fun K' hL => ?_); (conv => whnf))
 | ((with_reducible apply And.intro); (case' right => try (conv => whnf)); (case' left => try first | rfl | decide | (simp [tk0, st0, tA, tB, tC, tD]; done) | (simp (disch := omega) only [wrp]; omega) | (simp (disch := omega) [tk0, st0, tA, tB, tC, tD, wrp]; (try omega); done)))
 | ((with_reducible apply Side.mk); (try simp (disch := omega) only [wrp]); (try simp); (try simp (disch := omega) only [wrp]); (try omega))
 | (refine ⟨_, eqAT (by rfl) (by rfl) (by rfl) (by rfl), ?_⟩; conv => whnf)
 | (first  | intro g1; try simp at g1))
  all_goals exact .refl _
theorem feedS_no {t : Tk} {s : ByteArray} (h : ¬ (feedS t s).2.2 = 0) : (feedS t s).1 = tk0 ∧ (feedS t s).2.1 = 0 := by
  unfold feedS at h ⊢
  by_cases c : trackE t = 0
  · rw [if_pos c] at h ⊢; rw [feedR_no h]; exact ⟨rfl, rfl⟩
  · rw [if_neg c]; exact ⟨rfl, rfl⟩
theorem drainS_no {t : Tk} (h : ¬ (drainS t).2.2 = 0) : (drainS t).1 = tk0 ∧ (drainS t).2.1 = 0 := by
  unfold drainS at h ⊢
  by_cases c : trackE t = 0
  · rw [if_pos c] at h ⊢
    unfold drainR doneT at h ⊢
    split
    · rename_i q; rw [if_pos q] at h; exact absurd q h
    · exact ⟨rfl, rfl⟩
  · rw [if_neg c]; exact ⟨rfl, rfl⟩
theorem feedS_ok {t : Tk} {s : ByteArray} (h : (feedS t s).2.2 = 0) : RightT t ∧ feedS t s = feedR t s ∧ RightT (feedS t s).1 := by
  unfold feedS at h ⊢
  by_cases c : trackE t = 0
  · rw [if_pos c] at h ⊢; exact ⟨trackE_ok c, rfl, (feedR_right (trackE_ok c) h).1⟩
  · rw [if_neg c] at h; exact absurd h c
theorem drainS_ok {t : Tk} (h : (drainS t).2.2 = 0) : RightT t ∧ drainS t = drainR t ∧ RightT (drainS t).1 := by
  unfold drainS at h ⊢
  by_cases c : trackE t = 0
  · rw [if_pos c] at h ⊢; exact ⟨trackE_ok c, rfl, (drainR_right (trackE_ok c) h).1⟩
  · rw [if_neg c] at h; exact absurd h c
theorem feedS_small (t : Tk) (s : ByteArray) : SmallT (feedS t s).1 := by
  by_cases c : (feedS t s).2.2 = 0
  · exact (feedS_ok c).2.2.small
  · rw [(feedS_no c).1]; exact tk0_small
theorem drainS_small (t : Tk) : SmallT (drainS t).1 := by
  by_cases c : (drainS t).2.2 = 0
  · exact (drainS_ok c).2.2.small
  · rw [(drainS_no c).1]; exact tk0_small
set_option maxHeartbeats 4000000 in
theorem c_trackTells (t : Tk) (s : ByteArray) (ht : FitsT t) (hs : s.size ≤ 1000000000000000) : PSpec Try.prog 7 [.agg (tkC t), Tx s] (B true) := by
  have i1 := c_trackIs (feedS t s) feedS_no (feedS_small t s)
  have i2 := c_trackIs (drainS t) drainS_no (drainS_small t)
  by_cases h : trackE t = 0
  · have f1 : feedS t s = feedR t s := if_pos h
    have f2 : drainS t = drainR t := if_pos h
    rw [f1] at i1
    rw [f2] at i2
    have q1 := c_trackFeed t s ht hs
    have q2 := c_trackDrain t ht
    rw [f1] at q1
    rw [f2] at q2
    refine v_pspec Try.func7 rfl Try.ntmps7 Try.results7 (by simp) (by first | exact .s _ | repeat constructor) ?_
    repeat' (first
 | (with_reducible first | refine go_later ?_ | (refine h0 _ _ ?_; clear h0 hw) | (refine hw _ _ _ ?_; clear h0 hw) | refine go_ret ?_ | refine go_skip ?_ | refine out_seq_ret ?_ | refine out_seq_normal ?_ | (refine hL _ ?_; clear hL))
 | (with_reducible first | refine w_reg (by decide +kernel) fun K1 hK => ?_ | refine w_reg_end (by decide +kernel) fun K1 hK => ?_)
 | ((with_reducible first | apply d_reg Try.mix (by decide +kernel) | apply d_reg_end Try.mix (by decide +kernel)); (case hm => simp only [List.length_cons, List.length_nil, Nat.reduceAdd, Nat.reduceMul]; rfl); (case' h => intro K1 hK))
 | with_reducible refine go_seq ?_
 | ((with_reducible first | apply v_op Try.tab | apply v_op0 Try.tab | apply d_op Try.tab | apply d_op0 Try.tab) <;> first | (intro K' h0 hw; conv => whnf) | (simp only [Nat.reduceAdd, Nat.reduceMul]; rfl))
 | ((with_reducible apply v_nil); (case hm => (simp only [Nat.reduceAdd, Nat.reduceMul]; rfl)); (case' h => with_reducible refine hK _ ?_; clear hK))
 | ((with_reducible apply d_nil); (refine hK _ _ _ _ (by first | decide +kernel | (simp only [List.map_cons, List.map_nil, List.nil_append, List.cons_append]; decide +kernel) | rfl) ?_; clear hK))
 | (first | refine d_grd_yes (by rfl) (by rfl) ?_ | refine v_grd_yes (by rfl) (by rfl) ?_)
 | ((first | (apply d_grd_no; (case hg => rfl); (case hb => rfl)) | (apply d_grd_undef; (case hg => rfl); (case hb => rfl)) | (apply d_grd; (case hg => rfl); (case hb => rfl)) | (apply v_grd_no; (case hg => rfl); (case hb => rfl)) | (apply v_grd_undef; (case hg => rfl); (case hb => rfl)) | (apply v_grd; (case hg => rfl); (case hb => rfl))); (case hi => (simp only [Nat.reduceAdd, Nat.reduceMul]; rfl)))
 | ((with_reducible refine callV_id (f := 32) ?_); have hcs_ := q1; (with_reducible apply callV_f own32 (hcs_)); (case hx => rfl); (case he => rfl); (case hle => first | ((repeat constructor); done) | (simp; done)); (case hpu => repeat constructor); (case' hK => (try clear hcs_); conv => whnf))
 | ((with_reducible refine callV_id (f := 33) ?_); have hcs_ := q2; (with_reducible apply callV_f own33 (hcs_)); (case hx => rfl); (case he => rfl); (case hle => first | ((repeat constructor); done) | (simp; done)); (case hpu => repeat constructor); (case' hK => (try clear hcs_); conv => whnf))
 | ((with_reducible refine callV_id (f := 34) ?_); have hcs_ := c_checkTrack t ht; (with_reducible apply callV_f own34 (hcs_)); (case hx => rfl); (case he => rfl); (case hle => first | ((repeat constructor); done) | (simp; done)); (case hpu => repeat constructor); (case' hK => (try clear hcs_); conv => whnf))
 | ((with_reducible refine callV_id (f := 35) ?_); have hcs_ := c_feedOf t s (trackE_ok h); (with_reducible apply callV_f own35 (hcs_)); (case hx => rfl); (case he => rfl); (case hle => first | ((repeat constructor); done) | (simp; done)); (case hpu => repeat constructor); (case' hK => (try clear hcs_); conv => whnf))
 | ((with_reducible refine callV_id (f := 36) ?_); have hcs_ := c_drainOf t (trackE_ok h); (with_reducible apply callV_f own36 (hcs_)); (case hx => rfl); (case he => rfl); (case hle => first | ((repeat constructor); done) | (simp; done)); (case hpu => repeat constructor); (case' hK => (try clear hcs_); conv => whnf))
 | ((with_reducible refine callV_id (f := 37) ?_); have hcs_ := c_trackBegun; (with_reducible apply callV_f own37 (hcs_)); (case hx => rfl); (case he => rfl); (case hle => first | ((repeat constructor); done) | (simp; done)); (case hpu => repeat constructor); (case' hK => (try clear hcs_); conv => whnf))
 | ((with_reducible refine callV_id (f := 38) ?_); have hcs_ := c_trackCheck t ht; (with_reducible apply callV_f own38 (hcs_)); (case hx => rfl); (case he => rfl); (case hle => first | ((repeat constructor); done) | (simp; done)); (case hpu => repeat constructor); (case' hK => (try clear hcs_); conv => whnf))
 | ((with_reducible refine callV_id (f := 39) ?_); have hcs_ := i1; (with_reducible apply callV_f own39 (hcs_)); (case hx => rfl); (case he => rfl); (case hle => first | ((repeat constructor); done) | (simp; done)); (case hpu => repeat constructor); (case' hK => (try clear hcs_); conv => whnf))
 | ((with_reducible refine callV_id (f := 39) ?_); have hcs_ := i2; (with_reducible apply callV_f own39 (hcs_)); (case hx => rfl); (case he => rfl); (case hle => first | ((repeat constructor); done) | (simp; done)); (case hpu => repeat constructor); (case' hK => (try clear hcs_); conv => whnf))
 | ((with_reducible apply go_cond); (case hb => rfl))
 | ((with_reducible first | refine w_ret Try.tab fun K' hL => ?_ | refine w_ret_end Try.tab fun K' hL => ?_); (conv => whnf))
 | ((with_reducible apply And.intro); (case' right => try (conv => whnf)); (case' left => try first | rfl | decide | (simp; done) | (simp (disch := omega) only [wrp]; omega) | (simp (disch := omega) [wrp]; (try omega); done)))
 | ((with_reducible apply Side.mk); (try simp (disch := omega) only [wrp]); (try simp); (try simp (disch := omega) only [wrp]); (try omega))
 | (refine ⟨_, eqAT (by rfl) (by rfl) (by rfl) (by rfl), ?_⟩; conv => whnf)
 | (first | (guard_hyp g1; intro g2; try simp at g2) | intro g1; try simp at g1))
    all_goals first | exact .refl _ | exact absurd g1 h | exact absurd h g1
  · have f1 : feedS t s = (tk0, 0, trackE t) := if_neg h
    have f2 : drainS t = (tk0, 0, trackE t) := if_neg h
    rw [f1] at i1
    rw [f2] at i2
    have q1 := c_trackFeed t s ht hs
    have q2 := c_trackDrain t ht
    rw [f1] at q1
    rw [f2] at q2
    refine v_pspec Try.func7 rfl Try.ntmps7 Try.results7 (by simp) (by first | exact .s _ | repeat constructor) ?_
    repeat' (first
 | (with_reducible first | refine go_later ?_ | (refine h0 _ _ ?_; clear h0 hw) | (refine hw _ _ _ ?_; clear h0 hw) | refine go_ret ?_ | refine go_skip ?_ | refine out_seq_ret ?_ | refine out_seq_normal ?_ | (refine hL _ ?_; clear hL))
 | (with_reducible first | refine w_reg (by decide +kernel) fun K1 hK => ?_ | refine w_reg_end (by decide +kernel) fun K1 hK => ?_)
 | ((with_reducible first | apply d_reg Try.mix (by decide +kernel) | apply d_reg_end Try.mix (by decide +kernel)); (case hm => simp only [List.length_cons, List.length_nil, Nat.reduceAdd, Nat.reduceMul]; rfl); (case' h => intro K1 hK))
 | with_reducible refine go_seq ?_
 | ((with_reducible first | apply v_op Try.tab | apply v_op0 Try.tab | apply d_op Try.tab | apply d_op0 Try.tab) <;> first | (intro K' h0 hw; conv => whnf) | (simp only [Nat.reduceAdd, Nat.reduceMul]; rfl))
 | ((with_reducible apply v_nil); (case hm => (simp only [Nat.reduceAdd, Nat.reduceMul]; rfl)); (case' h => with_reducible refine hK _ ?_; clear hK))
 | ((with_reducible apply d_nil); (refine hK _ _ _ _ (by first | decide +kernel | (simp only [List.map_cons, List.map_nil, List.nil_append, List.cons_append]; decide +kernel) | rfl) ?_; clear hK))
 | (first | refine d_grd_yes (by rfl) (by rfl) ?_ | refine v_grd_yes (by rfl) (by rfl) ?_)
 | ((first | (apply d_grd_no; (case hg => rfl); (case hb => rfl)) | (apply d_grd_undef; (case hg => rfl); (case hb => rfl)) | (apply d_grd; (case hg => rfl); (case hb => rfl)) | (apply v_grd_no; (case hg => rfl); (case hb => rfl)) | (apply v_grd_undef; (case hg => rfl); (case hb => rfl)) | (apply v_grd; (case hg => rfl); (case hb => rfl))); (case hi => (simp only [Nat.reduceAdd, Nat.reduceMul]; rfl)))
 | ((with_reducible refine callV_id (f := 32) ?_); have hcs_ := q1; (with_reducible apply callV_f own32 (hcs_)); (case hx => rfl); (case he => rfl); (case hle => first | ((repeat constructor); done) | (simp [tk0, st0]; done)); (case hpu => repeat constructor); (case' hK => (try clear hcs_); conv => whnf))
 | ((with_reducible refine callV_id (f := 33) ?_); have hcs_ := q2; (with_reducible apply callV_f own33 (hcs_)); (case hx => rfl); (case he => rfl); (case hle => first | ((repeat constructor); done) | (simp [tk0, st0]; done)); (case hpu => repeat constructor); (case' hK => (try clear hcs_); conv => whnf))
 | ((with_reducible refine callV_id (f := 34) ?_); have hcs_ := c_checkTrack t ht; (with_reducible apply callV_f own34 (hcs_)); (case hx => rfl); (case he => rfl); (case hle => first | ((repeat constructor); done) | (simp [tk0, st0]; done)); (case hpu => repeat constructor); (case' hK => (try clear hcs_); conv => whnf))
 | ((with_reducible refine callV_id (f := 37) ?_); have hcs_ := c_trackBegun; (with_reducible apply callV_f own37 (hcs_)); (case hx => rfl); (case he => rfl); (case hle => first | ((repeat constructor); done) | (simp [tk0, st0]; done)); (case hpu => repeat constructor); (case' hK => (try clear hcs_); conv => whnf))
 | ((with_reducible refine callV_id (f := 38) ?_); have hcs_ := c_trackCheck t ht; (with_reducible apply callV_f own38 (hcs_)); (case hx => rfl); (case he => rfl); (case hle => first | ((repeat constructor); done) | (simp [tk0, st0]; done)); (case hpu => repeat constructor); (case' hK => (try clear hcs_); conv => whnf))
 | ((with_reducible refine callV_id (f := 39) ?_); have hcs_ := i1; (with_reducible apply callV_f own39 (hcs_)); (case hx => rfl); (case he => rfl); (case hle => first | ((repeat constructor); done) | (simp [tk0, st0]; done)); (case hpu => repeat constructor); (case' hK => (try clear hcs_); conv => whnf))
 | ((with_reducible refine callV_id (f := 39) ?_); have hcs_ := i2; (with_reducible apply callV_f own39 (hcs_)); (case hx => rfl); (case he => rfl); (case hle => first | ((repeat constructor); done) | (simp [tk0, st0]; done)); (case hpu => repeat constructor); (case' hK => (try clear hcs_); conv => whnf))
 | ((with_reducible apply go_cond); (case hb => rfl))
 | ((with_reducible first | refine w_ret Try.tab fun K' hL => ?_ | refine w_ret_end Try.tab fun K' hL => ?_); (conv => whnf))
 | ((with_reducible apply And.intro); (case' right => try (conv => whnf)); (case' left => try first | rfl | decide | (simp [tk0, st0]; done) | (simp (disch := omega) only [wrp]; omega) | (simp (disch := omega) [tk0, st0, wrp]; (try omega); done)))
 | ((with_reducible apply Side.mk); (try simp (disch := omega) only [wrp]); (try simp); (try simp (disch := omega) only [wrp]); (try omega))
 | (refine ⟨_, eqAT (by rfl) (by rfl) (by rfl) (by rfl), ?_⟩; conv => whnf)
 | (first | (guard_hyp g1; intro g2; try simp at g2) | intro g1; try simp at g1))
    all_goals first | exact .refl _ | exact absurd g1 h | exact absurd h g1
abbrev shTk : Sh := .agg [.int .i64, .agg [.int .i64, .sl 7 48 (.agg [.int .i64, .agg [.int .i64, .int .i64, .bool, .bool, .bool, .str]])], .agg [.sl 7 48 (.agg [.int .i64, .agg [.int .i64, .int .i64, .bool, .bool, .bool, .str]])], .agg [.int .i64, .sl 1 24 (.agg [.sl 3 40 (.agg [.int .i64, .bool, .sl 1 16 .str])]), .agg [.sl 3 40 (.agg [.int .i64, .bool, .sl 1 16 .str])]]]
theorem cells_tk {cx : List AV} (h : Reads shTk cx) : ∃ t : Tk, cx = tkC t ∧ FitsT t := by
  obtain ⟨_, _, rfl, ⟨n, rfl, _⟩, _, _, rfl, ⟨_, _, rfl, ⟨m, rfl, _⟩, _, _, rfl, hb, rfl⟩, _, _, rfl, ⟨_, _, rfl, ho, rfl⟩, _, _, rfl, ⟨_, _, rfl, ⟨f, rfl, _⟩, _, _, rfl, hg, _, _, rfl, ⟨_, _, rfl, hp, rfl⟩, rfl⟩, rfl⟩ := h
  obtain ⟨l, rfl, b1, _⟩ := cells_slts hb
  obtain ⟨o, rfl, o1, _⟩ := cells_slts ho
  obtain ⟨gs, rfl, g1, g2⟩ := cells_grs hg
  obtain ⟨g, hgr, g3⟩ := cells_gr ⟨_, _, rfl, hp, rfl⟩
  rw [List.append_nil] at hgr
  subst hgr
  exact ⟨⟨n, ⟨m, l⟩, o, ⟨f, gs, g⟩⟩, by simp, b1, o1, g1, g2, g3⟩
theorem reads_tk {a : AV} (h : ReadsArg shTk a) : ∃ t : Tk, a = .agg (tkC t) ∧ FitsT t := by
  obtain ⟨_, rfl, h⟩ := h
  obtain ⟨t, rfl, ht⟩ := cells_tk h
  exact ⟨t, rfl, ht⟩
theorem reads_str {a : AV} (h : ReadsArg .str a) : ∃ s : ByteArray, a = Tx s ∧ s.size ≤ 1000000000000000 := by
  obtain ⟨s, hs, hl⟩ := h
  cases hs
  exact ⟨s, rfl, by unfold reachBytes at hl; omega⟩
theorem law_trackTells (args : List AV) (h : ReadsArgs [shTk, .str] args) (_ : True) : PSpec Try.prog 7 args (B true) := by
  obtain ⟨_, _, rfl, h1, _, _, rfl, h2, rfl⟩ := h
  obtain ⟨t, rfl, ht⟩ := reads_tk h1
  obtain ⟨s, rfl, hs⟩ := reads_str h2
  exact c_trackTells _ _ ht hs
end Go.Proofs.Ytbhcjgobapnajaa

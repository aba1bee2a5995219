/- TrackTells, walked. No condition. -/
import Derived.Test.YtokkencbpmjdaaaGreatTrack3
namespace Go.Proofs.YtokkencbpmjdaaaGreat
open Go Go.Sy
set_option maxRecDepth 4000
set_option linter.unusedSimpArgs false
set_option linter.unusedVariables false
attribute [local irreducible] Reg RegD Later Out CallV Tri Side EqV Pause
theorem Bf.ext' {p q : Bf} (h1 : p.next = q.next) (h2 : p.held = q.held) : p = q := by cases p; cases q; simp_all
theorem Tk.ext' {p q : Tk} (h1 : p.last = q.last) (h2 : p.buf.next = q.buf.next ∧ p.buf.held = q.buf.held) (h3 : p.op = q.op) (h4 : p.st = q.st) : p = q := by
  have := Bf.ext' h2.1 h2.2
  cases p; cases q; simp_all
instance : DecidableEq Tk := fun p q => decidable_of_iff (p.last = q.last ∧ (p.buf.next = q.buf.next ∧ p.buf.held = q.buf.held) ∧ p.op = q.op ∧ p.st = q.st) ⟨fun ⟨h1, h2, h3, h4⟩ => Tk.ext' h1 h2 h3 h4, fun h => by subst h; simp⟩
def SmallT (t : Tk) : Prop := t.buf.held.length ≤ 1000000 ∧ t.op.length ≤ 1000000 ∧ Small t.st
theorem RightT.small {t : Tk} (h : RightT t) : SmallT t := by
  have h1 := buf_small h.buf
  have h2 := (buildE_ok h.op).1
  exact ⟨by omega, by omega, h.st.small⟩
theorem tk0_small : SmallT tk0 := tk0_right.small
set_option maxHeartbeats 400000 in
theorem c_bytesOf (p : Pkt) (hp : pktE p = 0) : PSpec Tryz.prog 19 [.agg (pktC p)] (Tx (encP p)) := by
  refine p_pspec Tryz.func19 Tryz.ntmps19 Tryz.results19 ?_
  repeat' (first
 | (with_reducible first | apply qz0 | (refine h0 _ _ ?_; clear h0 hw) | (refine hw _ _ _ ?_; clear h0 hw) | apply qz1 | (refine hL _ ?_; clear hL))
 | refine p_reg fun K1 hK => ?_
 | (refine p_op Tryz.tab fun K' h0 hw => ?_; conv => whnf)
 | (refine p_nil (hK _ ?_); clear hK)
 | ((with_reducible refine callV_id (f := 49) ?_); have hcs_ := c_packetBytes p hp; (with_reducible apply callV_f own49 (hcs_)); (case hx => rfl); (case he => rfl); (case hle => first | ((repeat constructor); done) ); (case hpu => repeat constructor); (case' hK => (try clear hcs_); conv => whnf))
 | ((with_reducible first | refine w_ret Tryz.tab fun K' hL => ?_ ); (conv => whnf))
 | ((with_reducible apply And.intro); (case' right => try (conv => whnf)); (case' left => try first | rfl | decide | (simp; done) ))
 )
  exact .refl _
def sa : ByteArray := ⟨#[97]⟩
def sb : ByteArray := ⟨#[98]⟩
def sc : ByteArray := ⟨#[99]⟩
abbrev kp (q t : Int) (s : ByteArray) : Pkt := ⟨q, t, true, true, true, s⟩
abbrev kf (t : Int) (s : ByteArray) : Fr := ⟨t, true, [s]⟩
def tA : Tk := ⟨131071, ⟨131072, []⟩, [], ⟨0, [], [kf 5 sa]⟩⟩
def tB : Tk := ⟨131073, ⟨131072, [⟨131073, kp 1 9 sc⟩]⟩, [], ⟨0, [], [kf 5 sa]⟩⟩
def tC : Tk := ⟨131073, ⟨131074, []⟩, [], ⟨0, [[kf 5 sa], [kf 7 sb]], [kf 9 sc]⟩⟩
def tD : Tk := ⟨131073, ⟨131074, []⟩, [], ⟨0, [[kf 5 sa]], [kf 9 sc]⟩⟩
theorem SmallT.fits {t : Tk} (h : SmallT t) : FitsT t := ⟨by have := h.1; omega, by have := h.2.1; omega, h.2.2.fits⟩
theorem tA_small : SmallT tA := ⟨by decide, by decide, by decide, by decide, by decide, by decide⟩
theorem tB_small : SmallT tB := ⟨by decide, by decide, by decide, by decide, by decide, by decide⟩
theorem tC_small : SmallT tC := ⟨by decide, by decide, by decide, by decide, by decide, by decide⟩
theorem tb1 : PSpec Tryz.prog 12 [.agg (tkC tk0), Tx (encP (kp 65535 5 sa))] (tkT (tA, 0, 0)) := by
  have h := c_trackFeed tk0 (encP (kp 65535 5 sa)) tk0_small.fits (by decide)
  rwa [show feedS tk0 (encP (kp 65535 5 sa)) = (tA, 0, 0) by decide +kernel] at h
theorem tb2 : PSpec Tryz.prog 12 [.agg (tkC tA), Tx (encP (kp 1 9 sc))] (tkT (tB, 0, 0)) := by
  have h := c_trackFeed tA (encP (kp 1 9 sc)) tA_small.fits (by decide)
  rwa [show feedS tA (encP (kp 1 9 sc)) = (tB, 0, 0) by decide +kernel] at h
theorem tb3 : PSpec Tryz.prog 12 [.agg (tkC tB), Tx (encP (kp 0 7 sb))] (tkT (tC, 2, 0)) := by
  have h := c_trackFeed tB (encP (kp 0 7 sb)) tB_small.fits (by decide)
  rwa [show feedS tB (encP (kp 0 7 sb)) = (tC, 2, 0) by decide +kernel] at h
theorem tb4 : PSpec Tryz.prog 13 [.agg (tkC tB)] (tkT (tD, 1, 0)) := by
  have h := c_trackDrain tB tB_small.fits
  rwa [show drainS tB = (tD, 1, 0) by decide +kernel] at h
theorem tb5 : PSpec Tryz.prog 21 [.agg (tkC tC)] (I 0) := by
  have h := c_trackCheck tC tC_small.fits
  rwa [show trackE tC = 0 by decide +kernel] at h
set_option maxHeartbeats 4000000 in
theorem c_trackBegun : PSpec Tryz.prog 4 [] (B true) := by
  refine p_pspec Tryz.func4 Tryz.ntmps4 Tryz.results4 ?_
  repeat' (first
 | (with_reducible first | apply qz0 | (refine h0 _ _ ?_; clear h0 hw) | (refine hw _ _ _ ?_; clear h0 hw) | apply qz1 | (refine hL _ ?_; clear hL))
 | refine p_reg fun K1 hK => ?_
 | refine p_dreg Tryz.mix fun K1 hK => ?_
 | ((first | refine p_op Tryz.tab fun K' h0 hw => ?_ | refine p_op0 Tryz.tab fun K' h0 hw => ?_ | refine p_dop Tryz.tab fun K' h0 hw => ?_ | refine p_dop0 Tryz.tab fun K' h0 hw => ?_); conv => whnf)
 | (refine p_nil (hK _ ?_); clear hK)
 | (refine d_nil (p_obj ?_ (hK _ _ _ _)); clear hK)
 | (first | refine v_grd_yes (by rfl) (by rfl) ?_)
 | ((with_reducible refine callV_id (f := 20) ?_); have hcs_ := c_whole 65535 5 sa; (with_reducible apply callV_f own20 (hcs_)); (case hx => rfl); (case he => rfl); (case hle => first | ((repeat constructor); done) ); (case hpu => repeat constructor); (case' hK => (try clear hcs_); conv => whnf))
 | ((with_reducible refine callV_id (f := 20) ?_); have hcs_ := c_whole 1 9 sc; (with_reducible apply callV_f own20 (hcs_)); (case hx => rfl); (case he => rfl); (case hle => first | ((repeat constructor); done) ); (case hpu => repeat constructor); (case' hK => (try clear hcs_); conv => whnf))
 | ((with_reducible refine callV_id (f := 20) ?_); have hcs_ := c_whole 0 7 sb; (with_reducible apply callV_f own20 (hcs_)); (case hx => rfl); (case he => rfl); (case hle => first | ((repeat constructor); done) ); (case hpu => repeat constructor); (case' hK => (try clear hcs_); conv => whnf))
 | ((with_reducible refine callV_id (f := 19) ?_); have hcs_ := c_bytesOf (kp 65535 5 sa) (by decide +kernel); (with_reducible apply callV_f own19 (hcs_)); (case hx => rfl); (case he => rfl); (case hle => first | ((repeat constructor); done) ); (case hpu => repeat constructor); (case' hK => (try clear hcs_); conv => whnf))
 | ((with_reducible refine callV_id (f := 19) ?_); have hcs_ := c_bytesOf (kp 1 9 sc) (by decide +kernel); (with_reducible apply callV_f own19 (hcs_)); (case hx => rfl); (case he => rfl); (case hle => first | ((repeat constructor); done) ); (case hpu => repeat constructor); (case' hK => (try clear hcs_); conv => whnf))
 | ((with_reducible refine callV_id (f := 19) ?_); have hcs_ := c_bytesOf (kp 0 7 sb) (by decide +kernel); (with_reducible apply callV_f own19 (hcs_)); (case hx => rfl); (case he => rfl); (case hle => first | ((repeat constructor); done) ); (case hpu => repeat constructor); (case' hK => (try clear hcs_); conv => whnf))
 | (refine p_call own12 (tb1) ?_; conv => whnf)
 | (refine p_call own12 (tb2) ?_; conv => whnf)
 | (refine p_call own12 (tb3) ?_; conv => whnf)
 | (refine p_call own13 (tb4) ?_; conv => whnf)
 | (refine p_call own21 (tb5) ?_; conv => whnf)
 | ((with_reducible first | refine w_ret Tryz.tab fun K' hL => ?_ ); (conv => whnf))
 | ((with_reducible apply And.intro); (case' right => try (conv => whnf)); (case' left => try first | rfl | decide ))
 )
  all_goals exact .refl _
theorem feedS_no {t : Tk} {s : ByteArray} (h : ¬ (feedS t s).2.2 = 0) : (feedS t s).1 = tk0 ∧ (feedS t s).2.1 = 0 := by
  unfold feedS at h ⊢
  by_cases c : trackE t = 0
  · rw [if_pos c] at h ⊢; rw [feedR_no h]; exact ⟨rfl, rfl⟩
  · rw [if_neg c]; exact ⟨rfl, rfl⟩
theorem drainS_no {t : Tk} (h : ¬ (drainS t).2.2 = 0) : (drainS t).1 = tk0 ∧ (drainS t).2.1 = 0 := by
  unfold drainS at h ⊢
  by_cases c : trackE t = 0
  · rw [if_pos c] at h ⊢
    unfold drainR doneT at h ⊢
    split
    · rename_i q; rw [if_pos q] at h; exact absurd q h
    · exact ⟨rfl, rfl⟩
  · rw [if_neg c]; exact ⟨rfl, rfl⟩
theorem feedS_ok {t : Tk} {s : ByteArray} (h : (feedS t s).2.2 = 0) : RightT t ∧ feedS t s = feedR t s ∧ RightT (feedS t s).1 := by
  unfold feedS at h ⊢
  by_cases c : trackE t = 0
  · rw [if_pos c] at h ⊢; exact ⟨trackE_ok c, rfl, (feedR_right (trackE_ok c) h).1⟩
  · rw [if_neg c] at h; exact absurd h c
theorem drainS_ok {t : Tk} (h : (drainS t).2.2 = 0) : RightT t ∧ drainS t = drainR t ∧ RightT (drainS t).1 := by
  unfold drainS at h ⊢
  by_cases c : trackE t = 0
  · rw [if_pos c] at h ⊢; exact ⟨trackE_ok c, rfl, (drainR_right (trackE_ok c) h).1⟩
  · rw [if_neg c] at h; exact absurd h c
theorem feedS_small (t : Tk) (s : ByteArray) : SmallT (feedS t s).1 := by
  by_cases c : (feedS t s).2.2 = 0
  · exact (feedS_ok c).2.2.small
  · rw [(feedS_no c).1]; exact tk0_small
theorem drainS_small (t : Tk) : SmallT (drainS t).1 := by
  by_cases c : (drainS t).2.2 = 0
  · exact (drainS_ok c).2.2.small
  · rw [(drainS_no c).1]; exact tk0_small
abbrev shTk : Sh := .agg [.int .i64, .agg [.int .i64, .sl 7 48 (.agg [.int .i64, .agg [.int .i64, .int .i64, .bool, .bool, .bool, .str]])], .agg [.sl 7 48 (.agg [.int .i64, .agg [.int .i64, .int .i64, .bool, .bool, .bool, .str]])], .agg [.int .i64, .sl 1 24 (.agg [.sl 3 40 (.agg [.int .i64, .bool, .sl 1 16 .str])]), .agg [.sl 3 40 (.agg [.int .i64, .bool, .sl 1 16 .str])]]]
end Go.Proofs.YtokkencbpmjdaaaGreat

/- TrackTells, walked. No condition. -/
import Derived.Test.YtdanlpkclkjkcaaTrack3
namespace Go.Proofs.Ytdanlpkclkjkcaa
open Go Go.Sy
set_option maxRecDepth 4000
set_option linter.unusedSimpArgs false
set_option linter.unusedVariables false
attribute [local irreducible] Reg RegD Later Out CallV Tri Side EqV
theorem Bf.ext' {p q : Bf} (h1 : p.next = q.next) (h2 : p.held = q.held) : p = q := by cases p; cases q; simp_all
theorem Tk.ext' {p q : Tk} (h1 : p.last = q.last) (h2 : p.buf.next = q.buf.next ∧ p.buf.held = q.buf.held) (h3 : p.op = q.op) (h4 : p.st = q.st) : p = q := by
  have := Bf.ext' h2.1 h2.2
  cases p; cases q; simp_all
instance : DecidableEq Tk := fun p q => decidable_of_iff (p.last = q.last ∧ (p.buf.next = q.buf.next ∧ p.buf.held = q.buf.held) ∧ p.op = q.op ∧ p.st = q.st) ⟨fun ⟨h1, h2, h3, h4⟩ => Tk.ext' h1 h2 h3 h4, fun h => by subst h; simp⟩
def SmallT (t : Tk) : Prop := t.buf.held.length ≤ 1000000 ∧ t.op.length ≤ 1000000 ∧ Small t.st
theorem RightT.small {t : Tk} (h : RightT t) : SmallT t := by
  have h1 := buf_small h.buf
  have h2 := (buildE_ok h.op).1
  exact ⟨by omega, by omega, h.st.small⟩
set_option maxHeartbeats 400000 in
theorem c_bytesOf (p : Pkt) (hp : pktE p = 0) : PSpec Try.prog 17 [.agg (pktC p)] (Tx (encP p)) := by
  refine v_pspec Try.func17 rfl Try.ntmps17 Try.results17 (by simp) (by first | exact .s _ | repeat constructor) ?_
  repeat' (first
 | (with_reducible first | apply qz0 | (refine h0 _ _ ?_; clear h0 hw) | (refine hw _ _ _ ?_; clear h0 hw) | apply qz1 | apply qz2 | apply qz5 | apply qz6 | (refine hL _ ?_; clear hL))
 | (with_reducible first | refine w_reg (by decide +kernel) fun K1 hK => ?_ | refine w_reg_end (by decide +kernel) fun K1 hK => ?_)
 | with_reducible refine go_seq ?_
 | ((with_reducible first | apply v_op Try.tab | apply v_op0 Try.tab) <;> first | (intro K' h0 hw; conv => whnf) | (simp only [Nat.reduceAdd, Nat.reduceMul]; rfl))
 | ((with_reducible apply v_nil); (case hm => (simp only [Nat.reduceAdd, Nat.reduceMul]; rfl)); (case' h => with_reducible refine hK _ ?_; clear hK))
 | ((with_reducible refine callV_id (f := 39) ?_); have hcs_ := c_packetBytes p hp; (with_reducible apply callV_f own39 (hcs_)); (case hx => rfl); (case he => rfl); (case hle => first | ((repeat constructor); done) | (simp; done)); (case hpu => repeat constructor); (case' hK => (try clear hcs_); conv => whnf))
 | ((with_reducible first | refine w_ret Try.tab fun K' hL => ?_ | refine w_ret_end Try.tab fun K' hL => ?_); (conv => whnf))
 | ((with_reducible apply And.intro); (case' right => try (conv => whnf)); (case' left => try first | rfl | decide | (simp; done) | (simp (disch := omega) only [wrp]; omega) | (simp (disch := omega) [wrp]; (try omega); done)))
 | ((with_reducible apply Side.mk); (try simp (disch := omega) only [wrp]); (try simp); (try simp (disch := omega) only [wrp]); (try omega))
 | (first  | intro g1; try simp at g1))
  exact .refl _
def sa : ByteArray := ⟨#[97]⟩
def sb : ByteArray := ⟨#[98]⟩
abbrev kp (q t : Int) (s : ByteArray) : Pkt := ⟨q, t, true, true, true, s⟩
abbrev kf (t : Int) (s : ByteArray) : Fr := ⟨t, true, [s]⟩
theorem SmallT.fits {t : Tk} (h : SmallT t) : FitsT t := ⟨by have := h.1; omega, by have := h.2.1; omega, h.2.2.fits⟩
end Go.Proofs.Ytdanlpkclkjkcaa

/- Packets and slots: what is wrong with one; which follows which; are they the same. No condition. -/
import Derived.Test.YtbhcjgobapnajaaCount
import Derived.Test.YtbhcjgobapnajaaDa
namespace Go.Proofs.Ytbhcjgobapnajaa
open Go Go.Sy
set_option maxRecDepth 4000
set_option linter.unusedSimpArgs false
set_option linter.unusedVariables false
attribute [local irreducible] Reg RegD Later Out CallV Tri Side EqV
def pktE (p : Pkt) : Int := if ¬ ((0 ≤ p.seq ∧ p.seq ≤ 65535) ∧ 0 ≤ p.time ∧ p.time ≤ 1000000) then 3 else if 8 < p.text.size then 2 else if p.key = true ∧ p.first = false then 4 else 0
set_option maxHeartbeats 400000 in
theorem c_withinW (n lo hi : Int) : PSpec Try.prog 161 [I n, I lo, I hi] (B (decide (lo ≤ n ∧ n ≤ hi))) := by
  refine v_pspec Try.func161 rfl Try.ntmps161 Try.results161 (by simp) (by first | exact .s _ | repeat constructor) ?_
  repeat' (first
 | (with_reducible first | apply qz0 | (refine h0 _ _ ?_; clear h0 hw) | apply qz1 | (refine hL _ ?_; clear hL))
 | (with_reducible first | refine w_reg (by decide +kernel) fun K1 hK => ?_ )
 | ((with_reducible first | apply v_op Try.tab ) <;> first | (intro K' h0 hw; conv => whnf) | (simp only [Nat.reduceAdd, Nat.reduceMul]; rfl))
 | ((with_reducible apply v_nil); (case hm => (simp only [Nat.reduceAdd, Nat.reduceMul]; rfl)); (case' h => with_reducible refine hK _ ?_; clear hK))
 | (first | refine v_grd_yes (by rfl) (by rfl) ?_)
 | ((first | (apply v_grd_no; (case hg => rfl); (case hb => rfl)) | (apply v_grd; (case hg => rfl); (case hb => rfl))); (case hi => (simp only [Nat.reduceAdd, Nat.reduceMul]; rfl)))
 | ((with_reducible first | refine w_ret Try.tab fun K' hL => ?_ ); (conv => whnf))
 | (first  | intro g1; try simp at g1))
  all_goals (simp [le_s]; try omega)
set_option maxHeartbeats 400000 in
theorem c_wireCheck (p : Pkt) : PSpec Try.prog 146 [.agg (pktC p)] (I (pktE p)) := by
  refine v_pspec Try.func146 rfl Try.ntmps146 Try.results146 (by simp) (by first | exact .s _ | repeat constructor) ?_
  repeat' (first
 | (with_reducible first | apply qz0 | (refine h0 _ _ ?_; clear h0 hw) | (refine hw _ _ _ ?_; clear h0 hw) | apply qz1 | apply qz2 | apply qz3 | apply qz5 | apply qz6 | apply qz8 | apply qz9 | (refine hL _ ?_; clear hL))
 | (with_reducible first | refine w_reg (by decide +kernel) fun K1 hK => ?_ )
 | with_reducible refine go_seq ?_
 | ((with_reducible first | apply v_op Try.tab ) <;> first | (intro K' h0 hw; conv => whnf) | (simp only [Nat.reduceAdd, Nat.reduceMul]; rfl))
 | ((with_reducible apply v_nil); (case hm => (simp only [Nat.reduceAdd, Nat.reduceMul]; rfl)); (case' h => with_reducible refine hK _ ?_; clear hK))
 | (first | refine v_grd_yes (by rfl) (by rfl) ?_)
 | ((first | (apply v_grd_no; (case hg => rfl); (case hb => rfl)) | (apply v_grd; (case hg => rfl); (case hb => rfl))); (case hi => (simp only [Nat.reduceAdd, Nat.reduceMul]; rfl)))
 | ((with_reducible refine callV_id (f := 161) ?_); (with_reducible apply callV_f own161 (c_withinW _ _ _)); (case hx => rfl); (case he => rfl); (case hle => first | ((repeat constructor); done) ); (case hpu => repeat constructor); (case' hK => conv => whnf))
 | ((with_reducible apply go_cond); (case hb => rfl))
 | ((with_reducible first | refine w_ret Try.tab fun K' hL => ?_ ); (conv => whnf))
 | ((with_reducible apply And.intro); (case' right => try (conv => whnf)); (case' left => try first | rfl | decide | (simp; done) ))
 | (first  | intro g1; try simp at g1))
  all_goals (refine le_of_eq ?_; unfold pktE; (repeat' split) <;> first | rfl | (exfalso; omega) | (exfalso; simp_all; done) | (exfalso; simp_all; omega))
def sltE (x : Slt) : Int := if rightB x.n = false then 3 else if pktE x.p ≠ 0 then pktE x.p else if x.n % 65536 ≠ x.p.seq then 4 else 0
theorem wrapS_ok {n : Int} (h : rightB n = true) : wrapS n = (n % 65536, 0) := if_pos h
set_option maxHeartbeats 400000 in
theorem c_slot (x : Slt) : PSpec Try.prog 136 [.agg (sltC x)] (I (sltE x)) := by
  refine v_pspec Try.func136 rfl Try.ntmps136 Try.results136 (by simp) (by first | exact .s _ | repeat constructor) ?_
  repeat' (first
 | (with_reducible first | apply qz0 | (refine h0 _ _ ?_; clear h0 hw) | (refine hw _ _ _ ?_; clear h0 hw) | apply qz1 | apply qz2 | apply qz5 | apply qz6 | (refine hL _ ?_; clear hL))
 | (with_reducible first | refine w_reg (by decide +kernel) fun K1 hK => ?_ )
 | with_reducible refine go_seq ?_
 | ((with_reducible first | apply v_op Try.tab ) <;> first | (intro K' h0 hw; conv => whnf) | (simp only [Nat.reduceAdd, Nat.reduceMul]; rfl))
 | ((with_reducible apply v_nil); (case hm => (simp only [Nat.reduceAdd, Nat.reduceMul]; rfl)); (case' h => with_reducible refine hK _ ?_; clear hK))
 | ((with_reducible refine callV_id (f := 90) ?_); (with_reducible apply callV_f own90 (c_right _)); (case hx => rfl); (case he => rfl); (case hle => first | ((repeat constructor); done) ); (case hpu => repeat constructor); (case' hK => conv => whnf))
 | ((with_reducible refine callV_id (f := 146) ?_); have hcs_ := c_wireCheck x.p; (with_reducible apply callV_f own146 (hcs_)); (case hx => rfl); (case he => rfl); (case hle => first | ((repeat constructor); done) ); (case hpu => repeat constructor); (case' hK => (try clear hcs_); conv => whnf))
 | ((with_reducible refine callV_id (f := 165) ?_); (with_reducible apply callV_f own165 (c_wrap _)); (case hx => rfl); (case he => rfl); (case hle => first | ((repeat constructor); done) ); (case hpu => repeat constructor); (case' hK => conv => whnf))
 | ((with_reducible apply go_cond); (case hb => rfl))
 | ((with_reducible first | refine w_ret Try.tab fun K' hL => ?_ ); (conv => whnf))
 | ((with_reducible apply And.intro); (case' right => try (conv => whnf)); (case' left => try first | rfl | decide | (simp; done) ))
 | (first | (guard_hyp g3; intro g4; try simp at g4) | (guard_hyp g2; intro g3; try simp at g3) | (guard_hyp g1; intro g2; try simp at g2) | intro g1; try simp at g1))
  · simp [sltE, g1]
  · simp [sltE, g1, g2]
  · rw [wrapS_ok g1] at g3; simp only at g3; simp [sltE, g1, g2, g3]
  · rw [wrapS_ok g1] at g3; simp only at g3; simp [sltE, g1, g2, g3]
theorem sltE_ok {x : Slt} (h : sltE x = 0) : (65536 ≤ x.n ∧ x.n ≤ 1000000000) ∧ pktE x.p = 0 ∧ x.n % 65536 = x.p.seq := by
  unfold sltE at h
  by_cases h1 : rightB x.n = false
  · rw [if_pos h1] at h; cases h
  rw [if_neg h1] at h
  by_cases h2 : pktE x.p = 0
  · rw [if_neg (by simp [h2])] at h
    by_cases h3 : x.n % 65536 = x.p.seq
    · exact ⟨by simpa [rightB] using h1, h2, h3⟩
    · rw [if_pos h3] at h; cases h
  · rw [if_pos h2] at h; exact absurd h h2
def followsB (a b : Slt) : Bool := !b.p.first && decide (b.n = a.n + 1) && decide (b.p.time = a.p.time)
set_option maxHeartbeats 400000 in
theorem c_follows (a b : Slt) (ha : -1000000000000 ≤ a.n ∧ a.n ≤ 1000000000000) : PSpec Try.prog 137 [.agg (sltC a), .agg (sltC b)] (B (followsB a b)) := by
  refine v_pspec Try.func137 rfl Try.ntmps137 Try.results137 (by simp) (by first | exact .s _ | repeat constructor) ?_
  have e := wrp (n := a.n + 1) (by omega) (by omega)
  repeat' (first
 | (with_reducible first | apply qz0 | (refine h0 _ _ ?_; clear h0 hw) | (refine hw _ _ _ ?_; clear h0 hw) | apply qz1 | (refine hL _ ?_; clear hL))
 | (with_reducible first | refine w_reg (by decide +kernel) fun K1 hK => ?_ )
 | ((with_reducible first | apply v_op Try.tab ) <;> first | (intro K' h0 hw; conv => whnf) | (simp only [Nat.reduceAdd, Nat.reduceMul]; rfl))
 | ((with_reducible apply v_nil); (case hm => (simp only [Nat.reduceAdd, Nat.reduceMul]; rfl)); (case' h => with_reducible refine hK _ ?_; clear hK))
 | (first | refine v_grd_yes (by rfl) (by rfl) ?_)
 | ((first | (apply v_grd_no; (case hg => rfl); (case hb => rfl)) | (apply v_grd; (case hg => rfl); (case hb => rfl))); (case hi => (simp only [Nat.reduceAdd, Nat.reduceMul]; rfl)))
 | ((with_reducible first | refine w_ret Try.tab fun K' hL => ?_ ); (conv => whnf))
 | ((with_reducible apply And.intro); (case' right => try (conv => whnf)); (case' left => try first | rfl | decide | (simp; done) ))
 | (first | (guard_hyp g2; intro g3; try simp at g3; try simp (disch := omega) only [wrp] at g3) | (guard_hyp g1; intro g2; try simp at g2; try simp (disch := omega) only [wrp] at g2) | intro g1; try simp at g1; try simp (disch := omega) only [wrp] at g1))
  · simp [followsB, g1, g2]
  · simp [followsB, g1, g2]
  · simp [followsB, g1]
abbrev tt : ByteArray := ⟨#[116]⟩
set_option maxHeartbeats 400000 in
theorem c_mkSlot (n t : Int) (a b c : Bool) (hn : 0 ≤ n) : PSpec Try.prog 101 [I n, I t, B a, B b, B c] (.agg (sltC ⟨n, ⟨n % 65536, t, a, b, c, tt⟩⟩)) := by
  refine v_pspec Try.func101 rfl Try.ntmps101 Try.results101 (by simp) (by first | exact .s _ | repeat constructor) ?_
  have e := tmp (a := n) (b := 65536) hn
  repeat' (first
 | (with_reducible first | apply qz0 | (refine h0 _ _ ?_; clear h0 hw) | (refine hw _ _ _ ?_; clear h0 hw) | apply qz1 | (refine hL _ ?_; clear hL))
 | (with_reducible first | refine w_reg (by decide +kernel) fun K1 hK => ?_ )
 | ((with_reducible first | apply v_op Try.tab | apply v_op0 Try.tab) <;> first | (intro K' h0 hw; conv => whnf) | (simp only [Nat.reduceAdd, Nat.reduceMul]; rfl))
 | ((with_reducible apply v_nil); (case hm => (simp only [Nat.reduceAdd, Nat.reduceMul]; rfl)); (case' h => with_reducible refine hK _ ?_; clear hK))
 | ((with_reducible first | refine w_ret Try.tab fun K' hL => ?_ ); (conv => whnf))
 | ((with_reducible apply And.intro); (case' right => try (conv => whnf)); (case' left => try first | rfl | decide ))
 | ((with_reducible apply Side.mk); (try simp (disch := omega) only [wrp]); (try simp); (try simp (disch := omega) only [wrp]); (try omega))
 )
  all_goals simp [tt, e]
abbrev mk (n t : Int) (a b c : Bool) : Slt := ⟨n, ⟨n % 65536, t, a, b, c, tt⟩⟩
end Go.Proofs.Ytbhcjgobapnajaa

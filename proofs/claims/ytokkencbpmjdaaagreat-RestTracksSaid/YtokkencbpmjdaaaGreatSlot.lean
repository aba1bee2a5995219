/- Packets and slots: what is wrong with one; which follows which; are they the same. No condition. -/
import Derived.Test.YtokkencbpmjdaaaGreatCount
import Derived.Test.YtokkencbpmjdaaaGreatDa
namespace Go.Proofs.YtokkencbpmjdaaaGreat
open Go Go.Sy
set_option maxRecDepth 4000
set_option linter.unusedSimpArgs false
set_option linter.unusedVariables false
attribute [local irreducible] Reg RegD Later Out CallV Tri Side EqV Pause
def pktE (p : Pkt) : Int := if ¬ ((0 ≤ p.seq ∧ p.seq ≤ 65535) ∧ 0 ≤ p.time ∧ p.time ≤ 1000000) then 3 else if 8 < p.text.size then 2 else if p.key = true ∧ p.first = false then 4 else 0
set_option maxHeartbeats 400000 in
theorem c_withinW (n lo hi : Int) : PSpec Tryz.prog 77 [I n, I lo, I hi] (B (decide (lo ≤ n ∧ n ≤ hi))) := by
  refine p_pspec Tryz.func77 Tryz.ntmps77 Tryz.results77 ?_
  repeat' (first
 | (with_reducible first | apply qz0 | (refine h0 _ _ ?_; clear h0 hw) | apply qz1 | (refine hL _ ?_; clear hL))
 | refine p_reg fun K1 hK => ?_
 | (refine p_op Tryz.tab fun K' h0 hw => ?_; conv => whnf)
 | (refine p_nil (hK _ ?_); clear hK)
 | (first | refine v_grd_yes (by rfl) (by rfl) ?_)
 | ((first | (apply v_grd_no; (case hg => rfl); (case hb => rfl)) | (apply v_grd; (case hg => rfl); (case hb => rfl))); (case hi => (simp only [Nat.reduceAdd, Nat.reduceMul]; rfl)))
 | ((with_reducible first | refine w_ret Tryz.tab fun K' hL => ?_ ); (conv => whnf))
 | (first  | intro g1; try simp at g1))
  all_goals (simp [le_s]; try omega)
set_option maxHeartbeats 400000 in
theorem c_wireCheck (p : Pkt) : PSpec Tryz.prog 46 [.agg (pktC p)] (I (pktE p)) := by
  refine p_pspec Tryz.func46 Tryz.ntmps46 Tryz.results46 ?_
  repeat' (first
 | (with_reducible first | apply qz0 | (refine h0 _ _ ?_; clear h0 hw) | (refine hw _ _ _ ?_; clear h0 hw) | apply qz1 | apply qz2 | apply qz3 | apply qz5 | apply qz6 | apply qz8 | apply qz9 | (refine hL _ ?_; clear hL))
 | refine p_reg fun K1 hK => ?_
 | apply go_seq
 | (refine p_op Tryz.tab fun K' h0 hw => ?_; conv => whnf)
 | (refine p_nil (hK _ ?_); clear hK)
 | (first | refine v_grd_yes (by rfl) (by rfl) ?_)
 | ((first | (apply v_grd_no; (case hg => rfl); (case hb => rfl)) | (apply v_grd; (case hg => rfl); (case hb => rfl))); (case hi => (simp only [Nat.reduceAdd, Nat.reduceMul]; rfl)))
 | (refine p_call own77 (c_withinW _ _ _) ?_; conv => whnf)
 | ((with_reducible apply go_cond); (case hb => rfl))
 | ((with_reducible first | refine w_ret Tryz.tab fun K' hL => ?_ ); (conv => whnf))
 | ((with_reducible apply And.intro); (case' right => try (conv => whnf)); (case' left => try first | rfl | decide | (simp; done) ))
 | (first  | intro g1; try simp at g1))
  all_goals (refine le_of_eq ?_; unfold pktE; (repeat' split) <;> first | rfl | (exfalso; omega) | (exfalso; simp_all; done) | (exfalso; simp_all; omega))
set_option maxHeartbeats 400000 in
theorem c_checkPacket (p : Pkt) : PSpec Tryz.prog 84 [.agg (pktC p)] (I (pktE p)) := by
  refine p_pspec Tryz.func84 Tryz.ntmps84 Tryz.results84 ?_
  repeat' (first
 | (with_reducible first | apply qz0 | (refine h0 _ _ ?_; clear h0 hw) | (refine hw _ _ _ ?_; clear h0 hw) | apply qz1 | apply qz2 | apply qz5 | apply qz6 | (refine hL _ ?_; clear hL))
 | refine p_reg fun K1 hK => ?_
 | apply go_seq
 | (refine p_op Tryz.tab fun K' h0 hw => ?_; conv => whnf)
 | (refine p_nil (hK _ ?_); clear hK)
 | (first | refine v_grd_yes (by rfl) (by rfl) ?_)
 | ((first | (apply v_grd_no; (case hg => rfl); (case hb => rfl)) | (apply v_grd; (case hg => rfl); (case hb => rfl))); (case hi => (simp only [Nat.reduceAdd, Nat.reduceMul]; rfl)))
 | (refine p_call own30 (c_between _ _ _) ?_; conv => whnf)
 | ((with_reducible apply go_cond); (case hb => rfl))
 | ((with_reducible first | refine w_ret Tryz.tab fun K' hL => ?_ ); (conv => whnf))
 | ((with_reducible apply And.intro); (case' right => try (conv => whnf)); (case' left => try first | rfl | decide | (simp; done) ))
 | (first  | intro g1; try simp at g1))
  all_goals (refine le_of_eq ?_; unfold pktE; (repeat' split) <;> first | rfl | (exfalso; omega) | (exfalso; simp_all; done) | (exfalso; simp_all; omega))
def sltE (x : Slt) : Int := if rightB x.n = false then 3 else if pktE x.p ≠ 0 then pktE x.p else if x.n % 65536 ≠ x.p.seq then 4 else 0
theorem wrapS_ok {n : Int} (h : rightB n = true) : wrapS n = (n % 65536, 0) := if_pos h
set_option maxHeartbeats 400000 in
theorem c_slot (x : Slt) : PSpec Tryz.prog 78 [.agg (sltC x)] (I (sltE x)) := by
  refine p_pspec Tryz.func78 Tryz.ntmps78 Tryz.results78 ?_
  repeat' (first
 | (with_reducible first | apply qz0 | (refine h0 _ _ ?_; clear h0 hw) | (refine hw _ _ _ ?_; clear h0 hw) | apply qz1 | apply qz2 | apply qz5 | apply qz6 | (refine hL _ ?_; clear hL))
 | refine p_reg fun K1 hK => ?_
 | apply go_seq
 | (refine p_op Tryz.tab fun K' h0 hw => ?_; conv => whnf)
 | (refine p_nil (hK _ ?_); clear hK)
 | (refine p_call own50 (c_right _) ?_; conv => whnf)
 | ((with_reducible refine callV_id (f := 46) ?_); have hcs_ := c_wireCheck x.p; (with_reducible apply callV_f own46 (hcs_)); (case hx => rfl); (case he => rfl); (case hle => first | ((repeat constructor); done) ); (case hpu => repeat constructor); (case' hK => (try clear hcs_); conv => whnf))
 | (refine p_call own112 (c_wrap _) ?_; conv => whnf)
 | ((with_reducible apply go_cond); (case hb => rfl))
 | ((with_reducible first | refine w_ret Tryz.tab fun K' hL => ?_ ); (conv => whnf))
 | ((with_reducible apply And.intro); (case' right => try (conv => whnf)); (case' left => try first | rfl | decide | (simp; done) ))
 | (first | (guard_hyp g3; intro g4; try simp at g4) | (guard_hyp g2; intro g3; try simp at g3) | (guard_hyp g1; intro g2; try simp at g2) | intro g1; try simp at g1))
  · simp [sltE, g1]
  · simp [sltE, g1, g2]
  · rw [wrapS_ok g1] at g3; simp only at g3; simp [sltE, g1, g2, g3]
  · rw [wrapS_ok g1] at g3; simp only at g3; simp [sltE, g1, g2, g3]
set_option maxHeartbeats 400000 in
theorem c_checkSlot (x : Slt) : PSpec Tryz.prog 54 [.agg (sltC x)] (I (sltE x)) := by
  refine p_pspec Tryz.func54 Tryz.ntmps54 Tryz.results54 ?_
  repeat' (first
 | (with_reducible first | apply qz0 | (refine h0 _ _ ?_; clear h0 hw) | (refine hw _ _ _ ?_; clear h0 hw) | apply qz1 | apply qz2 | apply qz5 | apply qz6 | (refine hL _ ?_; clear hL))
 | refine p_reg fun K1 hK => ?_ | refine p_regE fun K1 hK => ?_
 | apply go_seq
 | (refine p_op Tryz.tab fun K' h0 hw => ?_; conv => whnf)
 | (refine p_nil (hK _ ?_); clear hK)
 | (first | refine v_grd_yes (by rfl) (by rfl) ?_)
 | ((first | (apply v_grd_no; (case hg => rfl); (case hb => rfl)) | (apply v_grd; (case hg => rfl); (case hb => rfl))); (case hi => (simp only [Nat.reduceAdd, Nat.reduceMul]; rfl)))
 | (refine p_call own24 (c_isN _) ?_; conv => whnf)
 | ((with_reducible refine callV_id (f := 84) ?_); have hcs_ := c_checkPacket x.p; (with_reducible apply callV_f own84 (hcs_)); (case hx => rfl); (case he => rfl); (case hle => first | ((repeat constructor); done) ); (case hpu => repeat constructor); (case' hK => (try clear hcs_); conv => whnf))
 | ((with_reducible apply go_cond); (case hb => rfl))
 | ((with_reducible first | refine w_ret Tryz.tab fun K' hL => ?_ ); (conv => whnf))
 | ((with_reducible apply And.intro); (case' right => try (conv => whnf)); (case' left => try first | rfl | decide | (simp; done) ))
 | exact p_side
 | (first | (guard_hyp g3; intro g4; try simp at g4) | (guard_hyp g2; intro g3; try simp at g3) | (guard_hyp g1; intro g2; try simp at g2) | intro g1; try simp at g1))
  all_goals (try rw [tmp (by simp [rightB] at g1; omega)] at g3)
  · simp [sltE, g1]
  · simp [sltE, g1, g2, g3]
  · simp [sltE, g1, g2, g3]
  · simp [sltE, g1, g2]
theorem sltE_ok {x : Slt} (h : sltE x = 0) : (65536 ≤ x.n ∧ x.n ≤ 1000000000) ∧ pktE x.p = 0 ∧ x.n % 65536 = x.p.seq := by
  unfold sltE at h
  by_cases h1 : rightB x.n = false
  · rw [if_pos h1] at h; cases h
  rw [if_neg h1] at h
  by_cases h2 : pktE x.p = 0
  · rw [if_neg (by simp [h2])] at h
    by_cases h3 : x.n % 65536 = x.p.seq
    · exact ⟨by simpa [rightB] using h1, h2, h3⟩
    · rw [if_pos h3] at h; cases h
  · rw [if_pos h2] at h; exact absurd h h2
def followsB (a b : Slt) : Bool := !b.p.first && decide (b.n = a.n + 1) && decide (b.p.time = a.p.time)
set_option maxHeartbeats 400000 in
theorem c_follows (a b : Slt) (ha : -1000000000000 ≤ a.n ∧ a.n ≤ 1000000000000) : PSpec Tryz.prog 81 [.agg (sltC a), .agg (sltC b)] (B (followsB a b)) := by
  refine p_pspec Tryz.func81 Tryz.ntmps81 Tryz.results81 ?_
  have e := wrp (n := a.n + 1) (by omega) (by omega)
  repeat' (first
 | (with_reducible first | apply qz0 | (refine h0 _ _ ?_; clear h0 hw) | (refine hw _ _ _ ?_; clear h0 hw) | apply qz1 | (refine hL _ ?_; clear hL))
 | refine p_reg fun K1 hK => ?_
 | (refine p_op Tryz.tab fun K' h0 hw => ?_; conv => whnf)
 | (refine p_nil (hK _ ?_); clear hK)
 | (first | refine v_grd_yes (by rfl) (by rfl) ?_)
 | ((first | (apply v_grd_no; (case hg => rfl); (case hb => rfl)) | (apply v_grd; (case hg => rfl); (case hb => rfl))); (case hi => (simp only [Nat.reduceAdd, Nat.reduceMul]; rfl)))
 | ((with_reducible first | refine w_ret Tryz.tab fun K' hL => ?_ ); (conv => whnf))
 | ((with_reducible apply And.intro); (case' right => try (conv => whnf)); (case' left => try first | rfl | decide | (simp; done) ))
 | (first | (guard_hyp g2; intro g3; try simp at g3; try simp (disch := omega) only [wrp] at g3) | (guard_hyp g1; intro g2; try simp at g2; try simp (disch := omega) only [wrp] at g2) | intro g1; try simp at g1; try simp (disch := omega) only [wrp] at g1))
  · simp [followsB, g1, g2]
  · simp [followsB, g1, g2]
  · simp [followsB, g1]
set_option maxHeartbeats 400000 in
theorem c_isNext (a b : Slt) (ha : -1000000000000 ≤ a.n ∧ a.n ≤ 1000000000000) : PSpec Tryz.prog 55 [.agg (sltC a), .agg (sltC b)] (B (followsB a b)) := by
  refine p_pspec Tryz.func55 Tryz.ntmps55 Tryz.results55 ?_
  have e := wrp (n := a.n + 1) (by omega) (by omega)
  repeat' (first
 | (with_reducible first | apply qz0 | (refine h0 _ _ ?_; clear h0 hw) | (refine hw _ _ _ ?_; clear h0 hw) | apply qz1 | (refine hL _ ?_; clear hL))
 | refine p_reg fun K1 hK => ?_
 | (refine p_op Tryz.tab fun K' h0 hw => ?_; conv => whnf)
 | (refine p_nil (hK _ ?_); clear hK)
 | (first | refine v_grd_yes (by rfl) (by rfl) ?_)
 | ((first | (apply v_grd_no; (case hg => rfl); (case hb => rfl)) | (apply v_grd; (case hg => rfl); (case hb => rfl))); (case hi => (simp only [Nat.reduceAdd, Nat.reduceMul]; rfl)))
 | ((with_reducible first | refine w_ret Tryz.tab fun K' hL => ?_ ); (conv => whnf))
 | ((with_reducible apply And.intro); (case' right => try (conv => whnf)); (case' left => try first | rfl | decide | (simp; done) ))
 | (first | (guard_hyp g2; intro g3; try simp at g3; try simp (disch := omega) only [wrp] at g3) | (guard_hyp g1; intro g2; try simp at g2; try simp (disch := omega) only [wrp] at g2) | intro g1; try simp at g1; try simp (disch := omega) only [wrp] at g1))
  · refine le_of_eq ?_; simp [followsB, g1, g2.symm, eq_comm]
  · have : ¬ b.n = a.n + 1 := fun h => g2 h.symm
    simp [followsB, g1, this]
  · simp [followsB, g1]
set_option maxHeartbeats 1000000 in
theorem c_sameSlots (a b : List Slt) (ha : a.length ≤ 17592186043904) : PSpec Tryz.prog 39 [slts a, slts b] (B (decide (a = b))) := by
  refine p_pspec Tryz.func39 Tryz.ntmps39 Tryz.results39 ?_
  repeat' (first
 | (with_reducible first | apply qz0 | (refine h0 _ _ ?_; clear h0 hw) | apply qz1 | apply qz2 | apply qz3 | apply qz5 | apply qz6 | (refine hL _ ?_; clear hL))
 | refine p_reg fun K1 hK => ?_
 | apply go_seq
 | (refine p_op Tryz.tab fun K' h0 hw => ?_; conv => whnf)
 | (refine p_nil (hK _ ?_); clear hK)
 | ((with_reducible apply go_cond); (case hb => rfl))
 | ((with_reducible first | refine w_ret Tryz.tab fun K' hL => ?_ ); (conv => whnf))
 | (first | (guard_hyp g3; intro g4; try simp at g4) | (guard_hyp g2; intro g3; try simp at g3) | (guard_hyp g1; intro g2; try simp at g2) | intro g1; try simp at g1))
  · refine le_of_eq ?_; simp; intro h; subst h; exact g1 rfl
  refine w_loop (X := Nat) [4, 5, 11, 12, 13, 14, 15, 16, 17, 18, 19, 20, 21, 22, 23, 24, 25] (fun i => [(5, I i)]) (fun _ => []) (fun i => i ≤ a.length ∧ a.take i = b.take i) (fun i => a.length - i) 0 (by simp) ?_ ?_
  · refine ⟨kt_refl, ko_refl, ?_, ?_, ?_, ?_, Nat.le_refl _⟩ <;> simp
  rintro i ⟨h1, h2⟩
  repeat' (first
 | (with_reducible first | apply qz0 | (refine h0 _ _ ?_; clear h0 hw) | apply qz1 | apply qz2 | apply qz3 | apply qz4 | apply qz5 | apply qz6 | apply qz7 | apply qz8 | apply qz9 | apply qza | apply qzb | apply qzc | (refine hL _ ?_; clear hL))
 | refine p_reg fun K1 hK => ?_ | refine p_regE fun K1 hK => ?_
 | refine p_dreg Tryz.mix fun K1 hK => ?_
 | apply go_seq
 | ((first | refine p_op Tryz.tab fun K' h0 hw => ?_ | refine p_dop Tryz.tab fun K' h0 hw => ?_); conv => whnf)
 | (refine p_nil (hK _ ?_); clear hK)
 | (refine d_nil (p_obj ?_ (hK _ _ _ _)); clear hK)
 | ((with_reducible apply go_cond); (case hb => rfl))
 | ((with_reducible first | refine w_ret Tryz.tab fun K' hL => ?_ ); (conv => whnf))
 | ((with_reducible apply And.intro); (case' right => try (conv => whnf)); (case' left => try first | decide | (simp; done) ))
 | exact p_side
 | ((with_reducible refine all_row ?_); (first | (guard_hyp hx1; intro x2 hx2) | intro x1 hx1); conv => whnf)
 | (refine ⟨_, eqAT (by rfl) (by rfl) (by rfl) (by rfl), ?_⟩; conv => whnf)
 | (first | (guard_hyp g3; intro g4; try simp at g4) | (guard_hyp g2; intro g3; try simp at g3) | (guard_hyp g1; intro g2; try simp at g2) | intro g1; try simp at g1))
  · simp at hx1 hx2
    refine le_of_eq ?_; simp; intro h; subst h
    rw [hx1] at hx2; cases hx2; simp at g3
  · simp at hx1 hx2
    have he : x1 = x2 := Slt.ext' g3.1 (Pkt.ext' g3.2.1 g3.2.2.1 g3.2.2.2.1 g3.2.2.2.2.1 g3.2.2.2.2.2.1 g3.2.2.2.2.2.2)
    (refine p_nx ((i + 1)) ?_; (try simp only); (try exact trivial))
    exact ⟨by omega, by rw [take_at hx1, take_at hx2, h2, he]⟩
  · have : a = b := by rw [← List.take_of_length_le (l := a) (i := i) (by omega), h2]; exact List.take_of_length_le (by omega)
    exact le_of_eq (by simp [this])
abbrev tt : ByteArray := ⟨#[116]⟩
abbrev mk (n t : Int) (a b c : Bool) : Slt := ⟨n, ⟨n % 65536, t, a, b, c, tt⟩⟩
end Go.Proofs.YtokkencbpmjdaaaGreat

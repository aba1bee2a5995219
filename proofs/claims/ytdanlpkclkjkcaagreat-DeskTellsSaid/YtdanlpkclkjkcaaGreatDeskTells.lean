/- DeskTells, walked. No condition. -/
import Derived.Test.YtdanlpkclkjkcaaGreatDeskWat
import Derived.Test.YtdanlpkclkjkcaaGreatDeskPa
namespace Go.Proofs.YtdanlpkclkjkcaaGreat
open Go Go.Sy
set_option maxRecDepth 4000
set_option linter.unusedSimpArgs false
set_option linter.unusedVariables false
attribute [local irreducible] Reg RegD Later Out CallV Tri Side EqV
theorem watchR_fits (l : List Pkt) : (watchR l).1.length ≤ 4000000000000 ∧ ∀ f ∈ (watchR l).1, f.parts.length ≤ 1000000000000000 := by
  unfold watchR
  split
  · exact ⟨by simp, by simp⟩
  split
  · exact ⟨by simp, by simp⟩
  split
  · exact ⟨by simp, by simp⟩
  · exact allF_fits _
theorem actR_small {t : Tk} {v : Vw} (a : Ac) (ht : RightT t) (hv : OkV v) : SmallT (actR t v a).1.t := by
  by_cases h : (actR t v a).2 = 0
  · exact (actR_ok ht hv h).2.2.1.small
  · rw [actR_no h]; exact tk0_small
set_option maxHeartbeats 8000000 in
theorem c_deskTells (t : Tk) (v : Vw) (a : Ac) (l : List Pkt) (ht : FitsT t) (hs : a.text.size ≤ 1000000000000000) : PSpec Tryz.prog 4 [.agg (tkC t), .agg (vwC v), .agg (acC a), pkts l] (B true) := by
  have q1 := c_deskDo t v a ht hs
  have q2 := c_watch l
  have q3 := c_watchOf l
  have q4 := c_sameFrames (watchR l).1 (watchR l).1 (watchR_fits l).1 (watchR_fits l).2
  rw [show decide ((watchR l).1 = (watchR l).1) = true by simp] at q4
  have q5 := c_checkTrack t ht
  have q6 := c_checkViewer v
  have r3 := c_sameTrack tk0 tk0 tk0_small
  rw [show decide (tk0 = tk0) = true by simp] at r3
  have r4 := c_samePackets [] [] (by simp)
  rw [show decide (([] : List Pkt) = []) = true by simp] at r4
  generalize watchR l = wr at q2 q3 q4
  by_cases c1 : trackE t = 0
  · rw [c1] at q5
    by_cases c2 : viewerE v = 0
    · rw [c2] at q6
      have h1 := trackE_ok c1
      have h2 := viewerE_ok c2
      have q7 := c_doOf t v a h1 h2 hs
      rw [actS, if_pos (actE_of h1 h2)] at q1
      have q8 := c_sameTrack (actR t v a).1.t (actR t v a).1.t (actR_small a h1 h2)
      rw [show decide ((actR t v a).1.t = (actR t v a).1.t) = true by simp] at q8
      have q9 := c_samePackets (actR t v a).1.l (actR t v a).1.l (by have := actR_len a h1 h2; omega)
      rw [show decide ((actR t v a).1.l = (actR t v a).1.l) = true by simp] at q9
      generalize actR t v a = r at q1 q7 q8 q9
      refine v_pspec Tryz.func4 rfl Tryz.ntmps4 Tryz.results4 (by simp) (by first | exact .s _ | repeat constructor) ?_
      repeat' (first
 | (with_reducible first | apply qz0 | (refine h0 _ _ ?_; clear h0 hw) | (refine hw _ _ _ ?_; clear h0 hw) | apply qz1 | apply qz6 | (refine hL _ ?_; clear hL))
 | (with_reducible first | refine w_reg (by decide +kernel) fun K1 hK => ?_ | refine w_reg_end (by decide +kernel) fun K1 hK => ?_)
 | with_reducible refine go_seq ?_
 | ((with_reducible first | apply v_op Tryz.tab | apply v_op0 Tryz.tab) <;> first | (intro K' h0 hw; conv => whnf) | (simp only [Nat.reduceAdd, Nat.reduceMul]; rfl))
 | ((with_reducible apply v_nil); (case hm => (simp only [Nat.reduceAdd, Nat.reduceMul]; rfl)); (case' h => with_reducible refine hK _ ?_; clear hK))
 | (first | refine v_grd_yes (by rfl) (by rfl) ?_)
 | ((first | (apply v_grd; (case hg => rfl); (case hb => rfl))); (case hi => (simp only [Nat.reduceAdd, Nat.reduceMul]; rfl)))
 | ((with_reducible refine callV_id (f := 12) ?_); (with_reducible apply callV_f own12 (q1)); (case hx => rfl); (case he => rfl); (case hle => first | ((repeat constructor); done) ); (case hpu => repeat constructor); (case' hK => conv => whnf))
 | ((with_reducible refine callV_id (f := 16) ?_); (with_reducible apply callV_f own16 (q2)); (case hx => rfl); (case he => rfl); (case hle => first | ((repeat constructor); done) ); (case hpu => repeat constructor); (case' hK => conv => whnf))
 | ((with_reducible refine callV_id (f := 9) ?_); (with_reducible apply callV_f own9 (q5)); (case hx => rfl); (case he => rfl); (case hle => first | ((repeat constructor); done) ); (case hpu => repeat constructor); (case' hK => conv => whnf))
 | ((with_reducible refine callV_id (f := 10) ?_); (with_reducible apply callV_f own10 (q6)); (case hx => rfl); (case he => rfl); (case hle => first | ((repeat constructor); done) ); (case hpu => repeat constructor); (case' hK => conv => whnf))
 | ((with_reducible refine callV_id (f := 11) ?_); (with_reducible apply callV_f own11 (q7)); (case hx => rfl); (case he => rfl); (case hle => first | ((repeat constructor); done) ); (case hpu => repeat constructor); (case' hK => conv => whnf))
 | ((with_reducible refine callV_id (f := 21) ?_); (with_reducible apply callV_f own21 (q3)); (case hx => rfl); (case he => rfl); (case hle => first | ((repeat constructor); done) ); (case hpu => repeat constructor); (case' hK => conv => whnf))
 | ((with_reducible refine callV_id (f := 7) ?_); (with_reducible apply callV_f own7 (c_deskBegun)); (case hx => rfl); (case he => rfl); (case hle => first | ((repeat constructor); done) ); (case hpu => repeat constructor); (case' hK => conv => whnf))
 | ((with_reducible refine callV_id (f := 13) ?_); (with_reducible apply callV_f own13 (q8)); (case hx => rfl); (case he => rfl); (case hle => first | ((repeat constructor); done) ); (case hpu => repeat constructor); (case' hK => conv => whnf))
 | ((with_reducible refine callV_id (f := 22) ?_); (with_reducible apply callV_f own22 (q9)); (case hx => rfl); (case he => rfl); (case hle => first | ((repeat constructor); done) ); (case hpu => repeat constructor); (case' hK => conv => whnf))
 | ((with_reducible refine callV_id (f := 23) ?_); (with_reducible apply callV_f own23 (q4)); (case hx => rfl); (case he => rfl); (case hle => first | ((repeat constructor); done) ); (case hpu => repeat constructor); (case' hK => conv => whnf))
 | ((with_reducible apply go_cond); (case hb => rfl))
 | ((with_reducible first | refine w_ret Tryz.tab fun K' hL => ?_ ); (conv => whnf))
 | ((with_reducible apply And.intro); (case' right => try (conv => whnf)); (case' left => try first | rfl | decide | (simp; done) ))
 | (refine ⟨_, eqAT (by rfl) (by rfl) (by rfl) (by rfl), ?_⟩; conv => whnf)
 | (first  | intro g1; try simp at g1))
      all_goals exact .refl _
    · have e : actS t v a = (ds0, viewerE v) := by
        have : actE t v = viewerE v := if_pos c1
        rw [actS, if_neg (by rw [this]; exact c2), this]
      rw [e] at q1
      refine v_pspec Tryz.func4 rfl Tryz.ntmps4 Tryz.results4 (by simp) (by first | exact .s _ | repeat constructor) ?_
      repeat' (first
 | (with_reducible first | apply qz0 | (refine h0 _ _ ?_; clear h0 hw) | (refine hw _ _ _ ?_; clear h0 hw) | apply qz1 | apply qz2 | apply qz6 | (refine hL _ ?_; clear hL))
 | (with_reducible first | refine w_reg (by decide +kernel) fun K1 hK => ?_ | refine w_reg_end (by decide +kernel) fun K1 hK => ?_)
 | with_reducible refine go_seq ?_
 | ((with_reducible first | apply v_op Tryz.tab | apply v_op0 Tryz.tab) <;> first | (intro K' h0 hw; conv => whnf) | (simp only [Nat.reduceAdd, Nat.reduceMul]; rfl))
 | ((with_reducible apply v_nil); (case hm => (simp only [Nat.reduceAdd, Nat.reduceMul]; rfl)); (case' h => with_reducible refine hK _ ?_; clear hK))
 | (first | refine v_grd_yes (by rfl) (by rfl) ?_)
 | ((first | (apply v_grd; (case hg => rfl); (case hb => rfl))); (case hi => (simp only [Nat.reduceAdd, Nat.reduceMul]; rfl)))
 | ((with_reducible refine callV_id (f := 12) ?_); (with_reducible apply callV_f own12 (q1)); (case hx => rfl); (case he => rfl); (case hle => first | ((repeat constructor); done) ); (case hpu => repeat constructor); (case' hK => conv => whnf))
 | ((with_reducible refine callV_id (f := 16) ?_); (with_reducible apply callV_f own16 (q2)); (case hx => rfl); (case he => rfl); (case hle => first | ((repeat constructor); done) ); (case hpu => repeat constructor); (case' hK => conv => whnf))
 | ((with_reducible refine callV_id (f := 9) ?_); (with_reducible apply callV_f own9 (q5)); (case hx => rfl); (case he => rfl); (case hle => first | ((repeat constructor); done) ); (case hpu => repeat constructor); (case' hK => conv => whnf))
 | ((with_reducible refine callV_id (f := 10) ?_); (with_reducible apply callV_f own10 (q6)); (case hx => rfl); (case he => rfl); (case hle => first | ((repeat constructor); done) ); (case hpu => repeat constructor); (case' hK => conv => whnf))
 | ((with_reducible refine callV_id (f := 21) ?_); (with_reducible apply callV_f own21 (q3)); (case hx => rfl); (case he => rfl); (case hle => first | ((repeat constructor); done) ); (case hpu => repeat constructor); (case' hK => conv => whnf))
 | ((with_reducible refine callV_id (f := 7) ?_); (with_reducible apply callV_f own7 (c_deskBegun)); (case hx => rfl); (case he => rfl); (case hle => first | ((repeat constructor); done) ); (case hpu => repeat constructor); (case' hK => conv => whnf))
 | ((with_reducible refine callV_id (f := 13) ?_); (with_reducible apply callV_f own13 (r3)); (case hx => rfl); (case he => rfl); (case hle => first | ((repeat constructor); done) ); (case hpu => repeat constructor); (case' hK => conv => whnf))
 | ((with_reducible refine callV_id (f := 22) ?_); (with_reducible apply callV_f own22 (r4)); (case hx => rfl); (case he => rfl); (case hle => first | ((repeat constructor); done) ); (case hpu => repeat constructor); (case' hK => conv => whnf))
 | ((with_reducible refine callV_id (f := 23) ?_); (with_reducible apply callV_f own23 (q4)); (case hx => rfl); (case he => rfl); (case hle => first | ((repeat constructor); done) ); (case hpu => repeat constructor); (case' hK => conv => whnf))
 | ((with_reducible apply go_cond); (case hb => rfl))
 | ((with_reducible first | refine w_ret Tryz.tab fun K' hL => ?_ ); (conv => whnf))
 | ((with_reducible apply And.intro); (case' right => try (conv => whnf)); (case' left => try first | rfl | decide | (simp [ds0, tk0, st0, vw0, cu0, ou0]; done) ))
 | (refine ⟨_, eqAT (by rfl) (by rfl) (by rfl) (by rfl), ?_⟩; conv => whnf)
 | (first  | intro g1; try simp at g1))
      all_goals first | exact .refl _ | exact absurd (by assumption) c2
  · have e : actS t v a = (ds0, trackE t) := by
      have : actE t v = trackE t := if_neg c1
      rw [actS, if_neg (by rw [this]; exact c1), this]
    rw [e] at q1
    refine v_pspec Tryz.func4 rfl Tryz.ntmps4 Tryz.results4 (by simp) (by first | exact .s _ | repeat constructor) ?_
    repeat' (first
 | (with_reducible first | apply qz0 | (refine h0 _ _ ?_; clear h0 hw) | (refine hw _ _ _ ?_; clear h0 hw) | apply qz1 | apply qz2 | apply qz6 | (refine hL _ ?_; clear hL))
 | (with_reducible first | refine w_reg (by decide +kernel) fun K1 hK => ?_ | refine w_reg_end (by decide +kernel) fun K1 hK => ?_)
 | with_reducible refine go_seq ?_
 | ((with_reducible first | apply v_op Tryz.tab | apply v_op0 Tryz.tab) <;> first | (intro K' h0 hw; conv => whnf) | (simp only [Nat.reduceAdd, Nat.reduceMul]; rfl))
 | ((with_reducible apply v_nil); (case hm => (simp only [Nat.reduceAdd, Nat.reduceMul]; rfl)); (case' h => with_reducible refine hK _ ?_; clear hK))
 | (first | refine v_grd_yes (by rfl) (by rfl) ?_)
 | ((first | (apply v_grd; (case hg => rfl); (case hb => rfl))); (case hi => (simp only [Nat.reduceAdd, Nat.reduceMul]; rfl)))
 | ((with_reducible refine callV_id (f := 12) ?_); (with_reducible apply callV_f own12 (q1)); (case hx => rfl); (case he => rfl); (case hle => first | ((repeat constructor); done) ); (case hpu => repeat constructor); (case' hK => conv => whnf))
 | ((with_reducible refine callV_id (f := 16) ?_); (with_reducible apply callV_f own16 (q2)); (case hx => rfl); (case he => rfl); (case hle => first | ((repeat constructor); done) ); (case hpu => repeat constructor); (case' hK => conv => whnf))
 | ((with_reducible refine callV_id (f := 9) ?_); (with_reducible apply callV_f own9 (q5)); (case hx => rfl); (case he => rfl); (case hle => first | ((repeat constructor); done) ); (case hpu => repeat constructor); (case' hK => conv => whnf))
 | ((with_reducible refine callV_id (f := 21) ?_); (with_reducible apply callV_f own21 (q3)); (case hx => rfl); (case he => rfl); (case hle => first | ((repeat constructor); done) ); (case hpu => repeat constructor); (case' hK => conv => whnf))
 | ((with_reducible refine callV_id (f := 7) ?_); (with_reducible apply callV_f own7 (c_deskBegun)); (case hx => rfl); (case he => rfl); (case hle => first | ((repeat constructor); done) ); (case hpu => repeat constructor); (case' hK => conv => whnf))
 | ((with_reducible refine callV_id (f := 13) ?_); (with_reducible apply callV_f own13 (r3)); (case hx => rfl); (case he => rfl); (case hle => first | ((repeat constructor); done) ); (case hpu => repeat constructor); (case' hK => conv => whnf))
 | ((with_reducible refine callV_id (f := 22) ?_); (with_reducible apply callV_f own22 (r4)); (case hx => rfl); (case he => rfl); (case hle => first | ((repeat constructor); done) ); (case hpu => repeat constructor); (case' hK => conv => whnf))
 | ((with_reducible refine callV_id (f := 23) ?_); (with_reducible apply callV_f own23 (q4)); (case hx => rfl); (case he => rfl); (case hle => first | ((repeat constructor); done) ); (case hpu => repeat constructor); (case' hK => conv => whnf))
 | ((with_reducible apply go_cond); (case hb => rfl))
 | ((with_reducible first | refine w_ret Tryz.tab fun K' hL => ?_ ); (conv => whnf))
 | ((with_reducible apply And.intro); (case' right => try (conv => whnf)); (case' left => try first | rfl | decide | (simp [ds0, tk0, st0, vw0, cu0, ou0]; done) ))
 | (refine ⟨_, eqAT (by rfl) (by rfl) (by rfl) (by rfl), ?_⟩; conv => whnf)
 | (first  | intro g1; try simp at g1))
    all_goals first | exact .refl _ | exact absurd (by assumption) c1
theorem cells_act {cx : List AV} (h : ReadsL [.int .i64, .int .i64, .str] cx) : ∃ a : Ac, cx = acC a ∧ a.text.size ≤ reachBytes := by
  obtain ⟨_, _, rfl, ⟨k, rfl, _⟩, _, _, rfl, ⟨n, rfl, _⟩, _, _, rfl, ⟨s, rfl, hs⟩, rfl⟩ := h
  exact ⟨⟨k, n, s⟩, rfl, hs⟩
theorem reads_act {a : AV} (h : ReadsArg (.agg [.int .i64, .int .i64, .str]) a) : ∃ x : Ac, a = .agg (acC x) ∧ x.text.size ≤ 1000000000000000 := by
  obtain ⟨_, rfl, h⟩ := h
  obtain ⟨x, rfl, hx⟩ := cells_act h
  exact ⟨x, rfl, by unfold reachBytes at hx; omega⟩
theorem reads_pkts {a : AV} (h : ReadsArg (.sl 6 40 (.agg [.int .i64, .int .i64, .bool, .bool, .bool, .str])) a) : ∃ l : List Pkt, a = pkts l := by
  obtain ⟨es, h1, h2, h3⟩ := h
  obtain ⟨l, h4, h5⟩ := map_of (f := pktC) (Q := fun _ => True) (es := es) fun x hx => by obtain ⟨s, hs, _⟩ := cells_pkt (h2 x hx); exact ⟨s, hs, trivial⟩
  cases h1
  exact ⟨l, by rw [h4]⟩
theorem law_deskTells (args : List AV) (h : ReadsArgs [shTk, shVw, .agg [.int .i64, .int .i64, .str], .sl 6 40 (.agg [.int .i64, .int .i64, .bool, .bool, .bool, .str])] args) (_ : True) : PSpec Tryz.prog 4 args (B true) := by
  obtain ⟨_, _, rfl, h1, _, _, rfl, h2, _, _, rfl, h3, _, _, rfl, h4, rfl⟩ := h
  obtain ⟨t, rfl, ht⟩ := reads_tk h1
  obtain ⟨v, rfl⟩ := reads_vw h2
  obtain ⟨x, rfl, hx⟩ := reads_act h3
  obtain ⟨l, rfl⟩ := reads_pkts h4
  exact c_deskTells t v x l ht hx
end Go.Proofs.YtdanlpkclkjkcaaGreat

/- DeskRuns, walked. No condition. -/
import Derived.Test.YtdanlpkclkjkcaaGreatDeskW
namespace Go.Proofs.YtdanlpkclkjkcaaGreat
open Go Go.Sy
set_option maxRecDepth 4000
set_option linter.unusedSimpArgs false
attribute [local irreducible] Reg RegD Later Out CallV Tri Side EqV
theorem runL_ok : ∀ (l : List Ac) (d : Ds) (es : List Int), RightT d.t → OkV d.v → RightT (runL l d es).1.t ∧ OkV (runL l d es).1.v ∧ (runL l d es).1.l.length ≤ d.l.length + 404 * l.length ∧ (runL l d es).2.length = es.length + l.length
  | [], d, es, h1, h2 => ⟨h1, h2, by simp [runL], by simp [runL]⟩
  | a :: l, d, es, h1, h2 => by
    rw [runL]
    by_cases c : (actR d.t d.v a).2 = 0
    · rw [if_pos c]
      obtain ⟨_, _, k1, k2, k3⟩ := actR_ok h1 h2 c
      obtain ⟨j1, j2, j3, j4⟩ := runL_ok l ⟨(actR d.t d.v a).1.v, (actR d.t d.v a).1.t, d.l ++ (actR d.t d.v a).1.l⟩ (es ++ [(actR d.t d.v a).2]) k1 k2
      refine ⟨j1, j2, ?_, ?_⟩
      · simp only [List.length_append, List.length_cons] at j3 ⊢; omega
      · simp only [List.length_append, List.length_cons, List.length_nil] at j4 ⊢; omega
    · rw [if_neg c]
      obtain ⟨j1, j2, j3, j4⟩ := runL_ok l d (es ++ [(actR d.t d.v a).2]) h1 h2
      refine ⟨j1, j2, ?_, ?_⟩
      · simp only [List.length_cons] at j3 ⊢; omega
      · simp only [List.length_append, List.length_cons, List.length_nil] at j4 ⊢; omega
theorem runS_ok (l : List Ac) : RightT (runS l).1.1.t ∧ OkV (runS l).1.1.v ∧ (runS l).1.1.l.length ≤ 30000 ∧ (runS l).1.2.length ≤ 60 := by
  unfold runS
  split
  · exact ⟨tk0_right, vw0_ok, by simp [ds0], by simp⟩
  · obtain ⟨j1, j2, j3, j4⟩ := runL_ok l ds0 [] tk0_right vw0_ok
    simp only [ds0, List.length_nil] at j3 j4
    exact ⟨j1, j2, by simp only [ds0]; omega, by simp only [ds0]; omega⟩
set_option maxHeartbeats 4000000 in
theorem c_deskRuns (l : List Ac) (hl : l.length ≤ 4400000000000) (hs : ∀ a ∈ l, a.text.size ≤ 1000000000000000) : PSpec Tryz.prog 5 [acts l] (B true) := by
  have q1 := c_run l hl hs
  have q2 := c_runOf l hl hs
  obtain ⟨k1, k2, k3, k4⟩ := runS_ok l
  obtain ⟨r, hr⟩ : ∃ r, r = runS l := ⟨_, rfl⟩
  rw [← hr] at q1 q2 k1 k2 k3 k4
  have q3 := c_sameTrack r.1.1.t r.1.1.t k1.small
  rw [show decide (r.1.1.t = r.1.1.t) = true by simp] at q3
  have q4 := c_samePackets r.1.1.l r.1.1.l (by omega)
  rw [show decide (r.1.1.l = r.1.1.l) = true by simp] at q4
  refine v_pspec Tryz.func5 rfl Tryz.ntmps5 Tryz.results5 (by simp) (by first | exact .s _ | repeat constructor) ?_
  repeat' (first
 | (with_reducible first | apply qz0 | (refine h0 _ _ ?_; clear h0 hw) | (refine hw _ _ _ ?_; clear h0 hw) | apply qz1 | apply qz2 | apply qz3 | apply qz4 | apply qz5 | apply qz6 | apply qz7 | apply qz8 | apply qz9 | apply qza | apply qzb | apply qzc | apply qzd | apply qze | (refine hL _ ?_; clear hL))
 | (with_reducible first | refine w_reg (by decide +kernel) fun K1 hK => ?_ | refine w_reg_end (by decide +kernel) fun K1 hK => ?_)
 | ((with_reducible first | apply d_reg Tryz.mix (by decide +kernel) | apply d_reg_end Tryz.mix (by decide +kernel)); (case hm => simp only [List.length_cons, List.length_nil, Nat.reduceAdd, Nat.reduceMul]; rfl); (case' h => intro K1 hK))
 | with_reducible refine go_seq ?_
 | ((with_reducible first | apply v_op Tryz.tab | apply v_op0 Tryz.tab | apply d_op Tryz.tab | apply d_op0 Tryz.tab) <;> first | (intro K' h0 hw; conv => whnf) | (simp only [Nat.reduceAdd, Nat.reduceMul]; rfl))
 | ((with_reducible apply v_nil); (case hm => (simp only [Nat.reduceAdd, Nat.reduceMul]; rfl)); (case' h => with_reducible refine hK _ ?_; clear hK))
 | ((with_reducible apply d_nil); (refine hK _ _ _ _ (by first | decide +kernel | (simp only [List.map_cons, List.map_nil, List.nil_append, List.cons_append]; decide +kernel) | rfl) ?_; clear hK))
 | (first | refine d_grd_yes (by rfl) (by rfl) ?_ | refine v_grd_yes (by rfl) (by rfl) ?_)
 | ((first | (apply d_grd_no; (case hg => rfl); (case hb => rfl)) | (apply d_grd_undef; (case hg => rfl); (case hb => rfl)) | (apply d_grd; (case hg => rfl); (case hb => rfl)) | (apply v_grd_no; (case hg => rfl); (case hb => rfl)) | (apply v_grd_undef; (case hg => rfl); (case hb => rfl)) | (apply v_grd; (case hg => rfl); (case hb => rfl))); (case hi => (simp only [Nat.reduceAdd, Nat.reduceMul]; rfl)))
 | ((with_reducible refine callV_id (f := 17) ?_); (with_reducible apply callV_f own17 (q1)); (case hx => rfl); (case he => rfl); (case hle => first | ((repeat constructor); done) | (simp; done)); (case hpu => repeat constructor); (case' hK => conv => whnf))
 | ((with_reducible refine callV_id (f := 24) ?_); (with_reducible apply callV_f own24 (q2)); (case hx => rfl); (case he => rfl); (case hle => first | ((repeat constructor); done) | (simp; done)); (case hpu => repeat constructor); (case' hK => conv => whnf))
 | ((with_reducible refine callV_id (f := 13) ?_); (with_reducible apply callV_f own13 (q3)); (case hx => rfl); (case he => rfl); (case hle => first | ((repeat constructor); done) | (simp; done)); (case hpu => repeat constructor); (case' hK => conv => whnf))
 | ((with_reducible refine callV_id (f := 22) ?_); (with_reducible apply callV_f own22 (q4)); (case hx => rfl); (case he => rfl); (case hle => first | ((repeat constructor); done) | (simp; done)); (case hpu => repeat constructor); (case' hK => conv => whnf))
 | ((with_reducible refine callV_id (f := 7) ?_); (with_reducible apply callV_f own7 (c_deskBegun)); (case hx => rfl); (case he => rfl); (case hle => first | ((repeat constructor); done) | (simp; done)); (case hpu => repeat constructor); (case' hK => conv => whnf))
 | ((with_reducible apply go_cond); (case hb => rfl))
 | ((with_reducible apply out_block_there); (case hne => rfl))
 | ((with_reducible first | refine w_ret Tryz.tab fun K' hL => ?_ | refine w_ret_end Tryz.tab fun K' hL => ?_); (conv => whnf))
 | ((with_reducible apply And.intro); (case' right => try (conv => whnf)); (case' left => try first | rfl | decide | (simp; done) | (simp (disch := omega) only [wrp]; omega) | (simp (disch := omega) [wrp]; (try omega); done)))
 | ((with_reducible apply Side.mk); (try simp (disch := omega) only [wrp]); (try simp); (try simp (disch := omega) only [wrp]); (try omega))
 | ((with_reducible apply all_rk); (case hx => with_reducible assumption); (conv => whnf))
 | ((with_reducible refine all_row ?_); (first  | intro x1 hx1); conv => whnf)
 | (refine ⟨_, eqAT (by rfl) (by rfl) (by rfl) (by rfl), ?_⟩; conv => whnf)
 | (first  | intro g1; try simp at g1))
  refine w_loop (X := Nat) [2, 13, 61, 62, 63, 64, 65, 66, 67, 68, 69, 70, 71, 72, 73, 74, 75] (fun i => [(13, I i)]) (fun _ => []) (fun i => i ≤ r.1.2.length) (fun i => r.1.2.length - i) 0 (by simp) ?_ ?_
  · refine ⟨kt_refl, ko_refl, ?_, ?_, ?_, ?_, Nat.le_refl _⟩ <;> simp
  intro i hi
  repeat' (first
 | (with_reducible first | apply qz0 | (refine h0 _ _ ?_; clear h0 hw) | (refine hw _ _ _ ?_; clear h0 hw) | apply qz1 | apply qz2 | apply qz3 | apply qz4 | apply qz5 | apply qz6 | apply qz7 | apply qz8 | apply qz9 | apply qza | apply qzb | apply qzc | apply qzd | apply qze | (refine hL _ ?_; clear hL))
 | (with_reducible first | refine w_reg (by decide +kernel) fun K1 hK => ?_ | refine w_reg_end (by decide +kernel) fun K1 hK => ?_)
 | ((with_reducible first | apply d_reg Tryz.mix (by decide +kernel) | apply d_reg_end Tryz.mix (by decide +kernel)); (case hm => simp only [List.length_cons, List.length_nil, Nat.reduceAdd, Nat.reduceMul]; rfl); (case' h => intro K1 hK))
 | with_reducible refine go_seq ?_
 | ((with_reducible first | apply v_op Tryz.tab | apply v_op0 Tryz.tab | apply d_op Tryz.tab | apply d_op0 Tryz.tab) <;> first | (intro K' h0 hw; conv => whnf) | (simp only [Nat.reduceAdd, Nat.reduceMul]; rfl))
 | ((with_reducible apply v_nil); (case hm => (simp only [Nat.reduceAdd, Nat.reduceMul]; rfl)); (case' h => with_reducible refine hK _ ?_; clear hK))
 | ((with_reducible apply d_nil); (refine hK _ _ _ _ (by first | decide +kernel | (simp only [List.map_cons, List.map_nil, List.nil_append, List.cons_append]; decide +kernel) | rfl) ?_; clear hK))
 | (first | refine d_grd_yes (by rfl) (by rfl) ?_ | refine v_grd_yes (by rfl) (by rfl) ?_)
 | ((first | (apply d_grd_no; (case hg => rfl); (case hb => rfl)) | (apply d_grd_undef; (case hg => rfl); (case hb => rfl)) | (apply d_grd; (case hg => rfl); (case hb => rfl)) | (apply v_grd_no; (case hg => rfl); (case hb => rfl)) | (apply v_grd_undef; (case hg => rfl); (case hb => rfl)) | (apply v_grd; (case hg => rfl); (case hb => rfl))); (case hi => (simp only [Nat.reduceAdd, Nat.reduceMul]; rfl)))
 | ((with_reducible apply go_cond); (case hb => rfl))
 | ((with_reducible apply out_block_there); (case hne => rfl))
 | ((with_reducible first | refine w_ret Tryz.tab fun K' hL => ?_ | refine w_ret_end Tryz.tab fun K' hL => ?_); (conv => whnf))
 | ((with_reducible apply And.intro); (case' right => try (conv => whnf)); (case' left => try first | rfl | decide | (simp; done) | (simp (disch := omega) only [wrp]; omega) | (simp (disch := omega) [wrp]; (try omega); done)))
 | ((with_reducible apply Side.mk); (try simp (disch := omega) only [wrp]); (try simp); (try simp (disch := omega) only [wrp]); (try omega))
 | ((with_reducible apply all_rk); (case hx => with_reducible assumption); (conv => whnf))
 | ((with_reducible refine all_row ?_); (first  | intro x1 hx1); conv => whnf)
 | (refine ⟨_, eqAT (by rfl) (by rfl) (by rfl) (by rfl), ?_⟩; conv => whnf)
 | (first  | intro g1; try simp at g1))
  · ((refine w_nx ((i + 1)) ?_ ?_ ?_ ?_ ?_ ?_); (case refine_1 => simp); (case refine_2 => simp); (case refine_3 => simp (disch := omega) [wrp]); (case refine_4 => simp); (case refine_5 => first | (simp; omega) | (simp; done) | omega | (simp only; omega)); (case' refine_6 => (try simp only); (try exact trivial)))
    omega
  · exact .refl _
theorem cells_act {cx : List AV} (h : ReadsL [.int .i64, .int .i64, .str] cx) : ∃ a : Ac, cx = acC a ∧ a.text.size ≤ reachBytes := by
  obtain ⟨_, _, rfl, ⟨k, rfl, _⟩, _, _, rfl, ⟨n, rfl, _⟩, _, _, rfl, ⟨s, rfl, hs⟩, rfl⟩ := h
  exact ⟨⟨k, n, s⟩, rfl, hs⟩
theorem reads_acts {a : AV} (h : ReadsArg (.sl 3 32 (.agg [.int .i64, .int .i64, .str])) a) : ∃ l : List Ac, a = acts l ∧ l.length ≤ 4400000000000 ∧ ∀ s ∈ l, s.text.size ≤ 1000000000000000 := by
  obtain ⟨es, h1, h2, h3⟩ := h
  obtain ⟨l, h4, h5⟩ := map_of (f := acC) (Q := fun a => a.text.size ≤ reachBytes) (es := es) fun x hx => by obtain ⟨s, hs, hq⟩ := cells_act (h2 x hx); exact ⟨s, hs, hq⟩
  cases h1
  refine ⟨l, by rw [h4], ?_, fun s hs => by have := h5 s hs; unfold reachBytes at this; omega⟩
  rw [h4, List.length_map] at h3
  unfold reachBytes at h3; omega
theorem law_deskRuns (args : List AV) (h : ReadsArgs [.sl 3 32 (.agg [.int .i64, .int .i64, .str])] args) (_ : True) : PSpec Tryz.prog 5 args (B true) := by
  obtain ⟨_, _, rfl, h1, rfl⟩ := h
  obtain ⟨l, rfl, hl, hs⟩ := reads_acts h1
  exact c_deskRuns l hl hs
end Go.Proofs.YtdanlpkclkjkcaaGreat

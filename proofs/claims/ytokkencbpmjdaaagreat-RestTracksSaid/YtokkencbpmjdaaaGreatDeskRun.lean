/- Scripts, walked. No condition. -/
import Derived.Test.YtokkencbpmjdaaaGreatDeskRef
namespace Go.Proofs.YtokkencbpmjdaaaGreat
open Go Go.Sy
set_option maxRecDepth 4000
set_option linter.unusedSimpArgs false
set_option linter.unusedVariables false
attribute [local irreducible] Reg RegD Later Out CallV Tri Side EqV Pause
abbrev runT (r : (Ds × List Int) × Int) : AV := .tup [.agg (tkC r.1.1.t), .agg (vwC r.1.1.v), pkts r.1.1.l, errs r.1.2, I r.2]
set_option maxHeartbeats 8000000 in
theorem c_run (l : List Ac) (hl : l.length ≤ 4400000000000) (hs : ∀ a ∈ l, a.text.size ≤ 1000000000000000) : PSpec Tryz.prog 15 [acts l] (runT (runS l)) := by
  by_cases h60 : 60 < l.length
  · rw [show runS l = ((ds0, []), 2) from if_pos h60]
    refine p_pspec Tryz.func15 Tryz.ntmps15 Tryz.results15 ?_
    repeat' (first
 | ((with_reducible refine halt_in (code := .seq (.region 5 _ _) _) ?_); exfalso; omega)
 | (with_reducible first | apply qz0 | (refine h0 _ _ ?_; clear h0 hw) | (refine hw _ _ _ ?_; clear h0 hw) | apply qz1 | apply qz2 | apply qz5 | apply qz6 | (refine hL _ ?_; clear hL))
 | refine p_reg fun K1 hK => ?_
 | refine p_dreg Tryz.mix fun K1 hK => ?_
 | apply go_seq
 | ((first | refine p_op Tryz.tab fun K' h0 hw => ?_ | refine p_dop Tryz.tab fun K' h0 hw => ?_ | refine p_dop0 Tryz.tab fun K' h0 hw => ?_); conv => whnf)
 | (refine p_nil (hK _ ?_); clear hK)
 | (refine d_nil (p_obj ?_ (hK _ _ _ _)); clear hK)
 | ((with_reducible apply go_cond); (case hb => rfl))
 | ((with_reducible first | refine w_ret Tryz.tab fun K' hL => ?_ ); (conv => whnf))
 | ((with_reducible apply And.intro); (case' right => try (conv => whnf)); (case' left => try first | rfl | decide ))
 | (first | (guard_hyp g3; intro g4; try simp at g4) | (guard_hyp g2; intro g3; try simp at g3) | (guard_hyp g1; intro g2; try simp at g2) | intro g1; try simp at g1))
    all_goals (simp [ds0, tk0, st0, vw0, cu0, ou0]; done)
  rw [show runS l = (runL l ds0 [], 0) from if_neg h60]
  obtain ⟨T, hT⟩ : ∃ T, T = runL l ds0 [] := ⟨_, rfl⟩
  rw [← hT]
  have hrw : ∀ (d : Ds) (x : Ac), RightT d.t → OkV d.v → x ∈ l → PSpec Tryz.prog 37 [.agg (tkC d.t), .agg (vwC d.v), .agg (acC x)] (dsT (actR d.t d.v x)) := fun d x h1 h2 h3 => c_deskRaw d.t d.v x h1 h2 (hs x h3)
  refine p_pspec Tryz.func15 Tryz.ntmps15 Tryz.results15 ?_
  repeat' (first
 | ((with_reducible apply w_ownNil 9 66 6); (case hs => rfl); (case hsz => decide); (case hm => (try simp only [Nat.reduceAdd, Nat.reduceMul]); exact rfl))
 | ((with_reducible apply w_ownNil 10 45 1); (case hs => rfl); (case hsz => decide); (case hm => (try simp only [Nat.reduceAdd, Nat.reduceMul]); exact rfl))
 | (with_reducible first | apply qz0 | (refine h0 _ _ ?_; clear h0 hw) | (refine hw _ _ _ ?_; clear h0 hw) | apply qz1 | apply qz2 | apply qz3 | apply qz5 | apply qz6 | (refine hL _ ?_; clear hL))
 | refine p_reg fun K1 hK => ?_
 | refine p_dreg Tryz.mix fun K1 hK => ?_
 | apply go_seq
 | ((first | refine p_op Tryz.tab fun K' h0 hw => ?_ | refine p_dop Tryz.tab fun K' h0 hw => ?_ | refine p_dop0 Tryz.tab fun K' h0 hw => ?_); conv => whnf)
 | (refine p_nil (hK _ ?_); clear hK)
 | (refine d_nil (p_obj ?_ (hK _ _ _ _)); clear hK)
 | ((with_reducible apply go_cond); (case hb => rfl))
 | ((with_reducible first | refine w_ret Tryz.tab fun K' hL => ?_ ); (conv => whnf))
 | ((with_reducible apply And.intro); (case' right => try (conv => whnf)); (case' left => try first | rfl | decide ))
 | (first | (guard_hyp g3; intro g4; try simp at g4) | (guard_hyp g2; intro g3; try simp at g3) | (guard_hyp g1; intro g2; try simp at g2) | intro g1; try simp at g1))
  all_goals (try (exfalso; omega))
  refine w_loop (X := Nat × Ds × List Int) [9, 10, 12, 13, 14, 15, 16, 24, 25, 26, 27, 28, 29, 30, 31, 32, 33, 34, 35, 36, 37, 38, 39, 40, 41, 42, 43, 44, 45, 46, 47, 48] (fun x => [(24, I x.1), (9, .osl 176 6 (rowP x.2.1.l)), (10, .osl 208 1 (rowE x.2.2))]) (fun x => [(80, .box (tkC x.2.1.t)), (96, .box (vwC x.2.1.v)), (176, .perm 66 6 x.2.1.l.length), (208, .perm 45 1 x.2.2.length)])
    (fun x => x.1 ≤ l.length ∧ runL (l.drop x.1) x.2.1 x.2.2 = T ∧ RightT x.2.1.t ∧ OkV x.2.1.v ∧ x.2.1.l.length ≤ 404 * x.1 ∧ x.2.2.length = x.1) (fun x => l.length - x.1) (0, ds0, []) ?_ ?_ ?_
  · exact ⟨Nat.zero_le _, hT.symm, tk0_right, vw0_ok, by simp [ds0], rfl⟩
  · refine ⟨kt_refl, ko_refl, ?_, ?_, ?_, ?_, Nat.le_refl _⟩ <;> simp [ds0, tk0, st0, vw0, cu0, ou0]
  rintro ⟨i, d, es⟩ ⟨h1, h2, h3, h4, h5, h6⟩
  simp only at h1 h2 h3 h4 h5 h6
  have hmx : ∀ {x1 : Ac}, l[i]? = some x1 → x1 ∈ l := fun h => List.mem_of_getElem? h
  have hln := fun a => actR_len a h3 h4
  repeat' (first
 | (with_reducible first | apply qz0 | (refine h0 _ _ ?_; clear h0 hw) | (refine hw _ _ _ ?_; clear h0 hw) | apply qz1 | apply qz2 | apply qz3 | apply qz4 | apply qz6 | apply qz7 | apply qz9 | apply qza | apply qzc | (refine hL _ ?_; clear hL))
 | refine p_reg fun K1 hK => ?_ | refine p_regE fun K1 hK => ?_
 | refine p_dreg Tryz.mix fun K1 hK => ?_
 | apply go_seq
 | ((first | refine p_op Tryz.tab fun K' h0 hw => ?_ | refine p_op0 Tryz.tab fun K' h0 hw => ?_ | refine p_dop Tryz.tab fun K' h0 hw => ?_ | refine p_dop0 Tryz.tab fun K' h0 hw => ?_); conv => whnf)
 | (refine p_nil (hK _ ?_); clear hK)
 | (refine d_nil (p_obj ?_ (hK _ _ _ _)); clear hK)
 | ((with_reducible refine callV_id (f := 37) ?_); have hcs_ := hrw d x1 h3 h4 (hmx (by simpa using hx1)); (with_reducible apply callV_f own37 (hcs_)); (case hx => rfl); (case he => rfl); (case hle => first | ((repeat constructor); done) ); (case hpu => repeat constructor); (case' hK => (try clear hcs_); conv => whnf))
 | ((with_reducible apply go_cond); (case hb => rfl))
 | ((with_reducible first | refine w_ret Tryz.tab fun K' hL => ?_ ); (conv => whnf))
 | ((with_reducible apply And.intro); (case' right => try (conv => whnf)); (case' left => try first | rfl | decide | (simp; done) ))
 | ((with_reducible apply Side.mk); (try simp (disch := omega) only [wrp]); (try simp); (try simp (disch := omega) only [wrp]); (try omega))
 | ((with_reducible refine all_row ?_); (first | intro x1 hx1); conv => whnf)
 | (first | (guard_hyp g3; intro g4; try simp at g4) | (guard_hyp g2; intro g3; try simp at g3) | (guard_hyp g1; intro g2; try simp at g2) | intro g1; try simp at g1))
  all_goals (try simp at hx1)
  · have := hln x1; omega
  · have := hln x1; omega
  · rw [runL_at hx1, if_pos g3] at h2
    obtain ⟨_, _, k1, k2, k3⟩ := actR_ok h3 h4 g3
    (refine p_nx ((i + 1, ⟨(actR d.t d.v x1).1.v, (actR d.t d.v x1).1.t, d.l ++ (actR d.t d.v x1).1.l⟩, es ++ [(actR d.t d.v x1).2])) ?_; (try simp only); (try exact trivial))
    exact ⟨by omega, h2, k1, k2, by simp only [List.length_append]; omega, by simp only [List.length_append, List.length_cons, List.length_nil]; omega⟩
  · rw [runL_at hx1, if_neg g3] at h2
    (refine p_nx ((i + 1, d, es ++ [(actR d.t d.v x1).2])) ?_; (try simp only); (try exact trivial))
    exact ⟨by omega, h2, h3, h4, by omega, by simp only [List.length_append, List.length_cons, List.length_nil]; omega⟩
  · rw [List.drop_eq_nil_of_le g2] at h2
    rw [← h2]
    simp [runL]
end Go.Proofs.YtokkencbpmjdaaaGreat

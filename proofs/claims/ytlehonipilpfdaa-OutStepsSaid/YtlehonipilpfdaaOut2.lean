/- Walks of out.Raw, out.Send, SendOf, SamePackets. No condition. -/
import Derived.Test.YtlehonipilpfdaaOut
namespace Go.Proofs.Ytlehonipilpfdaa
open Go Go.Sy
set_option maxRecDepth 4000
set_option linter.unusedSimpArgs false
set_option linter.unusedVariables false
attribute [local irreducible] Reg RegD Later Out CallV Tri Side EqV
def ou0 : Ou := ⟨0, 0, 0⟩
def rawS (o : Ou) (f : Fr) (turn : Bool) : Ou × List Pkt × Int := if (frameS o f turn).2.2 = 0 then frameS o f turn else (ou0, [], (frameS o f turn).2.2)
def outT (x : Ou × List Pkt × Int) : AV := .tup [.agg (ouC x.1), pkts x.2.1, I x.2.2]
theorem outT_pu (x : Ou × List Pkt × Int) : Pu (outT x) := by unfold outT; repeat constructor
set_option maxHeartbeats 1000000 in
theorem c_raw (o : Ou) (f : Fr) (turn : Bool) (ho : outOK o) (hf : 0 ≤ f.time ∧ f.time ≤ 1000000 ∧ f.parts.length ≤ 4) :
    PSpec Try.prog 47 [.agg (ouC o), .agg (frC f), B turn] (outT (rawS o f turn)) := by
  refine v_pspec Try.func47 rfl Try.ntmps47 Try.results47 (by simp) (outT_pu _) ?_
  repeat' (first
    | ((with_reducible apply w_ownCell 112 3 33 6); (case hb => rfl); (case hj => rfl); (case hsz => decide); (case hm => (try simp only [Nat.reduceAdd, Nat.reduceMul]); exact rfl))
    | (with_reducible first | refine go_later ?_ | (refine h0 _ _ ?_; clear h0 hw) | (refine hw _ _ _ ?_; clear h0 hw) | refine go_ret ?_ | refine go_skip ?_ | refine go_block ?_ | refine go_exit ?_ | refine out_seq_ret ?_ | refine out_seq_normal ?_ | refine out_seq_exit ?_ | refine out_block_ret ?_ | refine out_block_normal ?_ | refine out_block_here ?_ | refine out_loop_ret ?_ | refine out_loop_exit ?_ | refine out_loopR_ret ?_ | refine out_loopR_exit ?_ | refine out_seq_panic ?_ | refine out_block_panic ?_ | refine out_loop_panic ?_ | (refine hL _ ?_; clear hL))
    | (with_reducible first | refine w_reg (by decide +kernel) fun K1 hK => ?_ | refine w_reg_end (by decide +kernel) fun K1 hK => ?_)
    | ((with_reducible first | apply d_reg Try.mix (by decide +kernel) | apply d_reg_end Try.mix (by decide +kernel)); (case hm => simp only [List.length_cons, List.length_nil, Nat.reduceAdd, Nat.reduceMul]; rfl); (case' h => intro K1 hK))
    | with_reducible refine go_seq ?_
    | ((with_reducible first | apply v_op Try.tab | apply v_op0 Try.tab | apply d_op Try.tab | apply d_op0 Try.tab) <;> first | (intro K' h0 hw; conv => whnf) | (simp only [Nat.reduceAdd, Nat.reduceMul]; rfl))
    | ((with_reducible apply v_nil); (case hm => (simp only [Nat.reduceAdd, Nat.reduceMul]; rfl)); (case' h => with_reducible refine hK _ ?_; clear hK))
    | ((with_reducible apply d_nil); (refine hK _ _ _ _ (by first | decide +kernel | (simp only [List.map_cons, List.map_nil, List.nil_append, List.cons_append]; decide +kernel) | rfl) ?_; clear hK))
    | (first | refine d_grd_yes (by rfl) (by rfl) ?_ | refine v_grd_yes (by rfl) (by rfl) ?_)
    | (apply d_grd_no; (case hg => rfl); (case hb => rfl); (case hi => (simp only [Nat.reduceAdd, Nat.reduceMul]; rfl)))
    | (apply d_grd_undef; (case hg => rfl); (case hb => rfl); (case hi => (simp only [Nat.reduceAdd, Nat.reduceMul]; rfl)))
    | (apply d_grd; (case hg => rfl); (case hb => rfl); (case hi => (simp only [Nat.reduceAdd, Nat.reduceMul]; rfl)))
    | (apply v_grd_no; (case hg => rfl); (case hb => rfl); (case hi => (simp only [Nat.reduceAdd, Nat.reduceMul]; rfl)))
    | (apply v_grd_undef; (case hg => rfl); (case hb => rfl); (case hi => (simp only [Nat.reduceAdd, Nat.reduceMul]; rfl)))
    | (apply v_grd; (case hg => rfl); (case hb => rfl); (case hi => (simp only [Nat.reduceAdd, Nat.reduceMul]; rfl)))
    | ((with_reducible refine callV_id (f := 78) ?_); have hcs_ := c_frame o f turn ho hf; (with_reducible apply w_callO [112, 144] own78 (hcs_)); (case hx => rfl); (case he => rfl); (case hle => first | ((repeat constructor); done) | (simp [sendObs]; done)); (case hm => rfl); (case hnd => decide); (case' hK => (try clear hcs_); conv => whnf); (any_goals (simp [sendObs]; done)))
    | ((with_reducible apply go_cond); (case hb => rfl))
    | ((with_reducible apply out_block_there); (case hne => rfl))
    | ((with_reducible first | refine w_ret Try.tab fun K' hL => ?_ | refine w_ret_end Try.tab fun K' hL => ?_); (conv => whnf))
    | ((with_reducible apply And.intro); (case' right => try (conv => whnf)); (case' left => try first | rfl | decide | (simp [sendObs]; done)))
    | ((with_reducible apply Side.mk); (try simp (disch := omega) only [wrp]); (try simp); (try omega))
    | ((with_reducible apply all_rk); (case hx => with_reducible assumption); (conv => whnf))
    | ((with_reducible refine all_row ?_); (first | (have _y := hx5; clear _y; intro x6 hx6) | (have _y := hx4; clear _y; intro x5 hx5) | (have _y := hx3; clear _y; intro x4 hx4) | (have _y := hx2; clear _y; intro x3 hx3) | (have _y := hx1; clear _y; intro x2 hx2) | (intro x1 hx1)); conv => whnf)
    | (refine ⟨_, eqAT (by rfl) (by rfl) (by rfl) (by rfl), ?_⟩; conv => whnf)
    | ((first | (have _y := g9; clear _y; intro g10; try simp at g10) | (have _y := g8; clear _y; intro g9; try simp at g9) | (have _y := g7; clear _y; intro g8; try simp at g8) | (have _y := g6; clear _y; intro g7; try simp at g7) | (have _y := g5; clear _y; intro g6; try simp at g6) | (have _y := g4; clear _y; intro g5; try simp at g5) | (have _y := g3; clear _y; intro g4; try simp at g4) | (have _y := g2; clear _y; intro g3; try simp at g3) | (have _y := g1; clear _y; intro g2; try simp at g2) | (intro g1; try simp at g1))))
  · have hv : rawS o f turn = (ou0, [], (frameS o f turn).2.2) := if_neg g1
    rw [hv]; simp [outT, ou0]
  · have hv : rawS o f turn = frameS o f turn := if_pos g1
    rw [hv]; simp [outT, g1]
def sendE (o : Ou) (f : Fr) : Int := if outE o = 0 then frameE f else outE o
def sendS (o : Ou) (f : Fr) (turn : Bool) : Ou × List Pkt × Int := if sendE o f = 0 then rawS o f turn else (ou0, [], sendE o f)
theorem outE_ok {o : Ou} (h : outE o = 0) : outOK o := by
  unfold outE at h
  by_cases c : outOK o
  · exact c
  · rw [if_neg c] at h; cases h
theorem sendE_ok {o : Ou} {f : Fr} (h : sendE o f = 0) : outOK o ∧ 0 ≤ f.time ∧ f.time ≤ 1000000 ∧ f.parts.length ≤ 4 ∧ f.parts ≠ [] ∧ f.parts.any big = false := by
  unfold sendE at h
  by_cases c : outE o = 0
  · rw [if_pos c] at h; exact ⟨outE_ok c, frameE_ok h⟩
  · rw [if_neg c] at h; exact absurd h c
set_option maxHeartbeats 1000000 in
theorem c_send (o : Ou) (f : Fr) (turn : Bool) (hl : f.parts.length ≤ 17592186043904) :
    PSpec Try.prog 13 [.agg (ouC o), .agg (frC f), B turn] (outT (sendS o f turn)) := by
  refine v_pspec Try.func13 rfl Try.ntmps13 Try.results13 (by simp) (outT_pu _) ?_
  by_cases h : sendE o f = 0
  · have hk := sendE_ok h
    have hv : sendS o f turn = rawS o f turn := if_pos h
    rw [hv]
    repeat' (first
    | ((first | with_reducible refine w_cut (x := .cond (.tmp 13) _ _) (X := Unit) [9, 12, 13, 14, 15] (fun _ => [(9, I (sendE o f))]) (fun _ => []) (fun _ => True) ?_ ?_ | with_reducible refine w_cut (x := .seq (.region _ _ _) (.cond (.tmp 13) _ _)) (X := Unit) [9, 12, 13, 14, 15] (fun _ => [(9, I (sendE o f))]) (fun _ => []) (fun _ => True) ?_ ?_); (try (rintro z hz; simp only at hz)))
    | (with_reducible first | refine go_later ?_ | (refine h0 _ _ ?_; clear h0 hw) | (refine hw _ _ _ ?_; clear h0 hw) | refine go_ret ?_ | refine go_skip ?_ | refine go_block ?_ | refine go_exit ?_ | refine out_seq_ret ?_ | refine out_seq_normal ?_ | refine out_seq_exit ?_ | refine out_block_ret ?_ | refine out_block_normal ?_ | refine out_block_here ?_ | refine out_loop_ret ?_ | refine out_loop_exit ?_ | refine out_loopR_ret ?_ | refine out_loopR_exit ?_ | refine out_seq_panic ?_ | refine out_block_panic ?_ | refine out_loop_panic ?_ | (refine hL _ ?_; clear hL))
    | (with_reducible first | refine w_reg (by decide +kernel) fun K1 hK => ?_ | refine w_reg_end (by decide +kernel) fun K1 hK => ?_)
    | ((with_reducible first | apply d_reg Try.mix (by decide +kernel) | apply d_reg_end Try.mix (by decide +kernel)); (case hm => simp only [List.length_cons, List.length_nil, Nat.reduceAdd, Nat.reduceMul]; rfl); (case' h => intro K1 hK))
    | with_reducible refine go_seq ?_
    | ((with_reducible first | apply v_op Try.tab | apply v_op0 Try.tab | apply d_op Try.tab | apply d_op0 Try.tab) <;> first | (intro K' h0 hw; conv => whnf) | (simp only [Nat.reduceAdd, Nat.reduceMul]; rfl))
    | ((with_reducible apply v_nil); (case hm => (simp only [Nat.reduceAdd, Nat.reduceMul]; rfl)); (case' h => with_reducible refine hK _ ?_; clear hK))
    | ((with_reducible apply d_nil); (refine hK _ _ _ _ (by first | decide +kernel | (simp only [List.map_cons, List.map_nil, List.nil_append, List.cons_append]; decide +kernel) | rfl) ?_; clear hK))
    | (first | refine d_grd_yes (by rfl) (by rfl) ?_ | refine v_grd_yes (by rfl) (by rfl) ?_)
    | (apply d_grd_no; (case hg => rfl); (case hb => rfl); (case hi => (simp only [Nat.reduceAdd, Nat.reduceMul]; rfl)))
    | (apply d_grd_undef; (case hg => rfl); (case hb => rfl); (case hi => (simp only [Nat.reduceAdd, Nat.reduceMul]; rfl)))
    | (apply d_grd; (case hg => rfl); (case hb => rfl); (case hi => (simp only [Nat.reduceAdd, Nat.reduceMul]; rfl)))
    | (apply v_grd_no; (case hg => rfl); (case hb => rfl); (case hi => (simp only [Nat.reduceAdd, Nat.reduceMul]; rfl)))
    | (apply v_grd_undef; (case hg => rfl); (case hb => rfl); (case hi => (simp only [Nat.reduceAdd, Nat.reduceMul]; rfl)))
    | (apply v_grd; (case hg => rfl); (case hb => rfl); (case hi => (simp only [Nat.reduceAdd, Nat.reduceMul]; rfl)))
    | ((with_reducible refine callV_id (f := 45) ?_); (with_reducible apply callV_f own45 (c_outCheck _)); (case hx => rfl); (case he => rfl); (case hle => first | ((repeat constructor); done) | (simp; done)); (case hpu => repeat constructor); (case' hK => (try clear hcs_); conv => whnf))
    | ((with_reducible refine callV_id (f := 46) ?_); (with_reducible apply callV_f own46 (c_frameCheck _ hl)); (case hx => rfl); (case he => rfl); (case hle => first | ((repeat constructor); done) | (simp; done)); (case hpu => repeat constructor); (case' hK => (try clear hcs_); conv => whnf))
    | ((with_reducible refine callV_id (f := 47) ?_); have hcs_ := c_raw o f turn hk.1 ⟨hk.2.1, hk.2.2.1, hk.2.2.2.1⟩; (with_reducible apply callV_f own47 (hcs_)); (case hx => rfl); (case he => rfl); (case hle => first | ((repeat constructor); done) | (simp; done)); (case hpu => repeat constructor); (case' hK => (try clear hcs_); conv => whnf))
    | ((with_reducible apply go_cond); (case hb => rfl))
    | ((with_reducible apply out_block_there); (case hne => rfl))
    | ((with_reducible first | refine w_ret Try.tab fun K' hL => ?_ | refine w_ret_end Try.tab fun K' hL => ?_); (conv => whnf))
    | ((with_reducible apply And.intro); (case' right => try (conv => whnf)); (case' left => try first | rfl | decide | (simp; done)))
    | ((with_reducible apply Side.mk); (try simp (disch := omega) only [wrp]); (try simp); (try omega))
    | ((with_reducible apply all_rk); (case hx => with_reducible assumption); (conv => whnf))
    | ((with_reducible refine all_row ?_); (first | (have _y := hx5; clear _y; intro x6 hx6) | (have _y := hx4; clear _y; intro x5 hx5) | (have _y := hx3; clear _y; intro x4 hx4) | (have _y := hx2; clear _y; intro x3 hx3) | (have _y := hx1; clear _y; intro x2 hx2) | (intro x1 hx1)); conv => whnf)
    | (refine ⟨_, eqAT (by rfl) (by rfl) (by rfl) (by rfl), ?_⟩; conv => whnf)
    | ((first | (have _y := g9; clear _y; intro g10; try simp at g10) | (have _y := g8; clear _y; intro g9; try simp at g9) | (have _y := g7; clear _y; intro g8; try simp at g8) | (have _y := g6; clear _y; intro g7; try simp at g7) | (have _y := g5; clear _y; intro g6; try simp at g6) | (have _y := g4; clear _y; intro g5; try simp at g5) | (have _y := g3; clear _y; intro g4; try simp at g4) | (have _y := g2; clear _y; intro g3; try simp at g3) | (have _y := g1; clear _y; intro g2; try simp at g2) | (intro g1; try simp at g1))))
    · have e : sendE o f = frameE f := if_pos g1
      ((with_reducible apply w_next (())); (case kt => first | exact kt_refl | (repeat (first | exact kt_refl | refine kt_wr (by rfl) ?_ | refine kt_jnk (by rfl) ?_ | refine kt_wrs (by rfl) ?_))); (case ko => repeat (first | exact ko_refl | refine ko_wo (by first | exact .inl (by rfl) | exact .inr (by simp) | exact .inr (by omega)) ?_ | refine ko_wor (by rfl) ?_ | refine ko_wos (by simp) ?_)); (case hn => first | exact Nat.le_refl _ | (simp; done) | (simp; omega)); (case hs => simp [e]); (case hb => simp [e]); (case ls => simp (disch := omega) [e, wrp]); (case lb => simp [e]); (case mu => first | (simp; omega) | (simp; done) | omega | (simp only; omega)); (case' rel' => (try simp only); (try exact trivial)))
    · have e : sendE o f = outE o := if_neg g1
      ((with_reducible apply w_next (())); (case kt => first | exact kt_refl | (repeat (first | exact kt_refl | refine kt_wr (by rfl) ?_ | refine kt_jnk (by rfl) ?_ | refine kt_wrs (by rfl) ?_))); (case ko => repeat (first | exact ko_refl | refine ko_wo (by first | exact .inl (by rfl) | exact .inr (by simp) | exact .inr (by omega)) ?_ | refine ko_wor (by rfl) ?_ | refine ko_wos (by simp) ?_)); (case hn => first | exact Nat.le_refl _ | (simp; done) | (simp; omega)); (case hs => simp [e]); (case hb => simp [e]); (case ls => simp (disch := omega) [e, wrp]); (case lb => simp [e]); (case mu => first | (simp; omega) | (simp; done) | omega | (simp only; omega)); (case' rel' => (try simp only); (try exact trivial)))
    · exact absurd h g3
    · simp [outT]
  · have hv : sendS o f turn = (ou0, [], sendE o f) := if_neg h
    rw [hv]
    repeat' (first
    | ((first | with_reducible refine w_cut (x := .cond (.tmp 13) _ _) (X := Unit) [9, 12, 13, 14, 15] (fun _ => [(9, I (sendE o f))]) (fun _ => []) (fun _ => True) ?_ ?_ | with_reducible refine w_cut (x := .seq (.region _ _ _) (.cond (.tmp 13) _ _)) (X := Unit) [9, 12, 13, 14, 15] (fun _ => [(9, I (sendE o f))]) (fun _ => []) (fun _ => True) ?_ ?_); (try (rintro z hz; simp only at hz)))
    | (with_reducible first | refine go_later ?_ | (refine h0 _ _ ?_; clear h0 hw) | (refine hw _ _ _ ?_; clear h0 hw) | refine go_ret ?_ | refine go_skip ?_ | refine go_block ?_ | refine go_exit ?_ | refine out_seq_ret ?_ | refine out_seq_normal ?_ | refine out_seq_exit ?_ | refine out_block_ret ?_ | refine out_block_normal ?_ | refine out_block_here ?_ | refine out_loop_ret ?_ | refine out_loop_exit ?_ | refine out_loopR_ret ?_ | refine out_loopR_exit ?_ | refine out_seq_panic ?_ | refine out_block_panic ?_ | refine out_loop_panic ?_ | (refine hL _ ?_; clear hL))
    | (with_reducible first | refine w_reg (by decide +kernel) fun K1 hK => ?_ | refine w_reg_end (by decide +kernel) fun K1 hK => ?_)
    | ((with_reducible first | apply d_reg Try.mix (by decide +kernel) | apply d_reg_end Try.mix (by decide +kernel)); (case hm => simp only [List.length_cons, List.length_nil, Nat.reduceAdd, Nat.reduceMul]; rfl); (case' h => intro K1 hK))
    | with_reducible refine go_seq ?_
    | ((with_reducible first | apply v_op Try.tab | apply v_op0 Try.tab | apply d_op Try.tab | apply d_op0 Try.tab) <;> first | (intro K' h0 hw; conv => whnf) | (simp only [Nat.reduceAdd, Nat.reduceMul]; rfl))
    | ((with_reducible apply v_nil); (case hm => (simp only [Nat.reduceAdd, Nat.reduceMul]; rfl)); (case' h => with_reducible refine hK _ ?_; clear hK))
    | ((with_reducible apply d_nil); (refine hK _ _ _ _ (by first | decide +kernel | (simp only [List.map_cons, List.map_nil, List.nil_append, List.cons_append]; decide +kernel) | rfl) ?_; clear hK))
    | (first | refine d_grd_yes (by rfl) (by rfl) ?_ | refine v_grd_yes (by rfl) (by rfl) ?_)
    | (apply d_grd_no; (case hg => rfl); (case hb => rfl); (case hi => (simp only [Nat.reduceAdd, Nat.reduceMul]; rfl)))
    | (apply d_grd_undef; (case hg => rfl); (case hb => rfl); (case hi => (simp only [Nat.reduceAdd, Nat.reduceMul]; rfl)))
    | (apply d_grd; (case hg => rfl); (case hb => rfl); (case hi => (simp only [Nat.reduceAdd, Nat.reduceMul]; rfl)))
    | (apply v_grd_no; (case hg => rfl); (case hb => rfl); (case hi => (simp only [Nat.reduceAdd, Nat.reduceMul]; rfl)))
    | (apply v_grd_undef; (case hg => rfl); (case hb => rfl); (case hi => (simp only [Nat.reduceAdd, Nat.reduceMul]; rfl)))
    | (apply v_grd; (case hg => rfl); (case hb => rfl); (case hi => (simp only [Nat.reduceAdd, Nat.reduceMul]; rfl)))
    | ((with_reducible refine callV_id (f := 45) ?_); (with_reducible apply callV_f own45 (c_outCheck _)); (case hx => rfl); (case he => rfl); (case hle => first | ((repeat constructor); done) | (simp; done)); (case hpu => repeat constructor); (case' hK => (try clear hcs_); conv => whnf))
    | ((with_reducible refine callV_id (f := 46) ?_); (with_reducible apply callV_f own46 (c_frameCheck _ hl)); (case hx => rfl); (case he => rfl); (case hle => first | ((repeat constructor); done) | (simp; done)); (case hpu => repeat constructor); (case' hK => (try clear hcs_); conv => whnf))
    | ((with_reducible apply go_cond); (case hb => rfl))
    | ((with_reducible apply out_block_there); (case hne => rfl))
    | ((with_reducible first | refine w_ret Try.tab fun K' hL => ?_ | refine w_ret_end Try.tab fun K' hL => ?_); (conv => whnf))
    | ((with_reducible apply And.intro); (case' right => try (conv => whnf)); (case' left => try first | rfl | decide | (simp; done)))
    | ((with_reducible apply Side.mk); (try simp (disch := omega) only [wrp]); (try simp); (try omega))
    | ((with_reducible apply all_rk); (case hx => with_reducible assumption); (conv => whnf))
    | ((with_reducible refine all_row ?_); (first | (have _y := hx5; clear _y; intro x6 hx6) | (have _y := hx4; clear _y; intro x5 hx5) | (have _y := hx3; clear _y; intro x4 hx4) | (have _y := hx2; clear _y; intro x3 hx3) | (have _y := hx1; clear _y; intro x2 hx2) | (intro x1 hx1)); conv => whnf)
    | (refine ⟨_, eqAT (by rfl) (by rfl) (by rfl) (by rfl), ?_⟩; conv => whnf)
    | ((first | (have _y := g9; clear _y; intro g10; try simp at g10) | (have _y := g8; clear _y; intro g9; try simp at g9) | (have _y := g7; clear _y; intro g8; try simp at g8) | (have _y := g6; clear _y; intro g7; try simp at g7) | (have _y := g5; clear _y; intro g6; try simp at g6) | (have _y := g4; clear _y; intro g5; try simp at g5) | (have _y := g3; clear _y; intro g4; try simp at g4) | (have _y := g2; clear _y; intro g3; try simp at g3) | (have _y := g1; clear _y; intro g2; try simp at g2) | (intro g1; try simp at g1))))
    · have e : sendE o f = frameE f := if_pos g1
      ((with_reducible apply w_next (())); (case kt => first | exact kt_refl | (repeat (first | exact kt_refl | refine kt_wr (by rfl) ?_ | refine kt_jnk (by rfl) ?_ | refine kt_wrs (by rfl) ?_))); (case ko => repeat (first | exact ko_refl | refine ko_wo (by first | exact .inl (by rfl) | exact .inr (by simp) | exact .inr (by omega)) ?_ | refine ko_wor (by rfl) ?_ | refine ko_wos (by simp) ?_)); (case hn => first | exact Nat.le_refl _ | (simp; done) | (simp; omega)); (case hs => simp [e]); (case hb => simp [e]); (case ls => simp (disch := omega) [e, wrp]); (case lb => simp [e]); (case mu => first | (simp; omega) | (simp; done) | omega | (simp only; omega)); (case' rel' => (try simp only); (try exact trivial)))
    · have e : sendE o f = outE o := if_neg g1
      ((with_reducible apply w_next (())); (case kt => first | exact kt_refl | (repeat (first | exact kt_refl | refine kt_wr (by rfl) ?_ | refine kt_jnk (by rfl) ?_ | refine kt_wrs (by rfl) ?_))); (case ko => repeat (first | exact ko_refl | refine ko_wo (by first | exact .inl (by rfl) | exact .inr (by simp) | exact .inr (by omega)) ?_ | refine ko_wor (by rfl) ?_ | refine ko_wos (by simp) ?_)); (case hn => first | exact Nat.le_refl _ | (simp; done) | (simp; omega)); (case hs => simp [e]); (case hb => simp [e]); (case ls => simp (disch := omega) [e, wrp]); (case lb => simp [e]); (case mu => first | (simp; omega) | (simp; done) | omega | (simp only; omega)); (case' rel' => (try simp only); (try exact trivial)))
    · simp [outT, ou0]
    · exact absurd g3 h
/-- What comes of the cells that a packet is made of. -/
def pk1 (o : Ou) (t : Int) (f : Fr) (i : Nat) (a c : Bool) : Pkt := ⟨(o.last + 1 + i) % 65536, t, a, false, c, f.parts.getD i ByteArray.empty⟩
set_option maxHeartbeats 1000000 in
theorem c_samePackets (a b : List Pkt) (ha : a.length ≤ 17592186043904) : PSpec Try.prog 14 [pkts a, pkts b] (B (decide (a = b))) := by
  refine v_pspec Try.func14 rfl Try.ntmps14 Try.results14 (by simp) (by first | exact .s _ | repeat constructor) ?_
  repeat' (first
    | (with_reducible first | refine go_later ?_ | (refine h0 _ _ ?_; clear h0 hw) | (refine hw _ _ _ ?_; clear h0 hw) | refine go_ret ?_ | refine go_skip ?_ | refine go_block ?_ | refine go_exit ?_ | refine out_seq_ret ?_ | refine out_seq_normal ?_ | refine out_seq_exit ?_ | refine out_block_ret ?_ | refine out_block_normal ?_ | refine out_block_here ?_ | refine out_loop_ret ?_ | refine out_loop_exit ?_ | refine out_loopR_ret ?_ | refine out_loopR_exit ?_ | refine out_seq_panic ?_ | refine out_block_panic ?_ | refine out_loop_panic ?_ | (refine hL _ ?_; clear hL))
    | (with_reducible first | refine w_reg (by decide +kernel) fun K1 hK => ?_ | refine w_reg_end (by decide +kernel) fun K1 hK => ?_)
    | ((with_reducible first | apply d_reg Try.mix (by decide +kernel) | apply d_reg_end Try.mix (by decide +kernel)); (case hm => simp only [List.length_cons, List.length_nil, Nat.reduceAdd, Nat.reduceMul]; rfl); (case' h => intro K1 hK))
    | with_reducible refine go_seq ?_
    | ((with_reducible first | apply v_op Try.tab | apply v_op0 Try.tab | apply d_op Try.tab | apply d_op0 Try.tab) <;> first | (intro K' h0 hw; conv => whnf) | (simp only [Nat.reduceAdd, Nat.reduceMul]; rfl))
    | ((with_reducible apply v_nil); (case hm => (simp only [Nat.reduceAdd, Nat.reduceMul]; rfl)); (case' h => with_reducible refine hK _ ?_; clear hK))
    | ((with_reducible apply d_nil); (refine hK _ _ _ _ (by first | decide +kernel | (simp only [List.map_cons, List.map_nil, List.nil_append, List.cons_append]; decide +kernel) | rfl) ?_; clear hK))
    | (first | refine d_grd_yes (by rfl) (by rfl) ?_ | refine v_grd_yes (by rfl) (by rfl) ?_)
    | (apply d_grd_no; (case hg => rfl); (case hb => rfl); (case hi => (simp only [Nat.reduceAdd, Nat.reduceMul]; rfl)))
    | (apply d_grd_undef; (case hg => rfl); (case hb => rfl); (case hi => (simp only [Nat.reduceAdd, Nat.reduceMul]; rfl)))
    | (apply d_grd; (case hg => rfl); (case hb => rfl); (case hi => (simp only [Nat.reduceAdd, Nat.reduceMul]; rfl)))
    | (apply v_grd_no; (case hg => rfl); (case hb => rfl); (case hi => (simp only [Nat.reduceAdd, Nat.reduceMul]; rfl)))
    | (apply v_grd_undef; (case hg => rfl); (case hb => rfl); (case hi => (simp only [Nat.reduceAdd, Nat.reduceMul]; rfl)))
    | (apply v_grd; (case hg => rfl); (case hb => rfl); (case hi => (simp only [Nat.reduceAdd, Nat.reduceMul]; rfl)))
    | ((with_reducible apply go_cond); (case hb => rfl))
    | ((with_reducible apply out_block_there); (case hne => rfl))
    | ((with_reducible first | refine w_ret Try.tab fun K' hL => ?_ | refine w_ret_end Try.tab fun K' hL => ?_); (conv => whnf))
    | ((with_reducible apply And.intro); (case' right => try (conv => whnf)); (case' left => try first | rfl | decide | (simp; done)))
    | ((with_reducible apply Side.mk); (try simp (disch := omega) only [wrp]); (try simp); (try omega))
    | ((with_reducible apply all_rk); (case hx => with_reducible assumption); (conv => whnf))
    | ((with_reducible refine all_row ?_); (first | (have _y := hx5; clear _y; intro x6 hx6) | (have _y := hx4; clear _y; intro x5 hx5) | (have _y := hx3; clear _y; intro x4 hx4) | (have _y := hx2; clear _y; intro x3 hx3) | (have _y := hx1; clear _y; intro x2 hx2) | (intro x1 hx1)); conv => whnf)
    | (refine ⟨_, eqAT (by rfl) (by rfl) (by rfl) (by rfl), ?_⟩; conv => whnf)
    | ((first | (have _y := g9; clear _y; intro g10; try simp at g10) | (have _y := g8; clear _y; intro g9; try simp at g9) | (have _y := g7; clear _y; intro g8; try simp at g8) | (have _y := g6; clear _y; intro g7; try simp at g7) | (have _y := g5; clear _y; intro g6; try simp at g6) | (have _y := g4; clear _y; intro g5; try simp at g5) | (have _y := g3; clear _y; intro g4; try simp at g4) | (have _y := g2; clear _y; intro g3; try simp at g3) | (have _y := g1; clear _y; intro g2; try simp at g2) | (intro g1; try simp at g1))))
  · refine le_of_eq ?_; simp; intro h; subst h; exact g1 rfl
  refine w_loop (X := Nat) [4, 5, 11, 12, 13, 14, 15, 16, 17, 18, 19, 20, 21, 22, 23, 24, 25] (fun i => [(5, I i)]) (fun _ => []) (fun i => i ≤ a.length ∧ a.take i = b.take i) (fun i => a.length - i) 0 (by simp) ?_ ?_
  · refine ⟨kt_refl, ko_refl, ?_, ?_, ?_, ?_, Nat.le_refl _⟩ <;> simp
  rintro i ⟨h1, h2⟩
  repeat' (first
    | (with_reducible first | refine go_later ?_ | (refine h0 _ _ ?_; clear h0 hw) | (refine hw _ _ _ ?_; clear h0 hw) | refine go_ret ?_ | refine go_skip ?_ | refine go_block ?_ | refine go_exit ?_ | refine out_seq_ret ?_ | refine out_seq_normal ?_ | refine out_seq_exit ?_ | refine out_block_ret ?_ | refine out_block_normal ?_ | refine out_block_here ?_ | refine out_loop_ret ?_ | refine out_loop_exit ?_ | refine out_loopR_ret ?_ | refine out_loopR_exit ?_ | refine out_seq_panic ?_ | refine out_block_panic ?_ | refine out_loop_panic ?_ | (refine hL _ ?_; clear hL))
    | (with_reducible first | refine w_reg (by decide +kernel) fun K1 hK => ?_ | refine w_reg_end (by decide +kernel) fun K1 hK => ?_)
    | ((with_reducible first | apply d_reg Try.mix (by decide +kernel) | apply d_reg_end Try.mix (by decide +kernel)); (case hm => simp only [List.length_cons, List.length_nil, Nat.reduceAdd, Nat.reduceMul]; rfl); (case' h => intro K1 hK))
    | with_reducible refine go_seq ?_
    | ((with_reducible first | apply v_op Try.tab | apply v_op0 Try.tab | apply d_op Try.tab | apply d_op0 Try.tab) <;> first | (intro K' h0 hw; conv => whnf) | (simp only [Nat.reduceAdd, Nat.reduceMul]; rfl))
    | ((with_reducible apply v_nil); (case hm => (simp only [Nat.reduceAdd, Nat.reduceMul]; rfl)); (case' h => with_reducible refine hK _ ?_; clear hK))
    | ((with_reducible apply d_nil); (refine hK _ _ _ _ (by first | decide +kernel | (simp only [List.map_cons, List.map_nil, List.nil_append, List.cons_append]; decide +kernel) | rfl) ?_; clear hK))
    | (first | refine d_grd_yes (by rfl) (by rfl) ?_ | refine v_grd_yes (by rfl) (by rfl) ?_)
    | (apply d_grd_no; (case hg => rfl); (case hb => rfl); (case hi => (simp only [Nat.reduceAdd, Nat.reduceMul]; rfl)))
    | (apply d_grd_undef; (case hg => rfl); (case hb => rfl); (case hi => (simp only [Nat.reduceAdd, Nat.reduceMul]; rfl)))
    | (apply d_grd; (case hg => rfl); (case hb => rfl); (case hi => (simp only [Nat.reduceAdd, Nat.reduceMul]; rfl)))
    | (apply v_grd_no; (case hg => rfl); (case hb => rfl); (case hi => (simp only [Nat.reduceAdd, Nat.reduceMul]; rfl)))
    | (apply v_grd_undef; (case hg => rfl); (case hb => rfl); (case hi => (simp only [Nat.reduceAdd, Nat.reduceMul]; rfl)))
    | (apply v_grd; (case hg => rfl); (case hb => rfl); (case hi => (simp only [Nat.reduceAdd, Nat.reduceMul]; rfl)))
    | ((with_reducible apply go_cond); (case hb => rfl))
    | ((with_reducible apply out_block_there); (case hne => rfl))
    | ((with_reducible first | refine w_ret Try.tab fun K' hL => ?_ | refine w_ret_end Try.tab fun K' hL => ?_); (conv => whnf))
    | ((with_reducible apply And.intro); (case' right => try (conv => whnf)); (case' left => try first | rfl | decide | (simp; done)))
    | ((with_reducible apply Side.mk); (try simp (disch := omega) only [wrp]); (try simp); (try omega))
    | ((with_reducible apply all_rk); (case hx => with_reducible assumption); (conv => whnf))
    | ((with_reducible refine all_row ?_); (first | (have _y := hx5; clear _y; intro x6 hx6) | (have _y := hx4; clear _y; intro x5 hx5) | (have _y := hx3; clear _y; intro x4 hx4) | (have _y := hx2; clear _y; intro x3 hx3) | (have _y := hx1; clear _y; intro x2 hx2) | (intro x1 hx1)); conv => whnf)
    | (refine ⟨_, eqAT (by rfl) (by rfl) (by rfl) (by rfl), ?_⟩; conv => whnf)
    | ((first | (have _y := g9; clear _y; intro g10; try simp at g10) | (have _y := g8; clear _y; intro g9; try simp at g9) | (have _y := g7; clear _y; intro g8; try simp at g8) | (have _y := g6; clear _y; intro g7; try simp at g7) | (have _y := g5; clear _y; intro g6; try simp at g6) | (have _y := g4; clear _y; intro g5; try simp at g5) | (have _y := g3; clear _y; intro g4; try simp at g4) | (have _y := g2; clear _y; intro g3; try simp at g3) | (have _y := g1; clear _y; intro g2; try simp at g2) | (intro g1; try simp at g1))))
  · simp at hx1 hx2
    refine le_of_eq ?_; simp; intro h; subst h
    rw [hx1] at hx2; cases hx2; simp at g3
  · simp at hx1 hx2
    have he : x1 = x2 := Pkt.ext' g3.1 g3.2.1 g3.2.2.1 g3.2.2.2.1 g3.2.2.2.2.1 g3.2.2.2.2.2
    ((with_reducible apply w_next ((i + 1))); (case kt => first | exact kt_refl | (repeat (first | exact kt_refl | refine kt_wr (by rfl) ?_ | refine kt_jnk (by rfl) ?_ | refine kt_wrs (by rfl) ?_))); (case ko => repeat (first | exact ko_refl | refine ko_wo (by first | exact .inl (by rfl) | exact .inr (by simp) | exact .inr (by omega)) ?_ | refine ko_wor (by rfl) ?_ | refine ko_wos (by simp) ?_)); (case hn => first | exact Nat.le_refl _ | (simp; done) | (simp; omega)); (case hs => simp); (case hb => simp); (case ls => simp (disch := omega) [wrp]); (case lb => simp); (case mu => first | (simp; omega) | (simp; done) | omega | (simp only; omega)); (case' rel' => (try simp only); (try exact trivial)))
    exact ⟨by omega, by rw [take_at hx1, take_at hx2, h2, he]⟩
  · have : a = b := by rw [← List.take_of_length_le (l := a) (i := i) (by omega), h2]; exact List.take_of_length_le (by omega)
    exact le_of_eq (by simp [this])
end Go.Proofs.Ytlehonipilpfdaa

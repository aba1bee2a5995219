/- Walks of out.Raw, out.Send, SendOf, SamePackets. No condition. -/
import Derived.Test.YtgndmmbbhfmegaaOut
namespace Go.Proofs.Ytgndmmbbhfmegaa
open Go Go.Sy
set_option maxRecDepth 4000
set_option linter.unusedSimpArgs false
set_option linter.unusedVariables false
attribute [local irreducible] Reg RegD Later Out CallV Tri Side EqV
def ou0 : Ou := ⟨0, 0, 0⟩
def rawS (o : Ou) (f : Fr) (turn : Bool) : Ou × List Pkt × Int := if (frameS o f turn).2.2 = 0 then frameS o f turn else (ou0, [], (frameS o f turn).2.2)
def outT (x : Ou × List Pkt × Int) : AV := .tup [.agg (ouC x.1), pkts x.2.1, I x.2.2]
theorem outT_pu (x : Ou × List Pkt × Int) : Pu (outT x) := by unfold outT; repeat constructor
set_option maxHeartbeats 1000000 in
theorem c_raw (o : Ou) (f : Fr) (turn : Bool) (ho : outOK o) (hf : 0 ≤ f.time ∧ f.time ≤ 1000000 ∧ f.parts.length ≤ 4) :
    PSpec Try.prog 51 [.agg (ouC o), .agg (frC f), B turn] (outT (rawS o f turn)) := by
  refine v_pspec Try.func51 rfl Try.ntmps51 Try.results51 (by simp) (outT_pu _) ?_
  repeat' (first
    | ((with_reducible apply w_ownCell 112 3 57 6); (case hb => rfl); (case hj => rfl); (case hsz => decide); (case hm => (try simp only [Nat.reduceAdd, Nat.reduceMul]); exact rfl))
    | with_reducible refine go_later ?_
    | (with_reducible refine w_reg (by decide +kernel) fun K1 hK => ?_)
    | (with_reducible refine w_reg_end (by decide +kernel) fun K1 hK => ?_)
    | ((with_reducible apply d_reg Try.mix (by decide +kernel)); (case hm => simp only [List.length_cons, List.length_nil, Nat.reduceAdd, Nat.reduceMul]; exact rfl); (case' h => intro K1 hK))
    | ((with_reducible apply d_reg_end Try.mix (by decide +kernel)); (case hm => simp only [List.length_cons, List.length_nil, Nat.reduceAdd, Nat.reduceMul]; exact rfl); (case' h => intro K1 hK))
    | ((with_reducible apply v_op Try.tab); (case hnb => (try simp only [Nat.reduceAdd, Nat.reduceMul]); exact rfl); (case hi => (try simp only [Nat.reduceAdd, Nat.reduceMul]); exact rfl); (case' h => intro K' h0 hw; conv => whnf))
    | ((with_reducible apply v_op0 Try.tab); (case hnb => (try simp only [Nat.reduceAdd, Nat.reduceMul]); exact rfl); (case hi => (try simp only [Nat.reduceAdd, Nat.reduceMul]); exact rfl); (case' h => intro K' h0 hw; conv => whnf))
    | ((with_reducible apply d_op Try.tab); (case hnb => (try simp only [Nat.reduceAdd, Nat.reduceMul]); exact rfl); (case hi => (try simp only [Nat.reduceAdd, Nat.reduceMul]); exact rfl); (case' h => intro K' h0 hw; conv => whnf))
    | ((with_reducible apply d_op0 Try.tab); (case hnb => (try simp only [Nat.reduceAdd, Nat.reduceMul]); exact rfl); (case hi => (try simp only [Nat.reduceAdd, Nat.reduceMul]); exact rfl); (case' h => intro K' h0 hw; conv => whnf))
    | ((with_reducible apply v_nil); (case hm => (try simp only [Nat.reduceAdd, Nat.reduceMul]); exact rfl); (case' h => with_reducible refine hK _ ?_; clear hK))
    | (with_reducible refine h0 _ _ ?_; clear h0 hw)
    | (with_reducible refine hw _ _ _ ?_; clear h0 hw)
    | ((with_reducible apply d_nil); (refine hK _ _ _ _ (by first | decide +kernel | (simp only [List.map_cons, List.map_nil, List.nil_append, List.cons_append]; decide +kernel) | rfl) ?_; clear hK))
    | (refine d_grd_yes (by rfl) (by rfl) ?_)
    | ((apply d_grd_no); (case hg => rfl); (case hb => rfl); (case hi => (try simp only [Nat.reduceAdd, Nat.reduceMul]); exact rfl))
    | ((apply d_grd_undef); (case hg => rfl); (case hb => rfl); (case hi => (try simp only [Nat.reduceAdd, Nat.reduceMul]); exact rfl))
    | ((apply d_grd); (case hg => rfl); (case hb => rfl); (case hi => (try simp only [Nat.reduceAdd, Nat.reduceMul]); exact rfl))
    | (refine v_grd_yes (by rfl) (by rfl) ?_)
    | ((apply v_grd_no); (case hg => rfl); (case hb => rfl); (case hi => (try simp only [Nat.reduceAdd, Nat.reduceMul]); exact rfl))
    | ((apply v_grd_undef); (case hg => rfl); (case hb => rfl); (case hi => (try simp only [Nat.reduceAdd, Nat.reduceMul]); exact rfl))
    | ((apply v_grd); (case hg => rfl); (case hb => rfl); (case hi => (try simp only [Nat.reduceAdd, Nat.reduceMul]); exact rfl))
    | ((with_reducible apply w_callO [112, 144] own66 (c_frame o f turn ho hf)); (case hx => rfl); (case he => rfl); (case hle => first | ((repeat constructor); done) | (simp [sendObs]; done)); (case hm => rfl); (case hnd => decide); (case hm1 => simp [sendObs]); (case hm2 => simp [sendObs]); (case hlt => simp [sendObs]); (case hobs => simp [sendObs]); (case hobl => simp [sendObs]); (case' hK => conv => whnf))
    | with_reducible refine go_ret ?_
    | with_reducible refine go_seq ?_
    | with_reducible refine go_skip ?_
    | with_reducible refine go_block ?_
    | with_reducible refine go_exit ?_
    | ((with_reducible apply go_cond); (case hb => rfl))
    | with_reducible refine out_seq_ret ?_
    | with_reducible refine out_seq_normal ?_
    | with_reducible refine out_seq_exit ?_
    | with_reducible refine out_block_ret ?_
    | with_reducible refine out_block_normal ?_
    | with_reducible refine out_block_here ?_
    | with_reducible refine out_loop_ret ?_
    | with_reducible refine out_loop_exit ?_
    | ((with_reducible apply out_block_there); (case hne => rfl))
    | ((with_reducible refine w_ret Try.tab fun K' hL => ?_); (conv => whnf))
    | ((with_reducible refine w_ret_end Try.tab fun K' hL => ?_); (conv => whnf))
    | (with_reducible refine hL _ ?_; clear hL)
    | ((with_reducible apply And.intro); (case' right => try (conv => whnf)); (case' left => try first | rfl | decide | (simp [sendObs]; done)))
    | ((with_reducible apply Side.mk); (try simp); (try omega))
    | ((with_reducible refine all_row ?_); (first | (have _y := hx5; clear _y; intro x6 hx6) | (have _y := hx4; clear _y; intro x5 hx5) | (have _y := hx3; clear _y; intro x4 hx4) | (have _y := hx2; clear _y; intro x3 hx3) | (have _y := hx1; clear _y; intro x2 hx2) | (intro x1 hx1)); conv => whnf)
    | ((refine ⟨_, eqlT36 (by rfl) (by rfl), ?_⟩); conv => whnf)
    | ((refine ⟨_, neqT36 (by rfl) (by rfl), ?_⟩); conv => whnf)
    | ((refine ⟨_, eqlT45 (by rfl) (by rfl), ?_⟩); conv => whnf)
    | ((refine ⟨_, neqT45 (by rfl) (by rfl), ?_⟩); conv => whnf)
    | ((refine ⟨_, eqlT57 (by rfl) (by rfl), ?_⟩); conv => whnf)
    | ((refine ⟨_, neqT57 (by rfl) (by rfl), ?_⟩); conv => whnf)
    | ((first | (have _y := g35; clear _y; intro g36; try simp at g36) | (have _y := g34; clear _y; intro g35; try simp at g35) | (have _y := g33; clear _y; intro g34; try simp at g34) | (have _y := g32; clear _y; intro g33; try simp at g33) | (have _y := g31; clear _y; intro g32; try simp at g32) | (have _y := g30; clear _y; intro g31; try simp at g31) | (have _y := g29; clear _y; intro g30; try simp at g30) | (have _y := g28; clear _y; intro g29; try simp at g29) | (have _y := g27; clear _y; intro g28; try simp at g28) | (have _y := g26; clear _y; intro g27; try simp at g27) | (have _y := g25; clear _y; intro g26; try simp at g26) | (have _y := g24; clear _y; intro g25; try simp at g25) | (have _y := g23; clear _y; intro g24; try simp at g24) | (have _y := g22; clear _y; intro g23; try simp at g23) | (have _y := g21; clear _y; intro g22; try simp at g22) | (have _y := g20; clear _y; intro g21; try simp at g21) | (have _y := g19; clear _y; intro g20; try simp at g20) | (have _y := g18; clear _y; intro g19; try simp at g19) | (have _y := g17; clear _y; intro g18; try simp at g18) | (have _y := g16; clear _y; intro g17; try simp at g17) | (have _y := g15; clear _y; intro g16; try simp at g16) | (have _y := g14; clear _y; intro g15; try simp at g15) | (have _y := g13; clear _y; intro g14; try simp at g14) | (have _y := g12; clear _y; intro g13; try simp at g13) | (have _y := g11; clear _y; intro g12; try simp at g12) | (have _y := g10; clear _y; intro g11; try simp at g11) | (have _y := g9; clear _y; intro g10; try simp at g10) | (have _y := g8; clear _y; intro g9; try simp at g9) | (have _y := g7; clear _y; intro g8; try simp at g8) | (have _y := g6; clear _y; intro g7; try simp at g7) | (have _y := g5; clear _y; intro g6; try simp at g6) | (have _y := g4; clear _y; intro g5; try simp at g5) | (have _y := g3; clear _y; intro g4; try simp at g4) | (have _y := g2; clear _y; intro g3; try simp at g3) | (have _y := g1; clear _y; intro g2; try simp at g2) | (intro g1; try simp at g1))))
  · have hv : rawS o f turn = (ou0, [], (frameS o f turn).2.2) := if_neg g1
    rw [hv]; simp [outT, ou0]
  · have hv : rawS o f turn = frameS o f turn := if_pos g1
    rw [hv]; simp [outT, g1]
def sendE (o : Ou) (f : Fr) : Int := if outE o = 0 then frameE f else outE o
def sendS (o : Ou) (f : Fr) (turn : Bool) : Ou × List Pkt × Int := if sendE o f = 0 then rawS o f turn else (ou0, [], sendE o f)
theorem frameE_ok {f : Fr} (h : frameE f = 0) : 0 ≤ f.time ∧ f.time ≤ 1000000 ∧ f.parts.length ≤ 4 ∧ f.parts ≠ [] ∧ f.parts.any big = false := by
  rw [frameE_eq] at h
  by_cases h1 : f.time < 0
  · rw [if_pos h1] at h; cases h
  rw [if_neg h1] at h
  by_cases h2 : 1000000 < f.time
  · rw [if_pos h2] at h; cases h
  rw [if_neg h2] at h
  by_cases h3 : f.parts = []
  · rw [if_pos h3] at h; cases h
  rw [if_neg h3] at h
  by_cases h4 : 4 < f.parts.length
  · rw [if_pos h4] at h; cases h
  rw [if_neg h4] at h
  by_cases h5 : f.parts.any big = true
  · rw [if_pos h5] at h; cases h
  exact ⟨by omega, by omega, by omega, h3, by simpa using h5⟩
theorem outE_ok {o : Ou} (h : outE o = 0) : outOK o := by
  unfold outE at h
  by_cases c : outOK o
  · exact c
  · rw [if_neg c] at h; cases h
theorem sendE_ok {o : Ou} {f : Fr} (h : sendE o f = 0) : outOK o ∧ 0 ≤ f.time ∧ f.time ≤ 1000000 ∧ f.parts.length ≤ 4 ∧ f.parts ≠ [] ∧ f.parts.any big = false := by
  unfold sendE at h
  by_cases c : outE o = 0
  · rw [if_pos c] at h; exact ⟨outE_ok c, frameE_ok h⟩
  · rw [if_neg c] at h; exact absurd h c
set_option maxHeartbeats 1000000 in
theorem c_send (o : Ou) (f : Fr) (turn : Bool) (hl : f.parts.length ≤ 17592186043904) :
    PSpec Try.prog 28 [.agg (ouC o), .agg (frC f), B turn] (outT (sendS o f turn)) := by
  refine v_pspec Try.func28 rfl Try.ntmps28 Try.results28 (by simp) (outT_pu _) ?_
  by_cases h : sendE o f = 0
  · have hk := sendE_ok h
    have hv : sendS o f turn = rawS o f turn := if_pos h
    rw [hv]
    repeat' (first
    | ((first | with_reducible refine w_cut (x := .cond (.tmp 13) _ _) (X := Unit) [9, 12, 13, 14, 15] (fun _ => [(9, I (sendE o f))]) (fun _ => []) (fun _ => True) ?_ ?_ | with_reducible refine w_cut (x := .seq (.region _ _ _) (.cond (.tmp 13) _ _)) (X := Unit) [9, 12, 13, 14, 15] (fun _ => [(9, I (sendE o f))]) (fun _ => []) (fun _ => True) ?_ ?_); (try (rintro z hz; simp only at hz)))
    | with_reducible refine go_later ?_
    | (with_reducible refine w_reg (by decide +kernel) fun K1 hK => ?_)
    | (with_reducible refine w_reg_end (by decide +kernel) fun K1 hK => ?_)
    | ((with_reducible apply d_reg Try.mix (by decide +kernel)); (case hm => simp only [List.length_cons, List.length_nil, Nat.reduceAdd, Nat.reduceMul]; exact rfl); (case' h => intro K1 hK))
    | ((with_reducible apply d_reg_end Try.mix (by decide +kernel)); (case hm => simp only [List.length_cons, List.length_nil, Nat.reduceAdd, Nat.reduceMul]; exact rfl); (case' h => intro K1 hK))
    | ((with_reducible apply v_op Try.tab); (case hnb => (try simp only [Nat.reduceAdd, Nat.reduceMul]); exact rfl); (case hi => (try simp only [Nat.reduceAdd, Nat.reduceMul]); exact rfl); (case' h => intro K' h0 hw; conv => whnf))
    | ((with_reducible apply v_op0 Try.tab); (case hnb => (try simp only [Nat.reduceAdd, Nat.reduceMul]); exact rfl); (case hi => (try simp only [Nat.reduceAdd, Nat.reduceMul]); exact rfl); (case' h => intro K' h0 hw; conv => whnf))
    | ((with_reducible apply d_op Try.tab); (case hnb => (try simp only [Nat.reduceAdd, Nat.reduceMul]); exact rfl); (case hi => (try simp only [Nat.reduceAdd, Nat.reduceMul]); exact rfl); (case' h => intro K' h0 hw; conv => whnf))
    | ((with_reducible apply d_op0 Try.tab); (case hnb => (try simp only [Nat.reduceAdd, Nat.reduceMul]); exact rfl); (case hi => (try simp only [Nat.reduceAdd, Nat.reduceMul]); exact rfl); (case' h => intro K' h0 hw; conv => whnf))
    | ((with_reducible apply v_nil); (case hm => (try simp only [Nat.reduceAdd, Nat.reduceMul]); exact rfl); (case' h => with_reducible refine hK _ ?_; clear hK))
    | (with_reducible refine h0 _ _ ?_; clear h0 hw)
    | (with_reducible refine hw _ _ _ ?_; clear h0 hw)
    | ((with_reducible apply d_nil); (refine hK _ _ _ _ (by first | decide +kernel | (simp only [List.map_cons, List.map_nil, List.nil_append, List.cons_append]; decide +kernel) | rfl) ?_; clear hK))
    | (refine d_grd_yes (by rfl) (by rfl) ?_)
    | ((apply d_grd_no); (case hg => rfl); (case hb => rfl); (case hi => (try simp only [Nat.reduceAdd, Nat.reduceMul]); exact rfl))
    | ((apply d_grd_undef); (case hg => rfl); (case hb => rfl); (case hi => (try simp only [Nat.reduceAdd, Nat.reduceMul]); exact rfl))
    | ((apply d_grd); (case hg => rfl); (case hb => rfl); (case hi => (try simp only [Nat.reduceAdd, Nat.reduceMul]); exact rfl))
    | (refine v_grd_yes (by rfl) (by rfl) ?_)
    | ((apply v_grd_no); (case hg => rfl); (case hb => rfl); (case hi => (try simp only [Nat.reduceAdd, Nat.reduceMul]); exact rfl))
    | ((apply v_grd_undef); (case hg => rfl); (case hb => rfl); (case hi => (try simp only [Nat.reduceAdd, Nat.reduceMul]); exact rfl))
    | ((apply v_grd); (case hg => rfl); (case hb => rfl); (case hi => (try simp only [Nat.reduceAdd, Nat.reduceMul]); exact rfl))
    | ((with_reducible apply callV_f own33 (c_outCheck _)); (case hx => rfl); (case he => rfl); (case hle => first | ((repeat constructor); done) | (simp; done)); (case hpu => repeat constructor); (case' hK => conv => whnf))
    | ((with_reducible apply callV_f own50 (c_frameCheck _ hl)); (case hx => rfl); (case he => rfl); (case hle => first | ((repeat constructor); done) | (simp; done)); (case hpu => repeat constructor); (case' hK => conv => whnf))
    | ((with_reducible apply callV_f own51 (c_raw o f turn hk.1 ⟨hk.2.1, hk.2.2.1, hk.2.2.2.1⟩)); (case hx => rfl); (case he => rfl); (case hle => first | ((repeat constructor); done) | (simp; done)); (case hpu => repeat constructor); (case' hK => conv => whnf))
    | with_reducible refine go_ret ?_
    | with_reducible refine go_seq ?_
    | with_reducible refine go_skip ?_
    | with_reducible refine go_block ?_
    | with_reducible refine go_exit ?_
    | ((with_reducible apply go_cond); (case hb => rfl))
    | with_reducible refine out_seq_ret ?_
    | with_reducible refine out_seq_normal ?_
    | with_reducible refine out_seq_exit ?_
    | with_reducible refine out_block_ret ?_
    | with_reducible refine out_block_normal ?_
    | with_reducible refine out_block_here ?_
    | with_reducible refine out_loop_ret ?_
    | with_reducible refine out_loop_exit ?_
    | ((with_reducible apply out_block_there); (case hne => rfl))
    | ((with_reducible refine w_ret Try.tab fun K' hL => ?_); (conv => whnf))
    | ((with_reducible refine w_ret_end Try.tab fun K' hL => ?_); (conv => whnf))
    | (with_reducible refine hL _ ?_; clear hL)
    | ((with_reducible apply And.intro); (case' right => try (conv => whnf)); (case' left => try first | rfl | decide | (simp; done)))
    | ((with_reducible apply Side.mk); (try simp); (try omega))
    | ((with_reducible refine all_row ?_); (first | (have _y := hx5; clear _y; intro x6 hx6) | (have _y := hx4; clear _y; intro x5 hx5) | (have _y := hx3; clear _y; intro x4 hx4) | (have _y := hx2; clear _y; intro x3 hx3) | (have _y := hx1; clear _y; intro x2 hx2) | (intro x1 hx1)); conv => whnf)
    | ((refine ⟨_, eqlT36 (by rfl) (by rfl), ?_⟩); conv => whnf)
    | ((refine ⟨_, neqT36 (by rfl) (by rfl), ?_⟩); conv => whnf)
    | ((refine ⟨_, eqlT45 (by rfl) (by rfl), ?_⟩); conv => whnf)
    | ((refine ⟨_, neqT45 (by rfl) (by rfl), ?_⟩); conv => whnf)
    | ((refine ⟨_, eqlT57 (by rfl) (by rfl), ?_⟩); conv => whnf)
    | ((refine ⟨_, neqT57 (by rfl) (by rfl), ?_⟩); conv => whnf)
    | ((first | (have _y := g35; clear _y; intro g36; try simp at g36) | (have _y := g34; clear _y; intro g35; try simp at g35) | (have _y := g33; clear _y; intro g34; try simp at g34) | (have _y := g32; clear _y; intro g33; try simp at g33) | (have _y := g31; clear _y; intro g32; try simp at g32) | (have _y := g30; clear _y; intro g31; try simp at g31) | (have _y := g29; clear _y; intro g30; try simp at g30) | (have _y := g28; clear _y; intro g29; try simp at g29) | (have _y := g27; clear _y; intro g28; try simp at g28) | (have _y := g26; clear _y; intro g27; try simp at g27) | (have _y := g25; clear _y; intro g26; try simp at g26) | (have _y := g24; clear _y; intro g25; try simp at g25) | (have _y := g23; clear _y; intro g24; try simp at g24) | (have _y := g22; clear _y; intro g23; try simp at g23) | (have _y := g21; clear _y; intro g22; try simp at g22) | (have _y := g20; clear _y; intro g21; try simp at g21) | (have _y := g19; clear _y; intro g20; try simp at g20) | (have _y := g18; clear _y; intro g19; try simp at g19) | (have _y := g17; clear _y; intro g18; try simp at g18) | (have _y := g16; clear _y; intro g17; try simp at g17) | (have _y := g15; clear _y; intro g16; try simp at g16) | (have _y := g14; clear _y; intro g15; try simp at g15) | (have _y := g13; clear _y; intro g14; try simp at g14) | (have _y := g12; clear _y; intro g13; try simp at g13) | (have _y := g11; clear _y; intro g12; try simp at g12) | (have _y := g10; clear _y; intro g11; try simp at g11) | (have _y := g9; clear _y; intro g10; try simp at g10) | (have _y := g8; clear _y; intro g9; try simp at g9) | (have _y := g7; clear _y; intro g8; try simp at g8) | (have _y := g6; clear _y; intro g7; try simp at g7) | (have _y := g5; clear _y; intro g6; try simp at g6) | (have _y := g4; clear _y; intro g5; try simp at g5) | (have _y := g3; clear _y; intro g4; try simp at g4) | (have _y := g2; clear _y; intro g3; try simp at g3) | (have _y := g1; clear _y; intro g2; try simp at g2) | (intro g1; try simp at g1))))
    · have e : sendE o f = frameE f := if_pos g1
      ((with_reducible apply w_next (())); (case kt => first | exact kt_refl | (repeat (first | exact kt_refl | refine kt_wr (by rfl) ?_ | refine kt_jnk (by rfl) ?_ | refine kt_wrs (by rfl) ?_))); (case ko => repeat (first | exact ko_refl | refine ko_wo (by first | exact .inl (by rfl) | exact .inr (by simp) | exact .inr (by omega)) ?_ | refine ko_wor (by rfl) ?_ | refine ko_wos (by simp) ?_)); (case hn => first | exact Nat.le_refl _ | (simp; done) | (simp; omega)); (case hs => simp [e]); (case hb => simp [e]); (case ls => simp (disch := omega) [e, wrp]); (case lb => simp [e]); (case mu => first | (simp; omega) | (simp; done) | omega | (simp only; omega)); (case' rel' => (try simp only); (try exact trivial)))
    · have e : sendE o f = outE o := if_neg g1
      ((with_reducible apply w_next (())); (case kt => first | exact kt_refl | (repeat (first | exact kt_refl | refine kt_wr (by rfl) ?_ | refine kt_jnk (by rfl) ?_ | refine kt_wrs (by rfl) ?_))); (case ko => repeat (first | exact ko_refl | refine ko_wo (by first | exact .inl (by rfl) | exact .inr (by simp) | exact .inr (by omega)) ?_ | refine ko_wor (by rfl) ?_ | refine ko_wos (by simp) ?_)); (case hn => first | exact Nat.le_refl _ | (simp; done) | (simp; omega)); (case hs => simp [e]); (case hb => simp [e]); (case ls => simp (disch := omega) [e, wrp]); (case lb => simp [e]); (case mu => first | (simp; omega) | (simp; done) | omega | (simp only; omega)); (case' rel' => (try simp only); (try exact trivial)))
    · exact absurd h g3
    · simp [outT]
  · have hv : sendS o f turn = (ou0, [], sendE o f) := if_neg h
    rw [hv]
    repeat' (first
    | ((first | with_reducible refine w_cut (x := .cond (.tmp 13) _ _) (X := Unit) [9, 12, 13, 14, 15] (fun _ => [(9, I (sendE o f))]) (fun _ => []) (fun _ => True) ?_ ?_ | with_reducible refine w_cut (x := .seq (.region _ _ _) (.cond (.tmp 13) _ _)) (X := Unit) [9, 12, 13, 14, 15] (fun _ => [(9, I (sendE o f))]) (fun _ => []) (fun _ => True) ?_ ?_); (try (rintro z hz; simp only at hz)))
    | with_reducible refine go_later ?_
    | (with_reducible refine w_reg (by decide +kernel) fun K1 hK => ?_)
    | (with_reducible refine w_reg_end (by decide +kernel) fun K1 hK => ?_)
    | ((with_reducible apply d_reg Try.mix (by decide +kernel)); (case hm => simp only [List.length_cons, List.length_nil, Nat.reduceAdd, Nat.reduceMul]; exact rfl); (case' h => intro K1 hK))
    | ((with_reducible apply d_reg_end Try.mix (by decide +kernel)); (case hm => simp only [List.length_cons, List.length_nil, Nat.reduceAdd, Nat.reduceMul]; exact rfl); (case' h => intro K1 hK))
    | ((with_reducible apply v_op Try.tab); (case hnb => (try simp only [Nat.reduceAdd, Nat.reduceMul]); exact rfl); (case hi => (try simp only [Nat.reduceAdd, Nat.reduceMul]); exact rfl); (case' h => intro K' h0 hw; conv => whnf))
    | ((with_reducible apply v_op0 Try.tab); (case hnb => (try simp only [Nat.reduceAdd, Nat.reduceMul]); exact rfl); (case hi => (try simp only [Nat.reduceAdd, Nat.reduceMul]); exact rfl); (case' h => intro K' h0 hw; conv => whnf))
    | ((with_reducible apply d_op Try.tab); (case hnb => (try simp only [Nat.reduceAdd, Nat.reduceMul]); exact rfl); (case hi => (try simp only [Nat.reduceAdd, Nat.reduceMul]); exact rfl); (case' h => intro K' h0 hw; conv => whnf))
    | ((with_reducible apply d_op0 Try.tab); (case hnb => (try simp only [Nat.reduceAdd, Nat.reduceMul]); exact rfl); (case hi => (try simp only [Nat.reduceAdd, Nat.reduceMul]); exact rfl); (case' h => intro K' h0 hw; conv => whnf))
    | ((with_reducible apply v_nil); (case hm => (try simp only [Nat.reduceAdd, Nat.reduceMul]); exact rfl); (case' h => with_reducible refine hK _ ?_; clear hK))
    | (with_reducible refine h0 _ _ ?_; clear h0 hw)
    | (with_reducible refine hw _ _ _ ?_; clear h0 hw)
    | ((with_reducible apply d_nil); (refine hK _ _ _ _ (by first | decide +kernel | (simp only [List.map_cons, List.map_nil, List.nil_append, List.cons_append]; decide +kernel) | rfl) ?_; clear hK))
    | (refine d_grd_yes (by rfl) (by rfl) ?_)
    | ((apply d_grd_no); (case hg => rfl); (case hb => rfl); (case hi => (try simp only [Nat.reduceAdd, Nat.reduceMul]); exact rfl))
    | ((apply d_grd_undef); (case hg => rfl); (case hb => rfl); (case hi => (try simp only [Nat.reduceAdd, Nat.reduceMul]); exact rfl))
    | ((apply d_grd); (case hg => rfl); (case hb => rfl); (case hi => (try simp only [Nat.reduceAdd, Nat.reduceMul]); exact rfl))
    | (refine v_grd_yes (by rfl) (by rfl) ?_)
    | ((apply v_grd_no); (case hg => rfl); (case hb => rfl); (case hi => (try simp only [Nat.reduceAdd, Nat.reduceMul]); exact rfl))
    | ((apply v_grd_undef); (case hg => rfl); (case hb => rfl); (case hi => (try simp only [Nat.reduceAdd, Nat.reduceMul]); exact rfl))
    | ((apply v_grd); (case hg => rfl); (case hb => rfl); (case hi => (try simp only [Nat.reduceAdd, Nat.reduceMul]); exact rfl))
    | ((with_reducible apply callV_f own33 (c_outCheck _)); (case hx => rfl); (case he => rfl); (case hle => first | ((repeat constructor); done) | (simp; done)); (case hpu => repeat constructor); (case' hK => conv => whnf))
    | ((with_reducible apply callV_f own50 (c_frameCheck _ hl)); (case hx => rfl); (case he => rfl); (case hle => first | ((repeat constructor); done) | (simp; done)); (case hpu => repeat constructor); (case' hK => conv => whnf))
    | with_reducible refine go_ret ?_
    | with_reducible refine go_seq ?_
    | with_reducible refine go_skip ?_
    | with_reducible refine go_block ?_
    | with_reducible refine go_exit ?_
    | ((with_reducible apply go_cond); (case hb => rfl))
    | with_reducible refine out_seq_ret ?_
    | with_reducible refine out_seq_normal ?_
    | with_reducible refine out_seq_exit ?_
    | with_reducible refine out_block_ret ?_
    | with_reducible refine out_block_normal ?_
    | with_reducible refine out_block_here ?_
    | with_reducible refine out_loop_ret ?_
    | with_reducible refine out_loop_exit ?_
    | ((with_reducible apply out_block_there); (case hne => rfl))
    | ((with_reducible refine w_ret Try.tab fun K' hL => ?_); (conv => whnf))
    | ((with_reducible refine w_ret_end Try.tab fun K' hL => ?_); (conv => whnf))
    | (with_reducible refine hL _ ?_; clear hL)
    | ((with_reducible apply And.intro); (case' right => try (conv => whnf)); (case' left => try first | rfl | decide | (simp; done)))
    | ((with_reducible apply Side.mk); (try simp); (try omega))
    | ((with_reducible refine all_row ?_); (first | (have _y := hx5; clear _y; intro x6 hx6) | (have _y := hx4; clear _y; intro x5 hx5) | (have _y := hx3; clear _y; intro x4 hx4) | (have _y := hx2; clear _y; intro x3 hx3) | (have _y := hx1; clear _y; intro x2 hx2) | (intro x1 hx1)); conv => whnf)
    | ((refine ⟨_, eqlT36 (by rfl) (by rfl), ?_⟩); conv => whnf)
    | ((refine ⟨_, neqT36 (by rfl) (by rfl), ?_⟩); conv => whnf)
    | ((refine ⟨_, eqlT45 (by rfl) (by rfl), ?_⟩); conv => whnf)
    | ((refine ⟨_, neqT45 (by rfl) (by rfl), ?_⟩); conv => whnf)
    | ((refine ⟨_, eqlT57 (by rfl) (by rfl), ?_⟩); conv => whnf)
    | ((refine ⟨_, neqT57 (by rfl) (by rfl), ?_⟩); conv => whnf)
    | ((first | (have _y := g35; clear _y; intro g36; try simp at g36) | (have _y := g34; clear _y; intro g35; try simp at g35) | (have _y := g33; clear _y; intro g34; try simp at g34) | (have _y := g32; clear _y; intro g33; try simp at g33) | (have _y := g31; clear _y; intro g32; try simp at g32) | (have _y := g30; clear _y; intro g31; try simp at g31) | (have _y := g29; clear _y; intro g30; try simp at g30) | (have _y := g28; clear _y; intro g29; try simp at g29) | (have _y := g27; clear _y; intro g28; try simp at g28) | (have _y := g26; clear _y; intro g27; try simp at g27) | (have _y := g25; clear _y; intro g26; try simp at g26) | (have _y := g24; clear _y; intro g25; try simp at g25) | (have _y := g23; clear _y; intro g24; try simp at g24) | (have _y := g22; clear _y; intro g23; try simp at g23) | (have _y := g21; clear _y; intro g22; try simp at g22) | (have _y := g20; clear _y; intro g21; try simp at g21) | (have _y := g19; clear _y; intro g20; try simp at g20) | (have _y := g18; clear _y; intro g19; try simp at g19) | (have _y := g17; clear _y; intro g18; try simp at g18) | (have _y := g16; clear _y; intro g17; try simp at g17) | (have _y := g15; clear _y; intro g16; try simp at g16) | (have _y := g14; clear _y; intro g15; try simp at g15) | (have _y := g13; clear _y; intro g14; try simp at g14) | (have _y := g12; clear _y; intro g13; try simp at g13) | (have _y := g11; clear _y; intro g12; try simp at g12) | (have _y := g10; clear _y; intro g11; try simp at g11) | (have _y := g9; clear _y; intro g10; try simp at g10) | (have _y := g8; clear _y; intro g9; try simp at g9) | (have _y := g7; clear _y; intro g8; try simp at g8) | (have _y := g6; clear _y; intro g7; try simp at g7) | (have _y := g5; clear _y; intro g6; try simp at g6) | (have _y := g4; clear _y; intro g5; try simp at g5) | (have _y := g3; clear _y; intro g4; try simp at g4) | (have _y := g2; clear _y; intro g3; try simp at g3) | (have _y := g1; clear _y; intro g2; try simp at g2) | (intro g1; try simp at g1))))
    · have e : sendE o f = frameE f := if_pos g1
      ((with_reducible apply w_next (())); (case kt => first | exact kt_refl | (repeat (first | exact kt_refl | refine kt_wr (by rfl) ?_ | refine kt_jnk (by rfl) ?_ | refine kt_wrs (by rfl) ?_))); (case ko => repeat (first | exact ko_refl | refine ko_wo (by first | exact .inl (by rfl) | exact .inr (by simp) | exact .inr (by omega)) ?_ | refine ko_wor (by rfl) ?_ | refine ko_wos (by simp) ?_)); (case hn => first | exact Nat.le_refl _ | (simp; done) | (simp; omega)); (case hs => simp [e]); (case hb => simp [e]); (case ls => simp (disch := omega) [e, wrp]); (case lb => simp [e]); (case mu => first | (simp; omega) | (simp; done) | omega | (simp only; omega)); (case' rel' => (try simp only); (try exact trivial)))
    · have e : sendE o f = outE o := if_neg g1
      ((with_reducible apply w_next (())); (case kt => first | exact kt_refl | (repeat (first | exact kt_refl | refine kt_wr (by rfl) ?_ | refine kt_jnk (by rfl) ?_ | refine kt_wrs (by rfl) ?_))); (case ko => repeat (first | exact ko_refl | refine ko_wo (by first | exact .inl (by rfl) | exact .inr (by simp) | exact .inr (by omega)) ?_ | refine ko_wor (by rfl) ?_ | refine ko_wos (by simp) ?_)); (case hn => first | exact Nat.le_refl _ | (simp; done) | (simp; omega)); (case hs => simp [e]); (case hb => simp [e]); (case ls => simp (disch := omega) [e, wrp]); (case lb => simp [e]); (case mu => first | (simp; omega) | (simp; done) | omega | (simp only; omega)); (case' rel' => (try simp only); (try exact trivial)))
    · simp [outT, ou0]
    · exact absurd g3 h
/-- What comes of the cells that a packet is made of. -/
def pk1 (o : Ou) (t : Int) (f : Fr) (i : Nat) (a c : Bool) : Pkt := ⟨(o.last + 1 + i) % 65536, t, a, false, c, f.parts.getD i ByteArray.empty⟩
set_option maxHeartbeats 2000000 in
theorem c_sendOf (o : Ou) (f : Fr) (turn : Bool) (ho : outOK o) (hf : 0 ≤ f.time ∧ f.time ≤ 1000000 ∧ f.parts.length ≤ 4) :
    PSpec Try.prog 31 [.agg (ouC o), .agg (frC f), B turn] (outT (rawS o f turn)) := by
  have hp := ho
  unfold outOK at hp
  have hs : -2000000 ≤ shiftS o f turn ∧ shiftS o f turn ≤ 2000000 := by unfold shiftS; split <;> omega
  have e1 := wrp (n := o.time + 10) (by omega) (by omega)
  have e2 := wrp (n := o.time + 10 - f.time) (by omega) (by omega)
  have e3 := wrp (n := f.time + shiftS o f turn) (by omega) (by omega)
  have e4 := wrp (n := o.last + (f.parts.length : Int)) (by omega) (by omega)
  refine v_pspec Try.func31 rfl Try.ntmps31 Try.results31 (by simp) (outT_pu _) ?_
  repeat' (first
    | ((first | with_reducible refine w_cut (x := .cond (.tmp 19) _ _) (X := Unit) [14, 15, 16, 17, 18, 19, 20, 21, 22, 23, 24, 25, 26] (fun _ => []) (fun _ => [(96, .box [I o.last, I o.time, I (shiftS o f turn)])]) (fun _ => True) ?_ ?_ | with_reducible refine w_cut (x := .seq (.region _ _ _) (.cond (.tmp 19) _ _)) (X := Unit) [14, 15, 16, 17, 18, 19, 20, 21, 22, 23, 24, 25, 26] (fun _ => []) (fun _ => [(96, .box [I o.last, I o.time, I (shiftS o f turn)])]) (fun _ => True) ?_ ?_); (try (rintro z hz; simp only at hz)))
    | ((with_reducible apply w_ownNil 10 57 6); (case hs => rfl); (case hsz => decide); (case hm => (try simp only [Nat.reduceAdd, Nat.reduceMul]); exact rfl))
    | with_reducible refine go_later ?_
    | (with_reducible refine w_reg (by decide +kernel) fun K1 hK => ?_)
    | (with_reducible refine w_reg_end (by decide +kernel) fun K1 hK => ?_)
    | ((with_reducible apply d_reg Try.mix (by decide +kernel)); (case hm => simp only [List.length_cons, List.length_nil, Nat.reduceAdd, Nat.reduceMul]; exact rfl); (case' h => intro K1 hK))
    | ((with_reducible apply d_reg_end Try.mix (by decide +kernel)); (case hm => simp only [List.length_cons, List.length_nil, Nat.reduceAdd, Nat.reduceMul]; exact rfl); (case' h => intro K1 hK))
    | ((with_reducible apply v_op Try.tab); (case hnb => (try simp only [Nat.reduceAdd, Nat.reduceMul]); exact rfl); (case hi => (try simp only [Nat.reduceAdd, Nat.reduceMul]); exact rfl); (case' h => intro K' h0 hw; conv => whnf))
    | ((with_reducible apply v_op0 Try.tab); (case hnb => (try simp only [Nat.reduceAdd, Nat.reduceMul]); exact rfl); (case hi => (try simp only [Nat.reduceAdd, Nat.reduceMul]); exact rfl); (case' h => intro K' h0 hw; conv => whnf))
    | ((with_reducible apply d_op Try.tab); (case hnb => (try simp only [Nat.reduceAdd, Nat.reduceMul]); exact rfl); (case hi => (try simp only [Nat.reduceAdd, Nat.reduceMul]); exact rfl); (case' h => intro K' h0 hw; conv => whnf))
    | ((with_reducible apply d_op0 Try.tab); (case hnb => (try simp only [Nat.reduceAdd, Nat.reduceMul]); exact rfl); (case hi => (try simp only [Nat.reduceAdd, Nat.reduceMul]); exact rfl); (case' h => intro K' h0 hw; conv => whnf))
    | ((with_reducible apply v_nil); (case hm => (try simp only [Nat.reduceAdd, Nat.reduceMul]); exact rfl); (case' h => with_reducible refine hK _ ?_; clear hK))
    | (with_reducible refine h0 _ _ ?_; clear h0 hw)
    | (with_reducible refine hw _ _ _ ?_; clear h0 hw)
    | ((with_reducible apply d_nil); (refine hK _ _ _ _ (by first | decide +kernel | (simp only [List.map_cons, List.map_nil, List.nil_append, List.cons_append]; decide +kernel) | rfl) ?_; clear hK))
    | (refine d_grd_yes (by rfl) (by rfl) ?_)
    | ((apply d_grd_no); (case hg => rfl); (case hb => rfl); (case hi => (try simp only [Nat.reduceAdd, Nat.reduceMul]); exact rfl))
    | ((apply d_grd_undef); (case hg => rfl); (case hb => rfl); (case hi => (try simp only [Nat.reduceAdd, Nat.reduceMul]); exact rfl))
    | ((apply d_grd); (case hg => rfl); (case hb => rfl); (case hi => (try simp only [Nat.reduceAdd, Nat.reduceMul]); exact rfl))
    | (refine v_grd_yes (by rfl) (by rfl) ?_)
    | ((apply v_grd_no); (case hg => rfl); (case hb => rfl); (case hi => (try simp only [Nat.reduceAdd, Nat.reduceMul]); exact rfl))
    | ((apply v_grd_undef); (case hg => rfl); (case hb => rfl); (case hi => (try simp only [Nat.reduceAdd, Nat.reduceMul]); exact rfl))
    | ((apply v_grd); (case hg => rfl); (case hb => rfl); (case hi => (try simp only [Nat.reduceAdd, Nat.reduceMul]); exact rfl))
    | with_reducible refine go_ret ?_
    | with_reducible refine go_seq ?_
    | with_reducible refine go_skip ?_
    | with_reducible refine go_block ?_
    | with_reducible refine go_exit ?_
    | ((with_reducible apply go_cond); (case hb => rfl))
    | with_reducible refine out_seq_ret ?_
    | with_reducible refine out_seq_normal ?_
    | with_reducible refine out_seq_exit ?_
    | with_reducible refine out_block_ret ?_
    | with_reducible refine out_block_normal ?_
    | with_reducible refine out_block_here ?_
    | with_reducible refine out_loop_ret ?_
    | with_reducible refine out_loop_exit ?_
    | ((with_reducible apply out_block_there); (case hne => rfl))
    | ((with_reducible refine w_ret Try.tab fun K' hL => ?_); (conv => whnf))
    | ((with_reducible refine w_ret_end Try.tab fun K' hL => ?_); (conv => whnf))
    | (with_reducible refine hL _ ?_; clear hL)
    | ((with_reducible apply And.intro); (case' right => try (conv => whnf)); (case' left => try first | rfl | decide | (simp; done)))
    | ((with_reducible apply Side.mk); (try simp); (try omega))
    | ((with_reducible refine all_row ?_); (first | (have _y := hx5; clear _y; intro x6 hx6) | (have _y := hx4; clear _y; intro x5 hx5) | (have _y := hx3; clear _y; intro x4 hx4) | (have _y := hx2; clear _y; intro x3 hx3) | (have _y := hx1; clear _y; intro x2 hx2) | (intro x1 hx1)); conv => whnf)
    | ((refine ⟨_, eqlT36 (by rfl) (by rfl), ?_⟩); conv => whnf)
    | ((refine ⟨_, neqT36 (by rfl) (by rfl), ?_⟩); conv => whnf)
    | ((refine ⟨_, eqlT45 (by rfl) (by rfl), ?_⟩); conv => whnf)
    | ((refine ⟨_, neqT45 (by rfl) (by rfl), ?_⟩); conv => whnf)
    | ((refine ⟨_, eqlT57 (by rfl) (by rfl), ?_⟩); conv => whnf)
    | ((refine ⟨_, neqT57 (by rfl) (by rfl), ?_⟩); conv => whnf)
    | ((first | (have _y := g35; clear _y; intro g36; try simp at g36) | (have _y := g34; clear _y; intro g35; try simp at g35) | (have _y := g33; clear _y; intro g34; try simp at g34) | (have _y := g32; clear _y; intro g33; try simp at g33) | (have _y := g31; clear _y; intro g32; try simp at g32) | (have _y := g30; clear _y; intro g31; try simp at g31) | (have _y := g29; clear _y; intro g30; try simp at g30) | (have _y := g28; clear _y; intro g29; try simp at g29) | (have _y := g27; clear _y; intro g28; try simp at g28) | (have _y := g26; clear _y; intro g27; try simp at g27) | (have _y := g25; clear _y; intro g26; try simp at g26) | (have _y := g24; clear _y; intro g25; try simp at g25) | (have _y := g23; clear _y; intro g24; try simp at g24) | (have _y := g22; clear _y; intro g23; try simp at g23) | (have _y := g21; clear _y; intro g22; try simp at g22) | (have _y := g20; clear _y; intro g21; try simp at g21) | (have _y := g19; clear _y; intro g20; try simp at g20) | (have _y := g18; clear _y; intro g19; try simp at g19) | (have _y := g17; clear _y; intro g18; try simp at g18) | (have _y := g16; clear _y; intro g17; try simp at g17) | (have _y := g15; clear _y; intro g16; try simp at g16) | (have _y := g14; clear _y; intro g15; try simp at g15) | (have _y := g13; clear _y; intro g14; try simp at g14) | (have _y := g12; clear _y; intro g13; try simp at g13) | (have _y := g11; clear _y; intro g12; try simp at g12) | (have _y := g10; clear _y; intro g11; try simp at g11) | (have _y := g9; clear _y; intro g10; try simp at g10) | (have _y := g8; clear _y; intro g9; try simp at g9) | (have _y := g7; clear _y; intro g8; try simp at g8) | (have _y := g6; clear _y; intro g7; try simp at g7) | (have _y := g5; clear _y; intro g6; try simp at g6) | (have _y := g4; clear _y; intro g5; try simp at g5) | (have _y := g3; clear _y; intro g4; try simp at g4) | (have _y := g2; clear _y; intro g3; try simp at g3) | (have _y := g1; clear _y; intro g2; try simp at g2) | (intro g1; try simp at g1))))
  · have hv : shiftS o f turn = o.time + 10 - f.time := if_pos (.inr g2)
    ((with_reducible apply w_next (())); (case kt => first | exact kt_refl | (repeat (first | exact kt_refl | refine kt_wr (by rfl) ?_ | refine kt_jnk (by rfl) ?_ | refine kt_wrs (by rfl) ?_))); (case ko => repeat (first | exact ko_refl | refine ko_wo (by first | exact .inl (by rfl) | exact .inr (by simp) | exact .inr (by omega)) ?_ | refine ko_wor (by rfl) ?_ | refine ko_wos (by simp) ?_)); (case hn => first | exact Nat.le_refl _ | (simp; done) | (simp; omega)); (case hs => simp [hv, e1, e2]); (case hb => simp [hv, e1, e2]); (case ls => simp (disch := omega) [hv, e1, e2, wrp]); (case lb => simp [hv, e1, e2]); (case mu => first | (simp; omega) | (simp; done) | omega | (simp only; omega)); (case' rel' => (try simp only); (try exact trivial)))
  · have hv : shiftS o f turn = o.shift := if_neg (by simp [g1, g2])
    ((with_reducible apply w_next (())); (case kt => first | exact kt_refl | (repeat (first | exact kt_refl | refine kt_wr (by rfl) ?_ | refine kt_jnk (by rfl) ?_ | refine kt_wrs (by rfl) ?_))); (case ko => repeat (first | exact ko_refl | refine ko_wo (by first | exact .inl (by rfl) | exact .inr (by simp) | exact .inr (by omega)) ?_ | refine ko_wor (by rfl) ?_ | refine ko_wos (by simp) ?_)); (case hn => first | exact Nat.le_refl _ | (simp; done) | (simp; omega)); (case hs => simp [hv, e1, e2]); (case hb => simp [hv, e1, e2]); (case ls => simp (disch := omega) [hv, e1, e2, wrp]); (case lb => simp [hv, e1, e2]); (case mu => first | (simp; omega) | (simp; done) | omega | (simp only; omega)); (case' rel' => (try simp only); (try exact trivial)))
  · have hv : shiftS o f turn = o.time + 10 - f.time := if_pos (.inl (by simp_all))
    ((with_reducible apply w_next (())); (case kt => first | exact kt_refl | (repeat (first | exact kt_refl | refine kt_wr (by rfl) ?_ | refine kt_jnk (by rfl) ?_ | refine kt_wrs (by rfl) ?_))); (case ko => repeat (first | exact ko_refl | refine ko_wo (by first | exact .inl (by rfl) | exact .inr (by simp) | exact .inr (by omega)) ?_ | refine ko_wor (by rfl) ?_ | refine ko_wos (by simp) ?_)); (case hn => first | exact Nat.le_refl _ | (simp; done) | (simp; omega)); (case hs => simp [hv, e1, e2]); (case hb => simp [hv, e1, e2]); (case ls => simp (disch := omega) [hv, e1, e2, wrp]); (case lb => simp [hv, e1, e2]); (case mu => first | (simp; omega) | (simp; done) | omega | (simp only; omega)); (case' rel' => (try simp only); (try exact trivial)))
  · rw [e3] at g3
    have hv : frameS o f turn = (⟨o.last, o.time, shiftS o f turn⟩, [], 4) := if_pos g3
    simp [outT, rawS, hv, ou0]
  · rw [e3] at g3 g4
    rw [e4] at g5
    have hv : frameS o f turn = (⟨o.last, o.time, shiftS o f turn⟩, [], 2) := by unfold frameS; rw [if_neg (by omega), if_pos (by omega)]
    simp [outT, rawS, hv, ou0]
  · rw [e3] at g3 g4
    rw [e4] at g5
    have hv : frameS o f turn = (⟨o.last + f.parts.length, f.time + shiftS o f turn, shiftS o f turn⟩, pksTo o.last (f.time + shiftS o f turn) f f.parts.length, 0) := by unfold frameS; rw [if_neg (by omega), if_neg (by omega)]
    have hr : rawS o f turn = frameS o f turn := if_pos (by rw [hv])
    rw [hr, hv]
    refine w_loop (X := Nat) [10, 11, 12, 55, 56, 57, 58, 59, 60, 61, 62, 63, 64, 65, 66, 67, 68, 69, 70, 71, 72, 73, 74, 75, 76, 77, 78, 79, 80, 81, 82, 83, 84, 85, 86, 87, 88, 89, 90, 91, 92] (fun k => [(11, I k), (10, .osl 592 6 (rowP (pksTo o.last (f.time + shiftS o f turn) f k)))]) (fun k => [(592, .perm 57 6 k)]) (fun k => k ≤ f.parts.length) (fun k => f.parts.length - k) 0 (by simp) ?_ ?_
    · refine ⟨kt_refl, ko_refl, ?_, ?_, ?_, ?_, Nat.le_refl _⟩ <;> simp [pksTo]
    rintro k h1
    have hpl := pksTo_len o.last (f.time + shiftS o f turn) f k
    have hp2 := pksTo_succ o.last (f.time + shiftS o f turn) f k
    unfold pk pkS at hp2
    have ha : o.last + (k : Int) + 1 = o.last + 1 + k := by omega
    rw [ha] at hp2
    have e5 := wrp (n := o.last + 1) (by omega) (by omega)
    have e6 := wrp (n := o.last + 1 + (k : Int)) (by omega) (by omega)
    have e7 := tmp (a := o.last + 1 + (k : Int)) (b := 65536) (by omega)
    have e8 := wrp (n := (f.parts.length : Int) - 1) (by omega) (by omega)
    repeat' (first
    | with_reducible refine go_later ?_
    | (with_reducible refine w_reg (by decide +kernel) fun K1 hK => ?_)
    | (with_reducible refine w_reg_end (by decide +kernel) fun K1 hK => ?_)
    | ((with_reducible apply d_reg Try.mix (by decide +kernel)); (case hm => simp only [List.length_cons, List.length_nil, Nat.reduceAdd, Nat.reduceMul]; exact rfl); (case' h => intro K1 hK))
    | ((with_reducible apply d_reg_end Try.mix (by decide +kernel)); (case hm => simp only [List.length_cons, List.length_nil, Nat.reduceAdd, Nat.reduceMul]; exact rfl); (case' h => intro K1 hK))
    | ((with_reducible apply v_op Try.tab); (case hnb => (try simp only [Nat.reduceAdd, Nat.reduceMul]); exact rfl); (case hi => (try simp only [Nat.reduceAdd, Nat.reduceMul]); exact rfl); (case' h => intro K' h0 hw; conv => whnf))
    | ((with_reducible apply v_op0 Try.tab); (case hnb => (try simp only [Nat.reduceAdd, Nat.reduceMul]); exact rfl); (case hi => (try simp only [Nat.reduceAdd, Nat.reduceMul]); exact rfl); (case' h => intro K' h0 hw; conv => whnf))
    | ((with_reducible apply d_op Try.tab); (case hnb => (try simp only [Nat.reduceAdd, Nat.reduceMul]); exact rfl); (case hi => (try simp only [Nat.reduceAdd, Nat.reduceMul]); exact rfl); (case' h => intro K' h0 hw; conv => whnf))
    | ((with_reducible apply d_op0 Try.tab); (case hnb => (try simp only [Nat.reduceAdd, Nat.reduceMul]); exact rfl); (case hi => (try simp only [Nat.reduceAdd, Nat.reduceMul]); exact rfl); (case' h => intro K' h0 hw; conv => whnf))
    | ((with_reducible apply v_nil); (case hm => (try simp only [Nat.reduceAdd, Nat.reduceMul]); exact rfl); (case' h => with_reducible refine hK _ ?_; clear hK))
    | (with_reducible refine h0 _ _ ?_; clear h0 hw)
    | (with_reducible refine hw _ _ _ ?_; clear h0 hw)
    | ((with_reducible apply d_nil); (refine hK _ _ _ _ (by first | decide +kernel | (simp only [List.map_cons, List.map_nil, List.nil_append, List.cons_append]; decide +kernel) | rfl) ?_; clear hK))
    | (refine d_grd_yes (by rfl) (by rfl) ?_)
    | ((apply d_grd_no); (case hg => rfl); (case hb => rfl); (case hi => (try simp only [Nat.reduceAdd, Nat.reduceMul]); exact rfl))
    | ((apply d_grd_undef); (case hg => rfl); (case hb => rfl); (case hi => (try simp only [Nat.reduceAdd, Nat.reduceMul]); exact rfl))
    | ((apply d_grd); (case hg => rfl); (case hb => rfl); (case hi => (try simp only [Nat.reduceAdd, Nat.reduceMul]); exact rfl))
    | (refine v_grd_yes (by rfl) (by rfl) ?_)
    | ((apply v_grd_no); (case hg => rfl); (case hb => rfl); (case hi => (try simp only [Nat.reduceAdd, Nat.reduceMul]); exact rfl))
    | ((apply v_grd_undef); (case hg => rfl); (case hb => rfl); (case hi => (try simp only [Nat.reduceAdd, Nat.reduceMul]); exact rfl))
    | ((apply v_grd); (case hg => rfl); (case hb => rfl); (case hi => (try simp only [Nat.reduceAdd, Nat.reduceMul]); exact rfl))
    | with_reducible refine go_ret ?_
    | with_reducible refine go_seq ?_
    | with_reducible refine go_skip ?_
    | with_reducible refine go_block ?_
    | with_reducible refine go_exit ?_
    | ((with_reducible apply go_cond); (case hb => rfl))
    | with_reducible refine out_seq_ret ?_
    | with_reducible refine out_seq_normal ?_
    | with_reducible refine out_seq_exit ?_
    | with_reducible refine out_block_ret ?_
    | with_reducible refine out_block_normal ?_
    | with_reducible refine out_block_here ?_
    | with_reducible refine out_loop_ret ?_
    | with_reducible refine out_loop_exit ?_
    | ((with_reducible apply out_block_there); (case hne => rfl))
    | ((with_reducible refine w_ret Try.tab fun K' hL => ?_); (conv => whnf))
    | ((with_reducible refine w_ret_end Try.tab fun K' hL => ?_); (conv => whnf))
    | (with_reducible refine hL _ ?_; clear hL)
    | ((with_reducible apply And.intro); (case' right => try (conv => whnf)); (case' left => try first | rfl | decide | (simp [pksTo_len]; done)))
    | ((with_reducible apply Side.mk); (try simp); (try omega))
    | ((with_reducible refine all_row ?_); (first | (have _y := hx5; clear _y; intro x6 hx6) | (have _y := hx4; clear _y; intro x5 hx5) | (have _y := hx3; clear _y; intro x4 hx4) | (have _y := hx2; clear _y; intro x3 hx3) | (have _y := hx1; clear _y; intro x2 hx2) | (intro x1 hx1)); conv => whnf)
    | ((refine ⟨_, eqlT36 (by rfl) (by rfl), ?_⟩); conv => whnf)
    | ((refine ⟨_, neqT36 (by rfl) (by rfl), ?_⟩); conv => whnf)
    | ((refine ⟨_, eqlT45 (by rfl) (by rfl), ?_⟩); conv => whnf)
    | ((refine ⟨_, neqT45 (by rfl) (by rfl), ?_⟩); conv => whnf)
    | ((refine ⟨_, eqlT57 (by rfl) (by rfl), ?_⟩); conv => whnf)
    | ((refine ⟨_, neqT57 (by rfl) (by rfl), ?_⟩); conv => whnf)
    | ((first | (have _y := g35; clear _y; intro g36; try simp at g36) | (have _y := g34; clear _y; intro g35; try simp at g35) | (have _y := g33; clear _y; intro g34; try simp at g34) | (have _y := g32; clear _y; intro g33; try simp at g33) | (have _y := g31; clear _y; intro g32; try simp at g32) | (have _y := g30; clear _y; intro g31; try simp at g31) | (have _y := g29; clear _y; intro g30; try simp at g30) | (have _y := g28; clear _y; intro g29; try simp at g29) | (have _y := g27; clear _y; intro g28; try simp at g28) | (have _y := g26; clear _y; intro g27; try simp at g27) | (have _y := g25; clear _y; intro g26; try simp at g26) | (have _y := g24; clear _y; intro g25; try simp at g25) | (have _y := g23; clear _y; intro g24; try simp at g24) | (have _y := g22; clear _y; intro g23; try simp at g23) | (have _y := g21; clear _y; intro g22; try simp at g22) | (have _y := g20; clear _y; intro g21; try simp at g21) | (have _y := g19; clear _y; intro g20; try simp at g20) | (have _y := g18; clear _y; intro g19; try simp at g19) | (have _y := g17; clear _y; intro g18; try simp at g18) | (have _y := g16; clear _y; intro g17; try simp at g17) | (have _y := g15; clear _y; intro g16; try simp at g16) | (have _y := g14; clear _y; intro g15; try simp at g15) | (have _y := g13; clear _y; intro g14; try simp at g14) | (have _y := g12; clear _y; intro g13; try simp at g13) | (have _y := g11; clear _y; intro g12; try simp at g12) | (have _y := g10; clear _y; intro g11; try simp at g11) | (have _y := g9; clear _y; intro g10; try simp at g10) | (have _y := g8; clear _y; intro g9; try simp at g9) | (have _y := g7; clear _y; intro g8; try simp at g8) | (have _y := g6; clear _y; intro g7; try simp at g7) | (have _y := g5; clear _y; intro g6; try simp at g6) | (have _y := g4; clear _y; intro g5; try simp at g5) | (have _y := g3; clear _y; intro g4; try simp at g4) | (have _y := g2; clear _y; intro g3; try simp at g3) | (have _y := g1; clear _y; intro g2; try simp at g2) | (intro g1; try simp at g1))))
    all_goals (try rw [e8] at g8)
    iterate 4
      (simp at hx1
       first | have q7 : decide ((k : Int) = 0) = true := by simp; omega | have q7 : decide ((k : Int) = 0) = false := by simp; omega
       first | have q8 : decide ((k : Int) = (f.parts.length : Int) - 1) = true := by simp; omega | have q8 : decide ((k : Int) = (f.parts.length : Int) - 1) = false := by simp; omega
       clear g7 g8
       have hp3 := hp2
       rw [q7, q8, at_getD hx1] at hp3
       ((with_reducible apply w_next ((k + 1))); (case kt => first | exact kt_refl | (repeat (first | exact kt_refl | refine kt_wr (by rfl) ?_ | refine kt_jnk (by rfl) ?_ | refine kt_wrs (by rfl) ?_))); (case ko => repeat (first | exact ko_refl | refine ko_wo (by first | exact .inl (by rfl) | exact .inr (by simp) | exact .inr (by omega)) ?_ | refine ko_wor (by rfl) ?_ | refine ko_wos (by simp) ?_)); (case hn => first | exact Nat.le_refl _ | (simp; done) | (simp; omega)); (case hs => simp [hp3, e5, e6, e7, pksTo_len]); (case hb => simp [hp3, e5, e6, e7, pksTo_len]); (case ls => simp (disch := omega) [hp3, e5, e6, e7, pksTo_len, wrp]); (case lb => simp [hp3, e5, e6, e7, pksTo_len]); (case mu => first | (simp; omega) | (simp; done) | omega | (simp only; omega)); (case' rel' => (try simp only); (try exact trivial)))
       omega)
    · obtain rfl : k = f.parts.length := by omega
      simp [outT, e3, e4]
  · rw [e3] at g3 g4
    have hv : frameS o f turn = (⟨o.last, o.time, shiftS o f turn⟩, [], 2) := by unfold frameS; rw [if_neg (by omega), if_pos (by omega)]
    simp [outT, rawS, hv, ou0]
set_option maxHeartbeats 1000000 in
theorem c_samePackets (a b : List Pkt) (ha : a.length ≤ 17592186043904) : PSpec Try.prog 34 [pkts a, pkts b] (B (decide (a = b))) := by
  refine v_pspec Try.func34 rfl Try.ntmps34 Try.results34 (by simp) (by first | exact .s _ | repeat constructor) ?_
  repeat' (first
    | with_reducible refine go_later ?_
    | (with_reducible refine w_reg (by decide +kernel) fun K1 hK => ?_)
    | (with_reducible refine w_reg_end (by decide +kernel) fun K1 hK => ?_)
    | ((with_reducible apply d_reg Try.mix (by decide +kernel)); (case hm => simp only [List.length_cons, List.length_nil, Nat.reduceAdd, Nat.reduceMul]; exact rfl); (case' h => intro K1 hK))
    | ((with_reducible apply d_reg_end Try.mix (by decide +kernel)); (case hm => simp only [List.length_cons, List.length_nil, Nat.reduceAdd, Nat.reduceMul]; exact rfl); (case' h => intro K1 hK))
    | ((with_reducible apply v_op Try.tab); (case hnb => (try simp only [Nat.reduceAdd, Nat.reduceMul]); exact rfl); (case hi => (try simp only [Nat.reduceAdd, Nat.reduceMul]); exact rfl); (case' h => intro K' h0 hw; conv => whnf))
    | ((with_reducible apply v_op0 Try.tab); (case hnb => (try simp only [Nat.reduceAdd, Nat.reduceMul]); exact rfl); (case hi => (try simp only [Nat.reduceAdd, Nat.reduceMul]); exact rfl); (case' h => intro K' h0 hw; conv => whnf))
    | ((with_reducible apply d_op Try.tab); (case hnb => (try simp only [Nat.reduceAdd, Nat.reduceMul]); exact rfl); (case hi => (try simp only [Nat.reduceAdd, Nat.reduceMul]); exact rfl); (case' h => intro K' h0 hw; conv => whnf))
    | ((with_reducible apply d_op0 Try.tab); (case hnb => (try simp only [Nat.reduceAdd, Nat.reduceMul]); exact rfl); (case hi => (try simp only [Nat.reduceAdd, Nat.reduceMul]); exact rfl); (case' h => intro K' h0 hw; conv => whnf))
    | ((with_reducible apply v_nil); (case hm => (try simp only [Nat.reduceAdd, Nat.reduceMul]); exact rfl); (case' h => with_reducible refine hK _ ?_; clear hK))
    | (with_reducible refine h0 _ _ ?_; clear h0 hw)
    | (with_reducible refine hw _ _ _ ?_; clear h0 hw)
    | ((with_reducible apply d_nil); (refine hK _ _ _ _ (by first | decide +kernel | (simp only [List.map_cons, List.map_nil, List.nil_append, List.cons_append]; decide +kernel) | rfl) ?_; clear hK))
    | (refine d_grd_yes (by rfl) (by rfl) ?_)
    | ((apply d_grd_no); (case hg => rfl); (case hb => rfl); (case hi => (try simp only [Nat.reduceAdd, Nat.reduceMul]); exact rfl))
    | ((apply d_grd_undef); (case hg => rfl); (case hb => rfl); (case hi => (try simp only [Nat.reduceAdd, Nat.reduceMul]); exact rfl))
    | ((apply d_grd); (case hg => rfl); (case hb => rfl); (case hi => (try simp only [Nat.reduceAdd, Nat.reduceMul]); exact rfl))
    | (refine v_grd_yes (by rfl) (by rfl) ?_)
    | ((apply v_grd_no); (case hg => rfl); (case hb => rfl); (case hi => (try simp only [Nat.reduceAdd, Nat.reduceMul]); exact rfl))
    | ((apply v_grd_undef); (case hg => rfl); (case hb => rfl); (case hi => (try simp only [Nat.reduceAdd, Nat.reduceMul]); exact rfl))
    | ((apply v_grd); (case hg => rfl); (case hb => rfl); (case hi => (try simp only [Nat.reduceAdd, Nat.reduceMul]); exact rfl))
    | with_reducible refine go_ret ?_
    | with_reducible refine go_seq ?_
    | with_reducible refine go_skip ?_
    | with_reducible refine go_block ?_
    | with_reducible refine go_exit ?_
    | ((with_reducible apply go_cond); (case hb => rfl))
    | with_reducible refine out_seq_ret ?_
    | with_reducible refine out_seq_normal ?_
    | with_reducible refine out_seq_exit ?_
    | with_reducible refine out_block_ret ?_
    | with_reducible refine out_block_normal ?_
    | with_reducible refine out_block_here ?_
    | with_reducible refine out_loop_ret ?_
    | with_reducible refine out_loop_exit ?_
    | ((with_reducible apply out_block_there); (case hne => rfl))
    | ((with_reducible refine w_ret Try.tab fun K' hL => ?_); (conv => whnf))
    | ((with_reducible refine w_ret_end Try.tab fun K' hL => ?_); (conv => whnf))
    | (with_reducible refine hL _ ?_; clear hL)
    | ((with_reducible apply And.intro); (case' right => try (conv => whnf)); (case' left => try first | rfl | decide | (simp; done)))
    | ((with_reducible apply Side.mk); (try simp); (try omega))
    | ((with_reducible refine all_row ?_); (first | (have _y := hx5; clear _y; intro x6 hx6) | (have _y := hx4; clear _y; intro x5 hx5) | (have _y := hx3; clear _y; intro x4 hx4) | (have _y := hx2; clear _y; intro x3 hx3) | (have _y := hx1; clear _y; intro x2 hx2) | (intro x1 hx1)); conv => whnf)
    | ((refine ⟨_, eqlT36 (by rfl) (by rfl), ?_⟩); conv => whnf)
    | ((refine ⟨_, neqT36 (by rfl) (by rfl), ?_⟩); conv => whnf)
    | ((refine ⟨_, eqlT45 (by rfl) (by rfl), ?_⟩); conv => whnf)
    | ((refine ⟨_, neqT45 (by rfl) (by rfl), ?_⟩); conv => whnf)
    | ((refine ⟨_, eqlT57 (by rfl) (by rfl), ?_⟩); conv => whnf)
    | ((refine ⟨_, neqT57 (by rfl) (by rfl), ?_⟩); conv => whnf)
    | ((first | (have _y := g35; clear _y; intro g36; try simp at g36) | (have _y := g34; clear _y; intro g35; try simp at g35) | (have _y := g33; clear _y; intro g34; try simp at g34) | (have _y := g32; clear _y; intro g33; try simp at g33) | (have _y := g31; clear _y; intro g32; try simp at g32) | (have _y := g30; clear _y; intro g31; try simp at g31) | (have _y := g29; clear _y; intro g30; try simp at g30) | (have _y := g28; clear _y; intro g29; try simp at g29) | (have _y := g27; clear _y; intro g28; try simp at g28) | (have _y := g26; clear _y; intro g27; try simp at g27) | (have _y := g25; clear _y; intro g26; try simp at g26) | (have _y := g24; clear _y; intro g25; try simp at g25) | (have _y := g23; clear _y; intro g24; try simp at g24) | (have _y := g22; clear _y; intro g23; try simp at g23) | (have _y := g21; clear _y; intro g22; try simp at g22) | (have _y := g20; clear _y; intro g21; try simp at g21) | (have _y := g19; clear _y; intro g20; try simp at g20) | (have _y := g18; clear _y; intro g19; try simp at g19) | (have _y := g17; clear _y; intro g18; try simp at g18) | (have _y := g16; clear _y; intro g17; try simp at g17) | (have _y := g15; clear _y; intro g16; try simp at g16) | (have _y := g14; clear _y; intro g15; try simp at g15) | (have _y := g13; clear _y; intro g14; try simp at g14) | (have _y := g12; clear _y; intro g13; try simp at g13) | (have _y := g11; clear _y; intro g12; try simp at g12) | (have _y := g10; clear _y; intro g11; try simp at g11) | (have _y := g9; clear _y; intro g10; try simp at g10) | (have _y := g8; clear _y; intro g9; try simp at g9) | (have _y := g7; clear _y; intro g8; try simp at g8) | (have _y := g6; clear _y; intro g7; try simp at g7) | (have _y := g5; clear _y; intro g6; try simp at g6) | (have _y := g4; clear _y; intro g5; try simp at g5) | (have _y := g3; clear _y; intro g4; try simp at g4) | (have _y := g2; clear _y; intro g3; try simp at g3) | (have _y := g1; clear _y; intro g2; try simp at g2) | (intro g1; try simp at g1))))
  · refine le_of_eq ?_; simp; intro h; subst h; exact g1 rfl
  refine w_loop (X := Nat) [4, 5, 11, 12, 13, 14, 15, 16, 17, 18, 19, 20, 21, 22, 23, 24, 25] (fun i => [(5, I i)]) (fun _ => []) (fun i => i ≤ a.length ∧ a.take i = b.take i) (fun i => a.length - i) 0 (by simp) ?_ ?_
  · refine ⟨kt_refl, ko_refl, ?_, ?_, ?_, ?_, Nat.le_refl _⟩ <;> simp
  rintro i ⟨h1, h2⟩
  repeat' (first
    | with_reducible refine go_later ?_
    | (with_reducible refine w_reg (by decide +kernel) fun K1 hK => ?_)
    | (with_reducible refine w_reg_end (by decide +kernel) fun K1 hK => ?_)
    | ((with_reducible apply d_reg Try.mix (by decide +kernel)); (case hm => simp only [List.length_cons, List.length_nil, Nat.reduceAdd, Nat.reduceMul]; exact rfl); (case' h => intro K1 hK))
    | ((with_reducible apply d_reg_end Try.mix (by decide +kernel)); (case hm => simp only [List.length_cons, List.length_nil, Nat.reduceAdd, Nat.reduceMul]; exact rfl); (case' h => intro K1 hK))
    | ((with_reducible apply v_op Try.tab); (case hnb => (try simp only [Nat.reduceAdd, Nat.reduceMul]); exact rfl); (case hi => (try simp only [Nat.reduceAdd, Nat.reduceMul]); exact rfl); (case' h => intro K' h0 hw; conv => whnf))
    | ((with_reducible apply v_op0 Try.tab); (case hnb => (try simp only [Nat.reduceAdd, Nat.reduceMul]); exact rfl); (case hi => (try simp only [Nat.reduceAdd, Nat.reduceMul]); exact rfl); (case' h => intro K' h0 hw; conv => whnf))
    | ((with_reducible apply d_op Try.tab); (case hnb => (try simp only [Nat.reduceAdd, Nat.reduceMul]); exact rfl); (case hi => (try simp only [Nat.reduceAdd, Nat.reduceMul]); exact rfl); (case' h => intro K' h0 hw; conv => whnf))
    | ((with_reducible apply d_op0 Try.tab); (case hnb => (try simp only [Nat.reduceAdd, Nat.reduceMul]); exact rfl); (case hi => (try simp only [Nat.reduceAdd, Nat.reduceMul]); exact rfl); (case' h => intro K' h0 hw; conv => whnf))
    | ((with_reducible apply v_nil); (case hm => (try simp only [Nat.reduceAdd, Nat.reduceMul]); exact rfl); (case' h => with_reducible refine hK _ ?_; clear hK))
    | (with_reducible refine h0 _ _ ?_; clear h0 hw)
    | (with_reducible refine hw _ _ _ ?_; clear h0 hw)
    | ((with_reducible apply d_nil); (refine hK _ _ _ _ (by first | decide +kernel | (simp only [List.map_cons, List.map_nil, List.nil_append, List.cons_append]; decide +kernel) | rfl) ?_; clear hK))
    | (refine d_grd_yes (by rfl) (by rfl) ?_)
    | ((apply d_grd_no); (case hg => rfl); (case hb => rfl); (case hi => (try simp only [Nat.reduceAdd, Nat.reduceMul]); exact rfl))
    | ((apply d_grd_undef); (case hg => rfl); (case hb => rfl); (case hi => (try simp only [Nat.reduceAdd, Nat.reduceMul]); exact rfl))
    | ((apply d_grd); (case hg => rfl); (case hb => rfl); (case hi => (try simp only [Nat.reduceAdd, Nat.reduceMul]); exact rfl))
    | (refine v_grd_yes (by rfl) (by rfl) ?_)
    | ((apply v_grd_no); (case hg => rfl); (case hb => rfl); (case hi => (try simp only [Nat.reduceAdd, Nat.reduceMul]); exact rfl))
    | ((apply v_grd_undef); (case hg => rfl); (case hb => rfl); (case hi => (try simp only [Nat.reduceAdd, Nat.reduceMul]); exact rfl))
    | ((apply v_grd); (case hg => rfl); (case hb => rfl); (case hi => (try simp only [Nat.reduceAdd, Nat.reduceMul]); exact rfl))
    | with_reducible refine go_ret ?_
    | with_reducible refine go_seq ?_
    | with_reducible refine go_skip ?_
    | with_reducible refine go_block ?_
    | with_reducible refine go_exit ?_
    | ((with_reducible apply go_cond); (case hb => rfl))
    | with_reducible refine out_seq_ret ?_
    | with_reducible refine out_seq_normal ?_
    | with_reducible refine out_seq_exit ?_
    | with_reducible refine out_block_ret ?_
    | with_reducible refine out_block_normal ?_
    | with_reducible refine out_block_here ?_
    | with_reducible refine out_loop_ret ?_
    | with_reducible refine out_loop_exit ?_
    | ((with_reducible apply out_block_there); (case hne => rfl))
    | ((with_reducible refine w_ret Try.tab fun K' hL => ?_); (conv => whnf))
    | ((with_reducible refine w_ret_end Try.tab fun K' hL => ?_); (conv => whnf))
    | (with_reducible refine hL _ ?_; clear hL)
    | ((with_reducible apply And.intro); (case' right => try (conv => whnf)); (case' left => try first | rfl | decide | (simp; done)))
    | ((with_reducible apply Side.mk); (try simp); (try omega))
    | ((with_reducible refine all_row ?_); (first | (have _y := hx5; clear _y; intro x6 hx6) | (have _y := hx4; clear _y; intro x5 hx5) | (have _y := hx3; clear _y; intro x4 hx4) | (have _y := hx2; clear _y; intro x3 hx3) | (have _y := hx1; clear _y; intro x2 hx2) | (intro x1 hx1)); conv => whnf)
    | ((refine ⟨_, eqlT36 (by rfl) (by rfl), ?_⟩); conv => whnf)
    | ((refine ⟨_, neqT36 (by rfl) (by rfl), ?_⟩); conv => whnf)
    | ((refine ⟨_, eqlT45 (by rfl) (by rfl), ?_⟩); conv => whnf)
    | ((refine ⟨_, neqT45 (by rfl) (by rfl), ?_⟩); conv => whnf)
    | ((refine ⟨_, eqlT57 (by rfl) (by rfl), ?_⟩); conv => whnf)
    | ((refine ⟨_, neqT57 (by rfl) (by rfl), ?_⟩); conv => whnf)
    | ((first | (have _y := g35; clear _y; intro g36; try simp at g36) | (have _y := g34; clear _y; intro g35; try simp at g35) | (have _y := g33; clear _y; intro g34; try simp at g34) | (have _y := g32; clear _y; intro g33; try simp at g33) | (have _y := g31; clear _y; intro g32; try simp at g32) | (have _y := g30; clear _y; intro g31; try simp at g31) | (have _y := g29; clear _y; intro g30; try simp at g30) | (have _y := g28; clear _y; intro g29; try simp at g29) | (have _y := g27; clear _y; intro g28; try simp at g28) | (have _y := g26; clear _y; intro g27; try simp at g27) | (have _y := g25; clear _y; intro g26; try simp at g26) | (have _y := g24; clear _y; intro g25; try simp at g25) | (have _y := g23; clear _y; intro g24; try simp at g24) | (have _y := g22; clear _y; intro g23; try simp at g23) | (have _y := g21; clear _y; intro g22; try simp at g22) | (have _y := g20; clear _y; intro g21; try simp at g21) | (have _y := g19; clear _y; intro g20; try simp at g20) | (have _y := g18; clear _y; intro g19; try simp at g19) | (have _y := g17; clear _y; intro g18; try simp at g18) | (have _y := g16; clear _y; intro g17; try simp at g17) | (have _y := g15; clear _y; intro g16; try simp at g16) | (have _y := g14; clear _y; intro g15; try simp at g15) | (have _y := g13; clear _y; intro g14; try simp at g14) | (have _y := g12; clear _y; intro g13; try simp at g13) | (have _y := g11; clear _y; intro g12; try simp at g12) | (have _y := g10; clear _y; intro g11; try simp at g11) | (have _y := g9; clear _y; intro g10; try simp at g10) | (have _y := g8; clear _y; intro g9; try simp at g9) | (have _y := g7; clear _y; intro g8; try simp at g8) | (have _y := g6; clear _y; intro g7; try simp at g7) | (have _y := g5; clear _y; intro g6; try simp at g6) | (have _y := g4; clear _y; intro g5; try simp at g5) | (have _y := g3; clear _y; intro g4; try simp at g4) | (have _y := g2; clear _y; intro g3; try simp at g3) | (have _y := g1; clear _y; intro g2; try simp at g2) | (intro g1; try simp at g1))))
  · simp at hx1 hx2
    refine le_of_eq ?_; simp; intro h; subst h
    rw [hx1] at hx2; cases hx2; simp at g3
  · simp at hx1 hx2
    have he : x1 = x2 := Pkt.ext' g3.1 g3.2.1 g3.2.2.1 g3.2.2.2.1 g3.2.2.2.2.1 g3.2.2.2.2.2
    ((with_reducible apply w_next ((i + 1))); (case kt => first | exact kt_refl | (repeat (first | exact kt_refl | refine kt_wr (by rfl) ?_ | refine kt_jnk (by rfl) ?_ | refine kt_wrs (by rfl) ?_))); (case ko => repeat (first | exact ko_refl | refine ko_wo (by first | exact .inl (by rfl) | exact .inr (by simp) | exact .inr (by omega)) ?_ | refine ko_wor (by rfl) ?_ | refine ko_wos (by simp) ?_)); (case hn => first | exact Nat.le_refl _ | (simp; done) | (simp; omega)); (case hs => simp); (case hb => simp); (case ls => simp (disch := omega) [wrp]); (case lb => simp); (case mu => first | (simp; omega) | (simp; done) | omega | (simp only; omega)); (case' rel' => (try simp only); (try exact trivial)))
    exact ⟨by omega, by rw [take_at hx1, take_at hx2, h2, he]⟩
  · have : a = b := by rw [← List.take_of_length_le (l := a) (i := i) (by omega), h2]; exact List.take_of_length_le (by omega)
    exact le_of_eq (by simp [this])
end Go.Proofs.Ytgndmmbbhfmegaa

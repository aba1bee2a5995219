/- Walks of wire.Decode's reader. No condition. -/
import Derived.Test.YtlehonipilpfdaaWire
namespace Go.Proofs.Ytlehonipilpfdaa
open Go Go.Sy
set_option maxRecDepth 4000
set_option linter.unusedSimpArgs false
set_option linter.unusedVariables false
attribute [local irreducible] Reg RegD Later Out CallV Tri Side EqV
def fl (f m : Nat) : Bool := decide (IntKind.i64.wrap ((BitVec.ofInt IntKind.i64.bits (f : Int) &&& BitVec.ofInt IntKind.i64.bits (m : Int)).toNat : Int) ≠ 0)
def decP (s : ByteArray) : Pkt := ⟨numTo (mid s 1 2).data.toList, numTo (mid s 3 4).data.toList, fl (at1 s 0) 1, fl (at1 s 0) 2, fl (at1 s 0) 4, mid s 8 (at1 s 7)⟩
def okD (s : ByteArray) : Bool := decide (128 ≤ at1 s 0 ∧ at1 s 0 ≤ 135) && decide (tl s (8 + at1 s 7) = ByteArray.empty)
set_option maxHeartbeats 2000000 in
theorem c_dec1 (s : ByteArray) (p0 : Pkt) (h1 : 8 ≤ s.size) (h2 : 8 + at1 s 7 ≤ s.size) (hs : s.size ≤ 1000000000000000) :
    CSpec Try.prog 50 [.ptr 0 0, .ptr 1 0] [rdB s, .box (pktC p0)] (B (okD s)) [rdB (tl s (8 + at1 s 7)), .box (pktC (decP s))] := by
  have hN1 := c_rnum s 0 1 (by omega) (by omega) hs
  rw [tl_zero] at hN1
  have hN2 := c_rnum s 1 2 (by omega) (by omega) hs
  have hN3 := c_rnum s 3 4 (by omega) (by omega) hs
  have hT := c_text s 7 (by omega) h2 hs
  have hD := c_done (tl s (8 + at1 s 7))
  refine v_cspec Try.func50 rfl Try.ntmps50 Try.results50 (by simp) (k := 2) rfl ?_
  repeat' (first
    | (with_reducible first | refine go_later ?_ | (refine h0 _ _ ?_; clear h0 hw) | (refine hw _ _ _ ?_; clear h0 hw) | refine go_ret ?_ | refine go_skip ?_ | refine go_block ?_ | refine go_exit ?_ | refine out_seq_ret ?_ | refine out_seq_normal ?_ | refine out_seq_exit ?_ | refine out_block_ret ?_ | refine out_block_normal ?_ | refine out_block_here ?_ | refine out_loop_ret ?_ | refine out_loop_exit ?_ | refine out_loopR_ret ?_ | refine out_loopR_exit ?_ | refine out_seq_panic ?_ | refine out_block_panic ?_ | refine out_loop_panic ?_ | (refine hL _ ?_; clear hL))
    | (with_reducible first | refine w_reg (by decide +kernel) fun K1 hK => ?_ | refine w_reg_end (by decide +kernel) fun K1 hK => ?_)
    | ((with_reducible first | apply d_reg Try.mix (by decide +kernel) | apply d_reg_end Try.mix (by decide +kernel)); (case hm => simp only [List.length_cons, List.length_nil, Nat.reduceAdd, Nat.reduceMul]; rfl); (case' h => intro K1 hK))
    | with_reducible refine go_seq ?_
    | ((with_reducible first | apply v_op Try.tab | apply v_op0 Try.tab | apply d_op Try.tab | apply d_op0 Try.tab) <;> first | (intro K' h0 hw; conv => whnf) | (simp only [Nat.reduceAdd, Nat.reduceMul]; rfl))
    | ((with_reducible apply v_nil); (case hm => (simp only [Nat.reduceAdd, Nat.reduceMul]; rfl)); (case' h => with_reducible refine hK _ ?_; clear hK))
    | ((with_reducible apply d_nil); (refine hK _ _ _ _ (by first | decide +kernel | (simp only [List.map_cons, List.map_nil, List.nil_append, List.cons_append]; decide +kernel) | rfl) ?_; clear hK))
    | (first | refine d_grd_yes (by rfl) (by rfl) ?_ | refine v_grd_yes (by rfl) (by rfl) ?_)
    | (apply d_grd_no; (case hg => rfl); (case hb => rfl); (case hi => (simp only [Nat.reduceAdd, Nat.reduceMul]; rfl)))
    | (apply d_grd_undef; (case hg => rfl); (case hb => rfl); (case hi => (simp only [Nat.reduceAdd, Nat.reduceMul]; rfl)))
    | (apply d_grd; (case hg => rfl); (case hb => rfl); (case hi => (simp only [Nat.reduceAdd, Nat.reduceMul]; rfl)))
    | (apply v_grd_no; (case hg => rfl); (case hb => rfl); (case hi => (simp only [Nat.reduceAdd, Nat.reduceMul]; rfl)))
    | (apply v_grd_undef; (case hg => rfl); (case hb => rfl); (case hi => (simp only [Nat.reduceAdd, Nat.reduceMul]; rfl)))
    | (apply v_grd; (case hg => rfl); (case hb => rfl); (case hi => (simp only [Nat.reduceAdd, Nat.reduceMul]; rfl)))
    | ((with_reducible refine callV_id (f := 51) ?_); have hcs_ := hN1; (with_reducible apply w_callO [0] own51 (hcs_)); (case hx => rfl); (case he => rfl); (case hle => first | ((repeat constructor); done) | (simp; done)); (case hm => rfl); (case hnd => decide); (case' hK => (try clear hcs_); conv => whnf); (any_goals (simp; done)))
    | ((with_reducible refine callV_id (f := 51) ?_); have hcs_ := hN2; (with_reducible apply w_callO [0] own51 (hcs_)); (case hx => rfl); (case he => rfl); (case hle => first | ((repeat constructor); done) | (simp; done)); (case hm => rfl); (case hnd => decide); (case' hK => (try clear hcs_); conv => whnf); (any_goals (simp; done)))
    | ((with_reducible refine callV_id (f := 51) ?_); have hcs_ := hN3; (with_reducible apply w_callO [0] own51 (hcs_)); (case hx => rfl); (case he => rfl); (case hle => first | ((repeat constructor); done) | (simp; done)); (case hm => rfl); (case hnd => decide); (case' hK => (try clear hcs_); conv => whnf); (any_goals (simp; done)))
    | ((with_reducible refine callV_id (f := 52) ?_); have hcs_ := hT; (with_reducible apply w_callO [0] own52 (hcs_)); (case hx => rfl); (case he => rfl); (case hle => first | ((repeat constructor); done) | (simp; done)); (case hm => rfl); (case hnd => decide); (case' hK => (try clear hcs_); conv => whnf); (any_goals (simp; done)))
    | ((with_reducible refine callV_id (f := 54) ?_); have hcs_ := hD; (with_reducible apply w_callO [0] own54 (hcs_)); (case hx => rfl); (case he => rfl); (case hle => first | ((repeat constructor); done) | (simp; done)); (case hm => rfl); (case hnd => decide); (case' hK => (try clear hcs_); conv => whnf); (any_goals (simp; done)))
    | ((with_reducible refine callV_id (f := 53) ?_); (with_reducible apply callV_f own53 (c_withinW _ _ _)); (case hx => rfl); (case he => rfl); (case hle => first | ((repeat constructor); done) | (simp; done)); (case hpu => repeat constructor); (case' hK => (try clear hcs_); conv => whnf))
    | ((with_reducible apply go_cond); (case hb => rfl))
    | ((with_reducible apply out_block_there); (case hne => rfl))
    | ((with_reducible first | refine w_ret Try.tab fun K' hL => ?_ | refine w_ret_end Try.tab fun K' hL => ?_); (conv => whnf))
    | ((with_reducible apply And.intro); (case' right => try (conv => whnf)); (case' left => try first | rfl | decide | (simp; done)))
    | ((with_reducible apply Side.mk); (try simp (disch := omega) only [wrp]); (try simp); (try omega))
    | ((with_reducible apply all_rk); (case hx => with_reducible assumption); (conv => whnf))
    | ((with_reducible refine all_row ?_); (first | (have _y := hx5; clear _y; intro x6 hx6) | (have _y := hx4; clear _y; intro x5 hx5) | (have _y := hx3; clear _y; intro x4 hx4) | (have _y := hx2; clear _y; intro x3 hx3) | (have _y := hx1; clear _y; intro x2 hx2) | (intro x1 hx1)); conv => whnf)
    | (refine ⟨_, eqAT (by rfl) (by rfl) (by rfl) (by rfl), ?_⟩; conv => whnf)
    | ((first | (have _y := g9; clear _y; intro g10; try simp at g10) | (have _y := g8; clear _y; intro g9; try simp at g9) | (have _y := g7; clear _y; intro g8; try simp at g8) | (have _y := g6; clear _y; intro g7; try simp at g7) | (have _y := g5; clear _y; intro g6; try simp at g6) | (have _y := g4; clear _y; intro g5; try simp at g5) | (have _y := g3; clear _y; intro g4; try simp at g4) | (have _y := g2; clear _y; intro g3; try simp at g3) | (have _y := g1; clear _y; intro g2; try simp at g2) | (intro g1; try simp at g1))))
  · have g9 : 128 ≤ at1 s 0 ∧ at1 s 0 ≤ 135 := by unfold at1; omega
    have e : okD s = decide (tl s (8 + at1 s 7) = ByteArray.empty) := by rw [okD, decide_eq_true g9, Bool.true_and]
    rw [e]
    ((first | refine w_retO Try.tab [] (by rfl) (by simp) (by simp) (fun K' hL => ?_) ?_ ?_ ?_ | refine w_retO_end Try.tab [] (by rfl) (by simp) (by simp) (fun K' hL => ?_) ?_ ?_ ?_); (conv => whnf); (refine hL _ ?_; clear hL); all_goals simp [decP, fl, at1])
  · have g9 : ¬ (128 ≤ at1 s 0 ∧ at1 s 0 ≤ 135) := by unfold at1; omega
    have e : okD s = false := by rw [okD, decide_eq_false g9, Bool.false_and]
    rw [e]
    ((first | refine w_retO Try.tab [] (by rfl) (by simp) (by simp) (fun K' hL => ?_) ?_ ?_ ?_ | refine w_retO_end Try.tab [] (by rfl) (by simp) (by simp) (fun K' hL => ?_) ?_ ?_ ?_); (conv => whnf); (refine hL _ ?_; clear hL); all_goals simp [decP, fl, at1])
abbrev jk6 : Ob := .box [.junk, .junk, .junk, .junk, .junk, .junk]
set_option maxHeartbeats 2000000 in
theorem x_dec1 (s : ByteArray) (p0 : Pkt) (h : ¬ (8 ≤ s.size ∧ 8 + at1 s 7 ≤ s.size)) (hs : s.size ≤ 1000000000000000) :
    XSpec Try.prog 50 [.ptr 0 0, .ptr 1 0] [rdB s, .box (pktC p0)] shortP [.box [.junk], jk6] := by
  by_cases q1 : 1 ≤ s.size
  · have hN1 := c_rnum s 0 1 (by omega) (by omega) hs
    rw [tl_zero] at hN1
    by_cases q2 : 3 ≤ s.size
    · have hN2 := c_rnum s 1 2 (by omega) (by omega) hs
      by_cases q3 : 7 ≤ s.size
      · have hN3 := c_rnum s 3 4 (by omega) (by omega) hs
        have hT : XSpec Try.prog 52 [.ptr 0 0] [rdB (tl s 7)] shortP [.box [.junk]] := by
          by_cases q4 : 8 ≤ s.size
          · exact x_text2 s 7 q4 (by omega) hs
          · exact x_text1 s 7 q4 q3
        refine v_xspec Try.func50 rfl Try.ntmps50 (by simp) (k := 2) rfl ?_
        repeat' (first
    | ((with_reducible first | refine w_regX (id := 5) 1 _ (by decide +kernel) rfl rfl fun K1 hK => ?_ | refine w_regX_end (id := 5) 1 _ (by decide +kernel) rfl rfl fun K1 hK => ?_); (simp only [List.take_succ_cons, List.take_zero]))
    | (with_reducible first | refine go_later ?_ | (refine h0 _ _ ?_; clear h0 hw) | (refine hw _ _ _ ?_; clear h0 hw) | refine go_ret ?_ | refine go_skip ?_ | refine go_block ?_ | refine go_exit ?_ | refine out_seq_ret ?_ | refine out_seq_normal ?_ | refine out_seq_exit ?_ | refine out_block_ret ?_ | refine out_block_normal ?_ | refine out_block_here ?_ | refine out_loop_ret ?_ | refine out_loop_exit ?_ | refine out_loopR_ret ?_ | refine out_loopR_exit ?_ | refine out_seq_panic ?_ | refine out_block_panic ?_ | refine out_loop_panic ?_ | (refine hL _ ?_; clear hL))
    | (with_reducible first | refine w_reg (by decide +kernel) fun K1 hK => ?_ | refine w_reg_end (by decide +kernel) fun K1 hK => ?_)
    | ((with_reducible first | apply d_reg Try.mix (by decide +kernel) | apply d_reg_end Try.mix (by decide +kernel)); (case hm => simp only [List.length_cons, List.length_nil, Nat.reduceAdd, Nat.reduceMul]; rfl); (case' h => intro K1 hK))
    | with_reducible refine go_seq ?_
    | ((with_reducible first | apply v_op Try.tab | apply v_op0 Try.tab | apply d_op Try.tab | apply d_op0 Try.tab) <;> first | (intro K' h0 hw; conv => whnf) | (simp only [Nat.reduceAdd, Nat.reduceMul]; rfl))
    | ((with_reducible apply v_nil); (case hm => (simp only [Nat.reduceAdd, Nat.reduceMul]; rfl)); (case' h => with_reducible refine hK _ ?_; clear hK))
    | ((with_reducible apply d_nil); (refine hK _ _ _ _ (by first | decide +kernel | (simp only [List.map_cons, List.map_nil, List.nil_append, List.cons_append]; decide +kernel) | rfl) ?_; clear hK))
    | (first | refine d_grd_yes (by rfl) (by rfl) ?_ | refine v_grd_yes (by rfl) (by rfl) ?_)
    | (apply d_grd_no; (case hg => rfl); (case hb => rfl); (case hi => (simp only [Nat.reduceAdd, Nat.reduceMul]; rfl)))
    | (apply d_grd_undef; (case hg => rfl); (case hb => rfl); (case hi => (simp only [Nat.reduceAdd, Nat.reduceMul]; rfl)))
    | (apply d_grd; (case hg => rfl); (case hb => rfl); (case hi => (simp only [Nat.reduceAdd, Nat.reduceMul]; rfl)))
    | (apply v_grd_no; (case hg => rfl); (case hb => rfl); (case hi => (simp only [Nat.reduceAdd, Nat.reduceMul]; rfl)))
    | (apply v_grd_undef; (case hg => rfl); (case hb => rfl); (case hi => (simp only [Nat.reduceAdd, Nat.reduceMul]; rfl)))
    | (apply v_grd; (case hg => rfl); (case hb => rfl); (case hi => (simp only [Nat.reduceAdd, Nat.reduceMul]; rfl)))
    | ((with_reducible refine callV_id (f := 51) ?_); have hcs_ := hN1; (with_reducible apply w_callO [0] own51 (hcs_)); (case hx => rfl); (case he => rfl); (case hle => first | ((repeat constructor); done) | (simp; done)); (case hm => rfl); (case hnd => decide); (case' hK => (try clear hcs_); conv => whnf); (any_goals (simp; done)))
    | ((with_reducible refine callV_id (f := 51) ?_); have hcs_ := hN2; (with_reducible apply w_callO [0] own51 (hcs_)); (case hx => rfl); (case he => rfl); (case hle => first | ((repeat constructor); done) | (simp; done)); (case hm => rfl); (case hnd => decide); (case' hK => (try clear hcs_); conv => whnf); (any_goals (simp; done)))
    | ((with_reducible refine callV_id (f := 51) ?_); have hcs_ := hN3; (with_reducible apply w_callO [0] own51 (hcs_)); (case hx => rfl); (case he => rfl); (case hle => first | ((repeat constructor); done) | (simp; done)); (case hm => rfl); (case hnd => decide); (case' hK => (try clear hcs_); conv => whnf); (any_goals (simp; done)))
    | ((with_reducible apply go_cond); (case hb => rfl))
    | ((with_reducible apply out_block_there); (case hne => rfl))
    | ((with_reducible first | refine w_ret Try.tab fun K' hL => ?_ | refine w_ret_end Try.tab fun K' hL => ?_); (conv => whnf))
    | ((with_reducible apply And.intro); (case' right => try (conv => whnf)); (case' left => try first | rfl | decide | (simp; done)))
    | ((with_reducible apply Side.mk); (try simp (disch := omega) only [wrp]); (try simp); (try omega))
    | ((with_reducible apply all_rk); (case hx => with_reducible assumption); (conv => whnf))
    | ((with_reducible refine all_row ?_); (first | (have _y := hx5; clear _y; intro x6 hx6) | (have _y := hx4; clear _y; intro x5 hx5) | (have _y := hx3; clear _y; intro x4 hx4) | (have _y := hx2; clear _y; intro x3 hx3) | (have _y := hx1; clear _y; intro x2 hx2) | (intro x1 hx1)); conv => whnf)
    | (refine ⟨_, eqAT (by rfl) (by rfl) (by rfl) (by rfl), ?_⟩; conv => whnf)
    | ((with_reducible apply v_nil); (case hm => (try simp only [Nat.reduceAdd, Nat.reduceMul]); exact rfl); (case' h => refine hK _ _ _ _ _ (panOp_call [0] own52 (hT) (by rfl) (by decide) (by simp) (by simp) (by rfl) (by rfl) ?_ ?_ ?_ ?_) ?_; clear hK); (any_goals first | ((repeat constructor); done) | (simp; done)))
    | ((first | (have _y := g9; clear _y; intro g10; try simp at g10) | (have _y := g8; clear _y; intro g9; try simp at g9) | (have _y := g7; clear _y; intro g8; try simp at g8) | (have _y := g6; clear _y; intro g7; try simp at g7) | (have _y := g5; clear _y; intro g6; try simp at g6) | (have _y := g4; clear _y; intro g5; try simp at g5) | (have _y := g3; clear _y; intro g4; try simp at g4) | (have _y := g2; clear _y; intro g3; try simp at g3) | (have _y := g1; clear _y; intro g2; try simp at g2) | (intro g1; try simp at g1))))
        (refine w_xend rfl ?_ ?_; all_goals simp [obsRet, callWs, callφ, backN, updG, obF, ObLe, ObLeG, Ob.opt])
      · have hN3 := x_rnum s 3 4 (by omega) (by omega)
        refine v_xspec Try.func50 rfl Try.ntmps50 (by simp) (k := 2) rfl ?_
        repeat' (first
    | ((with_reducible first | refine w_regX (id := 4) 1 _ (by decide +kernel) rfl rfl fun K1 hK => ?_ | refine w_regX_end (id := 4) 1 _ (by decide +kernel) rfl rfl fun K1 hK => ?_); (simp only [List.take_succ_cons, List.take_zero]))
    | (with_reducible first | refine go_later ?_ | (refine h0 _ _ ?_; clear h0 hw) | (refine hw _ _ _ ?_; clear h0 hw) | refine go_ret ?_ | refine go_skip ?_ | refine go_block ?_ | refine go_exit ?_ | refine out_seq_ret ?_ | refine out_seq_normal ?_ | refine out_seq_exit ?_ | refine out_block_ret ?_ | refine out_block_normal ?_ | refine out_block_here ?_ | refine out_loop_ret ?_ | refine out_loop_exit ?_ | refine out_loopR_ret ?_ | refine out_loopR_exit ?_ | refine out_seq_panic ?_ | refine out_block_panic ?_ | refine out_loop_panic ?_ | (refine hL _ ?_; clear hL))
    | (with_reducible first | refine w_reg (by decide +kernel) fun K1 hK => ?_ | refine w_reg_end (by decide +kernel) fun K1 hK => ?_)
    | ((with_reducible first | apply d_reg Try.mix (by decide +kernel) | apply d_reg_end Try.mix (by decide +kernel)); (case hm => simp only [List.length_cons, List.length_nil, Nat.reduceAdd, Nat.reduceMul]; rfl); (case' h => intro K1 hK))
    | with_reducible refine go_seq ?_
    | ((with_reducible first | apply v_op Try.tab | apply v_op0 Try.tab | apply d_op Try.tab | apply d_op0 Try.tab) <;> first | (intro K' h0 hw; conv => whnf) | (simp only [Nat.reduceAdd, Nat.reduceMul]; rfl))
    | ((with_reducible apply v_nil); (case hm => (simp only [Nat.reduceAdd, Nat.reduceMul]; rfl)); (case' h => with_reducible refine hK _ ?_; clear hK))
    | ((with_reducible apply d_nil); (refine hK _ _ _ _ (by first | decide +kernel | (simp only [List.map_cons, List.map_nil, List.nil_append, List.cons_append]; decide +kernel) | rfl) ?_; clear hK))
    | (first | refine d_grd_yes (by rfl) (by rfl) ?_ | refine v_grd_yes (by rfl) (by rfl) ?_)
    | (apply d_grd_no; (case hg => rfl); (case hb => rfl); (case hi => (simp only [Nat.reduceAdd, Nat.reduceMul]; rfl)))
    | (apply d_grd_undef; (case hg => rfl); (case hb => rfl); (case hi => (simp only [Nat.reduceAdd, Nat.reduceMul]; rfl)))
    | (apply d_grd; (case hg => rfl); (case hb => rfl); (case hi => (simp only [Nat.reduceAdd, Nat.reduceMul]; rfl)))
    | (apply v_grd_no; (case hg => rfl); (case hb => rfl); (case hi => (simp only [Nat.reduceAdd, Nat.reduceMul]; rfl)))
    | (apply v_grd_undef; (case hg => rfl); (case hb => rfl); (case hi => (simp only [Nat.reduceAdd, Nat.reduceMul]; rfl)))
    | (apply v_grd; (case hg => rfl); (case hb => rfl); (case hi => (simp only [Nat.reduceAdd, Nat.reduceMul]; rfl)))
    | ((with_reducible refine callV_id (f := 51) ?_); have hcs_ := hN1; (with_reducible apply w_callO [0] own51 (hcs_)); (case hx => rfl); (case he => rfl); (case hle => first | ((repeat constructor); done) | (simp; done)); (case hm => rfl); (case hnd => decide); (case' hK => (try clear hcs_); conv => whnf); (any_goals (simp; done)))
    | ((with_reducible refine callV_id (f := 51) ?_); have hcs_ := hN2; (with_reducible apply w_callO [0] own51 (hcs_)); (case hx => rfl); (case he => rfl); (case hle => first | ((repeat constructor); done) | (simp; done)); (case hm => rfl); (case hnd => decide); (case' hK => (try clear hcs_); conv => whnf); (any_goals (simp; done)))
    | ((with_reducible apply go_cond); (case hb => rfl))
    | ((with_reducible apply out_block_there); (case hne => rfl))
    | ((with_reducible first | refine w_ret Try.tab fun K' hL => ?_ | refine w_ret_end Try.tab fun K' hL => ?_); (conv => whnf))
    | ((with_reducible apply And.intro); (case' right => try (conv => whnf)); (case' left => try first | rfl | decide | (simp; done)))
    | ((with_reducible apply Side.mk); (try simp (disch := omega) only [wrp]); (try simp); (try omega))
    | ((with_reducible apply all_rk); (case hx => with_reducible assumption); (conv => whnf))
    | ((with_reducible refine all_row ?_); (first | (have _y := hx5; clear _y; intro x6 hx6) | (have _y := hx4; clear _y; intro x5 hx5) | (have _y := hx3; clear _y; intro x4 hx4) | (have _y := hx2; clear _y; intro x3 hx3) | (have _y := hx1; clear _y; intro x2 hx2) | (intro x1 hx1)); conv => whnf)
    | (refine ⟨_, eqAT (by rfl) (by rfl) (by rfl) (by rfl), ?_⟩; conv => whnf)
    | ((with_reducible apply v_nil); (case hm => (try simp only [Nat.reduceAdd, Nat.reduceMul]); exact rfl); (case' h => refine hK _ _ _ _ _ (panOp_call [0] own51 (hN3) (by rfl) (by decide) (by simp) (by simp) (by rfl) (by rfl) ?_ ?_ ?_ ?_) ?_; clear hK); (any_goals first | ((repeat constructor); done) | (simp; done)))
    | ((first | (have _y := g9; clear _y; intro g10; try simp at g10) | (have _y := g8; clear _y; intro g9; try simp at g9) | (have _y := g7; clear _y; intro g8; try simp at g8) | (have _y := g6; clear _y; intro g7; try simp at g7) | (have _y := g5; clear _y; intro g6; try simp at g6) | (have _y := g4; clear _y; intro g5; try simp at g5) | (have _y := g3; clear _y; intro g4; try simp at g4) | (have _y := g2; clear _y; intro g3; try simp at g3) | (have _y := g1; clear _y; intro g2; try simp at g2) | (intro g1; try simp at g1))))
        (refine w_xend rfl ?_ ?_; all_goals simp [obsRet, callWs, callφ, backN, updG, obF, ObLe, ObLeG, Ob.opt])
    · have hN2 := x_rnum s 1 2 (by omega) (by omega)
      refine v_xspec Try.func50 rfl Try.ntmps50 (by simp) (k := 2) rfl ?_
      repeat' (first
    | ((with_reducible first | refine w_regX (id := 3) 1 _ (by decide +kernel) rfl rfl fun K1 hK => ?_ | refine w_regX_end (id := 3) 1 _ (by decide +kernel) rfl rfl fun K1 hK => ?_); (simp only [List.take_succ_cons, List.take_zero]))
    | (with_reducible first | refine go_later ?_ | (refine h0 _ _ ?_; clear h0 hw) | (refine hw _ _ _ ?_; clear h0 hw) | refine go_ret ?_ | refine go_skip ?_ | refine go_block ?_ | refine go_exit ?_ | refine out_seq_ret ?_ | refine out_seq_normal ?_ | refine out_seq_exit ?_ | refine out_block_ret ?_ | refine out_block_normal ?_ | refine out_block_here ?_ | refine out_loop_ret ?_ | refine out_loop_exit ?_ | refine out_loopR_ret ?_ | refine out_loopR_exit ?_ | refine out_seq_panic ?_ | refine out_block_panic ?_ | refine out_loop_panic ?_ | (refine hL _ ?_; clear hL))
    | (with_reducible first | refine w_reg (by decide +kernel) fun K1 hK => ?_ | refine w_reg_end (by decide +kernel) fun K1 hK => ?_)
    | ((with_reducible first | apply d_reg Try.mix (by decide +kernel) | apply d_reg_end Try.mix (by decide +kernel)); (case hm => simp only [List.length_cons, List.length_nil, Nat.reduceAdd, Nat.reduceMul]; rfl); (case' h => intro K1 hK))
    | with_reducible refine go_seq ?_
    | ((with_reducible first | apply v_op Try.tab | apply v_op0 Try.tab | apply d_op Try.tab | apply d_op0 Try.tab) <;> first | (intro K' h0 hw; conv => whnf) | (simp only [Nat.reduceAdd, Nat.reduceMul]; rfl))
    | ((with_reducible apply v_nil); (case hm => (simp only [Nat.reduceAdd, Nat.reduceMul]; rfl)); (case' h => with_reducible refine hK _ ?_; clear hK))
    | ((with_reducible apply d_nil); (refine hK _ _ _ _ (by first | decide +kernel | (simp only [List.map_cons, List.map_nil, List.nil_append, List.cons_append]; decide +kernel) | rfl) ?_; clear hK))
    | (first | refine d_grd_yes (by rfl) (by rfl) ?_ | refine v_grd_yes (by rfl) (by rfl) ?_)
    | (apply d_grd_no; (case hg => rfl); (case hb => rfl); (case hi => (simp only [Nat.reduceAdd, Nat.reduceMul]; rfl)))
    | (apply d_grd_undef; (case hg => rfl); (case hb => rfl); (case hi => (simp only [Nat.reduceAdd, Nat.reduceMul]; rfl)))
    | (apply d_grd; (case hg => rfl); (case hb => rfl); (case hi => (simp only [Nat.reduceAdd, Nat.reduceMul]; rfl)))
    | (apply v_grd_no; (case hg => rfl); (case hb => rfl); (case hi => (simp only [Nat.reduceAdd, Nat.reduceMul]; rfl)))
    | (apply v_grd_undef; (case hg => rfl); (case hb => rfl); (case hi => (simp only [Nat.reduceAdd, Nat.reduceMul]; rfl)))
    | (apply v_grd; (case hg => rfl); (case hb => rfl); (case hi => (simp only [Nat.reduceAdd, Nat.reduceMul]; rfl)))
    | ((with_reducible refine callV_id (f := 51) ?_); have hcs_ := hN1; (with_reducible apply w_callO [0] own51 (hcs_)); (case hx => rfl); (case he => rfl); (case hle => first | ((repeat constructor); done) | (simp; done)); (case hm => rfl); (case hnd => decide); (case' hK => (try clear hcs_); conv => whnf); (any_goals (simp; done)))
    | ((with_reducible apply go_cond); (case hb => rfl))
    | ((with_reducible apply out_block_there); (case hne => rfl))
    | ((with_reducible first | refine w_ret Try.tab fun K' hL => ?_ | refine w_ret_end Try.tab fun K' hL => ?_); (conv => whnf))
    | ((with_reducible apply And.intro); (case' right => try (conv => whnf)); (case' left => try first | rfl | decide | (simp; done)))
    | ((with_reducible apply Side.mk); (try simp (disch := omega) only [wrp]); (try simp); (try omega))
    | ((with_reducible apply all_rk); (case hx => with_reducible assumption); (conv => whnf))
    | ((with_reducible refine all_row ?_); (first | (have _y := hx5; clear _y; intro x6 hx6) | (have _y := hx4; clear _y; intro x5 hx5) | (have _y := hx3; clear _y; intro x4 hx4) | (have _y := hx2; clear _y; intro x3 hx3) | (have _y := hx1; clear _y; intro x2 hx2) | (intro x1 hx1)); conv => whnf)
    | (refine ⟨_, eqAT (by rfl) (by rfl) (by rfl) (by rfl), ?_⟩; conv => whnf)
    | ((with_reducible apply v_nil); (case hm => (try simp only [Nat.reduceAdd, Nat.reduceMul]); exact rfl); (case' h => refine hK _ _ _ _ _ (panOp_call [0] own51 (hN2) (by rfl) (by decide) (by simp) (by simp) (by rfl) (by rfl) ?_ ?_ ?_ ?_) ?_; clear hK); (any_goals first | ((repeat constructor); done) | (simp; done)))
    | ((first | (have _y := g9; clear _y; intro g10; try simp at g10) | (have _y := g8; clear _y; intro g9; try simp at g9) | (have _y := g7; clear _y; intro g8; try simp at g8) | (have _y := g6; clear _y; intro g7; try simp at g7) | (have _y := g5; clear _y; intro g6; try simp at g6) | (have _y := g4; clear _y; intro g5; try simp at g5) | (have _y := g3; clear _y; intro g4; try simp at g4) | (have _y := g2; clear _y; intro g3; try simp at g3) | (have _y := g1; clear _y; intro g2; try simp at g2) | (intro g1; try simp at g1))))
      (refine w_xend rfl ?_ ?_; all_goals simp [obsRet, callWs, callφ, backN, updG, obF, ObLe, ObLeG, Ob.opt])
  · have hN1 := x_rnum s 0 1 (by omega) (by omega)
    rw [tl_zero] at hN1
    refine v_xspec Try.func50 rfl Try.ntmps50 (by simp) (k := 2) rfl ?_
    repeat' (first
    | ((with_reducible first | refine w_regX (id := 1) 1 _ (by decide +kernel) rfl rfl fun K1 hK => ?_ | refine w_regX_end (id := 1) 1 _ (by decide +kernel) rfl rfl fun K1 hK => ?_); (simp only [List.take_succ_cons, List.take_zero]))
    | (with_reducible first | refine go_later ?_ | (refine h0 _ _ ?_; clear h0 hw) | (refine hw _ _ _ ?_; clear h0 hw) | refine go_ret ?_ | refine go_skip ?_ | refine go_block ?_ | refine go_exit ?_ | refine out_seq_ret ?_ | refine out_seq_normal ?_ | refine out_seq_exit ?_ | refine out_block_ret ?_ | refine out_block_normal ?_ | refine out_block_here ?_ | refine out_loop_ret ?_ | refine out_loop_exit ?_ | refine out_loopR_ret ?_ | refine out_loopR_exit ?_ | refine out_seq_panic ?_ | refine out_block_panic ?_ | refine out_loop_panic ?_ | (refine hL _ ?_; clear hL))
    | (with_reducible first | refine w_reg (by decide +kernel) fun K1 hK => ?_ | refine w_reg_end (by decide +kernel) fun K1 hK => ?_)
    | ((with_reducible first | apply d_reg Try.mix (by decide +kernel) | apply d_reg_end Try.mix (by decide +kernel)); (case hm => simp only [List.length_cons, List.length_nil, Nat.reduceAdd, Nat.reduceMul]; rfl); (case' h => intro K1 hK))
    | with_reducible refine go_seq ?_
    | ((with_reducible first | apply v_op Try.tab | apply v_op0 Try.tab | apply d_op Try.tab | apply d_op0 Try.tab) <;> first | (intro K' h0 hw; conv => whnf) | (simp only [Nat.reduceAdd, Nat.reduceMul]; rfl))
    | ((with_reducible apply v_nil); (case hm => (simp only [Nat.reduceAdd, Nat.reduceMul]; rfl)); (case' h => with_reducible refine hK _ ?_; clear hK))
    | ((with_reducible apply d_nil); (refine hK _ _ _ _ (by first | decide +kernel | (simp only [List.map_cons, List.map_nil, List.nil_append, List.cons_append]; decide +kernel) | rfl) ?_; clear hK))
    | (first | refine d_grd_yes (by rfl) (by rfl) ?_ | refine v_grd_yes (by rfl) (by rfl) ?_)
    | (apply d_grd_no; (case hg => rfl); (case hb => rfl); (case hi => (simp only [Nat.reduceAdd, Nat.reduceMul]; rfl)))
    | (apply d_grd_undef; (case hg => rfl); (case hb => rfl); (case hi => (simp only [Nat.reduceAdd, Nat.reduceMul]; rfl)))
    | (apply d_grd; (case hg => rfl); (case hb => rfl); (case hi => (simp only [Nat.reduceAdd, Nat.reduceMul]; rfl)))
    | (apply v_grd_no; (case hg => rfl); (case hb => rfl); (case hi => (simp only [Nat.reduceAdd, Nat.reduceMul]; rfl)))
    | (apply v_grd_undef; (case hg => rfl); (case hb => rfl); (case hi => (simp only [Nat.reduceAdd, Nat.reduceMul]; rfl)))
    | (apply v_grd; (case hg => rfl); (case hb => rfl); (case hi => (simp only [Nat.reduceAdd, Nat.reduceMul]; rfl)))
    | ((with_reducible apply go_cond); (case hb => rfl))
    | ((with_reducible apply out_block_there); (case hne => rfl))
    | ((with_reducible first | refine w_ret Try.tab fun K' hL => ?_ | refine w_ret_end Try.tab fun K' hL => ?_); (conv => whnf))
    | ((with_reducible apply And.intro); (case' right => try (conv => whnf)); (case' left => try first | rfl | decide | (simp; done)))
    | ((with_reducible apply Side.mk); (try simp (disch := omega) only [wrp]); (try simp); (try omega))
    | ((with_reducible apply all_rk); (case hx => with_reducible assumption); (conv => whnf))
    | ((with_reducible refine all_row ?_); (first | (have _y := hx5; clear _y; intro x6 hx6) | (have _y := hx4; clear _y; intro x5 hx5) | (have _y := hx3; clear _y; intro x4 hx4) | (have _y := hx2; clear _y; intro x3 hx3) | (have _y := hx1; clear _y; intro x2 hx2) | (intro x1 hx1)); conv => whnf)
    | (refine ⟨_, eqAT (by rfl) (by rfl) (by rfl) (by rfl), ?_⟩; conv => whnf)
    | ((with_reducible apply v_nil); (case hm => (try simp only [Nat.reduceAdd, Nat.reduceMul]); exact rfl); (case' h => refine hK _ _ _ _ _ (panOp_call [0] own51 (hN1) (by rfl) (by decide) (by simp) (by simp) (by rfl) (by rfl) ?_ ?_ ?_ ?_) ?_; clear hK); (any_goals first | ((repeat constructor); done) | (simp; done)))
    | ((first | (have _y := g9; clear _y; intro g10; try simp at g10) | (have _y := g8; clear _y; intro g9; try simp at g9) | (have _y := g7; clear _y; intro g8; try simp at g8) | (have _y := g6; clear _y; intro g7; try simp at g7) | (have _y := g5; clear _y; intro g6; try simp at g6) | (have _y := g4; clear _y; intro g5; try simp at g5) | (have _y := g3; clear _y; intro g4; try simp at g4) | (have _y := g2; clear _y; intro g3; try simp at g3) | (have _y := g1; clear _y; intro g2; try simp at g2) | (intro g1; try simp at g1))))
    (refine w_xend rfl ?_ ?_; all_goals simp [obsRet, callWs, callφ, backN, updG, obF, ObLe, ObLeG, Ob.opt])
end Go.Proofs.Ytlehonipilpfdaa

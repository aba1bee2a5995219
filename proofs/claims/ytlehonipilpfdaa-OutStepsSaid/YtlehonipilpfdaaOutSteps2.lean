/- OutSteps, walked. No condition. -/
import Derived.Test.YtlehonipilpfdaaOutSteps
namespace Go.Proofs.Ytlehonipilpfdaa
open Go Go.Sy
set_option maxRecDepth 4000
set_option linter.unusedSimpArgs false
set_option linter.unusedVariables false
attribute [local irreducible] Reg RegD Later Out CallV Tri Side EqV
/-- A packet with another's time. -/
def tmd (q p : Pkt) : Pkt := ⟨q.seq, p.time, q.first, q.fin, q.key, q.text⟩
set_option maxHeartbeats 4000000 in
theorem c_stepsN1 (o : Ou) (f g : Fr) (turn : Bool) (hf : f.parts.length ≤ 17592186043904) (hg : g.parts.length ≤ 17592186043904) (a b c : Ou) (l0 : List Pkt) (p1 q1 : Pkt) (h1 : sendS o f turn = (a, l0, 0)) (h2 : sendS a g false = (b, [p1], 0)) (h3 : sendS a g true = (c, [q1], 0))
    (hd : b.time - a.time = g.time - f.time) (hbc : b.last = c.last) (hpq : [p1] = [(⟨q1.seq, p1.time, q1.first, q1.fin, q1.key, q1.text⟩ : Pkt)]) : PSpec Try.prog 3 [.agg (ouC o), .agg (frC f), .agg (frC g), B turn] (B true) := by
  refine v_pspec Try.func3 rfl Try.ntmps3 Try.results3 (by simp) (by first | exact .s _ | repeat constructor) ?_
  have c1 := c_send o f turn hf
  rw [h1] at c1
  have c2 := c_sendC a g false hg b _ h2
  have c3 := c_sendC a g true hg c _ h3
  have c4 := c_samePackets [p1] [(⟨q1.seq, p1.time, q1.first, q1.fin, q1.key, q1.text⟩ : Pkt)] (by simp)
  repeat' (first
    | ((with_reducible apply w_thaw (code := .seq (.region 12 _ _) _) 528 6 (rowP [q1]) ([(12, .ptr 432 0), (14, .ptr 608 0), (13, .osl 352 6 (rowP [p1])), (15, .osl 528 6 (rowP [q1]))]) ([(432, .box (ouC b)), (608, .box (ouC c)), (352, .perm 33 6 1)])); (case hat => exact .inl ⟨15, rfl⟩); (case hp16 => decide); (case hpe => rfl); (case h0 => first | omega | (simp; done) | (simp; omega)); (case hsc => simp [thokS, thokB, Ob.thok, AV.thok, thokL, permIs, scalR]); (case hS => simp); (case hB => simp); (case hSk => simp [thokS, thokB, Ob.thok, AV.thok, thokL, permIs, scalR]); (case hBk => simp [thokS, thokB, Ob.thok, AV.thok, thokL, permIs, scalR]); (case hm => (try simp only [Nat.reduceAdd, Nat.reduceMul]); exact rfl); (case' h => intro cap hc1 hc2))
    | ((with_reducible refine all_row ?_); intro x1 hx1; simp at hx1; subst hx1; conv => whnf)
    | ((with_reducible apply w_freeze (code := .seq (.region 16 _ _) _) 15 (rowP [(⟨q1.seq, p1.time, q1.first, q1.fin, q1.key, q1.text⟩ : Pkt)])); (case hs => rfl); (case hq => rfl); (case hn => first | rfl | (simp [rowP, pktC]; done) | (simp [rowP, pktC]; omega)); (case hes => simp [rowP, pktC]); (case hl => simp [rowP, pktC]); (case hpu => first | ((repeat constructor); done) | (simp [rowP, pktC]; repeat constructor)); (case hone => simp [rowP, pktC]))
    | (with_reducible first | refine go_later ?_ | (refine h0 _ _ ?_; clear h0 hw) | (refine hw _ _ _ ?_; clear h0 hw) | refine go_ret ?_ | refine go_skip ?_ | refine go_block ?_ | refine go_exit ?_ | refine out_seq_ret ?_ | refine out_seq_normal ?_ | refine out_seq_exit ?_ | refine out_block_ret ?_ | refine out_block_normal ?_ | refine out_block_here ?_ | refine out_loop_ret ?_ | refine out_loop_exit ?_ | refine out_loopR_ret ?_ | refine out_loopR_exit ?_ | refine out_seq_panic ?_ | refine out_block_panic ?_ | refine out_loop_panic ?_ | (refine hL _ ?_; clear hL))
    | (with_reducible first | refine w_reg (by decide +kernel) fun K1 hK => ?_ | refine w_reg_end (by decide +kernel) fun K1 hK => ?_)
    | ((with_reducible first | apply d_reg Try.mix (by decide +kernel) | apply d_reg_end Try.mix (by decide +kernel)); (case hm => simp only [List.length_cons, List.length_nil, Nat.reduceAdd, Nat.reduceMul]; rfl); (case' h => intro K1 hK))
    | with_reducible refine go_seq ?_
    | ((with_reducible first | apply v_op Try.tab | apply v_op0 Try.tab | apply d_op Try.tab | apply d_op0 Try.tab) <;> first | (intro K' h0 hw; conv => whnf) | (simp only [Nat.reduceAdd, Nat.reduceMul]; rfl))
    | ((with_reducible apply v_nil); (case hm => (simp only [Nat.reduceAdd, Nat.reduceMul]; rfl)); (case' h => with_reducible refine hK _ ?_; clear hK))
    | ((with_reducible apply d_nil); (refine hK _ _ _ _ (by first | decide +kernel | (simp only [List.map_cons, List.map_nil, List.nil_append, List.cons_append]; decide +kernel) | rfl) ?_; clear hK))
    | (first | refine d_grd_yes (by rfl) (by rfl) ?_ | refine v_grd_yes (by rfl) (by rfl) ?_)
    | (apply d_grd_no; (case hg => rfl); (case hb => rfl); (case hi => (simp only [Nat.reduceAdd, Nat.reduceMul]; rfl)))
    | (apply d_grd_undef; (case hg => rfl); (case hb => rfl); (case hi => (simp only [Nat.reduceAdd, Nat.reduceMul]; rfl)))
    | (apply d_grd; (case hg => rfl); (case hb => rfl); (case hi => (simp only [Nat.reduceAdd, Nat.reduceMul]; rfl)))
    | (apply v_grd_no; (case hg => rfl); (case hb => rfl); (case hi => (simp only [Nat.reduceAdd, Nat.reduceMul]; rfl)))
    | (apply v_grd_undef; (case hg => rfl); (case hb => rfl); (case hi => (simp only [Nat.reduceAdd, Nat.reduceMul]; rfl)))
    | (apply v_grd; (case hg => rfl); (case hb => rfl); (case hi => (simp only [Nat.reduceAdd, Nat.reduceMul]; rfl)))
    | ((with_reducible refine callV_id (f := 12) ?_); have hcs_ := c_outBegun; (with_reducible apply callV_f own12 (hcs_)); (case hx => rfl); (case he => rfl); (case hle => first | ((repeat constructor); done) | (simp [thL, AV.th, ouC]; done)); (case hpu => repeat constructor); (case' hK => (try clear hcs_); conv => whnf))
    | ((with_reducible refine callV_id (f := 13) ?_); have hcs_ := c1; (with_reducible apply callV_f own13 (hcs_)); (case hx => rfl); (case he => rfl); (case hle => first | ((repeat constructor); done) | (simp [thL, AV.th, ouC]; done)); (case hpu => repeat constructor); (case' hK => (try clear hcs_); conv => whnf))
    | ((with_reducible refine callV_id (f := 13) ?_); have hcs_ := c2; (with_reducible apply w_callO [] own13 (hcs_)); (case hx => rfl); (case he => rfl); (case hle => first | ((repeat constructor); done) | (simp [thL, AV.th, ouC]; done)); (case hm => rfl); (case hnd => decide); (case' hK => (try clear hcs_); conv => whnf); (any_goals (simp [thL, AV.th, ouC]; done)))
    | ((with_reducible refine callV_id (f := 13) ?_); have hcs_ := c3; (with_reducible apply w_callO [] own13 (hcs_)); (case hx => rfl); (case he => rfl); (case hle => first | ((repeat constructor); done) | (simp [thL, AV.th, ouC]; done)); (case hm => rfl); (case hnd => decide); (case' hK => (try clear hcs_); conv => whnf); (any_goals (simp [thL, AV.th, ouC]; done)))
    | ((with_reducible refine callV_id (f := 14) ?_); have hcs_ := c4; (with_reducible apply callV_f own14 (hcs_)); (case hx => rfl); (case he => rfl); (case hle => first | ((repeat constructor); done) | (simp [thL, AV.th, ouC]; done)); (case hpu => repeat constructor); (case' hK => (try clear hcs_); conv => whnf))
    | ((with_reducible apply go_cond); (case hb => rfl))
    | ((with_reducible apply out_block_there); (case hne => rfl))
    | ((with_reducible first | refine w_ret Try.tab fun K' hL => ?_ | refine w_ret_end Try.tab fun K' hL => ?_); (conv => whnf))
    | ((with_reducible apply And.intro); (case' right => try (conv => whnf)); (case' left => try first | rfl | decide | (simp [thL, AV.th, ouC]; done)))
    | ((with_reducible apply Side.mk); (try simp (disch := omega) only [wrp]); (try simp); (try omega))
    | ((with_reducible apply all_rk); (case hx => with_reducible assumption); (conv => whnf))
    | ((with_reducible refine all_row ?_); (first | (have _y := hx5; clear _y; intro x6 hx6) | (have _y := hx4; clear _y; intro x5 hx5) | (have _y := hx3; clear _y; intro x4 hx4) | (have _y := hx2; clear _y; intro x3 hx3) | (have _y := hx1; clear _y; intro x2 hx2) | (intro x1 hx1)); conv => whnf)
    | (refine ⟨_, eqAT (by rfl) (by rfl) (by rfl) (by rfl), ?_⟩; conv => whnf)
    | ((with_reducible refine nfL_stop ?_); conv => whnf)
    | (with_reducible refine w_unroll ?_)
    | ((with_reducible apply un_nextS 17); (case hv => (conv => lhs; whnf); try exact rfl); (case he => (simp (disch := omega) only [wrp, Int.reduceAdd]); try exact rfl))
    | (with_reducible refine un_exit ?_)
    | (with_reducible refine un_ret ?_)
    | ((first | (have _y := g9; clear _y; intro g10; try simp at g10) | (have _y := g8; clear _y; intro g9; try simp at g9) | (have _y := g7; clear _y; intro g8; try simp at g8) | (have _y := g6; clear _y; intro g7; try simp at g7) | (have _y := g5; clear _y; intro g6; try simp at g6) | (have _y := g4; clear _y; intro g5; try simp at g5) | (have _y := g3; clear _y; intro g4; try simp at g4) | (have _y := g2; clear _y; intro g3; try simp at g3) | (have _y := g1; clear _y; intro g2; try simp at g2) | (intro g1; try simp at g1))))
  all_goals first
    | exact absurd (by rw [hd]) g3
    | (rw [decide_eq_true hpq]; exact .refl _)
    | (exfalso; omega)
set_option maxHeartbeats 4000000 in
theorem c_stepsN2 (o : Ou) (f g : Fr) (turn : Bool) (hf : f.parts.length ≤ 17592186043904) (hg : g.parts.length ≤ 17592186043904) (a b c : Ou) (l0 : List Pkt) (p1 p2 q1 q2 : Pkt) (h1 : sendS o f turn = (a, l0, 0)) (h2 : sendS a g false = (b, [p1, p2], 0)) (h3 : sendS a g true = (c, [q1, q2], 0))
    (hd : b.time - a.time = g.time - f.time) (hbc : b.last = c.last) (hpq : [p1, p2] = [(⟨q1.seq, p1.time, q1.first, q1.fin, q1.key, q1.text⟩ : Pkt), (⟨q2.seq, p2.time, q2.first, q2.fin, q2.key, q2.text⟩ : Pkt)]) : PSpec Try.prog 3 [.agg (ouC o), .agg (frC f), .agg (frC g), B turn] (B true) := by
  refine v_pspec Try.func3 rfl Try.ntmps3 Try.results3 (by simp) (by first | exact .s _ | repeat constructor) ?_
  have c1 := c_send o f turn hf
  rw [h1] at c1
  have c2 := c_sendC a g false hg b _ h2
  have c3 := c_sendC a g true hg c _ h3
  have c4 := c_samePackets [p1, p2] [(⟨q1.seq, p1.time, q1.first, q1.fin, q1.key, q1.text⟩ : Pkt), (⟨q2.seq, p2.time, q2.first, q2.fin, q2.key, q2.text⟩ : Pkt)] (by simp)
  repeat' (first
    | ((with_reducible apply w_thaw (code := .seq (.region 12 _ _) _) 528 6 (rowP [q1, q2]) ([(12, .ptr 432 0), (14, .ptr 608 0), (13, .osl 352 6 (rowP [p1, p2])), (15, .osl 528 6 (rowP [q1, q2]))]) ([(432, .box (ouC b)), (608, .box (ouC c)), (352, .perm 33 6 2)])); (case hat => exact .inl ⟨15, rfl⟩); (case hp16 => decide); (case hpe => rfl); (case h0 => first | omega | (simp; done) | (simp; omega)); (case hsc => simp [thokS, thokB, Ob.thok, AV.thok, thokL, permIs, scalR]); (case hS => simp); (case hB => simp); (case hSk => simp [thokS, thokB, Ob.thok, AV.thok, thokL, permIs, scalR]); (case hBk => simp [thokS, thokB, Ob.thok, AV.thok, thokL, permIs, scalR]); (case hm => (try simp only [Nat.reduceAdd, Nat.reduceMul]); exact rfl); (case' h => intro cap hc1 hc2))
    | ((with_reducible refine all_row ?_); intro x1 hx1; simp at hx1; subst hx1; conv => whnf)
    | ((with_reducible apply w_freeze (code := .seq (.region 16 _ _) _) 15 (rowP [(⟨q1.seq, p1.time, q1.first, q1.fin, q1.key, q1.text⟩ : Pkt), (⟨q2.seq, p2.time, q2.first, q2.fin, q2.key, q2.text⟩ : Pkt)])); (case hs => rfl); (case hq => rfl); (case hn => first | rfl | (simp [rowP, pktC]; done) | (simp [rowP, pktC]; omega)); (case hes => simp [rowP, pktC]); (case hl => simp [rowP, pktC]); (case hpu => first | ((repeat constructor); done) | (simp [rowP, pktC]; repeat constructor)); (case hone => simp [rowP, pktC]))
    | (with_reducible first | refine go_later ?_ | (refine h0 _ _ ?_; clear h0 hw) | (refine hw _ _ _ ?_; clear h0 hw) | refine go_ret ?_ | refine go_skip ?_ | refine go_block ?_ | refine go_exit ?_ | refine out_seq_ret ?_ | refine out_seq_normal ?_ | refine out_seq_exit ?_ | refine out_block_ret ?_ | refine out_block_normal ?_ | refine out_block_here ?_ | refine out_loop_ret ?_ | refine out_loop_exit ?_ | refine out_loopR_ret ?_ | refine out_loopR_exit ?_ | refine out_seq_panic ?_ | refine out_block_panic ?_ | refine out_loop_panic ?_ | (refine hL _ ?_; clear hL))
    | (with_reducible first | refine w_reg (by decide +kernel) fun K1 hK => ?_ | refine w_reg_end (by decide +kernel) fun K1 hK => ?_)
    | ((with_reducible first | apply d_reg Try.mix (by decide +kernel) | apply d_reg_end Try.mix (by decide +kernel)); (case hm => simp only [List.length_cons, List.length_nil, Nat.reduceAdd, Nat.reduceMul]; rfl); (case' h => intro K1 hK))
    | with_reducible refine go_seq ?_
    | ((with_reducible first | apply v_op Try.tab | apply v_op0 Try.tab | apply d_op Try.tab | apply d_op0 Try.tab) <;> first | (intro K' h0 hw; conv => whnf) | (simp only [Nat.reduceAdd, Nat.reduceMul]; rfl))
    | ((with_reducible apply v_nil); (case hm => (simp only [Nat.reduceAdd, Nat.reduceMul]; rfl)); (case' h => with_reducible refine hK _ ?_; clear hK))
    | ((with_reducible apply d_nil); (refine hK _ _ _ _ (by first | decide +kernel | (simp only [List.map_cons, List.map_nil, List.nil_append, List.cons_append]; decide +kernel) | rfl) ?_; clear hK))
    | (first | refine d_grd_yes (by rfl) (by rfl) ?_ | refine v_grd_yes (by rfl) (by rfl) ?_)
    | (apply d_grd_no; (case hg => rfl); (case hb => rfl); (case hi => (simp only [Nat.reduceAdd, Nat.reduceMul]; rfl)))
    | (apply d_grd_undef; (case hg => rfl); (case hb => rfl); (case hi => (simp only [Nat.reduceAdd, Nat.reduceMul]; rfl)))
    | (apply d_grd; (case hg => rfl); (case hb => rfl); (case hi => (simp only [Nat.reduceAdd, Nat.reduceMul]; rfl)))
    | (apply v_grd_no; (case hg => rfl); (case hb => rfl); (case hi => (simp only [Nat.reduceAdd, Nat.reduceMul]; rfl)))
    | (apply v_grd_undef; (case hg => rfl); (case hb => rfl); (case hi => (simp only [Nat.reduceAdd, Nat.reduceMul]; rfl)))
    | (apply v_grd; (case hg => rfl); (case hb => rfl); (case hi => (simp only [Nat.reduceAdd, Nat.reduceMul]; rfl)))
    | ((with_reducible refine callV_id (f := 12) ?_); have hcs_ := c_outBegun; (with_reducible apply callV_f own12 (hcs_)); (case hx => rfl); (case he => rfl); (case hle => first | ((repeat constructor); done) | (simp [thL, AV.th, ouC]; done)); (case hpu => repeat constructor); (case' hK => (try clear hcs_); conv => whnf))
    | ((with_reducible refine callV_id (f := 13) ?_); have hcs_ := c1; (with_reducible apply callV_f own13 (hcs_)); (case hx => rfl); (case he => rfl); (case hle => first | ((repeat constructor); done) | (simp [thL, AV.th, ouC]; done)); (case hpu => repeat constructor); (case' hK => (try clear hcs_); conv => whnf))
    | ((with_reducible refine callV_id (f := 13) ?_); have hcs_ := c2; (with_reducible apply w_callO [] own13 (hcs_)); (case hx => rfl); (case he => rfl); (case hle => first | ((repeat constructor); done) | (simp [thL, AV.th, ouC]; done)); (case hm => rfl); (case hnd => decide); (case' hK => (try clear hcs_); conv => whnf); (any_goals (simp [thL, AV.th, ouC]; done)))
    | ((with_reducible refine callV_id (f := 13) ?_); have hcs_ := c3; (with_reducible apply w_callO [] own13 (hcs_)); (case hx => rfl); (case he => rfl); (case hle => first | ((repeat constructor); done) | (simp [thL, AV.th, ouC]; done)); (case hm => rfl); (case hnd => decide); (case' hK => (try clear hcs_); conv => whnf); (any_goals (simp [thL, AV.th, ouC]; done)))
    | ((with_reducible refine callV_id (f := 14) ?_); have hcs_ := c4; (with_reducible apply callV_f own14 (hcs_)); (case hx => rfl); (case he => rfl); (case hle => first | ((repeat constructor); done) | (simp [thL, AV.th, ouC]; done)); (case hpu => repeat constructor); (case' hK => (try clear hcs_); conv => whnf))
    | ((with_reducible apply go_cond); (case hb => rfl))
    | ((with_reducible apply out_block_there); (case hne => rfl))
    | ((with_reducible first | refine w_ret Try.tab fun K' hL => ?_ | refine w_ret_end Try.tab fun K' hL => ?_); (conv => whnf))
    | ((with_reducible apply And.intro); (case' right => try (conv => whnf)); (case' left => try first | rfl | decide | (simp [thL, AV.th, ouC]; done)))
    | ((with_reducible apply Side.mk); (try simp (disch := omega) only [wrp]); (try simp); (try omega))
    | ((with_reducible apply all_rk); (case hx => with_reducible assumption); (conv => whnf))
    | ((with_reducible refine all_row ?_); (first | (have _y := hx5; clear _y; intro x6 hx6) | (have _y := hx4; clear _y; intro x5 hx5) | (have _y := hx3; clear _y; intro x4 hx4) | (have _y := hx2; clear _y; intro x3 hx3) | (have _y := hx1; clear _y; intro x2 hx2) | (intro x1 hx1)); conv => whnf)
    | (refine ⟨_, eqAT (by rfl) (by rfl) (by rfl) (by rfl), ?_⟩; conv => whnf)
    | ((with_reducible refine nfL_stop ?_); conv => whnf)
    | (with_reducible refine w_unroll ?_)
    | ((with_reducible apply un_nextS 17); (case hv => (conv => lhs; whnf); try exact rfl); (case he => (simp (disch := omega) only [wrp, Int.reduceAdd]); try exact rfl))
    | (with_reducible refine un_exit ?_)
    | (with_reducible refine un_ret ?_)
    | ((first | (have _y := g9; clear _y; intro g10; try simp at g10) | (have _y := g8; clear _y; intro g9; try simp at g9) | (have _y := g7; clear _y; intro g8; try simp at g8) | (have _y := g6; clear _y; intro g7; try simp at g7) | (have _y := g5; clear _y; intro g6; try simp at g6) | (have _y := g4; clear _y; intro g5; try simp at g5) | (have _y := g3; clear _y; intro g4; try simp at g4) | (have _y := g2; clear _y; intro g3; try simp at g3) | (have _y := g1; clear _y; intro g2; try simp at g2) | (intro g1; try simp at g1))))
  all_goals first
    | exact absurd (by rw [hd]) g3
    | (rw [decide_eq_true hpq]; exact .refl _)
    | (exfalso; omega)
set_option maxHeartbeats 4000000 in
theorem c_stepsN3 (o : Ou) (f g : Fr) (turn : Bool) (hf : f.parts.length ≤ 17592186043904) (hg : g.parts.length ≤ 17592186043904) (a b c : Ou) (l0 : List Pkt) (p1 p2 p3 q1 q2 q3 : Pkt) (h1 : sendS o f turn = (a, l0, 0)) (h2 : sendS a g false = (b, [p1, p2, p3], 0)) (h3 : sendS a g true = (c, [q1, q2, q3], 0))
    (hd : b.time - a.time = g.time - f.time) (hbc : b.last = c.last) (hpq : [p1, p2, p3] = [(⟨q1.seq, p1.time, q1.first, q1.fin, q1.key, q1.text⟩ : Pkt), (⟨q2.seq, p2.time, q2.first, q2.fin, q2.key, q2.text⟩ : Pkt), (⟨q3.seq, p3.time, q3.first, q3.fin, q3.key, q3.text⟩ : Pkt)]) : PSpec Try.prog 3 [.agg (ouC o), .agg (frC f), .agg (frC g), B turn] (B true) := by
  refine v_pspec Try.func3 rfl Try.ntmps3 Try.results3 (by simp) (by first | exact .s _ | repeat constructor) ?_
  have c1 := c_send o f turn hf
  rw [h1] at c1
  have c2 := c_sendC a g false hg b _ h2
  have c3 := c_sendC a g true hg c _ h3
  have c4 := c_samePackets [p1, p2, p3] [(⟨q1.seq, p1.time, q1.first, q1.fin, q1.key, q1.text⟩ : Pkt), (⟨q2.seq, p2.time, q2.first, q2.fin, q2.key, q2.text⟩ : Pkt), (⟨q3.seq, p3.time, q3.first, q3.fin, q3.key, q3.text⟩ : Pkt)] (by simp)
  repeat' (first
    | ((with_reducible apply w_thaw (code := .seq (.region 12 _ _) _) 528 6 (rowP [q1, q2, q3]) ([(12, .ptr 432 0), (14, .ptr 608 0), (13, .osl 352 6 (rowP [p1, p2, p3])), (15, .osl 528 6 (rowP [q1, q2, q3]))]) ([(432, .box (ouC b)), (608, .box (ouC c)), (352, .perm 33 6 3)])); (case hat => exact .inl ⟨15, rfl⟩); (case hp16 => decide); (case hpe => rfl); (case h0 => first | omega | (simp; done) | (simp; omega)); (case hsc => simp [thokS, thokB, Ob.thok, AV.thok, thokL, permIs, scalR]); (case hS => simp); (case hB => simp); (case hSk => simp [thokS, thokB, Ob.thok, AV.thok, thokL, permIs, scalR]); (case hBk => simp [thokS, thokB, Ob.thok, AV.thok, thokL, permIs, scalR]); (case hm => (try simp only [Nat.reduceAdd, Nat.reduceMul]); exact rfl); (case' h => intro cap hc1 hc2))
    | ((with_reducible refine all_row ?_); intro x1 hx1; simp at hx1; subst hx1; conv => whnf)
    | ((with_reducible apply w_freeze (code := .seq (.region 16 _ _) _) 15 (rowP [(⟨q1.seq, p1.time, q1.first, q1.fin, q1.key, q1.text⟩ : Pkt), (⟨q2.seq, p2.time, q2.first, q2.fin, q2.key, q2.text⟩ : Pkt), (⟨q3.seq, p3.time, q3.first, q3.fin, q3.key, q3.text⟩ : Pkt)])); (case hs => rfl); (case hq => rfl); (case hn => first | rfl | (simp [rowP, pktC]; done) | (simp [rowP, pktC]; omega)); (case hes => simp [rowP, pktC]); (case hl => simp [rowP, pktC]); (case hpu => first | ((repeat constructor); done) | (simp [rowP, pktC]; repeat constructor)); (case hone => simp [rowP, pktC]))
    | (with_reducible first | refine go_later ?_ | (refine h0 _ _ ?_; clear h0 hw) | (refine hw _ _ _ ?_; clear h0 hw) | refine go_ret ?_ | refine go_skip ?_ | refine go_block ?_ | refine go_exit ?_ | refine out_seq_ret ?_ | refine out_seq_normal ?_ | refine out_seq_exit ?_ | refine out_block_ret ?_ | refine out_block_normal ?_ | refine out_block_here ?_ | refine out_loop_ret ?_ | refine out_loop_exit ?_ | refine out_loopR_ret ?_ | refine out_loopR_exit ?_ | refine out_seq_panic ?_ | refine out_block_panic ?_ | refine out_loop_panic ?_ | (refine hL _ ?_; clear hL))
    | (with_reducible first | refine w_reg (by decide +kernel) fun K1 hK => ?_ | refine w_reg_end (by decide +kernel) fun K1 hK => ?_)
    | ((with_reducible first | apply d_reg Try.mix (by decide +kernel) | apply d_reg_end Try.mix (by decide +kernel)); (case hm => simp only [List.length_cons, List.length_nil, Nat.reduceAdd, Nat.reduceMul]; rfl); (case' h => intro K1 hK))
    | with_reducible refine go_seq ?_
    | ((with_reducible first | apply v_op Try.tab | apply v_op0 Try.tab | apply d_op Try.tab | apply d_op0 Try.tab) <;> first | (intro K' h0 hw; conv => whnf) | (simp only [Nat.reduceAdd, Nat.reduceMul]; rfl))
    | ((with_reducible apply v_nil); (case hm => (simp only [Nat.reduceAdd, Nat.reduceMul]; rfl)); (case' h => with_reducible refine hK _ ?_; clear hK))
    | ((with_reducible apply d_nil); (refine hK _ _ _ _ (by first | decide +kernel | (simp only [List.map_cons, List.map_nil, List.nil_append, List.cons_append]; decide +kernel) | rfl) ?_; clear hK))
    | (first | refine d_grd_yes (by rfl) (by rfl) ?_ | refine v_grd_yes (by rfl) (by rfl) ?_)
    | (apply d_grd_no; (case hg => rfl); (case hb => rfl); (case hi => (simp only [Nat.reduceAdd, Nat.reduceMul]; rfl)))
    | (apply d_grd_undef; (case hg => rfl); (case hb => rfl); (case hi => (simp only [Nat.reduceAdd, Nat.reduceMul]; rfl)))
    | (apply d_grd; (case hg => rfl); (case hb => rfl); (case hi => (simp only [Nat.reduceAdd, Nat.reduceMul]; rfl)))
    | (apply v_grd_no; (case hg => rfl); (case hb => rfl); (case hi => (simp only [Nat.reduceAdd, Nat.reduceMul]; rfl)))
    | (apply v_grd_undef; (case hg => rfl); (case hb => rfl); (case hi => (simp only [Nat.reduceAdd, Nat.reduceMul]; rfl)))
    | (apply v_grd; (case hg => rfl); (case hb => rfl); (case hi => (simp only [Nat.reduceAdd, Nat.reduceMul]; rfl)))
    | ((with_reducible refine callV_id (f := 12) ?_); have hcs_ := c_outBegun; (with_reducible apply callV_f own12 (hcs_)); (case hx => rfl); (case he => rfl); (case hle => first | ((repeat constructor); done) | (simp [thL, AV.th, ouC]; done)); (case hpu => repeat constructor); (case' hK => (try clear hcs_); conv => whnf))
    | ((with_reducible refine callV_id (f := 13) ?_); have hcs_ := c1; (with_reducible apply callV_f own13 (hcs_)); (case hx => rfl); (case he => rfl); (case hle => first | ((repeat constructor); done) | (simp [thL, AV.th, ouC]; done)); (case hpu => repeat constructor); (case' hK => (try clear hcs_); conv => whnf))
    | ((with_reducible refine callV_id (f := 13) ?_); have hcs_ := c2; (with_reducible apply w_callO [] own13 (hcs_)); (case hx => rfl); (case he => rfl); (case hle => first | ((repeat constructor); done) | (simp [thL, AV.th, ouC]; done)); (case hm => rfl); (case hnd => decide); (case' hK => (try clear hcs_); conv => whnf); (any_goals (simp [thL, AV.th, ouC]; done)))
    | ((with_reducible refine callV_id (f := 13) ?_); have hcs_ := c3; (with_reducible apply w_callO [] own13 (hcs_)); (case hx => rfl); (case he => rfl); (case hle => first | ((repeat constructor); done) | (simp [thL, AV.th, ouC]; done)); (case hm => rfl); (case hnd => decide); (case' hK => (try clear hcs_); conv => whnf); (any_goals (simp [thL, AV.th, ouC]; done)))
    | ((with_reducible refine callV_id (f := 14) ?_); have hcs_ := c4; (with_reducible apply callV_f own14 (hcs_)); (case hx => rfl); (case he => rfl); (case hle => first | ((repeat constructor); done) | (simp [thL, AV.th, ouC]; done)); (case hpu => repeat constructor); (case' hK => (try clear hcs_); conv => whnf))
    | ((with_reducible apply go_cond); (case hb => rfl))
    | ((with_reducible apply out_block_there); (case hne => rfl))
    | ((with_reducible first | refine w_ret Try.tab fun K' hL => ?_ | refine w_ret_end Try.tab fun K' hL => ?_); (conv => whnf))
    | ((with_reducible apply And.intro); (case' right => try (conv => whnf)); (case' left => try first | rfl | decide | (simp [thL, AV.th, ouC]; done)))
    | ((with_reducible apply Side.mk); (try simp (disch := omega) only [wrp]); (try simp); (try omega))
    | ((with_reducible apply all_rk); (case hx => with_reducible assumption); (conv => whnf))
    | ((with_reducible refine all_row ?_); (first | (have _y := hx5; clear _y; intro x6 hx6) | (have _y := hx4; clear _y; intro x5 hx5) | (have _y := hx3; clear _y; intro x4 hx4) | (have _y := hx2; clear _y; intro x3 hx3) | (have _y := hx1; clear _y; intro x2 hx2) | (intro x1 hx1)); conv => whnf)
    | (refine ⟨_, eqAT (by rfl) (by rfl) (by rfl) (by rfl), ?_⟩; conv => whnf)
    | ((with_reducible refine nfL_stop ?_); conv => whnf)
    | (with_reducible refine w_unroll ?_)
    | ((with_reducible apply un_nextS 17); (case hv => (conv => lhs; whnf); try exact rfl); (case he => (simp (disch := omega) only [wrp, Int.reduceAdd]); try exact rfl))
    | (with_reducible refine un_exit ?_)
    | (with_reducible refine un_ret ?_)
    | ((first | (have _y := g9; clear _y; intro g10; try simp at g10) | (have _y := g8; clear _y; intro g9; try simp at g9) | (have _y := g7; clear _y; intro g8; try simp at g8) | (have _y := g6; clear _y; intro g7; try simp at g7) | (have _y := g5; clear _y; intro g6; try simp at g6) | (have _y := g4; clear _y; intro g5; try simp at g5) | (have _y := g3; clear _y; intro g4; try simp at g4) | (have _y := g2; clear _y; intro g3; try simp at g3) | (have _y := g1; clear _y; intro g2; try simp at g2) | (intro g1; try simp at g1))))
  all_goals first
    | exact absurd (by rw [hd]) g3
    | (rw [decide_eq_true hpq]; exact .refl _)
    | (exfalso; omega)
set_option maxHeartbeats 4000000 in
theorem c_stepsN4 (o : Ou) (f g : Fr) (turn : Bool) (hf : f.parts.length ≤ 17592186043904) (hg : g.parts.length ≤ 17592186043904) (a b c : Ou) (l0 : List Pkt) (p1 p2 p3 p4 q1 q2 q3 q4 : Pkt) (h1 : sendS o f turn = (a, l0, 0)) (h2 : sendS a g false = (b, [p1, p2, p3, p4], 0)) (h3 : sendS a g true = (c, [q1, q2, q3, q4], 0))
    (hd : b.time - a.time = g.time - f.time) (hbc : b.last = c.last) (hpq : [p1, p2, p3, p4] = [(⟨q1.seq, p1.time, q1.first, q1.fin, q1.key, q1.text⟩ : Pkt), (⟨q2.seq, p2.time, q2.first, q2.fin, q2.key, q2.text⟩ : Pkt), (⟨q3.seq, p3.time, q3.first, q3.fin, q3.key, q3.text⟩ : Pkt), (⟨q4.seq, p4.time, q4.first, q4.fin, q4.key, q4.text⟩ : Pkt)]) : PSpec Try.prog 3 [.agg (ouC o), .agg (frC f), .agg (frC g), B turn] (B true) := by
  refine v_pspec Try.func3 rfl Try.ntmps3 Try.results3 (by simp) (by first | exact .s _ | repeat constructor) ?_
  have c1 := c_send o f turn hf
  rw [h1] at c1
  have c2 := c_sendC a g false hg b _ h2
  have c3 := c_sendC a g true hg c _ h3
  have c4 := c_samePackets [p1, p2, p3, p4] [(⟨q1.seq, p1.time, q1.first, q1.fin, q1.key, q1.text⟩ : Pkt), (⟨q2.seq, p2.time, q2.first, q2.fin, q2.key, q2.text⟩ : Pkt), (⟨q3.seq, p3.time, q3.first, q3.fin, q3.key, q3.text⟩ : Pkt), (⟨q4.seq, p4.time, q4.first, q4.fin, q4.key, q4.text⟩ : Pkt)] (by simp)
  repeat' (first
    | ((with_reducible apply w_thaw (code := .seq (.region 12 _ _) _) 528 6 (rowP [q1, q2, q3, q4]) ([(12, .ptr 432 0), (14, .ptr 608 0), (13, .osl 352 6 (rowP [p1, p2, p3, p4])), (15, .osl 528 6 (rowP [q1, q2, q3, q4]))]) ([(432, .box (ouC b)), (608, .box (ouC c)), (352, .perm 33 6 4)])); (case hat => exact .inl ⟨15, rfl⟩); (case hp16 => decide); (case hpe => rfl); (case h0 => first | omega | (simp; done) | (simp; omega)); (case hsc => simp [thokS, thokB, Ob.thok, AV.thok, thokL, permIs, scalR]); (case hS => simp); (case hB => simp); (case hSk => simp [thokS, thokB, Ob.thok, AV.thok, thokL, permIs, scalR]); (case hBk => simp [thokS, thokB, Ob.thok, AV.thok, thokL, permIs, scalR]); (case hm => (try simp only [Nat.reduceAdd, Nat.reduceMul]); exact rfl); (case' h => intro cap hc1 hc2))
    | ((with_reducible refine all_row ?_); intro x1 hx1; simp at hx1; subst hx1; conv => whnf)
    | ((with_reducible apply w_freeze (code := .seq (.region 16 _ _) _) 15 (rowP [(⟨q1.seq, p1.time, q1.first, q1.fin, q1.key, q1.text⟩ : Pkt), (⟨q2.seq, p2.time, q2.first, q2.fin, q2.key, q2.text⟩ : Pkt), (⟨q3.seq, p3.time, q3.first, q3.fin, q3.key, q3.text⟩ : Pkt), (⟨q4.seq, p4.time, q4.first, q4.fin, q4.key, q4.text⟩ : Pkt)])); (case hs => rfl); (case hq => rfl); (case hn => first | rfl | (simp [rowP, pktC]; done) | (simp [rowP, pktC]; omega)); (case hes => simp [rowP, pktC]); (case hl => simp [rowP, pktC]); (case hpu => first | ((repeat constructor); done) | (simp [rowP, pktC]; repeat constructor)); (case hone => simp [rowP, pktC]))
    | (with_reducible first | refine go_later ?_ | (refine h0 _ _ ?_; clear h0 hw) | (refine hw _ _ _ ?_; clear h0 hw) | refine go_ret ?_ | refine go_skip ?_ | refine go_block ?_ | refine go_exit ?_ | refine out_seq_ret ?_ | refine out_seq_normal ?_ | refine out_seq_exit ?_ | refine out_block_ret ?_ | refine out_block_normal ?_ | refine out_block_here ?_ | refine out_loop_ret ?_ | refine out_loop_exit ?_ | refine out_loopR_ret ?_ | refine out_loopR_exit ?_ | refine out_seq_panic ?_ | refine out_block_panic ?_ | refine out_loop_panic ?_ | (refine hL _ ?_; clear hL))
    | (with_reducible first | refine w_reg (by decide +kernel) fun K1 hK => ?_ | refine w_reg_end (by decide +kernel) fun K1 hK => ?_)
    | ((with_reducible first | apply d_reg Try.mix (by decide +kernel) | apply d_reg_end Try.mix (by decide +kernel)); (case hm => simp only [List.length_cons, List.length_nil, Nat.reduceAdd, Nat.reduceMul]; rfl); (case' h => intro K1 hK))
    | with_reducible refine go_seq ?_
    | ((with_reducible first | apply v_op Try.tab | apply v_op0 Try.tab | apply d_op Try.tab | apply d_op0 Try.tab) <;> first | (intro K' h0 hw; conv => whnf) | (simp only [Nat.reduceAdd, Nat.reduceMul]; rfl))
    | ((with_reducible apply v_nil); (case hm => (simp only [Nat.reduceAdd, Nat.reduceMul]; rfl)); (case' h => with_reducible refine hK _ ?_; clear hK))
    | ((with_reducible apply d_nil); (refine hK _ _ _ _ (by first | decide +kernel | (simp only [List.map_cons, List.map_nil, List.nil_append, List.cons_append]; decide +kernel) | rfl) ?_; clear hK))
    | (first | refine d_grd_yes (by rfl) (by rfl) ?_ | refine v_grd_yes (by rfl) (by rfl) ?_)
    | (apply d_grd_no; (case hg => rfl); (case hb => rfl); (case hi => (simp only [Nat.reduceAdd, Nat.reduceMul]; rfl)))
    | (apply d_grd_undef; (case hg => rfl); (case hb => rfl); (case hi => (simp only [Nat.reduceAdd, Nat.reduceMul]; rfl)))
    | (apply d_grd; (case hg => rfl); (case hb => rfl); (case hi => (simp only [Nat.reduceAdd, Nat.reduceMul]; rfl)))
    | (apply v_grd_no; (case hg => rfl); (case hb => rfl); (case hi => (simp only [Nat.reduceAdd, Nat.reduceMul]; rfl)))
    | (apply v_grd_undef; (case hg => rfl); (case hb => rfl); (case hi => (simp only [Nat.reduceAdd, Nat.reduceMul]; rfl)))
    | (apply v_grd; (case hg => rfl); (case hb => rfl); (case hi => (simp only [Nat.reduceAdd, Nat.reduceMul]; rfl)))
    | ((with_reducible refine callV_id (f := 12) ?_); have hcs_ := c_outBegun; (with_reducible apply callV_f own12 (hcs_)); (case hx => rfl); (case he => rfl); (case hle => first | ((repeat constructor); done) | (simp [thL, AV.th, ouC]; done)); (case hpu => repeat constructor); (case' hK => (try clear hcs_); conv => whnf))
    | ((with_reducible refine callV_id (f := 13) ?_); have hcs_ := c1; (with_reducible apply callV_f own13 (hcs_)); (case hx => rfl); (case he => rfl); (case hle => first | ((repeat constructor); done) | (simp [thL, AV.th, ouC]; done)); (case hpu => repeat constructor); (case' hK => (try clear hcs_); conv => whnf))
    | ((with_reducible refine callV_id (f := 13) ?_); have hcs_ := c2; (with_reducible apply w_callO [] own13 (hcs_)); (case hx => rfl); (case he => rfl); (case hle => first | ((repeat constructor); done) | (simp [thL, AV.th, ouC]; done)); (case hm => rfl); (case hnd => decide); (case' hK => (try clear hcs_); conv => whnf); (any_goals (simp [thL, AV.th, ouC]; done)))
    | ((with_reducible refine callV_id (f := 13) ?_); have hcs_ := c3; (with_reducible apply w_callO [] own13 (hcs_)); (case hx => rfl); (case he => rfl); (case hle => first | ((repeat constructor); done) | (simp [thL, AV.th, ouC]; done)); (case hm => rfl); (case hnd => decide); (case' hK => (try clear hcs_); conv => whnf); (any_goals (simp [thL, AV.th, ouC]; done)))
    | ((with_reducible refine callV_id (f := 14) ?_); have hcs_ := c4; (with_reducible apply callV_f own14 (hcs_)); (case hx => rfl); (case he => rfl); (case hle => first | ((repeat constructor); done) | (simp [thL, AV.th, ouC]; done)); (case hpu => repeat constructor); (case' hK => (try clear hcs_); conv => whnf))
    | ((with_reducible apply go_cond); (case hb => rfl))
    | ((with_reducible apply out_block_there); (case hne => rfl))
    | ((with_reducible first | refine w_ret Try.tab fun K' hL => ?_ | refine w_ret_end Try.tab fun K' hL => ?_); (conv => whnf))
    | ((with_reducible apply And.intro); (case' right => try (conv => whnf)); (case' left => try first | rfl | decide | (simp [thL, AV.th, ouC]; done)))
    | ((with_reducible apply Side.mk); (try simp (disch := omega) only [wrp]); (try simp); (try omega))
    | ((with_reducible apply all_rk); (case hx => with_reducible assumption); (conv => whnf))
    | ((with_reducible refine all_row ?_); (first | (have _y := hx5; clear _y; intro x6 hx6) | (have _y := hx4; clear _y; intro x5 hx5) | (have _y := hx3; clear _y; intro x4 hx4) | (have _y := hx2; clear _y; intro x3 hx3) | (have _y := hx1; clear _y; intro x2 hx2) | (intro x1 hx1)); conv => whnf)
    | (refine ⟨_, eqAT (by rfl) (by rfl) (by rfl) (by rfl), ?_⟩; conv => whnf)
    | ((with_reducible refine nfL_stop ?_); conv => whnf)
    | (with_reducible refine w_unroll ?_)
    | ((with_reducible apply un_nextS 17); (case hv => (conv => lhs; whnf); try exact rfl); (case he => (simp (disch := omega) only [wrp, Int.reduceAdd]); try exact rfl))
    | (with_reducible refine un_exit ?_)
    | (with_reducible refine un_ret ?_)
    | ((first | (have _y := g9; clear _y; intro g10; try simp at g10) | (have _y := g8; clear _y; intro g9; try simp at g9) | (have _y := g7; clear _y; intro g8; try simp at g8) | (have _y := g6; clear _y; intro g7; try simp at g7) | (have _y := g5; clear _y; intro g6; try simp at g6) | (have _y := g4; clear _y; intro g5; try simp at g5) | (have _y := g3; clear _y; intro g4; try simp at g4) | (have _y := g2; clear _y; intro g3; try simp at g3) | (have _y := g1; clear _y; intro g2; try simp at g2) | (intro g1; try simp at g1))))
  all_goals first
    | exact absurd (by rw [hd]) g3
    | (rw [decide_eq_true hpq]; exact .refl _)
    | (exfalso; omega)
end Go.Proofs.Ytlehonipilpfdaa

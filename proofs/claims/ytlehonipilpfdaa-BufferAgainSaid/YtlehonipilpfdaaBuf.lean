/- Buffers: what is wrong with one; what goes out. No condition. -/
import Derived.Test.YtlehonipilpfdaaSlot
import Derived.Test.YtlehonipilpfdaaSyTh
namespace Go.Proofs.Ytlehonipilpfdaa
open Go Go.Sy
set_option maxRecDepth 4000
set_option linter.unusedSimpArgs false
set_option linter.unusedVariables false
attribute [local irreducible] Reg RegD Later Out CallV Tri Side EqV
structure Bf where
  next : Int
  held : List Slt
abbrev bfC (b : Bf) : List AV := [I b.next, slts b.held]
def heldE : Int → List Slt → Int
  | _, [] => 0
  | a, x :: l => if sltE x ≠ 0 then sltE x else if x.n ≤ a then 4 else heldE x.n l
def bufE (b : Bf) : Int := if b.next ≠ 0 ∧ (b.next < 65536 ∨ 1000000001 < b.next) then 3 else if 4 < b.held.length then 2 else if heldE b.next b.held ≠ 0 then heldE b.next b.held else if b.next = 0 ∧ 0 < b.held.length then 4 else 0
theorem heldE_at {a : Int} {l : List Slt} {i : Nat} {x : Slt} (hx : l[i]? = some x) : heldE a (l.drop i) = if sltE x ≠ 0 then sltE x else if x.n ≤ a then 4 else heldE x.n (l.drop (i + 1)) := by
  rw [drop_at hx]; rfl
set_option maxHeartbeats 1000000 in
theorem c_bufCheck (b : Bf) (hl : b.held.length ≤ 4000000000000) : PSpec Try.prog 29 [.agg (bfC b)] (I (bufE b)) := by
  refine v_pspec Try.func29 rfl Try.ntmps29 Try.results29 (by simp) (by first | exact .s _ | repeat constructor) ?_
  by_cases h3 : b.next ≠ 0 ∧ (b.next < 65536 ∨ 1000000001 < b.next)
  · have e : bufE b = 3 := if_pos h3
    repeat' (first
    | (with_reducible first | refine go_later ?_ | (refine h0 _ _ ?_; clear h0 hw) | (refine hw _ _ _ ?_; clear h0 hw) | refine go_ret ?_ | refine go_skip ?_ | refine go_block ?_ | refine go_exit ?_ | refine out_seq_ret ?_ | refine out_seq_normal ?_ | refine out_seq_exit ?_ | refine out_block_ret ?_ | refine out_block_normal ?_ | refine out_block_here ?_ | refine out_loop_ret ?_ | refine out_loop_exit ?_ | refine out_loopR_ret ?_ | refine out_loopR_exit ?_ | refine out_seq_panic ?_ | refine out_block_panic ?_ | refine out_loop_panic ?_ | (refine hL _ ?_; clear hL))
    | (with_reducible first | refine w_reg (by decide +kernel) fun K1 hK => ?_ | refine w_reg_end (by decide +kernel) fun K1 hK => ?_)
    | ((with_reducible first | apply d_reg Try.mix (by decide +kernel) | apply d_reg_end Try.mix (by decide +kernel)); (case hm => simp only [List.length_cons, List.length_nil, Nat.reduceAdd, Nat.reduceMul]; rfl); (case' h => intro K1 hK))
    | with_reducible refine go_seq ?_
    | ((with_reducible first | apply v_op Try.tab | apply v_op0 Try.tab | apply d_op Try.tab | apply d_op0 Try.tab) <;> first | (intro K' h0 hw; conv => whnf) | (simp only [Nat.reduceAdd, Nat.reduceMul]; rfl))
    | ((with_reducible apply v_nil); (case hm => (simp only [Nat.reduceAdd, Nat.reduceMul]; rfl)); (case' h => with_reducible refine hK _ ?_; clear hK))
    | ((with_reducible apply d_nil); (refine hK _ _ _ _ (by first | decide +kernel | (simp only [List.map_cons, List.map_nil, List.nil_append, List.cons_append]; decide +kernel) | rfl) ?_; clear hK))
    | (first | refine d_grd_yes (by rfl) (by rfl) ?_ | refine v_grd_yes (by rfl) (by rfl) ?_)
    | (apply d_grd_no; (case hg => rfl); (case hb => rfl); (case hi => (simp only [Nat.reduceAdd, Nat.reduceMul]; rfl)))
    | (apply d_grd_undef; (case hg => rfl); (case hb => rfl); (case hi => (simp only [Nat.reduceAdd, Nat.reduceMul]; rfl)))
    | (apply d_grd; (case hg => rfl); (case hb => rfl); (case hi => (simp only [Nat.reduceAdd, Nat.reduceMul]; rfl)))
    | (apply v_grd_no; (case hg => rfl); (case hb => rfl); (case hi => (simp only [Nat.reduceAdd, Nat.reduceMul]; rfl)))
    | (apply v_grd_undef; (case hg => rfl); (case hb => rfl); (case hi => (simp only [Nat.reduceAdd, Nat.reduceMul]; rfl)))
    | (apply v_grd; (case hg => rfl); (case hb => rfl); (case hi => (simp only [Nat.reduceAdd, Nat.reduceMul]; rfl)))
    | ((with_reducible apply go_cond); (case hb => rfl))
    | ((with_reducible apply out_block_there); (case hne => rfl))
    | ((with_reducible first | refine w_ret Try.tab fun K' hL => ?_ | refine w_ret_end Try.tab fun K' hL => ?_); (conv => whnf))
    | ((with_reducible apply And.intro); (case' right => try (conv => whnf)); (case' left => try first | rfl | decide | (simp; done) | (simp (disch := omega) only [wrp]; omega)))
    | ((with_reducible apply Side.mk); (try simp (disch := omega) only [wrp]); (try simp); (try omega))
    | ((with_reducible apply all_rk); (case hx => with_reducible assumption); (conv => whnf))
    | ((with_reducible refine all_row ?_); (first | (have _y := hx5; clear _y; intro x6 hx6) | (have _y := hx4; clear _y; intro x5 hx5) | (have _y := hx3; clear _y; intro x4 hx4) | (have _y := hx2; clear _y; intro x3 hx3) | (have _y := hx1; clear _y; intro x2 hx2) | (intro x1 hx1)); conv => whnf)
    | (refine ⟨_, eqAT (by rfl) (by rfl) (by rfl) (by rfl), ?_⟩; conv => whnf)
    | ((first | (have _y := g9; clear _y; intro g10; try simp at g10) | (have _y := g8; clear _y; intro g9; try simp at g9) | (have _y := g7; clear _y; intro g8; try simp at g8) | (have _y := g6; clear _y; intro g7; try simp at g7) | (have _y := g5; clear _y; intro g6; try simp at g6) | (have _y := g4; clear _y; intro g5; try simp at g5) | (have _y := g3; clear _y; intro g4; try simp at g4) | (have _y := g2; clear _y; intro g3; try simp at g3) | (have _y := g1; clear _y; intro g2; try simp at g2) | (intro g1; try simp at g1))))
    all_goals first | (simp [e]; done) | (exfalso; omega)
  by_cases h2 : 4 < b.held.length
  · have e : bufE b = 2 := by unfold bufE; rw [if_neg h3, if_pos h2]
    repeat' (first
    | (with_reducible first | refine go_later ?_ | (refine h0 _ _ ?_; clear h0 hw) | (refine hw _ _ _ ?_; clear h0 hw) | refine go_ret ?_ | refine go_skip ?_ | refine go_block ?_ | refine go_exit ?_ | refine out_seq_ret ?_ | refine out_seq_normal ?_ | refine out_seq_exit ?_ | refine out_block_ret ?_ | refine out_block_normal ?_ | refine out_block_here ?_ | refine out_loop_ret ?_ | refine out_loop_exit ?_ | refine out_loopR_ret ?_ | refine out_loopR_exit ?_ | refine out_seq_panic ?_ | refine out_block_panic ?_ | refine out_loop_panic ?_ | (refine hL _ ?_; clear hL))
    | (with_reducible first | refine w_reg (by decide +kernel) fun K1 hK => ?_ | refine w_reg_end (by decide +kernel) fun K1 hK => ?_)
    | ((with_reducible first | apply d_reg Try.mix (by decide +kernel) | apply d_reg_end Try.mix (by decide +kernel)); (case hm => simp only [List.length_cons, List.length_nil, Nat.reduceAdd, Nat.reduceMul]; rfl); (case' h => intro K1 hK))
    | with_reducible refine go_seq ?_
    | ((with_reducible first | apply v_op Try.tab | apply v_op0 Try.tab | apply d_op Try.tab | apply d_op0 Try.tab) <;> first | (intro K' h0 hw; conv => whnf) | (simp only [Nat.reduceAdd, Nat.reduceMul]; rfl))
    | ((with_reducible apply v_nil); (case hm => (simp only [Nat.reduceAdd, Nat.reduceMul]; rfl)); (case' h => with_reducible refine hK _ ?_; clear hK))
    | ((with_reducible apply d_nil); (refine hK _ _ _ _ (by first | decide +kernel | (simp only [List.map_cons, List.map_nil, List.nil_append, List.cons_append]; decide +kernel) | rfl) ?_; clear hK))
    | (first | refine d_grd_yes (by rfl) (by rfl) ?_ | refine v_grd_yes (by rfl) (by rfl) ?_)
    | (apply d_grd_no; (case hg => rfl); (case hb => rfl); (case hi => (simp only [Nat.reduceAdd, Nat.reduceMul]; rfl)))
    | (apply d_grd_undef; (case hg => rfl); (case hb => rfl); (case hi => (simp only [Nat.reduceAdd, Nat.reduceMul]; rfl)))
    | (apply d_grd; (case hg => rfl); (case hb => rfl); (case hi => (simp only [Nat.reduceAdd, Nat.reduceMul]; rfl)))
    | (apply v_grd_no; (case hg => rfl); (case hb => rfl); (case hi => (simp only [Nat.reduceAdd, Nat.reduceMul]; rfl)))
    | (apply v_grd_undef; (case hg => rfl); (case hb => rfl); (case hi => (simp only [Nat.reduceAdd, Nat.reduceMul]; rfl)))
    | (apply v_grd; (case hg => rfl); (case hb => rfl); (case hi => (simp only [Nat.reduceAdd, Nat.reduceMul]; rfl)))
    | ((with_reducible apply go_cond); (case hb => rfl))
    | ((with_reducible apply out_block_there); (case hne => rfl))
    | ((with_reducible first | refine w_ret Try.tab fun K' hL => ?_ | refine w_ret_end Try.tab fun K' hL => ?_); (conv => whnf))
    | ((with_reducible apply And.intro); (case' right => try (conv => whnf)); (case' left => try first | rfl | decide | (simp; done) | (simp (disch := omega) only [wrp]; omega)))
    | ((with_reducible apply Side.mk); (try simp (disch := omega) only [wrp]); (try simp); (try omega))
    | ((with_reducible apply all_rk); (case hx => with_reducible assumption); (conv => whnf))
    | ((with_reducible refine all_row ?_); (first | (have _y := hx5; clear _y; intro x6 hx6) | (have _y := hx4; clear _y; intro x5 hx5) | (have _y := hx3; clear _y; intro x4 hx4) | (have _y := hx2; clear _y; intro x3 hx3) | (have _y := hx1; clear _y; intro x2 hx2) | (intro x1 hx1)); conv => whnf)
    | (refine ⟨_, eqAT (by rfl) (by rfl) (by rfl) (by rfl), ?_⟩; conv => whnf)
    | ((first | (have _y := g9; clear _y; intro g10; try simp at g10) | (have _y := g8; clear _y; intro g9; try simp at g9) | (have _y := g7; clear _y; intro g8; try simp at g8) | (have _y := g6; clear _y; intro g7; try simp at g7) | (have _y := g5; clear _y; intro g6; try simp at g6) | (have _y := g4; clear _y; intro g5; try simp at g5) | (have _y := g3; clear _y; intro g4; try simp at g4) | (have _y := g2; clear _y; intro g3; try simp at g3) | (have _y := g1; clear _y; intro g2; try simp at g2) | (intro g1; try simp at g1))))
    all_goals first | (simp [e]; done) | (exfalso; omega)
  have e : bufE b = if heldE b.next b.held ≠ 0 then heldE b.next b.held else if b.next = 0 ∧ 0 < b.held.length then 4 else 0 := by unfold bufE; rw [if_neg h3, if_neg h2]
  repeat' (first
    | (with_reducible refine w_cut (x := .block 0 _) (X := Unit) [2, 7, 8, 9, 10, 11, 12, 13, 14, 15, 16, 17, 18, 19, 20, 21, 22, 23, 24, 25] (fun _ => []) (fun _ => []) (fun _ => True) ?_ ?_; (try (rintro z hz; simp only at hz)))
    | (with_reducible first | refine go_later ?_ | (refine h0 _ _ ?_; clear h0 hw) | (refine hw _ _ _ ?_; clear h0 hw) | refine go_ret ?_ | refine go_skip ?_ | refine go_block ?_ | refine go_exit ?_ | refine out_seq_ret ?_ | refine out_seq_normal ?_ | refine out_seq_exit ?_ | refine out_block_ret ?_ | refine out_block_normal ?_ | refine out_block_here ?_ | refine out_loop_ret ?_ | refine out_loop_exit ?_ | refine out_loopR_ret ?_ | refine out_loopR_exit ?_ | refine out_seq_panic ?_ | refine out_block_panic ?_ | refine out_loop_panic ?_ | (refine hL _ ?_; clear hL))
    | (with_reducible first | refine w_reg (by decide +kernel) fun K1 hK => ?_ | refine w_reg_end (by decide +kernel) fun K1 hK => ?_)
    | ((with_reducible first | apply d_reg Try.mix (by decide +kernel) | apply d_reg_end Try.mix (by decide +kernel)); (case hm => simp only [List.length_cons, List.length_nil, Nat.reduceAdd, Nat.reduceMul]; rfl); (case' h => intro K1 hK))
    | with_reducible refine go_seq ?_
    | ((with_reducible first | apply v_op Try.tab | apply v_op0 Try.tab | apply d_op Try.tab | apply d_op0 Try.tab) <;> first | (intro K' h0 hw; conv => whnf) | (simp only [Nat.reduceAdd, Nat.reduceMul]; rfl))
    | ((with_reducible apply v_nil); (case hm => (simp only [Nat.reduceAdd, Nat.reduceMul]; rfl)); (case' h => with_reducible refine hK _ ?_; clear hK))
    | ((with_reducible apply d_nil); (refine hK _ _ _ _ (by first | decide +kernel | (simp only [List.map_cons, List.map_nil, List.nil_append, List.cons_append]; decide +kernel) | rfl) ?_; clear hK))
    | (first | refine d_grd_yes (by rfl) (by rfl) ?_ | refine v_grd_yes (by rfl) (by rfl) ?_)
    | (apply d_grd_no; (case hg => rfl); (case hb => rfl); (case hi => (simp only [Nat.reduceAdd, Nat.reduceMul]; rfl)))
    | (apply d_grd_undef; (case hg => rfl); (case hb => rfl); (case hi => (simp only [Nat.reduceAdd, Nat.reduceMul]; rfl)))
    | (apply d_grd; (case hg => rfl); (case hb => rfl); (case hi => (simp only [Nat.reduceAdd, Nat.reduceMul]; rfl)))
    | (apply v_grd_no; (case hg => rfl); (case hb => rfl); (case hi => (simp only [Nat.reduceAdd, Nat.reduceMul]; rfl)))
    | (apply v_grd_undef; (case hg => rfl); (case hb => rfl); (case hi => (simp only [Nat.reduceAdd, Nat.reduceMul]; rfl)))
    | (apply v_grd; (case hg => rfl); (case hb => rfl); (case hi => (simp only [Nat.reduceAdd, Nat.reduceMul]; rfl)))
    | ((with_reducible apply go_cond); (case hb => rfl))
    | ((with_reducible apply out_block_there); (case hne => rfl))
    | ((with_reducible first | refine w_ret Try.tab fun K' hL => ?_ | refine w_ret_end Try.tab fun K' hL => ?_); (conv => whnf))
    | ((with_reducible apply And.intro); (case' right => try (conv => whnf)); (case' left => try first | rfl | decide | (simp; done) | (simp (disch := omega) only [wrp]; omega)))
    | ((with_reducible apply Side.mk); (try simp (disch := omega) only [wrp]); (try simp); (try omega))
    | ((with_reducible apply all_rk); (case hx => with_reducible assumption); (conv => whnf))
    | ((with_reducible refine all_row ?_); (first | (have _y := hx5; clear _y; intro x6 hx6) | (have _y := hx4; clear _y; intro x5 hx5) | (have _y := hx3; clear _y; intro x4 hx4) | (have _y := hx2; clear _y; intro x3 hx3) | (have _y := hx1; clear _y; intro x2 hx2) | (intro x1 hx1)); conv => whnf)
    | (refine ⟨_, eqAT (by rfl) (by rfl) (by rfl) (by rfl), ?_⟩; conv => whnf)
    | ((first | (have _y := g9; clear _y; intro g10; try simp at g10) | (have _y := g8; clear _y; intro g9; try simp at g9) | (have _y := g7; clear _y; intro g8; try simp at g8) | (have _y := g6; clear _y; intro g7; try simp at g7) | (have _y := g5; clear _y; intro g6; try simp at g6) | (have _y := g4; clear _y; intro g5; try simp at g5) | (have _y := g3; clear _y; intro g4; try simp at g4) | (have _y := g2; clear _y; intro g3; try simp at g3) | (have _y := g1; clear _y; intro g2; try simp at g2) | (intro g1; try simp at g1))))
  all_goals (try (exfalso; omega))
  · ((with_reducible apply w_next (())); (case kt => first | exact kt_refl | (repeat (first | exact kt_refl | refine kt_wr (by rfl) ?_ | refine kt_jnk (by rfl) ?_ | refine kt_wrs (by rfl) ?_))); (case ko => repeat (first | exact ko_refl | refine ko_wo (by first | exact .inl (by rfl) | exact .inr (by simp) | exact .inr (by omega)) ?_ | refine ko_wor (by rfl) ?_ | refine ko_wos (by simp) ?_)); (case hn => first | exact Nat.le_refl _ | (simp; done) | (simp; omega)); (case hs => simp); (case hb => simp); (case ls => simp (disch := omega) [wrp]); (case lb => simp); (case mu => first | (simp; omega) | (simp; done) | omega | (simp only; omega)); (case' rel' => (try simp only); (try exact trivial)))
  · ((with_reducible apply w_next (())); (case kt => first | exact kt_refl | (repeat (first | exact kt_refl | refine kt_wr (by rfl) ?_ | refine kt_jnk (by rfl) ?_ | refine kt_wrs (by rfl) ?_))); (case ko => repeat (first | exact ko_refl | refine ko_wo (by first | exact .inl (by rfl) | exact .inr (by simp) | exact .inr (by omega)) ?_ | refine ko_wor (by rfl) ?_ | refine ko_wos (by simp) ?_)); (case hn => first | exact Nat.le_refl _ | (simp; done) | (simp; omega)); (case hs => simp); (case hb => simp); (case ls => simp (disch := omega) [wrp]); (case lb => simp); (case mu => first | (simp; omega) | (simp; done) | omega | (simp only; omega)); (case' rel' => (try simp only); (try exact trivial)))
  refine w_loop (X := Nat × Int) [2, 3, 5, 6, 31, 32, 33, 34, 35, 36, 37, 38, 39, 40, 41, 42, 43, 44, 45, 46] (fun x => [(31, I x.1), (3, I x.2)]) (fun _ => []) (fun x => x.1 ≤ b.held.length ∧ heldE x.2 (b.held.drop x.1) = heldE b.next b.held) (fun x => b.held.length - x.1) (0, b.next) (by simp) ?_ ?_
  · refine ⟨kt_refl, ko_refl, ?_, ?_, ?_, ?_, Nat.le_refl _⟩ <;> simp
  rintro ⟨i, a⟩ ⟨h1, h2⟩
  simp only at h1 h2
  repeat' (first
    | (with_reducible first | refine go_later ?_ | (refine h0 _ _ ?_; clear h0 hw) | (refine hw _ _ _ ?_; clear h0 hw) | refine go_ret ?_ | refine go_skip ?_ | refine go_block ?_ | refine go_exit ?_ | refine out_seq_ret ?_ | refine out_seq_normal ?_ | refine out_seq_exit ?_ | refine out_block_ret ?_ | refine out_block_normal ?_ | refine out_block_here ?_ | refine out_loop_ret ?_ | refine out_loop_exit ?_ | refine out_loopR_ret ?_ | refine out_loopR_exit ?_ | refine out_seq_panic ?_ | refine out_block_panic ?_ | refine out_loop_panic ?_ | (refine hL _ ?_; clear hL))
    | (with_reducible first | refine w_reg (by decide +kernel) fun K1 hK => ?_ | refine w_reg_end (by decide +kernel) fun K1 hK => ?_)
    | ((with_reducible first | apply d_reg Try.mix (by decide +kernel) | apply d_reg_end Try.mix (by decide +kernel)); (case hm => simp only [List.length_cons, List.length_nil, Nat.reduceAdd, Nat.reduceMul]; rfl); (case' h => intro K1 hK))
    | with_reducible refine go_seq ?_
    | ((with_reducible first | apply v_op Try.tab | apply v_op0 Try.tab | apply d_op Try.tab | apply d_op0 Try.tab) <;> first | (intro K' h0 hw; conv => whnf) | (simp only [Nat.reduceAdd, Nat.reduceMul]; rfl))
    | ((with_reducible apply v_nil); (case hm => (simp only [Nat.reduceAdd, Nat.reduceMul]; rfl)); (case' h => with_reducible refine hK _ ?_; clear hK))
    | ((with_reducible apply d_nil); (refine hK _ _ _ _ (by first | decide +kernel | (simp only [List.map_cons, List.map_nil, List.nil_append, List.cons_append]; decide +kernel) | rfl) ?_; clear hK))
    | (first | refine d_grd_yes (by rfl) (by rfl) ?_ | refine v_grd_yes (by rfl) (by rfl) ?_)
    | (apply d_grd_no; (case hg => rfl); (case hb => rfl); (case hi => (simp only [Nat.reduceAdd, Nat.reduceMul]; rfl)))
    | (apply d_grd_undef; (case hg => rfl); (case hb => rfl); (case hi => (simp only [Nat.reduceAdd, Nat.reduceMul]; rfl)))
    | (apply d_grd; (case hg => rfl); (case hb => rfl); (case hi => (simp only [Nat.reduceAdd, Nat.reduceMul]; rfl)))
    | (apply v_grd_no; (case hg => rfl); (case hb => rfl); (case hi => (simp only [Nat.reduceAdd, Nat.reduceMul]; rfl)))
    | (apply v_grd_undef; (case hg => rfl); (case hb => rfl); (case hi => (simp only [Nat.reduceAdd, Nat.reduceMul]; rfl)))
    | (apply v_grd; (case hg => rfl); (case hb => rfl); (case hi => (simp only [Nat.reduceAdd, Nat.reduceMul]; rfl)))
    | ((with_reducible refine callV_id (f := 59) ?_); have hcs_ := c_slot x1; (with_reducible apply callV_f own59 (hcs_)); (case hx => rfl); (case he => rfl); (case hle => first | ((repeat constructor); done) | (simp; done)); (case hpu => repeat constructor); (case' hK => (try clear hcs_); conv => whnf))
    | ((with_reducible apply go_cond); (case hb => rfl))
    | ((with_reducible apply out_block_there); (case hne => rfl))
    | ((with_reducible first | refine w_ret Try.tab fun K' hL => ?_ | refine w_ret_end Try.tab fun K' hL => ?_); (conv => whnf))
    | ((with_reducible apply And.intro); (case' right => try (conv => whnf)); (case' left => try first | rfl | decide | (simp; done) | (simp (disch := omega) only [wrp]; omega)))
    | ((with_reducible apply Side.mk); (try simp (disch := omega) only [wrp]); (try simp); (try omega))
    | ((with_reducible apply all_rk); (case hx => with_reducible assumption); (conv => whnf))
    | ((with_reducible refine all_row ?_); (first | (have _y := hx5; clear _y; intro x6 hx6) | (have _y := hx4; clear _y; intro x5 hx5) | (have _y := hx3; clear _y; intro x4 hx4) | (have _y := hx2; clear _y; intro x3 hx3) | (have _y := hx1; clear _y; intro x2 hx2) | (intro x1 hx1)); conv => whnf)
    | (refine ⟨_, eqAT (by rfl) (by rfl) (by rfl) (by rfl), ?_⟩; conv => whnf)
    | ((first | (have _y := g9; clear _y; intro g10; try simp at g10) | (have _y := g8; clear _y; intro g9; try simp at g9) | (have _y := g7; clear _y; intro g8; try simp at g8) | (have _y := g6; clear _y; intro g7; try simp at g7) | (have _y := g5; clear _y; intro g6; try simp at g6) | (have _y := g4; clear _y; intro g5; try simp at g5) | (have _y := g3; clear _y; intro g4; try simp at g4) | (have _y := g2; clear _y; intro g3; try simp at g3) | (have _y := g1; clear _y; intro g2; try simp at g2) | (intro g1; try simp at g1))))
  all_goals (try (simp at hx1))
  · rw [heldE_at hx1, if_pos g4] at h2; simp [e, ← h2, g4]
  · rw [heldE_at hx1, if_neg (by simp [g4]), if_pos g5] at h2; simp [e, ← h2]
  · ((with_reducible apply w_next ((i + 1, x1.n))); (case kt => first | exact kt_refl | (repeat (first | exact kt_refl | refine kt_wr (by rfl) ?_ | refine kt_jnk (by rfl) ?_ | refine kt_wrs (by rfl) ?_))); (case ko => repeat (first | exact ko_refl | refine ko_wo (by first | exact .inl (by rfl) | exact .inr (by simp) | exact .inr (by omega)) ?_ | refine ko_wor (by rfl) ?_ | refine ko_wos (by simp) ?_)); (case hn => first | exact Nat.le_refl _ | (simp; done) | (simp; omega)); (case hs => simp); (case hb => simp); (case ls => simp (disch := omega) [wrp]); (case lb => simp); (case mu => first | (simp; omega) | (simp; done) | omega | (simp only; omega)); (case' rel' => (try simp only); (try exact trivial)))
    exact ⟨by omega, by rw [← h2, heldE_at hx1, if_neg (by simp [g4]), if_neg (by omega)]⟩
  all_goals (rw [List.drop_eq_nil_of_le g3] at h2; simp only [heldE] at h2; rw [e, ← h2]; simp [g4, g5])
def aheadS (n : Int) (l : List Slt) (i : Nat) : Int := if i = 0 then n else match l[i - 1]? with | some x => x.n | none => n
theorem aheadS_succ {n : Int} {l : List Slt} {i : Nat} {x : Slt} (h : l[i]? = some x) : aheadS n l (i + 1) = x.n := by simp [aheadS, h]
set_option maxHeartbeats 1000000 in
theorem c_checkBuffer (b : Bf) (hl : b.held.length ≤ 4000000000000) : PSpec Try.prog 24 [.agg (bfC b)] (I (bufE b)) := by
  refine v_pspec Try.func24 rfl Try.ntmps24 Try.results24 (by simp) (by first | exact .s _ | repeat constructor) ?_
  by_cases h3 : b.next ≠ 0 ∧ (b.next < 65536 ∨ 1000000001 < b.next)
  · have e : bufE b = 3 := if_pos h3
    repeat' (first
    | (with_reducible first | refine go_later ?_ | (refine h0 _ _ ?_; clear h0 hw) | (refine hw _ _ _ ?_; clear h0 hw) | refine go_ret ?_ | refine go_skip ?_ | refine go_block ?_ | refine go_exit ?_ | refine out_seq_ret ?_ | refine out_seq_normal ?_ | refine out_seq_exit ?_ | refine out_block_ret ?_ | refine out_block_normal ?_ | refine out_block_here ?_ | refine out_loop_ret ?_ | refine out_loop_exit ?_ | refine out_loopR_ret ?_ | refine out_loopR_exit ?_ | refine out_seq_panic ?_ | refine out_block_panic ?_ | refine out_loop_panic ?_ | (refine hL _ ?_; clear hL))
    | (with_reducible first | refine w_reg (by decide +kernel) fun K1 hK => ?_ | refine w_reg_end (by decide +kernel) fun K1 hK => ?_)
    | ((with_reducible first | apply d_reg Try.mix (by decide +kernel) | apply d_reg_end Try.mix (by decide +kernel)); (case hm => simp only [List.length_cons, List.length_nil, Nat.reduceAdd, Nat.reduceMul]; rfl); (case' h => intro K1 hK))
    | with_reducible refine go_seq ?_
    | ((with_reducible first | apply v_op Try.tab | apply v_op0 Try.tab | apply d_op Try.tab | apply d_op0 Try.tab) <;> first | (intro K' h0 hw; conv => whnf) | (simp only [Nat.reduceAdd, Nat.reduceMul]; rfl))
    | ((with_reducible apply v_nil); (case hm => (simp only [Nat.reduceAdd, Nat.reduceMul]; rfl)); (case' h => with_reducible refine hK _ ?_; clear hK))
    | ((with_reducible apply d_nil); (refine hK _ _ _ _ (by first | decide +kernel | (simp only [List.map_cons, List.map_nil, List.nil_append, List.cons_append]; decide +kernel) | rfl) ?_; clear hK))
    | (first | refine d_grd_yes (by rfl) (by rfl) ?_ | refine v_grd_yes (by rfl) (by rfl) ?_)
    | (apply d_grd_no; (case hg => rfl); (case hb => rfl); (case hi => (simp only [Nat.reduceAdd, Nat.reduceMul]; rfl)))
    | (apply d_grd_undef; (case hg => rfl); (case hb => rfl); (case hi => (simp only [Nat.reduceAdd, Nat.reduceMul]; rfl)))
    | (apply d_grd; (case hg => rfl); (case hb => rfl); (case hi => (simp only [Nat.reduceAdd, Nat.reduceMul]; rfl)))
    | (apply v_grd_no; (case hg => rfl); (case hb => rfl); (case hi => (simp only [Nat.reduceAdd, Nat.reduceMul]; rfl)))
    | (apply v_grd_undef; (case hg => rfl); (case hb => rfl); (case hi => (simp only [Nat.reduceAdd, Nat.reduceMul]; rfl)))
    | (apply v_grd; (case hg => rfl); (case hb => rfl); (case hi => (simp only [Nat.reduceAdd, Nat.reduceMul]; rfl)))
    | ((with_reducible refine callV_id (f := 55) ?_); (with_reducible apply callV_f own55 (c_between _ _ _)); (case hx => rfl); (case he => rfl); (case hle => first | ((repeat constructor); done) | (simp; done)); (case hpu => repeat constructor); (case' hK => (try clear hcs_); conv => whnf))
    | ((with_reducible apply go_cond); (case hb => rfl))
    | ((with_reducible apply out_block_there); (case hne => rfl))
    | ((with_reducible first | refine w_ret Try.tab fun K' hL => ?_ | refine w_ret_end Try.tab fun K' hL => ?_); (conv => whnf))
    | ((with_reducible apply And.intro); (case' right => try (conv => whnf)); (case' left => try first | rfl | decide | (simp; done) | (simp (disch := omega) only [wrp]; omega)))
    | ((with_reducible apply Side.mk); (try simp (disch := omega) only [wrp]); (try simp); (try omega))
    | ((with_reducible apply all_rk); (case hx => with_reducible assumption); (conv => whnf))
    | ((with_reducible refine all_row ?_); (first | (have _y := hx5; clear _y; intro x6 hx6) | (have _y := hx4; clear _y; intro x5 hx5) | (have _y := hx3; clear _y; intro x4 hx4) | (have _y := hx2; clear _y; intro x3 hx3) | (have _y := hx1; clear _y; intro x2 hx2) | (intro x1 hx1)); conv => whnf)
    | (refine ⟨_, eqAT (by rfl) (by rfl) (by rfl) (by rfl), ?_⟩; conv => whnf)
    | ((first | (have _y := g9; clear _y; intro g10; try simp at g10) | (have _y := g8; clear _y; intro g9; try simp at g9) | (have _y := g7; clear _y; intro g8; try simp at g8) | (have _y := g6; clear _y; intro g7; try simp at g7) | (have _y := g5; clear _y; intro g6; try simp at g6) | (have _y := g4; clear _y; intro g5; try simp at g5) | (have _y := g3; clear _y; intro g4; try simp at g4) | (have _y := g2; clear _y; intro g3; try simp at g3) | (have _y := g1; clear _y; intro g2; try simp at g2) | (intro g1; try simp at g1))))
    all_goals first | (simp [e]; done) | (exfalso; omega) | (exfalso; simp_all; omega)
  by_cases h2 : 4 < b.held.length
  · have e : bufE b = 2 := by unfold bufE; rw [if_neg h3, if_pos h2]
    repeat' (first
    | (with_reducible first | refine go_later ?_ | (refine h0 _ _ ?_; clear h0 hw) | (refine hw _ _ _ ?_; clear h0 hw) | refine go_ret ?_ | refine go_skip ?_ | refine go_block ?_ | refine go_exit ?_ | refine out_seq_ret ?_ | refine out_seq_normal ?_ | refine out_seq_exit ?_ | refine out_block_ret ?_ | refine out_block_normal ?_ | refine out_block_here ?_ | refine out_loop_ret ?_ | refine out_loop_exit ?_ | refine out_loopR_ret ?_ | refine out_loopR_exit ?_ | refine out_seq_panic ?_ | refine out_block_panic ?_ | refine out_loop_panic ?_ | (refine hL _ ?_; clear hL))
    | (with_reducible first | refine w_reg (by decide +kernel) fun K1 hK => ?_ | refine w_reg_end (by decide +kernel) fun K1 hK => ?_)
    | ((with_reducible first | apply d_reg Try.mix (by decide +kernel) | apply d_reg_end Try.mix (by decide +kernel)); (case hm => simp only [List.length_cons, List.length_nil, Nat.reduceAdd, Nat.reduceMul]; rfl); (case' h => intro K1 hK))
    | with_reducible refine go_seq ?_
    | ((with_reducible first | apply v_op Try.tab | apply v_op0 Try.tab | apply d_op Try.tab | apply d_op0 Try.tab) <;> first | (intro K' h0 hw; conv => whnf) | (simp only [Nat.reduceAdd, Nat.reduceMul]; rfl))
    | ((with_reducible apply v_nil); (case hm => (simp only [Nat.reduceAdd, Nat.reduceMul]; rfl)); (case' h => with_reducible refine hK _ ?_; clear hK))
    | ((with_reducible apply d_nil); (refine hK _ _ _ _ (by first | decide +kernel | (simp only [List.map_cons, List.map_nil, List.nil_append, List.cons_append]; decide +kernel) | rfl) ?_; clear hK))
    | (first | refine d_grd_yes (by rfl) (by rfl) ?_ | refine v_grd_yes (by rfl) (by rfl) ?_)
    | (apply d_grd_no; (case hg => rfl); (case hb => rfl); (case hi => (simp only [Nat.reduceAdd, Nat.reduceMul]; rfl)))
    | (apply d_grd_undef; (case hg => rfl); (case hb => rfl); (case hi => (simp only [Nat.reduceAdd, Nat.reduceMul]; rfl)))
    | (apply d_grd; (case hg => rfl); (case hb => rfl); (case hi => (simp only [Nat.reduceAdd, Nat.reduceMul]; rfl)))
    | (apply v_grd_no; (case hg => rfl); (case hb => rfl); (case hi => (simp only [Nat.reduceAdd, Nat.reduceMul]; rfl)))
    | (apply v_grd_undef; (case hg => rfl); (case hb => rfl); (case hi => (simp only [Nat.reduceAdd, Nat.reduceMul]; rfl)))
    | (apply v_grd; (case hg => rfl); (case hb => rfl); (case hi => (simp only [Nat.reduceAdd, Nat.reduceMul]; rfl)))
    | ((with_reducible refine callV_id (f := 55) ?_); (with_reducible apply callV_f own55 (c_between _ _ _)); (case hx => rfl); (case he => rfl); (case hle => first | ((repeat constructor); done) | (simp; done)); (case hpu => repeat constructor); (case' hK => (try clear hcs_); conv => whnf))
    | ((with_reducible apply go_cond); (case hb => rfl))
    | ((with_reducible apply out_block_there); (case hne => rfl))
    | ((with_reducible first | refine w_ret Try.tab fun K' hL => ?_ | refine w_ret_end Try.tab fun K' hL => ?_); (conv => whnf))
    | ((with_reducible apply And.intro); (case' right => try (conv => whnf)); (case' left => try first | rfl | decide | (simp; done) | (simp (disch := omega) only [wrp]; omega)))
    | ((with_reducible apply Side.mk); (try simp (disch := omega) only [wrp]); (try simp); (try omega))
    | ((with_reducible apply all_rk); (case hx => with_reducible assumption); (conv => whnf))
    | ((with_reducible refine all_row ?_); (first | (have _y := hx5; clear _y; intro x6 hx6) | (have _y := hx4; clear _y; intro x5 hx5) | (have _y := hx3; clear _y; intro x4 hx4) | (have _y := hx2; clear _y; intro x3 hx3) | (have _y := hx1; clear _y; intro x2 hx2) | (intro x1 hx1)); conv => whnf)
    | (refine ⟨_, eqAT (by rfl) (by rfl) (by rfl) (by rfl), ?_⟩; conv => whnf)
    | ((first | (have _y := g9; clear _y; intro g10; try simp at g10) | (have _y := g8; clear _y; intro g9; try simp at g9) | (have _y := g7; clear _y; intro g8; try simp at g8) | (have _y := g6; clear _y; intro g7; try simp at g7) | (have _y := g5; clear _y; intro g6; try simp at g6) | (have _y := g4; clear _y; intro g5; try simp at g5) | (have _y := g3; clear _y; intro g4; try simp at g4) | (have _y := g2; clear _y; intro g3; try simp at g3) | (have _y := g1; clear _y; intro g2; try simp at g2) | (intro g1; try simp at g1))))
    all_goals first | (simp [e]; done) | (exfalso; omega) | (exfalso; simp_all; omega)
  have e : bufE b = if heldE b.next b.held ≠ 0 then heldE b.next b.held else if b.next = 0 ∧ 0 < b.held.length then 4 else 0 := by unfold bufE; rw [if_neg h3, if_neg h2]
  repeat' (first
    | ((first | with_reducible refine w_cut (x := .cond (.tmp 13) _ _) (X := Unit) [2, 5, 6, 7, 8, 9, 10, 11, 12, 13] (fun _ => []) (fun _ => []) (fun _ => True) ?_ ?_ | with_reducible refine w_cut (x := .seq (.region _ _ _) (.cond (.tmp 13) _ _)) (X := Unit) [2, 5, 6, 7, 8, 9, 10, 11, 12, 13] (fun _ => []) (fun _ => []) (fun _ => True) ?_ ?_); (try (rintro z hz; simp only at hz)))
    | (with_reducible first | refine go_later ?_ | (refine h0 _ _ ?_; clear h0 hw) | (refine hw _ _ _ ?_; clear h0 hw) | refine go_ret ?_ | refine go_skip ?_ | refine go_block ?_ | refine go_exit ?_ | refine out_seq_ret ?_ | refine out_seq_normal ?_ | refine out_seq_exit ?_ | refine out_block_ret ?_ | refine out_block_normal ?_ | refine out_block_here ?_ | refine out_loop_ret ?_ | refine out_loop_exit ?_ | refine out_loopR_ret ?_ | refine out_loopR_exit ?_ | refine out_seq_panic ?_ | refine out_block_panic ?_ | refine out_loop_panic ?_ | (refine hL _ ?_; clear hL))
    | (with_reducible first | refine w_reg (by decide +kernel) fun K1 hK => ?_ | refine w_reg_end (by decide +kernel) fun K1 hK => ?_)
    | ((with_reducible first | apply d_reg Try.mix (by decide +kernel) | apply d_reg_end Try.mix (by decide +kernel)); (case hm => simp only [List.length_cons, List.length_nil, Nat.reduceAdd, Nat.reduceMul]; rfl); (case' h => intro K1 hK))
    | with_reducible refine go_seq ?_
    | ((with_reducible first | apply v_op Try.tab | apply v_op0 Try.tab | apply d_op Try.tab | apply d_op0 Try.tab) <;> first | (intro K' h0 hw; conv => whnf) | (simp only [Nat.reduceAdd, Nat.reduceMul]; rfl))
    | ((with_reducible apply v_nil); (case hm => (simp only [Nat.reduceAdd, Nat.reduceMul]; rfl)); (case' h => with_reducible refine hK _ ?_; clear hK))
    | ((with_reducible apply d_nil); (refine hK _ _ _ _ (by first | decide +kernel | (simp only [List.map_cons, List.map_nil, List.nil_append, List.cons_append]; decide +kernel) | rfl) ?_; clear hK))
    | (first | refine d_grd_yes (by rfl) (by rfl) ?_ | refine v_grd_yes (by rfl) (by rfl) ?_)
    | (apply d_grd_no; (case hg => rfl); (case hb => rfl); (case hi => (simp only [Nat.reduceAdd, Nat.reduceMul]; rfl)))
    | (apply d_grd_undef; (case hg => rfl); (case hb => rfl); (case hi => (simp only [Nat.reduceAdd, Nat.reduceMul]; rfl)))
    | (apply d_grd; (case hg => rfl); (case hb => rfl); (case hi => (simp only [Nat.reduceAdd, Nat.reduceMul]; rfl)))
    | (apply v_grd_no; (case hg => rfl); (case hb => rfl); (case hi => (simp only [Nat.reduceAdd, Nat.reduceMul]; rfl)))
    | (apply v_grd_undef; (case hg => rfl); (case hb => rfl); (case hi => (simp only [Nat.reduceAdd, Nat.reduceMul]; rfl)))
    | (apply v_grd; (case hg => rfl); (case hb => rfl); (case hi => (simp only [Nat.reduceAdd, Nat.reduceMul]; rfl)))
    | ((with_reducible refine callV_id (f := 55) ?_); (with_reducible apply callV_f own55 (c_between _ _ _)); (case hx => rfl); (case he => rfl); (case hle => first | ((repeat constructor); done) | (simp; done)); (case hpu => repeat constructor); (case' hK => (try clear hcs_); conv => whnf))
    | ((with_reducible apply go_cond); (case hb => rfl))
    | ((with_reducible apply out_block_there); (case hne => rfl))
    | ((with_reducible first | refine w_ret Try.tab fun K' hL => ?_ | refine w_ret_end Try.tab fun K' hL => ?_); (conv => whnf))
    | ((with_reducible apply And.intro); (case' right => try (conv => whnf)); (case' left => try first | rfl | decide | (simp; done) | (simp (disch := omega) only [wrp]; omega)))
    | ((with_reducible apply Side.mk); (try simp (disch := omega) only [wrp]); (try simp); (try omega))
    | ((with_reducible apply all_rk); (case hx => with_reducible assumption); (conv => whnf))
    | ((with_reducible refine all_row ?_); (first | (have _y := hx5; clear _y; intro x6 hx6) | (have _y := hx4; clear _y; intro x5 hx5) | (have _y := hx3; clear _y; intro x4 hx4) | (have _y := hx2; clear _y; intro x3 hx3) | (have _y := hx1; clear _y; intro x2 hx2) | (intro x1 hx1)); conv => whnf)
    | (refine ⟨_, eqAT (by rfl) (by rfl) (by rfl) (by rfl), ?_⟩; conv => whnf)
    | ((first | (have _y := g9; clear _y; intro g10; try simp at g10) | (have _y := g8; clear _y; intro g9; try simp at g9) | (have _y := g7; clear _y; intro g8; try simp at g8) | (have _y := g6; clear _y; intro g7; try simp at g7) | (have _y := g5; clear _y; intro g6; try simp at g6) | (have _y := g4; clear _y; intro g5; try simp at g5) | (have _y := g3; clear _y; intro g4; try simp at g4) | (have _y := g2; clear _y; intro g3; try simp at g3) | (have _y := g1; clear _y; intro g2; try simp at g2) | (intro g1; try simp at g1))))
  all_goals (try (exfalso; first | omega | (simp_all; done) | (simp_all; omega)))
  · ((with_reducible apply w_next (())); (case kt => first | exact kt_refl | (repeat (first | exact kt_refl | refine kt_wr (by rfl) ?_ | refine kt_jnk (by rfl) ?_ | refine kt_wrs (by rfl) ?_))); (case ko => repeat (first | exact ko_refl | refine ko_wo (by first | exact .inl (by rfl) | exact .inr (by simp) | exact .inr (by omega)) ?_ | refine ko_wor (by rfl) ?_ | refine ko_wos (by simp) ?_)); (case hn => first | exact Nat.le_refl _ | (simp; done) | (simp; omega)); (case hs => simp); (case hb => simp); (case ls => simp (disch := omega) [wrp]); (case lb => simp); (case mu => first | (simp; omega) | (simp; done) | omega | (simp only; omega)); (case' rel' => (try simp only); (try exact trivial)))
  · ((with_reducible apply w_next (())); (case kt => first | exact kt_refl | (repeat (first | exact kt_refl | refine kt_wr (by rfl) ?_ | refine kt_jnk (by rfl) ?_ | refine kt_wrs (by rfl) ?_))); (case ko => repeat (first | exact ko_refl | refine ko_wo (by first | exact .inl (by rfl) | exact .inr (by simp) | exact .inr (by omega)) ?_ | refine ko_wor (by rfl) ?_ | refine ko_wos (by simp) ?_)); (case hn => first | exact Nat.le_refl _ | (simp; done) | (simp; omega)); (case hs => simp); (case hb => simp); (case ls => simp (disch := omega) [wrp]); (case lb => simp); (case mu => first | (simp; omega) | (simp; done) | omega | (simp only; omega)); (case' rel' => (try simp only); (try exact trivial)))
  refine w_loop (X := Nat) [2, 3, 4, 18, 19, 20, 21, 22, 23, 24, 25, 26, 27, 28, 29, 30, 31, 32, 33, 34, 35, 36, 37, 38, 39, 40, 41, 42, 43, 44, 45, 46, 47, 48, 49, 50, 51, 52, 53, 54, 55, 56, 57, 58, 59, 60, 61, 62] (fun i => [(3, I i)]) (fun _ => []) (fun i => i ≤ b.held.length ∧ b.next ≤ aheadS b.next b.held i ∧ heldE (aheadS b.next b.held i) (b.held.drop i) = heldE b.next b.held) (fun i => b.held.length - i) 0 (by simp [aheadS]) ?_ ?_
  · refine ⟨kt_refl, ko_refl, ?_, ?_, ?_, ?_, Nat.le_refl _⟩ <;> simp
  rintro i ⟨h1, h4, h2⟩
  have hb : ∀ {x : Slt}, 0 < i → b.held[(IntKind.i64.wrap ((i : Int) - 1)).toNat]? = some x → aheadS b.next b.held i = x.n := fun h0 hx => by
    rw [wrp (by omega) (by omega), show ((i : Int) - 1).toNat = i - 1 by omega] at hx
    simp [aheadS, hx]; omega
  repeat' (first
    | (with_reducible first | refine go_later ?_ | (refine h0 _ _ ?_; clear h0 hw) | (refine hw _ _ _ ?_; clear h0 hw) | refine go_ret ?_ | refine go_skip ?_ | refine go_block ?_ | refine go_exit ?_ | refine out_seq_ret ?_ | refine out_seq_normal ?_ | refine out_seq_exit ?_ | refine out_block_ret ?_ | refine out_block_normal ?_ | refine out_block_here ?_ | refine out_loop_ret ?_ | refine out_loop_exit ?_ | refine out_loopR_ret ?_ | refine out_loopR_exit ?_ | refine out_seq_panic ?_ | refine out_block_panic ?_ | refine out_loop_panic ?_ | (refine hL _ ?_; clear hL))
    | (with_reducible first | refine w_reg (by decide +kernel) fun K1 hK => ?_ | refine w_reg_end (by decide +kernel) fun K1 hK => ?_)
    | ((with_reducible first | apply d_reg Try.mix (by decide +kernel) | apply d_reg_end Try.mix (by decide +kernel)); (case hm => simp only [List.length_cons, List.length_nil, Nat.reduceAdd, Nat.reduceMul]; rfl); (case' h => intro K1 hK))
    | with_reducible refine go_seq ?_
    | ((with_reducible first | apply v_op Try.tab | apply v_op0 Try.tab | apply d_op Try.tab | apply d_op0 Try.tab) <;> first | (intro K' h0 hw; conv => whnf) | (simp only [Nat.reduceAdd, Nat.reduceMul]; rfl))
    | ((with_reducible apply v_nil); (case hm => (simp only [Nat.reduceAdd, Nat.reduceMul]; rfl)); (case' h => with_reducible refine hK _ ?_; clear hK))
    | ((with_reducible apply d_nil); (refine hK _ _ _ _ (by first | decide +kernel | (simp only [List.map_cons, List.map_nil, List.nil_append, List.cons_append]; decide +kernel) | rfl) ?_; clear hK))
    | (first | refine d_grd_yes (by rfl) (by rfl) ?_ | refine v_grd_yes (by rfl) (by rfl) ?_)
    | (apply d_grd_no; (case hg => rfl); (case hb => rfl); (case hi => (simp only [Nat.reduceAdd, Nat.reduceMul]; rfl)))
    | (apply d_grd_undef; (case hg => rfl); (case hb => rfl); (case hi => (simp only [Nat.reduceAdd, Nat.reduceMul]; rfl)))
    | (apply d_grd; (case hg => rfl); (case hb => rfl); (case hi => (simp only [Nat.reduceAdd, Nat.reduceMul]; rfl)))
    | (apply v_grd_no; (case hg => rfl); (case hb => rfl); (case hi => (simp only [Nat.reduceAdd, Nat.reduceMul]; rfl)))
    | (apply v_grd_undef; (case hg => rfl); (case hb => rfl); (case hi => (simp only [Nat.reduceAdd, Nat.reduceMul]; rfl)))
    | (apply v_grd; (case hg => rfl); (case hb => rfl); (case hi => (simp only [Nat.reduceAdd, Nat.reduceMul]; rfl)))
    | ((with_reducible refine callV_id (f := 25) ?_); have hcs_ := c_checkSlot x1; (with_reducible apply callV_f own25 (hcs_)); (case hx => rfl); (case he => rfl); (case hle => first | ((repeat constructor); done) | (simp; done)); (case hpu => repeat constructor); (case' hK => (try clear hcs_); conv => whnf))
    | ((with_reducible apply go_cond); (case hb => rfl))
    | ((with_reducible apply out_block_there); (case hne => rfl))
    | ((with_reducible first | refine w_ret Try.tab fun K' hL => ?_ | refine w_ret_end Try.tab fun K' hL => ?_); (conv => whnf))
    | ((with_reducible apply And.intro); (case' right => try (conv => whnf)); (case' left => try first | rfl | decide | (simp; done) | (simp (disch := omega) only [wrp]; omega)))
    | ((with_reducible apply Side.mk); (try simp (disch := omega) only [wrp]); (try simp); (try omega))
    | ((with_reducible apply all_rk); (case hx => with_reducible assumption); (conv => whnf))
    | ((with_reducible refine all_row ?_); (first | (have _y := hx5; clear _y; intro x6 hx6) | (have _y := hx4; clear _y; intro x5 hx5) | (have _y := hx3; clear _y; intro x4 hx4) | (have _y := hx2; clear _y; intro x3 hx3) | (have _y := hx1; clear _y; intro x2 hx2) | (intro x1 hx1)); conv => whnf)
    | (refine ⟨_, eqAT (by rfl) (by rfl) (by rfl) (by rfl), ?_⟩; conv => whnf)
    | ((first | (have _y := g9; clear _y; intro g10; try simp at g10) | (have _y := g8; clear _y; intro g9; try simp at g9) | (have _y := g7; clear _y; intro g8; try simp at g8) | (have _y := g6; clear _y; intro g7; try simp at g7) | (have _y := g5; clear _y; intro g6; try simp at g6) | (have _y := g4; clear _y; intro g5; try simp at g5) | (have _y := g3; clear _y; intro g4; try simp at g4) | (have _y := g2; clear _y; intro g3; try simp at g3) | (have _y := g1; clear _y; intro g2; try simp at g2) | (intro g1; try simp at g1))))
  all_goals (try (simp at hx1))
  · rw [heldE_at hx1, if_pos g5] at h2; simp [e, ← h2, g5]
  · rw [heldE_at hx1, if_neg (by simp [g5]), if_pos (by rw [hb g7 hx2]; exact g8)] at h2; simp [e, ← h2]
  · ((with_reducible apply w_next ((i + 1))); (case kt => first | exact kt_refl | (repeat (first | exact kt_refl | refine kt_wr (by rfl) ?_ | refine kt_jnk (by rfl) ?_ | refine kt_wrs (by rfl) ?_))); (case ko => repeat (first | exact ko_refl | refine ko_wo (by first | exact .inl (by rfl) | exact .inr (by simp) | exact .inr (by omega)) ?_ | refine ko_wor (by rfl) ?_ | refine ko_wos (by simp) ?_)); (case hn => first | exact Nat.le_refl _ | (simp; done) | (simp; omega)); (case hs => simp); (case hb => simp); (case ls => simp (disch := omega) [wrp]); (case lb => simp); (case mu => first | (simp; omega) | (simp; done) | omega | (simp only; omega)); (case' rel' => (try simp only); (try exact trivial)))
    exact ⟨by omega, by rw [aheadS_succ hx1]; omega, by rw [aheadS_succ hx1, ← h2, heldE_at hx1, if_neg (by simp [g5]), if_neg (by rw [hb g7 hx2]; omega)]⟩
  · ((with_reducible apply w_next ((i + 1))); (case kt => first | exact kt_refl | (repeat (first | exact kt_refl | refine kt_wr (by rfl) ?_ | refine kt_jnk (by rfl) ?_ | refine kt_wrs (by rfl) ?_))); (case ko => repeat (first | exact ko_refl | refine ko_wo (by first | exact .inl (by rfl) | exact .inr (by simp) | exact .inr (by omega)) ?_ | refine ko_wor (by rfl) ?_ | refine ko_wos (by simp) ?_)); (case hn => first | exact Nat.le_refl _ | (simp; done) | (simp; omega)); (case hs => simp); (case hb => simp); (case ls => simp (disch := omega) [wrp]); (case lb => simp); (case mu => first | (simp; omega) | (simp; done) | omega | (simp only; omega)); (case' rel' => (try simp only); (try exact trivial)))
    exact ⟨by omega, by rw [aheadS_succ hx1]; omega, by rw [aheadS_succ hx1, ← h2, heldE_at hx1, if_neg (by simp [g5]), if_neg (by rw [aheadS, if_pos g7]; omega)]⟩
  · rw [heldE_at hx1, if_neg (by simp [g5]), if_pos (by omega)] at h2; simp [e, ← h2]
  all_goals (rw [List.drop_eq_nil_of_le g4] at h2; simp only [heldE] at h2; rw [e, ← h2]; simp [g5, g6])
/-- All whose turn it is. -/
def turnS : Int → List Slt → List Slt → Int × List Slt × List Slt
  | n, [], o => (n, [], o)
  | n, x :: l, o => if x.n = n then turnS (n + 1) l (o ++ [x]) else (n, x :: l, o)
/-- What goes out, till at most so many are held. -/
def relS (most : Nat) : Int → List Slt → List Slt → Int × List Slt × List Slt
  | n, [], o => (n, [], o)
  | n, x :: l, o => if x.n = n then relS most (n + 1) l (o ++ [x]) else if l.length + 1 ≤ most then (n, x :: l, o) else relS most (x.n + 1) l (o ++ [x])
theorem relS_turn (most : Nat) : ∀ (l : List Slt) (n : Int) (o : List Slt), relS most (turnS n l o).1 (turnS n l o).2.1 (turnS n l o).2.2 = relS most n l o
  | [], n, o => rfl
  | x :: l, n, o => by
    by_cases h : x.n = n
    · simp only [turnS, relS, if_pos h]; exact relS_turn most l (n + 1) (o ++ [x])
    · simp only [turnS, if_neg h]
theorem turnS_head : ∀ (l : List Slt) (n : Int) (o : List Slt) (x : Slt) (m : List Slt), (turnS n l o).2.1 = x :: m → x.n ≠ (turnS n l o).1
  | [], n, o, x, m, h => by simp [turnS] at h
  | y :: l, n, o, x, m, h => by
    by_cases c : y.n = n
    · simp only [turnS, if_pos c] at h ⊢; exact turnS_head l (n + 1) (o ++ [y]) x m h
    · simp only [turnS, if_neg c] at h ⊢; cases h; exact c
theorem turnS_len : ∀ (l : List Slt) (n : Int) (o : List Slt), (turnS n l o).2.1.length + (turnS n l o).2.2.length = l.length + o.length ∧ (turnS n l o).2.1.length ≤ l.length ∧ (∀ a ∈ (turnS n l o).2.1, a ∈ l)
  | [], n, o => by simp [turnS]
  | y :: l, n, o => by
    by_cases c : y.n = n
    · simp only [turnS, if_pos c]
      obtain ⟨h1, h2, h3⟩ := turnS_len l (n + 1) (o ++ [y])
      simp at h1 ⊢
      exact ⟨by omega, by omega, fun a ha => .inr (h3 a ha)⟩
    · simp only [turnS, if_neg c]; simp
end Go.Proofs.Ytlehonipilpfdaa

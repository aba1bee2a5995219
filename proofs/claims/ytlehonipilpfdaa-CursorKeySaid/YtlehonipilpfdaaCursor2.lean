/- Walks of the document's cursors. No condition. -/
import Derived.Test.YtlehonipilpfdaaCursor
namespace Go.Proofs.Ytlehonipilpfdaa
open Go Go.Sy
set_option maxRecDepth 4000
set_option linter.unusedSimpArgs false
set_option linter.unusedVariables false
attribute [local irreducible] Reg RegD Later Out CallV Tri Side EqV
theorem lost_of1 {l : List (List Fr)} {first : Int} {c : Cu} (h : c.group - first < 0 ∨ l.length ≤ c.group - first) : lostB l first c = true := by
  simp [lostB, inB]; omega
theorem lost_of2 {l : List (List Fr)} {first : Int} {c : Cu} {x : List Fr} (hx : l[(c.group - first).toNat]? = some x) (h : x.length < c.frame) : lostB l first c = true := by
  have : grpAt l first c = x := by rw [grpAt, List.getD_eq_getElem?_getD, hx]; rfl
  simp [lostB, this, h]
theorem lost_of3 {l : List (List Fr)} {first : Int} {c : Cu} {x : List Fr} (h0 : 0 ≤ c.group - first) (hx : l[(c.group - first).toNat]? = some x) (h : c.frame ≤ x.length) : lostB l first c = false ∧ grpAt l first c = x := by
  have : grpAt l first c = x := by rw [grpAt, List.getD_eq_getElem?_getD, hx]; rfl
  have hi := (List.getElem?_eq_some_iff.1 hx).1
  refine ⟨?_, this⟩
  simp [lostB, inB, this, h]; omega
def nextE (s : Sto) (c : Cu) (upto : Int) : Int := if storeE s = 0 then (if cuE c = 0 then (if 0 ≤ upto ∧ upto ≤ 1000000 then 0 else 3) else cuE c) else storeE s
def nextS (s : Sto) (c : Cu) (upto : Int) : (Cu × Fr × Bool × Bool) × Int := if nextE s c upto = 0 then (nextR s c upto, 0) else ((cu0, fr0, false, false), nextE s c upto)
theorem nextE_ok {s : Sto} {c : Cu} {upto : Int} (h : nextE s c upto = 0) : RightS s ∧ cuE c = 0 ∧ 0 ≤ upto ∧ upto ≤ 1000000 := by
  unfold nextE at h
  by_cases h1 : storeE s = 0
  · rw [if_pos h1] at h
    by_cases h2 : cuE c = 0
    · rw [if_pos h2] at h
      split at h
      · rename_i h3; exact ⟨storeE_ok h1, h2, h3⟩
      · cases h
    · rw [if_neg h2] at h; exact absurd h h2
  · rw [if_neg h1] at h; exact absurd h h1
abbrev nxT' (r : (Cu × Fr × Bool × Bool) × Int) : AV := .tup [.agg (cuC r.1.1), .agg (frC r.1.2.1), B r.1.2.2.1, B r.1.2.2.2, I r.2]
set_option maxHeartbeats 2000000 in
theorem c_cursorNext (s : Sto) (c : Cu) (upto : Int) (hs : FitsS s) : PSpec Try.prog 37 [.agg (stC s), .agg (cuC c), I upto] (nxT' (nextS s c upto)) := by
  refine v_pspec Try.func37 rfl Try.ntmps37 Try.results37 (by simp) (by repeat constructor) ?_
  by_cases hE : nextE s c upto = 0
  · obtain ⟨h1, h2, h3, h4⟩ := nextE_ok hE
    have hC := c_storeCheck s hs
    rw [right_storeE h1] at hC
    have hD := c_cursorCheck c
    rw [h2] at hD
    have hR := c_cursorRaw s c upto h1 h2
    have e : nextS s c upto = (nextR s c upto, 0) := if_pos hE
    rw [e]
    repeat' (first
    | (with_reducible first | refine go_later ?_ | (refine h0 _ _ ?_; clear h0 hw) | (refine hw _ _ _ ?_; clear h0 hw) | refine go_ret ?_ | refine go_skip ?_ | refine go_block ?_ | refine go_exit ?_ | refine out_seq_ret ?_ | refine out_seq_normal ?_ | refine out_seq_exit ?_ | refine out_block_ret ?_ | refine out_block_normal ?_ | refine out_block_here ?_ | refine out_loop_ret ?_ | refine out_loop_exit ?_ | refine out_loopR_ret ?_ | refine out_loopR_exit ?_ | (refine hL _ ?_; clear hL))
    | (with_reducible first | refine w_reg (by decide +kernel) fun K1 hK => ?_ | refine w_reg_end (by decide +kernel) fun K1 hK => ?_)
    | ((with_reducible first | apply d_reg Try.mix (by decide +kernel) | apply d_reg_end Try.mix (by decide +kernel)); (case hm => simp only [List.length_cons, List.length_nil, Nat.reduceAdd, Nat.reduceMul]; rfl); (case' h => intro K1 hK))
    | with_reducible refine go_seq ?_
    | ((with_reducible first | apply v_op Try.tab | apply v_op0 Try.tab | apply d_op Try.tab | apply d_op0 Try.tab) <;> first | (intro K' h0 hw; conv => whnf) | (simp only [Nat.reduceAdd, Nat.reduceMul]; rfl))
    | ((with_reducible apply v_nil); (case hm => (simp only [Nat.reduceAdd, Nat.reduceMul]; rfl)); (case' h => with_reducible refine hK _ ?_; clear hK))
    | ((with_reducible apply d_nil); (refine hK _ _ _ _ (by first | decide +kernel | (simp only [List.map_cons, List.map_nil, List.nil_append, List.cons_append]; decide +kernel) | rfl) ?_; clear hK))
    | (first | refine d_grd_yes (by rfl) (by rfl) ?_ | refine v_grd_yes (by rfl) (by rfl) ?_)
    | (apply d_grd_no; (case hg => rfl); (case hb => rfl); (case hi => (simp only [Nat.reduceAdd, Nat.reduceMul]; rfl)))
    | (apply d_grd_undef; (case hg => rfl); (case hb => rfl); (case hi => (simp only [Nat.reduceAdd, Nat.reduceMul]; rfl)))
    | (apply d_grd; (case hg => rfl); (case hb => rfl); (case hi => (simp only [Nat.reduceAdd, Nat.reduceMul]; rfl)))
    | (apply v_grd_no; (case hg => rfl); (case hb => rfl); (case hi => (simp only [Nat.reduceAdd, Nat.reduceMul]; rfl)))
    | (apply v_grd_undef; (case hg => rfl); (case hb => rfl); (case hi => (simp only [Nat.reduceAdd, Nat.reduceMul]; rfl)))
    | (apply v_grd; (case hg => rfl); (case hb => rfl); (case hi => (simp only [Nat.reduceAdd, Nat.reduceMul]; rfl)))
    | ((with_reducible refine callV_id (f := 69) ?_); have hcs_ := hC; (with_reducible apply callV_f own69 (hcs_)); (case hx => rfl); (case he => rfl); (case hle => first | ((repeat constructor); done) | (simp; done)); (case hpu => repeat constructor); (case' hK => (try clear hcs_); conv => whnf))
    | ((with_reducible refine callV_id (f := 39) ?_); have hcs_ := hD; (with_reducible apply callV_f own39 (hcs_)); (case hx => rfl); (case he => rfl); (case hle => first | ((repeat constructor); done) | (simp; done)); (case hpu => repeat constructor); (case' hK => (try clear hcs_); conv => whnf))
    | ((with_reducible refine callV_id (f := 72) ?_); (with_reducible apply callV_f own72 (c_cwithin _ _ _)); (case hx => rfl); (case he => rfl); (case hle => first | ((repeat constructor); done) | (simp; done)); (case hpu => repeat constructor); (case' hK => (try clear hcs_); conv => whnf))
    | ((with_reducible refine callV_id (f := 73) ?_); have hcs_ := hR; (with_reducible apply callV_f own73 (hcs_)); (case hx => rfl); (case he => rfl); (case hle => first | ((repeat constructor); done) | (simp; done)); (case hpu => repeat constructor); (case' hK => (try clear hcs_); conv => whnf))
    | ((with_reducible apply go_cond); (case hb => rfl))
    | ((with_reducible apply out_block_there); (case hne => rfl))
    | ((with_reducible first | refine w_ret Try.tab fun K' hL => ?_ | refine w_ret_end Try.tab fun K' hL => ?_); (conv => whnf))
    | ((with_reducible apply And.intro); (case' right => try (conv => whnf)); (case' left => try first | rfl | decide | (simp; done)))
    | ((with_reducible apply Side.mk); (try simp (disch := omega) only [wrp]); (try simp); (try omega))
    | ((with_reducible apply all_rk); (case hx => with_reducible assumption); (conv => whnf))
    | ((with_reducible refine all_row ?_); (first | (have _y := hx5; clear _y; intro x6 hx6) | (have _y := hx4; clear _y; intro x5 hx5) | (have _y := hx3; clear _y; intro x4 hx4) | (have _y := hx2; clear _y; intro x3 hx3) | (have _y := hx1; clear _y; intro x2 hx2) | (intro x1 hx1)); conv => whnf)
    | (refine ⟨_, eqAT (by rfl) (by rfl) (by rfl) (by rfl), ?_⟩; conv => whnf)
    | ((first | (have _y := g19; clear _y; intro g20; try simp at g20) | (have _y := g18; clear _y; intro g19; try simp at g19) | (have _y := g17; clear _y; intro g18; try simp at g18) | (have _y := g16; clear _y; intro g17; try simp at g17) | (have _y := g15; clear _y; intro g16; try simp at g16) | (have _y := g14; clear _y; intro g15; try simp at g15) | (have _y := g13; clear _y; intro g14; try simp at g14) | (have _y := g12; clear _y; intro g13; try simp at g13) | (have _y := g11; clear _y; intro g12; try simp at g12) | (have _y := g10; clear _y; intro g11; try simp at g11) | (have _y := g9; clear _y; intro g10; try simp at g10) | (have _y := g8; clear _y; intro g9; try simp at g9) | (have _y := g7; clear _y; intro g8; try simp at g8) | (have _y := g6; clear _y; intro g7; try simp at g7) | (have _y := g5; clear _y; intro g6; try simp at g6) | (have _y := g4; clear _y; intro g5; try simp at g5) | (have _y := g3; clear _y; intro g4; try simp at g4) | (have _y := g2; clear _y; intro g3; try simp at g3) | (have _y := g1; clear _y; intro g2; try simp at g2) | (intro g1; try simp at g1))))
    · exfalso; omega
    · simp
  · have e : nextS s c upto = ((cu0, fr0, false, false), nextE s c upto) := if_neg hE
    rw [e]
    have e1 : nextE s c upto = if storeE s = 0 then (if cuE c = 0 then (if 0 ≤ upto ∧ upto ≤ 1000000 then 0 else 3) else cuE c) else storeE s := rfl
    repeat' (first
    | (with_reducible first | refine go_later ?_ | (refine h0 _ _ ?_; clear h0 hw) | (refine hw _ _ _ ?_; clear h0 hw) | refine go_ret ?_ | refine go_skip ?_ | refine go_block ?_ | refine go_exit ?_ | refine out_seq_ret ?_ | refine out_seq_normal ?_ | refine out_seq_exit ?_ | refine out_block_ret ?_ | refine out_block_normal ?_ | refine out_block_here ?_ | refine out_loop_ret ?_ | refine out_loop_exit ?_ | refine out_loopR_ret ?_ | refine out_loopR_exit ?_ | (refine hL _ ?_; clear hL))
    | (with_reducible first | refine w_reg (by decide +kernel) fun K1 hK => ?_ | refine w_reg_end (by decide +kernel) fun K1 hK => ?_)
    | ((with_reducible first | apply d_reg Try.mix (by decide +kernel) | apply d_reg_end Try.mix (by decide +kernel)); (case hm => simp only [List.length_cons, List.length_nil, Nat.reduceAdd, Nat.reduceMul]; rfl); (case' h => intro K1 hK))
    | with_reducible refine go_seq ?_
    | ((with_reducible first | apply v_op Try.tab | apply v_op0 Try.tab | apply d_op Try.tab | apply d_op0 Try.tab) <;> first | (intro K' h0 hw; conv => whnf) | (simp only [Nat.reduceAdd, Nat.reduceMul]; rfl))
    | ((with_reducible apply v_nil); (case hm => (simp only [Nat.reduceAdd, Nat.reduceMul]; rfl)); (case' h => with_reducible refine hK _ ?_; clear hK))
    | ((with_reducible apply d_nil); (refine hK _ _ _ _ (by first | decide +kernel | (simp only [List.map_cons, List.map_nil, List.nil_append, List.cons_append]; decide +kernel) | rfl) ?_; clear hK))
    | (first | refine d_grd_yes (by rfl) (by rfl) ?_ | refine v_grd_yes (by rfl) (by rfl) ?_)
    | (apply d_grd_no; (case hg => rfl); (case hb => rfl); (case hi => (simp only [Nat.reduceAdd, Nat.reduceMul]; rfl)))
    | (apply d_grd_undef; (case hg => rfl); (case hb => rfl); (case hi => (simp only [Nat.reduceAdd, Nat.reduceMul]; rfl)))
    | (apply d_grd; (case hg => rfl); (case hb => rfl); (case hi => (simp only [Nat.reduceAdd, Nat.reduceMul]; rfl)))
    | (apply v_grd_no; (case hg => rfl); (case hb => rfl); (case hi => (simp only [Nat.reduceAdd, Nat.reduceMul]; rfl)))
    | (apply v_grd_undef; (case hg => rfl); (case hb => rfl); (case hi => (simp only [Nat.reduceAdd, Nat.reduceMul]; rfl)))
    | (apply v_grd; (case hg => rfl); (case hb => rfl); (case hi => (simp only [Nat.reduceAdd, Nat.reduceMul]; rfl)))
    | ((with_reducible refine callV_id (f := 69) ?_); have hcs_ := c_storeCheck s hs; (with_reducible apply callV_f own69 (hcs_)); (case hx => rfl); (case he => rfl); (case hle => first | ((repeat constructor); done) | (simp; done)); (case hpu => repeat constructor); (case' hK => (try clear hcs_); conv => whnf))
    | ((with_reducible refine callV_id (f := 39) ?_); have hcs_ := c_cursorCheck c; (with_reducible apply callV_f own39 (hcs_)); (case hx => rfl); (case he => rfl); (case hle => first | ((repeat constructor); done) | (simp; done)); (case hpu => repeat constructor); (case' hK => (try clear hcs_); conv => whnf))
    | ((with_reducible refine callV_id (f := 72) ?_); (with_reducible apply callV_f own72 (c_cwithin _ _ _)); (case hx => rfl); (case he => rfl); (case hle => first | ((repeat constructor); done) | (simp; done)); (case hpu => repeat constructor); (case' hK => (try clear hcs_); conv => whnf))
    | ((with_reducible apply go_cond); (case hb => rfl))
    | ((with_reducible apply out_block_there); (case hne => rfl))
    | ((with_reducible first | refine w_ret Try.tab fun K' hL => ?_ | refine w_ret_end Try.tab fun K' hL => ?_); (conv => whnf))
    | ((with_reducible apply And.intro); (case' right => try (conv => whnf)); (case' left => try first | rfl | decide | (simp; done)))
    | ((with_reducible apply Side.mk); (try simp (disch := omega) only [wrp]); (try simp); (try omega))
    | ((with_reducible apply all_rk); (case hx => with_reducible assumption); (conv => whnf))
    | ((with_reducible refine all_row ?_); (first | (have _y := hx5; clear _y; intro x6 hx6) | (have _y := hx4; clear _y; intro x5 hx5) | (have _y := hx3; clear _y; intro x4 hx4) | (have _y := hx2; clear _y; intro x3 hx3) | (have _y := hx1; clear _y; intro x2 hx2) | (intro x1 hx1)); conv => whnf)
    | (refine ⟨_, eqAT (by rfl) (by rfl) (by rfl) (by rfl), ?_⟩; conv => whnf)
    | ((first | (have _y := g19; clear _y; intro g20; try simp at g20) | (have _y := g18; clear _y; intro g19; try simp at g19) | (have _y := g17; clear _y; intro g18; try simp at g18) | (have _y := g16; clear _y; intro g17; try simp at g17) | (have _y := g15; clear _y; intro g16; try simp at g16) | (have _y := g14; clear _y; intro g15; try simp at g15) | (have _y := g13; clear _y; intro g14; try simp at g14) | (have _y := g12; clear _y; intro g13; try simp at g13) | (have _y := g11; clear _y; intro g12; try simp at g12) | (have _y := g10; clear _y; intro g11; try simp at g11) | (have _y := g9; clear _y; intro g10; try simp at g10) | (have _y := g8; clear _y; intro g9; try simp at g9) | (have _y := g7; clear _y; intro g8; try simp at g8) | (have _y := g6; clear _y; intro g7; try simp at g7) | (have _y := g5; clear _y; intro g6; try simp at g6) | (have _y := g4; clear _y; intro g5; try simp at g5) | (have _y := g3; clear _y; intro g4; try simp at g4) | (have _y := g2; clear _y; intro g3; try simp at g3) | (have _y := g1; clear _y; intro g2; try simp at g2) | (intro g1; try simp at g1))))
    all_goals first
      | contradiction
      | (exfalso; exact hE (by rw [e1, if_pos g1, if_pos g2, if_pos g3]))
      | (have e2 : nextE s c upto = 3 := by rw [e1, if_pos g1, if_pos g2, if_neg (by omega)]
         rw [e2]; simp [cu0, fr0]; done)
      | (have e2 : nextE s c upto = cuE c := by rw [e1, if_pos g1, if_neg g2]
         rw [e2]; simp [cu0, fr0]; done)
      | (have e2 : nextE s c upto = storeE s := by rw [e1, if_neg g1]
         rw [e2]; simp [cu0, fr0]; done)
end Go.Proofs.Ytlehonipilpfdaa

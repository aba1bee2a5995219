/- CursorTells, walked. No condition. -/
import Derived.Test.YtlehonipilpfdaaCursor2
namespace Go.Proofs.Ytlehonipilpfdaa
open Go Go.Sy
set_option maxRecDepth 4000
set_option linter.unusedSimpArgs false
set_option linter.unusedVariables false
attribute [local irreducible] Reg RegD Later Out CallV Tri Side EqV
instance : DecidableEq Cu := fun p q => decidable_of_iff (p.mode = q.mode ∧ p.group = q.group ∧ p.frame = q.frame) ⟨fun ⟨h1, h2, h3⟩ => Cu.ext' h1 h2 h3, fun h => by subst h; simp⟩
theorem cb1 : PSpec Try.prog 35 [.agg (stC shelf), I 12] (cuT (⟨3, 3, 0⟩, 0)) := by
  have h := c_cursorSeek shelf 12 shelf_small.fits
  rwa [show seekC shelf 12 = (⟨3, 3, 0⟩, 0) by decide +kernel] at h
theorem cb2 : PSpec Try.prog 37 [.agg (stC shelf), .agg (cuC ⟨3, 3, 0⟩), I 100] (nxT' ((⟨3, 3, 1⟩, pic 10 true, true, false), 0)) := by
  have h := c_cursorNext shelf ⟨3, 3, 0⟩ 100 shelf_small.fits
  rwa [show nextS shelf ⟨3, 3, 0⟩ 100 = ((⟨3, 3, 1⟩, pic 10 true, true, false), 0) by decide +kernel] at h
theorem cb3 : PSpec Try.prog 66 [.agg (stC shelf)] (cuT (⟨1, 5, 0⟩, 0)) := by
  have h := c_live shelf shelf_small.fits
  rwa [show liveS shelf = (⟨1, 5, 0⟩, 0) by decide +kernel] at h
theorem cb4 : PSpec Try.prog 67 [.agg (cuC ⟨3, 3, 1⟩)] (cuT (⟨2, 3, 1⟩, 0)) := by
  have h := c_pause ⟨3, 3, 1⟩
  rwa [show pauseC ⟨3, 3, 1⟩ = (⟨2, 3, 1⟩, 0) by decide +kernel] at h
theorem cb5 : PSpec Try.prog 37 [.agg (stC shelf), .agg (cuC ⟨2, 3, 1⟩), I 100] (nxT' ((⟨2, 3, 1⟩, fr0, false, false), 0)) := by
  have h := c_cursorNext shelf ⟨2, 3, 1⟩ 100 shelf_small.fits
  rwa [show nextS shelf ⟨2, 3, 1⟩ 100 = ((⟨2, 3, 1⟩, fr0, false, false), 0) by decide +kernel] at h
theorem cb6 : PSpec Try.prog 39 [.agg (cuC ⟨3, 3, 0⟩)] (I 0) := c_cursorCheck ⟨3, 3, 0⟩
set_option maxHeartbeats 2000000 in
theorem c_cursorBegun : PSpec Try.prog 33 [] (B true) := by
  refine v_pspec Try.func33 rfl Try.ntmps33 Try.results33 (by simp) (by first | exact .s _ | repeat constructor) ?_
  repeat' (first
    | (with_reducible first | refine go_later ?_ | (refine h0 _ _ ?_; clear h0 hw) | (refine hw _ _ _ ?_; clear h0 hw) | refine go_ret ?_ | refine go_skip ?_ | refine go_block ?_ | refine go_exit ?_ | refine out_seq_ret ?_ | refine out_seq_normal ?_ | refine out_seq_exit ?_ | refine out_block_ret ?_ | refine out_block_normal ?_ | refine out_block_here ?_ | refine out_loop_ret ?_ | refine out_loop_exit ?_ | refine out_loopR_ret ?_ | refine out_loopR_exit ?_ | (refine hL _ ?_; clear hL))
    | (with_reducible first | refine w_reg (by decide +kernel) fun K1 hK => ?_ | refine w_reg_end (by decide +kernel) fun K1 hK => ?_)
    | ((with_reducible first | apply d_reg Try.mix (by decide +kernel) | apply d_reg_end Try.mix (by decide +kernel)); (case hm => simp only [List.length_cons, List.length_nil, Nat.reduceAdd, Nat.reduceMul]; rfl); (case' h => intro K1 hK))
    | with_reducible refine go_seq ?_
    | ((with_reducible first | apply v_op Try.tab | apply v_op0 Try.tab | apply d_op Try.tab | apply d_op0 Try.tab) <;> first | (intro K' h0 hw; conv => whnf) | (simp only [Nat.reduceAdd, Nat.reduceMul]; rfl))
    | ((with_reducible apply v_nil); (case hm => (simp only [Nat.reduceAdd, Nat.reduceMul]; rfl)); (case' h => with_reducible refine hK _ ?_; clear hK))
    | ((with_reducible apply d_nil); (refine hK _ _ _ _ (by first | decide +kernel | (simp only [List.map_cons, List.map_nil, List.nil_append, List.cons_append]; decide +kernel) | rfl) ?_; clear hK))
    | (first | refine d_grd_yes (by rfl) (by rfl) ?_ | refine v_grd_yes (by rfl) (by rfl) ?_)
    | (apply d_grd_no; (case hg => rfl); (case hb => rfl); (case hi => (simp only [Nat.reduceAdd, Nat.reduceMul]; rfl)))
    | (apply d_grd_undef; (case hg => rfl); (case hb => rfl); (case hi => (simp only [Nat.reduceAdd, Nat.reduceMul]; rfl)))
    | (apply d_grd; (case hg => rfl); (case hb => rfl); (case hi => (simp only [Nat.reduceAdd, Nat.reduceMul]; rfl)))
    | (apply v_grd_no; (case hg => rfl); (case hb => rfl); (case hi => (simp only [Nat.reduceAdd, Nat.reduceMul]; rfl)))
    | (apply v_grd_undef; (case hg => rfl); (case hb => rfl); (case hi => (simp only [Nat.reduceAdd, Nat.reduceMul]; rfl)))
    | (apply v_grd; (case hg => rfl); (case hb => rfl); (case hi => (simp only [Nat.reduceAdd, Nat.reduceMul]; rfl)))
    | ((with_reducible refine callV_id (f := 65) ?_); have hcs_ := c_shelf; (with_reducible apply callV_f own65 (hcs_)); (case hx => rfl); (case he => rfl); (case hle => first | ((repeat constructor); done) | (simp [cuT, nxT', shelf, fr0]; done)); (case hpu => repeat constructor); (case' hK => (try clear hcs_); conv => whnf))
    | ((with_reducible refine callV_id (f := 35) ?_); have hcs_ := cb1; (with_reducible apply callV_f own35 (hcs_)); (case hx => rfl); (case he => rfl); (case hle => first | ((repeat constructor); done) | (simp [cuT, nxT', shelf, fr0]; done)); (case hpu => repeat constructor); (case' hK => (try clear hcs_); conv => whnf))
    | ((with_reducible refine callV_id (f := 37) ?_); have hcs_ := cb2; (with_reducible apply callV_f own37 (hcs_)); (case hx => rfl); (case he => rfl); (case hle => first | ((repeat constructor); done) | (simp [cuT, nxT', shelf, fr0]; done)); (case hpu => repeat constructor); (case' hK => (try clear hcs_); conv => whnf))
    | ((with_reducible refine callV_id (f := 37) ?_); have hcs_ := cb5; (with_reducible apply callV_f own37 (hcs_)); (case hx => rfl); (case he => rfl); (case hle => first | ((repeat constructor); done) | (simp [cuT, nxT', shelf, fr0]; done)); (case hpu => repeat constructor); (case' hK => (try clear hcs_); conv => whnf))
    | ((with_reducible refine callV_id (f := 66) ?_); have hcs_ := cb3; (with_reducible apply callV_f own66 (hcs_)); (case hx => rfl); (case he => rfl); (case hle => first | ((repeat constructor); done) | (simp [cuT, nxT', shelf, fr0]; done)); (case hpu => repeat constructor); (case' hK => (try clear hcs_); conv => whnf))
    | ((with_reducible refine callV_id (f := 67) ?_); have hcs_ := cb4; (with_reducible apply callV_f own67 (hcs_)); (case hx => rfl); (case he => rfl); (case hle => first | ((repeat constructor); done) | (simp [cuT, nxT', shelf, fr0]; done)); (case hpu => repeat constructor); (case' hK => (try clear hcs_); conv => whnf))
    | ((with_reducible refine callV_id (f := 39) ?_); have hcs_ := cb6; (with_reducible apply callV_f own39 (hcs_)); (case hx => rfl); (case he => rfl); (case hle => first | ((repeat constructor); done) | (simp [cuT, nxT', shelf, fr0]; done)); (case hpu => repeat constructor); (case' hK => (try clear hcs_); conv => whnf))
    | ((with_reducible apply go_cond); (case hb => rfl))
    | ((with_reducible apply out_block_there); (case hne => rfl))
    | ((with_reducible first | refine w_ret Try.tab fun K' hL => ?_ | refine w_ret_end Try.tab fun K' hL => ?_); (conv => whnf))
    | ((with_reducible apply And.intro); (case' right => try (conv => whnf)); (case' left => try first | rfl | decide | (simp [cuT, nxT', shelf, fr0]; done)))
    | ((with_reducible apply Side.mk); (try simp (disch := omega) only [wrp]); (try simp); (try omega))
    | ((with_reducible apply all_rk); (case hx => with_reducible assumption); (conv => whnf))
    | ((with_reducible refine all_row ?_); (first | (have _y := hx5; clear _y; intro x6 hx6) | (have _y := hx4; clear _y; intro x5 hx5) | (have _y := hx3; clear _y; intro x4 hx4) | (have _y := hx2; clear _y; intro x3 hx3) | (have _y := hx1; clear _y; intro x2 hx2) | (intro x1 hx1)); conv => whnf)
    | (refine ⟨_, eqAT (by rfl) (by rfl) (by rfl) (by rfl), ?_⟩; conv => whnf)
    | ((first | (have _y := g9; clear _y; intro g10; try simp at g10) | (have _y := g8; clear _y; intro g9; try simp at g9) | (have _y := g7; clear _y; intro g8; try simp at g8) | (have _y := g6; clear _y; intro g7; try simp at g7) | (have _y := g5; clear _y; intro g6; try simp at g6) | (have _y := g4; clear _y; intro g5; try simp at g5) | (have _y := g3; clear _y; intro g4; try simp at g4) | (have _y := g2; clear _y; intro g3; try simp at g3) | (have _y := g1; clear _y; intro g2; try simp at g2) | (intro g1; try simp at g1))))
  exact le_of_eq rfl
theorem next_parts (s : Sto) (c : Cu) (upto : Int) : (nextS s c upto).1.2.1.parts.length ≤ 1000000000000000 := by
  unfold nextS
  split
  · rename_i h
    obtain ⟨h1, h2, _⟩ := nextE_ok h
    unfold nextR
    split
    · simp [fr0]
    · split
      · simp [fr0]
      · simp only
        rw [List.getD_eq_getElem?_getD]
        cases hq : (grpAt (allS s) s.first (setC (allS s) s.first c))[(setF (allS s) s.first c).toNat]? with
        | none => simp [fr0]
        | some x =>
          have hm := grpAt_mem (l := allS s) (first := s.first) (c := setC (allS s) s.first c) (by have := (List.getElem?_eq_some_iff.1 hq).1; omega)
          have := (right_fits (h1.all.2 _ hm)).2 x (List.mem_of_getElem? hq)
          simp only [Option.getD_some]; omega
  · simp [fr0]
theorem nextE_eq (s : Sto) (c : Cu) (upto : Int) : nextE s c upto = if (if storeE s = 0 then cuE c else storeE s) = 0 then (if 0 ≤ upto ∧ upto ≤ 1000000 then 0 else 3) else (if storeE s = 0 then cuE c else storeE s) := by
  unfold nextE
  by_cases h : storeE s = 0
  · simp only [h, if_true]
  · simp only [h, if_false]
theorem pause_e (c : Cu) : (pauseC c).2 = cuE c := by
  unfold pauseC; split
  · rename_i h; exact h.symm
  · rfl
theorem next_e (s : Sto) (c : Cu) (upto : Int) : (nextS s c upto).2 = nextE s c upto := by
  unfold nextS; split
  · rename_i h; exact h.symm
  · rfl
theorem reads_cu {a : AV} (h : ReadsArg (.agg [.int .i64, .int .i64, .int .i64]) a) : ∃ o : Cu, a = .agg (cuC o) := by
  obtain ⟨_, rfl, _, _, rfl, ⟨x, rfl, _⟩, _, _, rfl, ⟨y, rfl, _⟩, _, _, rfl, ⟨z, rfl, _⟩, rfl⟩ := h
  exact ⟨⟨x, y, z⟩, rfl⟩
end Go.Proofs.Ytlehonipilpfdaa

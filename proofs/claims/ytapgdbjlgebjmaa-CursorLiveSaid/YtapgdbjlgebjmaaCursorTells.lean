/- CursorTells, walked. No condition. -/
import Derived.Test.YtapgdbjlgebjmaaCursor2
namespace Go.Proofs.Ytapgdbjlgebjmaa
open Go Go.Sy
set_option maxRecDepth 4000
set_option linter.unusedSimpArgs false
set_option linter.unusedVariables false
attribute [local irreducible] Reg RegD Later Out CallV Tri Side EqV
instance : DecidableEq Cu := fun p q => decidable_of_iff (p.mode = q.mode ∧ p.group = q.group ∧ p.frame = q.frame) ⟨fun ⟨h1, h2, h3⟩ => Cu.ext' h1 h2 h3, fun h => by subst h; simp⟩
theorem cb1 : PSpec Try.prog 50 [.agg (stC shelf), I 12] (cuT (⟨3, 3, 0⟩, 0)) := by
  have h := c_cursorSeek shelf 12 shelf_small.fits
  rwa [show seekC shelf 12 = (⟨3, 3, 0⟩, 0) by decide +kernel] at h
theorem cb2 : PSpec Try.prog 52 [.agg (stC shelf), .agg (cuC ⟨3, 3, 0⟩), I 100] (nxT' ((⟨3, 3, 1⟩, pic 10 true, true, false), 0)) := by
  have h := c_cursorNext shelf ⟨3, 3, 0⟩ 100 shelf_small.fits
  rwa [show nextS shelf ⟨3, 3, 0⟩ 100 = ((⟨3, 3, 1⟩, pic 10 true, true, false), 0) by decide +kernel] at h
theorem cb3 : PSpec Try.prog 49 [.agg (stC shelf)] (cuT (⟨1, 5, 0⟩, 0)) := by
  have h := c_live shelf shelf_small.fits
  rwa [show liveS shelf = (⟨1, 5, 0⟩, 0) by decide +kernel] at h
theorem cb4 : PSpec Try.prog 51 [.agg (cuC ⟨3, 3, 1⟩)] (cuT (⟨2, 3, 1⟩, 0)) := by
  have h := c_pause ⟨3, 3, 1⟩
  rwa [show pauseC ⟨3, 3, 1⟩ = (⟨2, 3, 1⟩, 0) by decide +kernel] at h
theorem cb5 : PSpec Try.prog 52 [.agg (stC shelf), .agg (cuC ⟨2, 3, 1⟩), I 100] (nxT' ((⟨2, 3, 1⟩, fr0, false, false), 0)) := by
  have h := c_cursorNext shelf ⟨2, 3, 1⟩ 100 shelf_small.fits
  rwa [show nextS shelf ⟨2, 3, 1⟩ 100 = ((⟨2, 3, 1⟩, fr0, false, false), 0) by decide +kernel] at h
theorem cb6 : PSpec Try.prog 56 [.agg (cuC ⟨3, 3, 0⟩)] (I 0) := c_cursorCheck ⟨3, 3, 0⟩
set_option maxHeartbeats 2000000 in
theorem c_cursorBegun : PSpec Try.prog 55 [] (B true) := by
  refine v_pspec Try.func55 rfl Try.ntmps55 Try.results55 (by simp) (by first | exact .s _ | repeat constructor) ?_
  repeat' (first
    | (with_reducible first | refine go_later ?_ | (refine h0 _ _ ?_; clear h0 hw) | (refine hw _ _ _ ?_; clear h0 hw) | refine go_ret ?_ | refine go_skip ?_ | refine go_block ?_ | refine go_exit ?_ | refine out_seq_ret ?_ | refine out_seq_normal ?_ | refine out_seq_exit ?_ | refine out_block_ret ?_ | refine out_block_normal ?_ | refine out_block_here ?_ | refine out_loop_ret ?_ | refine out_loop_exit ?_ | refine out_loopR_ret ?_ | refine out_loopR_exit ?_ | (refine hL _ ?_; clear hL))
    | (with_reducible first | refine w_reg (by decide +kernel) fun K1 hK => ?_ | refine w_reg_end (by decide +kernel) fun K1 hK => ?_)
    | ((with_reducible first | apply d_reg Try.mix (by decide +kernel) | apply d_reg_end Try.mix (by decide +kernel)); (case hm => simp only [List.length_cons, List.length_nil, Nat.reduceAdd, Nat.reduceMul]; rfl); (case' h => intro K1 hK))
    | with_reducible refine go_seq ?_
    | ((with_reducible first | apply v_op Try.tab | apply v_op0 Try.tab | apply d_op Try.tab | apply d_op0 Try.tab) <;> first | (intro K' h0 hw; conv => whnf) | (simp only [Nat.reduceAdd, Nat.reduceMul]; rfl))
    | ((with_reducible apply v_nil); (case hm => (simp only [Nat.reduceAdd, Nat.reduceMul]; rfl)); (case' h => with_reducible refine hK _ ?_; clear hK))
    | ((with_reducible apply d_nil); (refine hK _ _ _ _ (by first | decide +kernel | (simp only [List.map_cons, List.map_nil, List.nil_append, List.cons_append]; decide +kernel) | rfl) ?_; clear hK))
    | (first | refine d_grd_yes (by rfl) (by rfl) ?_ | refine v_grd_yes (by rfl) (by rfl) ?_)
    | (apply d_grd_no; (case hg => rfl); (case hb => rfl); (case hi => (simp only [Nat.reduceAdd, Nat.reduceMul]; rfl)))
    | (apply d_grd_undef; (case hg => rfl); (case hb => rfl); (case hi => (simp only [Nat.reduceAdd, Nat.reduceMul]; rfl)))
    | (apply d_grd; (case hg => rfl); (case hb => rfl); (case hi => (simp only [Nat.reduceAdd, Nat.reduceMul]; rfl)))
    | (apply v_grd_no; (case hg => rfl); (case hb => rfl); (case hi => (simp only [Nat.reduceAdd, Nat.reduceMul]; rfl)))
    | (apply v_grd_undef; (case hg => rfl); (case hb => rfl); (case hi => (simp only [Nat.reduceAdd, Nat.reduceMul]; rfl)))
    | (apply v_grd; (case hg => rfl); (case hb => rfl); (case hi => (simp only [Nat.reduceAdd, Nat.reduceMul]; rfl)))
    | ((with_reducible refine callV_id (f := 82) ?_); have hcs_ := c_shelf; (with_reducible apply callV_f own82 (hcs_)); (case hx => rfl); (case he => rfl); (case hle => first | ((repeat constructor); done) | (simp [cuT, nxT', shelf, fr0]; done)); (case hpu => repeat constructor); (case' hK => (try clear hcs_); conv => whnf))
    | ((with_reducible refine callV_id (f := 50) ?_); have hcs_ := cb1; (with_reducible apply callV_f own50 (hcs_)); (case hx => rfl); (case he => rfl); (case hle => first | ((repeat constructor); done) | (simp [cuT, nxT', shelf, fr0]; done)); (case hpu => repeat constructor); (case' hK => (try clear hcs_); conv => whnf))
    | ((with_reducible refine callV_id (f := 52) ?_); have hcs_ := cb2; (with_reducible apply callV_f own52 (hcs_)); (case hx => rfl); (case he => rfl); (case hle => first | ((repeat constructor); done) | (simp [cuT, nxT', shelf, fr0]; done)); (case hpu => repeat constructor); (case' hK => (try clear hcs_); conv => whnf))
    | ((with_reducible refine callV_id (f := 52) ?_); have hcs_ := cb5; (with_reducible apply callV_f own52 (hcs_)); (case hx => rfl); (case he => rfl); (case hle => first | ((repeat constructor); done) | (simp [cuT, nxT', shelf, fr0]; done)); (case hpu => repeat constructor); (case' hK => (try clear hcs_); conv => whnf))
    | ((with_reducible refine callV_id (f := 49) ?_); have hcs_ := cb3; (with_reducible apply callV_f own49 (hcs_)); (case hx => rfl); (case he => rfl); (case hle => first | ((repeat constructor); done) | (simp [cuT, nxT', shelf, fr0]; done)); (case hpu => repeat constructor); (case' hK => (try clear hcs_); conv => whnf))
    | ((with_reducible refine callV_id (f := 51) ?_); have hcs_ := cb4; (with_reducible apply callV_f own51 (hcs_)); (case hx => rfl); (case he => rfl); (case hle => first | ((repeat constructor); done) | (simp [cuT, nxT', shelf, fr0]; done)); (case hpu => repeat constructor); (case' hK => (try clear hcs_); conv => whnf))
    | ((with_reducible refine callV_id (f := 56) ?_); have hcs_ := cb6; (with_reducible apply callV_f own56 (hcs_)); (case hx => rfl); (case he => rfl); (case hle => first | ((repeat constructor); done) | (simp [cuT, nxT', shelf, fr0]; done)); (case hpu => repeat constructor); (case' hK => (try clear hcs_); conv => whnf))
    | ((with_reducible apply go_cond); (case hb => rfl))
    | ((with_reducible apply out_block_there); (case hne => rfl))
    | ((with_reducible first | refine w_ret Try.tab fun K' hL => ?_ | refine w_ret_end Try.tab fun K' hL => ?_); (conv => whnf))
    | ((with_reducible apply And.intro); (case' right => try (conv => whnf)); (case' left => try first | rfl | decide | (simp [cuT, nxT', shelf, fr0]; done)))
    | ((with_reducible apply Side.mk); (try simp (disch := omega) only [wrp]); (try simp); (try omega))
    | ((with_reducible apply all_rk); (case hx => with_reducible assumption); (conv => whnf))
    | ((with_reducible refine all_row ?_); (first | (have _y := hx5; clear _y; intro x6 hx6) | (have _y := hx4; clear _y; intro x5 hx5) | (have _y := hx3; clear _y; intro x4 hx4) | (have _y := hx2; clear _y; intro x3 hx3) | (have _y := hx1; clear _y; intro x2 hx2) | (intro x1 hx1)); conv => whnf)
    | (refine ⟨_, eqAT (by rfl) (by rfl) (by rfl) (by rfl), ?_⟩; conv => whnf)
    | ((first | (have _y := g9; clear _y; intro g10; try simp at g10) | (have _y := g8; clear _y; intro g9; try simp at g9) | (have _y := g7; clear _y; intro g8; try simp at g8) | (have _y := g6; clear _y; intro g7; try simp at g7) | (have _y := g5; clear _y; intro g6; try simp at g6) | (have _y := g4; clear _y; intro g5; try simp at g5) | (have _y := g3; clear _y; intro g4; try simp at g4) | (have _y := g2; clear _y; intro g3; try simp at g3) | (have _y := g1; clear _y; intro g2; try simp at g2) | (intro g1; try simp at g1))))
  exact le_of_eq rfl
theorem next_parts (s : Sto) (c : Cu) (upto : Int) : (nextS s c upto).1.2.1.parts.length ≤ 1000000000000000 := by
  unfold nextS
  split
  · rename_i h
    obtain ⟨h1, h2, _⟩ := nextE_ok h
    unfold nextR
    split
    · simp [fr0]
    · split
      · simp [fr0]
      · simp only
        rw [List.getD_eq_getElem?_getD]
        cases hq : (grpAt (allS s) s.first (setC (allS s) s.first c))[(setF (allS s) s.first c).toNat]? with
        | none => simp [fr0]
        | some x =>
          have hm := grpAt_mem (l := allS s) (first := s.first) (c := setC (allS s) s.first c) (by have := (List.getElem?_eq_some_iff.1 hq).1; omega)
          have := (right_fits (h1.all.2 _ hm)).2 x (List.mem_of_getElem? hq)
          simp only [Option.getD_some]; omega
  · simp [fr0]
theorem nextE_eq (s : Sto) (c : Cu) (upto : Int) : nextE s c upto = if (if storeE s = 0 then cuE c else storeE s) = 0 then (if 0 ≤ upto ∧ upto ≤ 1000000 then 0 else 3) else (if storeE s = 0 then cuE c else storeE s) := by
  unfold nextE
  by_cases h : storeE s = 0
  · simp only [h, if_true]
  · simp only [h, if_false]
theorem pause_e (c : Cu) : (pauseC c).2 = cuE c := by
  unfold pauseC; split
  · rename_i h; exact h.symm
  · rfl
theorem next_e (s : Sto) (c : Cu) (upto : Int) : (nextS s c upto).2 = nextE s c upto := by
  unfold nextS; split
  · rename_i h; exact h.symm
  · rfl
set_option maxHeartbeats 4000000 in
theorem c_cursorTells (s : Sto) (c : Cu) (t upto : Int) (hs : FitsS s) : PSpec Try.prog 13 [.agg (stC s), .agg (cuC c), I t, I upto] (B true) := by
  refine v_pspec Try.func13 rfl Try.ntmps13 Try.results13 (by simp) (by first | exact .s _ | repeat constructor) ?_
  have hm : storeE s = 0 → s.gs.length ≤ 1000000 := fun h => by have := (storeE_ok h).2.1; omega
  have hSF := c_sameFrame (nextS s c upto).1.2.1 (nextS s c upto).1.2.1 (next_parts s c upto)
  rw [decide_eq_true rfl] at hSF
  repeat' (first
    | ((first | with_reducible refine w_cut (x := .cond (.tmp 69) _ _) (X := Unit) [22, 32, 68, 69, 70, 71, 72, 73, 74, 75, 76, 77, 78, 79, 80] (fun _ => [(22, I (liveS s).2)]) (fun _ => [(912, .box (cuC (liveS s).1))]) (fun _ => True) ?_ ?_ | with_reducible refine w_cut (x := .seq (.region _ _ _) (.cond (.tmp 69) _ _)) (X := Unit) [22, 32, 68, 69, 70, 71, 72, 73, 74, 75, 76, 77, 78, 79, 80] (fun _ => [(22, I (liveS s).2)]) (fun _ => [(912, .box (cuC (liveS s).1))]) (fun _ => True) ?_ ?_); (try (rintro z hz; simp only at hz)))
    | ((first | with_reducible refine w_cut (x := .cond (.tmp 90) _ _) (X := Unit) [23, 81, 82, 83, 84, 85, 86, 87, 88, 89, 90] (fun _ => [(23, I (wE1 s t))]) (fun _ => []) (fun _ => True) ?_ ?_ | with_reducible refine w_cut (x := .seq (.region _ _ _) (.cond (.tmp 90) _ _)) (X := Unit) [23, 81, 82, 83, 84, 85, 86, 87, 88, 89, 90] (fun _ => [(23, I (wE1 s t))]) (fun _ => []) (fun _ => True) ?_ ?_); (try (rintro z hz; simp only at hz)))
    | ((first | with_reducible refine w_cut (x := .cond (.tmp 92) _ _) (X := Unit) [23, 33, 34, 91, 92, 93, 94, 95, 96, 97, 98, 99, 100, 101, 102, 103] (fun _ => [(23, I (seekC s t).2)]) (fun _ => [(928, .box (cuC (seekC s t).1))]) (fun _ => True) ?_ ?_ | with_reducible refine w_cut (x := .seq (.region _ _ _) (.cond (.tmp 92) _ _)) (X := Unit) [23, 33, 34, 91, 92, 93, 94, 95, 96, 97, 98, 99, 100, 101, 102, 103] (fun _ => [(23, I (seekC s t).2)]) (fun _ => [(928, .box (cuC (seekC s t).1))]) (fun _ => True) ?_ ?_); (try (rintro z hz; simp only at hz)))
    | ((first | with_reducible refine w_cut (x := .cond (.tmp 105) _ _) (X := Unit) [104, 105, 106, 107, 108, 109, 110] (fun _ => []) (fun _ => [(944, .box (cuC (pauseC c).1))]) (fun _ => True) ?_ ?_ | with_reducible refine w_cut (x := .seq (.region _ _ _) (.cond (.tmp 105) _ _)) (X := Unit) [104, 105, 106, 107, 108, 109, 110] (fun _ => []) (fun _ => [(944, .box (cuC (pauseC c).1))]) (fun _ => True) ?_ ?_); (try (rintro z hz; simp only at hz)))
    | ((first | with_reducible refine w_cut (x := .cond (.tmp 112) _ _) (X := Unit) [24, 111, 112, 113] (fun _ => [(24, I (if storeE s = 0 then cuE c else storeE s))]) (fun _ => []) (fun _ => True) ?_ ?_ | with_reducible refine w_cut (x := .seq (.region _ _ _) (.cond (.tmp 112) _ _)) (X := Unit) [24, 111, 112, 113] (fun _ => [(24, I (if storeE s = 0 then cuE c else storeE s))]) (fun _ => []) (fun _ => True) ?_ ?_); (try (rintro z hz; simp only at hz)))
    | ((first | with_reducible refine w_cut (x := .cond (.tmp 123) _ _) (X := Unit) [24, 114, 115, 116, 117, 118, 119, 120, 121, 122, 123] (fun _ => [(24, I (nextE s c upto))]) (fun _ => []) (fun _ => True) ?_ ?_ | with_reducible refine w_cut (x := .seq (.region _ _ _) (.cond (.tmp 123) _ _)) (X := Unit) [24, 114, 115, 116, 117, 118, 119, 120, 121, 122, 123] (fun _ => [(24, I (nextE s c upto))]) (fun _ => []) (fun _ => True) ?_ ?_); (try (rintro z hz; simp only at hz)))
    | ((first | with_reducible refine w_cut (x := .cond (.tmp 125) _ _) (X := Unit) [30, 31, 124, 125, 126, 127, 128, 129, 130, 131, 132, 133, 134] (fun _ => [(30, B (nextS s c upto).1.2.2.1), (31, B (nextS s c upto).1.2.2.2)]) (fun _ => [(960, .box (cuC (nextS s c upto).1.1)), (976, .box (frC (nextS s c upto).1.2.1))]) (fun _ => True) ?_ ?_ | with_reducible refine w_cut (x := .seq (.region _ _ _) (.cond (.tmp 125) _ _)) (X := Unit) [30, 31, 124, 125, 126, 127, 128, 129, 130, 131, 132, 133, 134] (fun _ => [(30, B (nextS s c upto).1.2.2.1), (31, B (nextS s c upto).1.2.2.2)]) (fun _ => [(960, .box (cuC (nextS s c upto).1.1)), (976, .box (frC (nextS s c upto).1.2.1))]) (fun _ => True) ?_ ?_); (try (rintro z hz; simp only at hz)))
    | (with_reducible first | refine go_later ?_ | (refine h0 _ _ ?_; clear h0 hw) | (refine hw _ _ _ ?_; clear h0 hw) | refine go_ret ?_ | refine go_skip ?_ | refine go_block ?_ | refine go_exit ?_ | refine out_seq_ret ?_ | refine out_seq_normal ?_ | refine out_seq_exit ?_ | refine out_block_ret ?_ | refine out_block_normal ?_ | refine out_block_here ?_ | refine out_loop_ret ?_ | refine out_loop_exit ?_ | refine out_loopR_ret ?_ | refine out_loopR_exit ?_ | (refine hL _ ?_; clear hL))
    | (with_reducible first | refine w_reg (by decide +kernel) fun K1 hK => ?_ | refine w_reg_end (by decide +kernel) fun K1 hK => ?_)
    | ((with_reducible first | apply d_reg Try.mix (by decide +kernel) | apply d_reg_end Try.mix (by decide +kernel)); (case hm => simp only [List.length_cons, List.length_nil, Nat.reduceAdd, Nat.reduceMul]; rfl); (case' h => intro K1 hK))
    | with_reducible refine go_seq ?_
    | ((with_reducible first | apply v_op Try.tab | apply v_op0 Try.tab | apply d_op Try.tab | apply d_op0 Try.tab) <;> first | (intro K' h0 hw; conv => whnf) | (simp only [Nat.reduceAdd, Nat.reduceMul]; rfl))
    | ((with_reducible apply v_nil); (case hm => (simp only [Nat.reduceAdd, Nat.reduceMul]; rfl)); (case' h => with_reducible refine hK _ ?_; clear hK))
    | ((with_reducible apply d_nil); (refine hK _ _ _ _ (by first | decide +kernel | (simp only [List.map_cons, List.map_nil, List.nil_append, List.cons_append]; decide +kernel) | rfl) ?_; clear hK))
    | (first | refine d_grd_yes (by rfl) (by rfl) ?_ | refine v_grd_yes (by rfl) (by rfl) ?_)
    | (apply d_grd_no; (case hg => rfl); (case hb => rfl); (case hi => (simp only [Nat.reduceAdd, Nat.reduceMul]; rfl)))
    | (apply d_grd_undef; (case hg => rfl); (case hb => rfl); (case hi => (simp only [Nat.reduceAdd, Nat.reduceMul]; rfl)))
    | (apply d_grd; (case hg => rfl); (case hb => rfl); (case hi => (simp only [Nat.reduceAdd, Nat.reduceMul]; rfl)))
    | (apply v_grd_no; (case hg => rfl); (case hb => rfl); (case hi => (simp only [Nat.reduceAdd, Nat.reduceMul]; rfl)))
    | (apply v_grd_undef; (case hg => rfl); (case hb => rfl); (case hi => (simp only [Nat.reduceAdd, Nat.reduceMul]; rfl)))
    | (apply v_grd; (case hg => rfl); (case hb => rfl); (case hi => (simp only [Nat.reduceAdd, Nat.reduceMul]; rfl)))
    | ((with_reducible refine callV_id (f := 49) ?_); have hcs_ := c_live s hs; (with_reducible apply callV_f own49 (hcs_)); (case hx => rfl); (case he => rfl); (case hle => first | ((repeat constructor); done) | (simp [cuT, nxT']; done)); (case hpu => repeat constructor); (case' hK => (try clear hcs_); conv => whnf))
    | ((with_reducible refine callV_id (f := 50) ?_); have hcs_ := c_cursorSeek s t hs; (with_reducible apply callV_f own50 (hcs_)); (case hx => rfl); (case he => rfl); (case hle => first | ((repeat constructor); done) | (simp [cuT, nxT']; done)); (case hpu => repeat constructor); (case' hK => (try clear hcs_); conv => whnf))
    | ((with_reducible refine callV_id (f := 51) ?_); have hcs_ := c_pause c; (with_reducible apply callV_f own51 (hcs_)); (case hx => rfl); (case he => rfl); (case hle => first | ((repeat constructor); done) | (simp [cuT, nxT']; done)); (case hpu => repeat constructor); (case' hK => (try clear hcs_); conv => whnf))
    | ((with_reducible refine callV_id (f := 52) ?_); have hcs_ := c_cursorNext s c upto hs; (with_reducible apply callV_f own52 (hcs_)); (case hx => rfl); (case he => rfl); (case hle => first | ((repeat constructor); done) | (simp [cuT, nxT']; done)); (case hpu => repeat constructor); (case' hK => (try clear hcs_); conv => whnf))
    | ((with_reducible refine callV_id (f := 42) ?_); have hcs_ := c_checkStore s hs; (with_reducible apply callV_f own42 (hcs_)); (case hx => rfl); (case he => rfl); (case hle => first | ((repeat constructor); done) | (simp [cuT, nxT']; done)); (case hpu => repeat constructor); (case' hK => (try clear hcs_); conv => whnf))
    | ((with_reducible refine callV_id (f := 53) ?_); have hcs_ := c_checkCursor c; (with_reducible apply callV_f own53 (hcs_)); (case hx => rfl); (case he => rfl); (case hle => first | ((repeat constructor); done) | (simp [cuT, nxT']; done)); (case hpu => repeat constructor); (case' hK => (try clear hcs_); conv => whnf))
    | ((with_reducible refine callV_id (f := 45) ?_); have hcs_ := c_allOf s (hm (by assumption)); (with_reducible apply callV_f own45 (hcs_)); (case hx => rfl); (case he => rfl); (case hle => first | ((repeat constructor); done) | (simp [cuT, nxT']; done)); (case hpu => repeat constructor); (case' hK => (try clear hcs_); conv => whnf))
    | ((with_reducible refine callV_id (f := 44) ?_); have hcs_ := c_seekOf s t (wE1_ok (by assumption)).1; (with_reducible apply callV_f own44 (hcs_)); (case hx => rfl); (case he => rfl); (case hle => first | ((repeat constructor); done) | (simp [cuT, nxT']; done)); (case hpu => repeat constructor); (case' hK => (try clear hcs_); conv => whnf))
    | ((with_reducible refine callV_id (f := 54) ?_); have hcs_ := c_nextOf s c upto (nextE_ok (by assumption)).1 (nextE_ok (by assumption)).2.1; (with_reducible apply callV_f own54 (hcs_)); (case hx => rfl); (case he => rfl); (case hle => first | ((repeat constructor); done) | (simp [cuT, nxT']; done)); (case hpu => repeat constructor); (case' hK => (try clear hcs_); conv => whnf))
    | ((with_reducible refine callV_id (f := 55) ?_); have hcs_ := c_cursorBegun; (with_reducible apply callV_f own55 (hcs_)); (case hx => rfl); (case he => rfl); (case hle => first | ((repeat constructor); done) | (simp [cuT, nxT']; done)); (case hpu => repeat constructor); (case' hK => (try clear hcs_); conv => whnf))
    | ((with_reducible refine callV_id (f := 56) ?_); have hcs_ := c_cursorCheck c; (with_reducible apply callV_f own56 (hcs_)); (case hx => rfl); (case he => rfl); (case hle => first | ((repeat constructor); done) | (simp [cuT, nxT']; done)); (case hpu => repeat constructor); (case' hK => (try clear hcs_); conv => whnf))
    | ((with_reducible refine callV_id (f := 24) ?_); have hcs_ := hSF; (with_reducible apply callV_f own24 (hcs_)); (case hx => rfl); (case he => rfl); (case hle => first | ((repeat constructor); done) | (simp [cuT, nxT']; done)); (case hpu => repeat constructor); (case' hK => (try clear hcs_); conv => whnf))
    | ((with_reducible apply go_cond); (case hb => rfl))
    | ((with_reducible apply out_block_there); (case hne => rfl))
    | ((with_reducible first | refine w_ret Try.tab fun K' hL => ?_ | refine w_ret_end Try.tab fun K' hL => ?_); (conv => whnf))
    | ((with_reducible apply And.intro); (case' right => try (conv => whnf)); (case' left => try first | rfl | decide | (simp [cuT, nxT']; done)))
    | ((with_reducible apply Side.mk); (try simp (disch := omega) only [wrp]); (try simp); (try omega))
    | ((with_reducible apply all_rk); (case hx => with_reducible assumption); (conv => whnf))
    | ((with_reducible refine all_row ?_); (first | (have _y := hx5; clear _y; intro x6 hx6) | (have _y := hx4; clear _y; intro x5 hx5) | (have _y := hx3; clear _y; intro x4 hx4) | (have _y := hx2; clear _y; intro x3 hx3) | (have _y := hx1; clear _y; intro x2 hx2) | (intro x1 hx1)); conv => whnf)
    | (refine ⟨_, eqAT (by rfl) (by rfl) (by rfl) (by rfl), ?_⟩; conv => whnf)
    | ((first | (have _y := g23; clear _y; intro g24; try simp at g24; try simp (disch := omega) only [wrp] at g24) | (have _y := g22; clear _y; intro g23; try simp at g23; try simp (disch := omega) only [wrp] at g23) | (have _y := g21; clear _y; intro g22; try simp at g22; try simp (disch := omega) only [wrp] at g22) | (have _y := g20; clear _y; intro g21; try simp at g21; try simp (disch := omega) only [wrp] at g21) | (have _y := g19; clear _y; intro g20; try simp at g20; try simp (disch := omega) only [wrp] at g20) | (have _y := g18; clear _y; intro g19; try simp at g19; try simp (disch := omega) only [wrp] at g19) | (have _y := g17; clear _y; intro g18; try simp at g18; try simp (disch := omega) only [wrp] at g18) | (have _y := g16; clear _y; intro g17; try simp at g17; try simp (disch := omega) only [wrp] at g17) | (have _y := g15; clear _y; intro g16; try simp at g16; try simp (disch := omega) only [wrp] at g16) | (have _y := g14; clear _y; intro g15; try simp at g15; try simp (disch := omega) only [wrp] at g15) | (have _y := g13; clear _y; intro g14; try simp at g14; try simp (disch := omega) only [wrp] at g14) | (have _y := g12; clear _y; intro g13; try simp at g13; try simp (disch := omega) only [wrp] at g13) | (have _y := g11; clear _y; intro g12; try simp at g12; try simp (disch := omega) only [wrp] at g12) | (have _y := g10; clear _y; intro g11; try simp at g11; try simp (disch := omega) only [wrp] at g11) | (have _y := g9; clear _y; intro g10; try simp at g10; try simp (disch := omega) only [wrp] at g10) | (have _y := g8; clear _y; intro g9; try simp at g9; try simp (disch := omega) only [wrp] at g9) | (have _y := g7; clear _y; intro g8; try simp at g8; try simp (disch := omega) only [wrp] at g8) | (have _y := g6; clear _y; intro g7; try simp at g7; try simp (disch := omega) only [wrp] at g7) | (have _y := g5; clear _y; intro g6; try simp at g6; try simp (disch := omega) only [wrp] at g6) | (have _y := g4; clear _y; intro g5; try simp at g5; try simp (disch := omega) only [wrp] at g5) | (have _y := g3; clear _y; intro g4; try simp at g4; try simp (disch := omega) only [wrp] at g4) | (have _y := g2; clear _y; intro g3; try simp at g3; try simp (disch := omega) only [wrp] at g3) | (have _y := g1; clear _y; intro g2; try simp at g2; try simp (disch := omega) only [wrp] at g2) | (intro g1; try simp at g1; try simp (disch := omega) only [wrp] at g1))))
  · have e : liveS s = (cu0, 5) := by rw [liveS, if_pos g1, if_neg (by simp [g2])]
    ((with_reducible apply w_next (())); (case kt => first | exact kt_refl | (repeat (first | exact kt_refl | refine kt_wr (by rfl) ?_ | refine kt_jnk (by rfl) ?_ | refine kt_wrs (by rfl) ?_))); (case ko => repeat (first | exact ko_refl | refine ko_wo (by first | exact .inl (by rfl) | exact .inr (by simp) | exact .inr (by omega)) ?_ | refine ko_wor (by rfl) ?_ | refine ko_wos (by simp) ?_)); (case hn => first | exact Nat.le_refl _ | (simp; done) | (simp; omega)); (case hs => simp [e, cu0]); (case hb => simp [e, cu0]); (case ls => simp (disch := omega) [e, cu0, wrp]); (case lb => simp [e, cu0]); (case mu => first | (simp; omega) | (simp; done) | omega | (simp only; omega)); (case' rel' => (try simp only); (try exact trivial)))
  · have e : liveS s = (⟨1, s.first + (allS s).length - 1, 0⟩, 0) := by rw [liveS, if_pos g1, if_pos (List.length_pos_iff.2 g2)]
    have h9 := (storeE_ok g1).1
    have h8 := (storeE_ok g1).all.1
    have e7 : IntKind.i64.wrap (IntKind.i64.wrap (s.first + ((allS s).length : Int)) - 1) = s.first + (allS s).length - 1 := by rw [wrp (n := s.first + ((allS s).length : Int)) (by omega) (by omega), wrp (by omega) (by omega)]
    ((with_reducible apply w_next (())); (case kt => first | exact kt_refl | (repeat (first | exact kt_refl | refine kt_wr (by rfl) ?_ | refine kt_jnk (by rfl) ?_ | refine kt_wrs (by rfl) ?_))); (case ko => repeat (first | exact ko_refl | refine ko_wo (by first | exact .inl (by rfl) | exact .inr (by simp) | exact .inr (by omega)) ?_ | refine ko_wor (by rfl) ?_ | refine ko_wos (by simp) ?_)); (case hn => first | exact Nat.le_refl _ | (simp; done) | (simp; omega)); (case hs => simp [e, g1, e7]); (case hb => simp [e, g1, e7]); (case ls => simp (disch := omega) [e, g1, e7, wrp]); (case lb => simp [e, g1, e7]); (case mu => first | (simp; omega) | (simp; done) | omega | (simp only; omega)); (case' rel' => (try simp only); (try exact trivial)))
  · have e : liveS s = (cu0, storeE s) := if_neg g1
    ((with_reducible apply w_next (())); (case kt => first | exact kt_refl | (repeat (first | exact kt_refl | refine kt_wr (by rfl) ?_ | refine kt_jnk (by rfl) ?_ | refine kt_wrs (by rfl) ?_))); (case ko => repeat (first | exact ko_refl | refine ko_wo (by first | exact .inl (by rfl) | exact .inr (by simp) | exact .inr (by omega)) ?_ | refine ko_wor (by rfl) ?_ | refine ko_wos (by simp) ?_)); (case hn => first | exact Nat.le_refl _ | (simp; done) | (simp; omega)); (case hs => simp [e, cu0]); (case hb => simp [e, cu0]); (case ls => simp (disch := omega) [e, cu0, wrp]); (case lb => simp [e, cu0]); (case mu => first | (simp; omega) | (simp; done) | omega | (simp only; omega)); (case' rel' => (try simp only); (try exact trivial)))
  all_goals try
    (have e : wE1 s t = 3 := if_pos ⟨by assumption, by omega⟩
     ((with_reducible apply w_next (())); (case kt => first | exact kt_refl | (repeat (first | exact kt_refl | refine kt_wr (by rfl) ?_ | refine kt_jnk (by rfl) ?_ | refine kt_wrs (by rfl) ?_))); (case ko => repeat (first | exact ko_refl | refine ko_wo (by first | exact .inl (by rfl) | exact .inr (by simp) | exact .inr (by omega)) ?_ | refine ko_wor (by rfl) ?_ | refine ko_wos (by simp) ?_)); (case hn => first | exact Nat.le_refl _ | (simp; done) | (simp; omega)); (case hs => simp [e]); (case hb => simp [e]); (case ls => simp (disch := omega) [e, wrp]); (case lb => simp [e]); (case mu => first | (simp; omega) | (simp; done) | omega | (simp only; omega)); (case' rel' => (try simp only); (try exact trivial)))
     done)
  all_goals try
    (have e : wE1 s t = storeE s := if_neg (by omega)
     ((with_reducible apply w_next (())); (case kt => first | exact kt_refl | (repeat (first | exact kt_refl | refine kt_wr (by rfl) ?_ | refine kt_jnk (by rfl) ?_ | refine kt_wrs (by rfl) ?_))); (case ko => repeat (first | exact ko_refl | refine ko_wo (by first | exact .inl (by rfl) | exact .inr (by simp) | exact .inr (by omega)) ?_ | refine ko_wor (by rfl) ?_ | refine ko_wos (by simp) ?_)); (case hn => first | exact Nat.le_refl _ | (simp; done) | (simp; omega)); (case hs => simp [e]); (case hb => simp [e]); (case ls => simp (disch := omega) [e, wrp]); (case lb => simp [e]); (case mu => first | (simp; omega) | (simp; done) | omega | (simp only; omega)); (case' rel' => (try simp only); (try exact trivial)))
     done)
  · have e0 : seekS s t = ((seekR s t).1, 5) := by rw [seekS, if_pos g5, if_neg (by simpa using g6)]
    have e : seekC s t = (cu0, 5) := by rw [seekC, e0, if_neg (by simp)]
    ((with_reducible apply w_next (())); (case kt => first | exact kt_refl | (repeat (first | exact kt_refl | refine kt_wr (by rfl) ?_ | refine kt_jnk (by rfl) ?_ | refine kt_wrs (by rfl) ?_))); (case ko => repeat (first | exact ko_refl | refine ko_wo (by first | exact .inl (by rfl) | exact .inr (by simp) | exact .inr (by omega)) ?_ | refine ko_wor (by rfl) ?_ | refine ko_wos (by simp) ?_)); (case hn => first | exact Nat.le_refl _ | (simp; done) | (simp; omega)); (case hs => simp [e, cu0]); (case hb => simp [e, cu0]); (case ls => simp (disch := omega) [e, cu0, wrp]); (case lb => simp [e, cu0]); (case mu => first | (simp; omega) | (simp; done) | omega | (simp only; omega)); (case' rel' => (try simp only); (try exact trivial)))
  · have e0 : seekS s t = ((seekR s t).1, 0) := by rw [seekS, if_pos g5, if_pos g6]
    have e : seekC s t = (⟨3, (seekR s t).1, 0⟩, 0) := by rw [seekC, e0, if_pos rfl]
    ((with_reducible apply w_next (())); (case kt => first | exact kt_refl | (repeat (first | exact kt_refl | refine kt_wr (by rfl) ?_ | refine kt_jnk (by rfl) ?_ | refine kt_wrs (by rfl) ?_))); (case ko => repeat (first | exact ko_refl | refine ko_wo (by first | exact .inl (by rfl) | exact .inr (by simp) | exact .inr (by omega)) ?_ | refine ko_wor (by rfl) ?_ | refine ko_wos (by simp) ?_)); (case hn => first | exact Nat.le_refl _ | (simp; done) | (simp; omega)); (case hs => simp [e, g5]); (case hb => simp [e, g5]); (case ls => simp (disch := omega) [e, g5, wrp]); (case lb => simp [e, g5]); (case mu => first | (simp; omega) | (simp; done) | omega | (simp only; omega)); (case' rel' => (try simp only); (try exact trivial)))
  · have e0 : seekS s t = (0, wE1 s t) := if_neg g5
    have e : seekC s t = (cu0, wE1 s t) := by rw [seekC, e0, if_neg g5]
    ((with_reducible apply w_next (())); (case kt => first | exact kt_refl | (repeat (first | exact kt_refl | refine kt_wr (by rfl) ?_ | refine kt_jnk (by rfl) ?_ | refine kt_wrs (by rfl) ?_))); (case ko => repeat (first | exact ko_refl | refine ko_wo (by first | exact .inl (by rfl) | exact .inr (by simp) | exact .inr (by omega)) ?_ | refine ko_wor (by rfl) ?_ | refine ko_wos (by simp) ?_)); (case hn => first | exact Nat.le_refl _ | (simp; done) | (simp; omega)); (case hs => simp [e, cu0]); (case hb => simp [e, cu0]); (case ls => simp (disch := omega) [e, cu0, wrp]); (case lb => simp [e, cu0]); (case mu => first | (simp; omega) | (simp; done) | omega | (simp only; omega)); (case' rel' => (try simp only); (try exact trivial)))
  · have e : pauseC c = (⟨2, c.group, c.frame⟩, 0) := if_pos g7
    ((with_reducible apply w_next (())); (case kt => first | exact kt_refl | (repeat (first | exact kt_refl | refine kt_wr (by rfl) ?_ | refine kt_jnk (by rfl) ?_ | refine kt_wrs (by rfl) ?_))); (case ko => repeat (first | exact ko_refl | refine ko_wo (by first | exact .inl (by rfl) | exact .inr (by simp) | exact .inr (by omega)) ?_ | refine ko_wor (by rfl) ?_ | refine ko_wos (by simp) ?_)); (case hn => first | exact Nat.le_refl _ | (simp; done) | (simp; omega)); (case hs => simp [e]); (case hb => simp [e]); (case ls => simp (disch := omega) [e, wrp]); (case lb => simp [e]); (case mu => first | (simp; omega) | (simp; done) | omega | (simp only; omega)); (case' rel' => (try simp only); (try exact trivial)))
  · have e : pauseC c = (cu0, cuE c) := if_neg g7
    ((with_reducible apply w_next (())); (case kt => first | exact kt_refl | (repeat (first | exact kt_refl | refine kt_wr (by rfl) ?_ | refine kt_jnk (by rfl) ?_ | refine kt_wrs (by rfl) ?_))); (case ko => repeat (first | exact ko_refl | refine ko_wo (by first | exact .inl (by rfl) | exact .inr (by simp) | exact .inr (by omega)) ?_ | refine ko_wor (by rfl) ?_ | refine ko_wos (by simp) ?_)); (case hn => first | exact Nat.le_refl _ | (simp; done) | (simp; omega)); (case hs => simp [e, cu0]); (case hb => simp [e, cu0]); (case ls => simp (disch := omega) [e, cu0, wrp]); (case lb => simp [e, cu0]); (case mu => first | (simp; omega) | (simp; done) | omega | (simp only; omega)); (case' rel' => (try simp only); (try exact trivial)))
  · ((with_reducible apply w_next (())); (case kt => first | exact kt_refl | (repeat (first | exact kt_refl | refine kt_wr (by rfl) ?_ | refine kt_jnk (by rfl) ?_ | refine kt_wrs (by rfl) ?_))); (case ko => repeat (first | exact ko_refl | refine ko_wo (by first | exact .inl (by rfl) | exact .inr (by simp) | exact .inr (by omega)) ?_ | refine ko_wor (by rfl) ?_ | refine ko_wos (by simp) ?_)); (case hn => first | exact Nat.le_refl _ | (simp; done) | (simp; omega)); (case hs => simp [g9]); (case hb => simp [g9]); (case ls => simp (disch := omega) [g9, wrp]); (case lb => simp [g9]); (case mu => first | (simp; omega) | (simp; done) | omega | (simp only; omega)); (case' rel' => (try simp only); (try exact trivial)))
  · ((with_reducible apply w_next (())); (case kt => first | exact kt_refl | (repeat (first | exact kt_refl | refine kt_wr (by rfl) ?_ | refine kt_jnk (by rfl) ?_ | refine kt_wrs (by rfl) ?_))); (case ko => repeat (first | exact ko_refl | refine ko_wo (by first | exact .inl (by rfl) | exact .inr (by simp) | exact .inr (by omega)) ?_ | refine ko_wor (by rfl) ?_ | refine ko_wos (by simp) ?_)); (case hn => first | exact Nat.le_refl _ | (simp; done) | (simp; omega)); (case hs => simp [g9]); (case hb => simp [g9]); (case ls => simp (disch := omega) [g9, wrp]); (case lb => simp [g9]); (case mu => first | (simp; omega) | (simp; done) | omega | (simp only; omega)); (case' rel' => (try simp only); (try exact trivial)))
  · have e : nextE s c upto = 3 := by rw [nextE_eq, if_pos g11, if_neg (by omega)]
    ((with_reducible apply w_next (())); (case kt => first | exact kt_refl | (repeat (first | exact kt_refl | refine kt_wr (by rfl) ?_ | refine kt_jnk (by rfl) ?_ | refine kt_wrs (by rfl) ?_))); (case ko => repeat (first | exact ko_refl | refine ko_wo (by first | exact .inl (by rfl) | exact .inr (by simp) | exact .inr (by omega)) ?_ | refine ko_wor (by rfl) ?_ | refine ko_wos (by simp) ?_)); (case hn => first | exact Nat.le_refl _ | (simp; done) | (simp; omega)); (case hs => simp [e]); (case hb => simp [e]); (case ls => simp (disch := omega) [e, wrp]); (case lb => simp [e]); (case mu => first | (simp; omega) | (simp; done) | omega | (simp only; omega)); (case' rel' => (try simp only); (try exact trivial)))
  · have e : nextE s c upto = 0 := by rw [nextE_eq, if_pos g11, if_pos (by omega)]
    ((with_reducible apply w_next (())); (case kt => first | exact kt_refl | (repeat (first | exact kt_refl | refine kt_wr (by rfl) ?_ | refine kt_jnk (by rfl) ?_ | refine kt_wrs (by rfl) ?_))); (case ko => repeat (first | exact ko_refl | refine ko_wo (by first | exact .inl (by rfl) | exact .inr (by simp) | exact .inr (by omega)) ?_ | refine ko_wor (by rfl) ?_ | refine ko_wos (by simp) ?_)); (case hn => first | exact Nat.le_refl _ | (simp; done) | (simp; omega)); (case hs => simp [e, g11]); (case hb => simp [e, g11]); (case ls => simp (disch := omega) [e, g11, wrp]); (case lb => simp [e, g11]); (case mu => first | (simp; omega) | (simp; done) | omega | (simp only; omega)); (case' rel' => (try simp only); (try exact trivial)))
  · have e : nextE s c upto = 3 := by rw [nextE_eq, if_pos g11, if_neg (by omega)]
    ((with_reducible apply w_next (())); (case kt => first | exact kt_refl | (repeat (first | exact kt_refl | refine kt_wr (by rfl) ?_ | refine kt_jnk (by rfl) ?_ | refine kt_wrs (by rfl) ?_))); (case ko => repeat (first | exact ko_refl | refine ko_wo (by first | exact .inl (by rfl) | exact .inr (by simp) | exact .inr (by omega)) ?_ | refine ko_wor (by rfl) ?_ | refine ko_wos (by simp) ?_)); (case hn => first | exact Nat.le_refl _ | (simp; done) | (simp; omega)); (case hs => simp [e]); (case hb => simp [e]); (case ls => simp (disch := omega) [e, wrp]); (case lb => simp [e]); (case mu => first | (simp; omega) | (simp; done) | omega | (simp only; omega)); (case' rel' => (try simp only); (try exact trivial)))
  · have e : nextE s c upto = (if storeE s = 0 then cuE c else storeE s) := by rw [nextE_eq, if_neg g11]
    ((with_reducible apply w_next (())); (case kt => first | exact kt_refl | (repeat (first | exact kt_refl | refine kt_wr (by rfl) ?_ | refine kt_jnk (by rfl) ?_ | refine kt_wrs (by rfl) ?_))); (case ko => repeat (first | exact ko_refl | refine ko_wo (by first | exact .inl (by rfl) | exact .inr (by simp) | exact .inr (by omega)) ?_ | refine ko_wor (by rfl) ?_ | refine ko_wos (by simp) ?_)); (case hn => first | exact Nat.le_refl _ | (simp; done) | (simp; omega)); (case hs => simp [e]); (case hb => simp [e]); (case ls => simp (disch := omega) [e, wrp]); (case lb => simp [e]); (case mu => first | (simp; omega) | (simp; done) | omega | (simp only; omega)); (case' rel' => (try simp only); (try exact trivial)))
  · have e : nextS s c upto = (nextR s c upto, 0) := if_pos g13
    ((with_reducible apply w_next (())); (case kt => first | exact kt_refl | (repeat (first | exact kt_refl | refine kt_wr (by rfl) ?_ | refine kt_jnk (by rfl) ?_ | refine kt_wrs (by rfl) ?_))); (case ko => repeat (first | exact ko_refl | refine ko_wo (by first | exact .inl (by rfl) | exact .inr (by simp) | exact .inr (by omega)) ?_ | refine ko_wor (by rfl) ?_ | refine ko_wos (by simp) ?_)); (case hn => first | exact Nat.le_refl _ | (simp; done) | (simp; omega)); (case hs => simp [e]); (case hb => simp [e]); (case ls => simp (disch := omega) [e, wrp]); (case lb => simp [e]); (case mu => first | (simp; omega) | (simp; done) | omega | (simp only; omega)); (case' rel' => (try simp only); (try exact trivial)))
  · have e : nextS s c upto = ((cu0, fr0, false, false), nextE s c upto) := if_neg g13
    ((with_reducible apply w_next (())); (case kt => first | exact kt_refl | (repeat (first | exact kt_refl | refine kt_wr (by rfl) ?_ | refine kt_jnk (by rfl) ?_ | refine kt_wrs (by rfl) ?_))); (case ko => repeat (first | exact ko_refl | refine ko_wo (by first | exact .inl (by rfl) | exact .inr (by simp) | exact .inr (by omega)) ?_ | refine ko_wor (by rfl) ?_ | refine ko_wos (by simp) ?_)); (case hn => first | exact Nat.le_refl _ | (simp; done) | (simp; omega)); (case hs => simp [e, cu0, fr0]); (case hb => simp [e, cu0, fr0]); (case ls => simp (disch := omega) [e, cu0, fr0, wrp]); (case lb => simp [e, cu0, fr0]); (case mu => first | (simp; omega) | (simp; done) | omega | (simp only; omega)); (case' rel' => (try simp only); (try exact trivial)))
  · exact le_of_eq (by simp)
  · exact absurd (next_e s c upto) g22
  · exact absurd (pause_e c) g20
theorem reads_cu {a : AV} (h : ReadsArg (.agg [.int .i64, .int .i64, .int .i64]) a) : ∃ o : Cu, a = .agg (cuC o) := by
  obtain ⟨_, rfl, _, _, rfl, ⟨x, rfl, _⟩, _, _, rfl, ⟨y, rfl, _⟩, _, _, rfl, ⟨z, rfl, _⟩, rfl⟩ := h
  exact ⟨⟨x, y, z⟩, rfl⟩
theorem law_cursorTells (args : List AV) (h : ReadsArgs [.agg [.int .i64, .sl 1 24 (.agg [.sl 3 40 (.agg [.int .i64, .bool, .sl 1 16 .str])]), .agg [.sl 3 40 (.agg [.int .i64, .bool, .sl 1 16 .str])]], .agg [.int .i64, .int .i64, .int .i64], .int .i64, .int .i64] args) (_ : True) : PSpec Try.prog 13 args (B true) := by
  obtain ⟨_, _, rfl, h1, _, _, rfl, h2, _, _, rfl, h3, _, _, rfl, h4, rfl⟩ := h
  obtain ⟨s, rfl, hs⟩ := reads_sto h1
  obtain ⟨c, rfl⟩ := reads_cu h2
  obtain ⟨t, ht, _⟩ := h3
  obtain ⟨u, hu, _⟩ := h4
  cases ht
  cases hu
  exact c_cursorTells s c t u hs
end Go.Proofs.Ytapgdbjlgebjmaa

/- The whole, walked. No condition. -/
import Derived.Test.YtokkencbpmjdaaaGreatDeskLaw
import Derived.Test.YtokkencbpmjdaaaGreatTrack3
namespace Go.Proofs.YtokkencbpmjdaaaGreat
open Go Go.Sy
set_option maxRecDepth 4000
set_option linter.unusedSimpArgs false
set_option linter.unusedVariables false
attribute [local irreducible] Reg RegD Later Out CallV Tri Side EqV Pause
set_option maxHeartbeats 400000 in
theorem c_fresh (c : Cu) : PSpec Tryz.prog 62 [.agg (cuC c)] (B (freshB c)) := by
  refine p_pspec Tryz.func62 Tryz.ntmps62 Tryz.results62 ?_
  repeat' (first
 | (with_reducible first | apply qz0 | (refine h0 _ _ ?_; clear h0 hw) | (refine hw _ _ _ ?_; clear h0 hw) | apply qz1 | (refine hL _ ?_; clear hL))
 | refine p_reg fun K1 hK => ?_
 | (refine p_op Tryz.tab fun K' h0 hw => ?_; conv => whnf)
 | (refine p_nil (hK _ ?_); clear hK)
 | ((with_reducible first | refine w_ret Tryz.tab fun K' hL => ?_ ); (conv => whnf))
 | ((with_reducible apply And.intro); (case' right => try (conv => whnf)); (case' left => try first | rfl | decide | (simp; done) ))
 | (refine ⟨_, eqAT (by rfl) (by rfl) (by rfl) (by rfl), ?_⟩; conv => whnf)
 )
  all_goals (refine le_of_eq (congrArg B ?_); simp [freshB, eqC]; done)
set_option maxHeartbeats 1000000 in
theorem c_viewer (v : Vw) : PSpec Tryz.prog 36 [.agg (vwC v)] (I (viewerE v)) := by
  refine p_pspec Tryz.func36 Tryz.ntmps36 Tryz.results36 ?_
  repeat' (first
 | (with_reducible first | apply qz0 | (refine h0 _ _ ?_; clear h0 hw) | (refine hw _ _ _ ?_; clear h0 hw) | apply qz1 | apply qz2 | apply qz5 | apply qz6 | (refine hL _ ?_; clear hL))
 | refine p_reg fun K1 hK => ?_
 | apply go_seq
 | (refine p_op Tryz.tab fun K' h0 hw => ?_; conv => whnf)
 | (refine p_nil (hK _ ?_); clear hK)
 | ((with_reducible refine callV_id (f := 62) ?_); have hcs_ := c_fresh v.cu; (with_reducible apply callV_f own62 (hcs_)); (case hx => rfl); (case he => rfl); (case hle => first | ((repeat constructor); done) ); (case hpu => repeat constructor); (case' hK => (try clear hcs_); conv => whnf))
 | ((with_reducible refine callV_id (f := 63) ?_); have hcs_ := c_cursorCheck v.cu; (with_reducible apply callV_f own63 (hcs_)); (case hx => rfl); (case he => rfl); (case hle => first | ((repeat constructor); done) ); (case hpu => repeat constructor); (case' hK => (try clear hcs_); conv => whnf))
 | ((with_reducible refine callV_id (f := 64) ?_); have hcs_ := c_outCheck v.ou; (with_reducible apply callV_f own64 (hcs_)); (case hx => rfl); (case he => rfl); (case hle => first | ((repeat constructor); done) ); (case hpu => repeat constructor); (case' hK => (try clear hcs_); conv => whnf))
 | ((with_reducible apply go_cond); (case hb => rfl))
 | ((with_reducible first | refine w_ret Tryz.tab fun K' hL => ?_ ); (conv => whnf))
 | ((with_reducible apply And.intro); (case' right => try (conv => whnf)); (case' left => try first | rfl | decide | (simp; done) ))
 | (first  | intro g1; try simp at g1))
  all_goals (refine le_of_eq (congrArg (fun n : Int => I n) ?_); unfold viewerE; simp_all; done)
set_option maxHeartbeats 1000000 in
theorem c_form (a : Ac) : PSpec Tryz.prog 65 [.agg (acC a)] (I (formE a)) := by
  refine p_pspec Tryz.func65 Tryz.ntmps65 Tryz.results65 ?_
  repeat' (first
 | (with_reducible first | apply qz0 | (refine h0 _ _ ?_; clear h0 hw) | (refine hw _ _ _ ?_; clear h0 hw) | apply qz1 | apply qz2 | apply qz3 | apply qz5 | apply qz6 | apply qz8 | apply qz9 | (refine hL _ ?_; clear hL))
 | refine p_reg fun K1 hK => ?_ | refine p_regE fun K1 hK => ?_
 | apply go_seq
 | (refine p_op Tryz.tab fun K' h0 hw => ?_; conv => whnf)
 | (refine p_nil (hK _ ?_); clear hK)
 | (first | refine v_grd_yes (by rfl) (by rfl) ?_)
 | ((first | (apply v_grd_no; (case hg => rfl); (case hb => rfl)) | (apply v_grd; (case hg => rfl); (case hb => rfl))); (case hi => (simp only [Nat.reduceAdd, Nat.reduceMul]; rfl)))
 | ((with_reducible apply go_cond); (case hb => rfl))
 | ((with_reducible first | refine w_ret Tryz.tab fun K' hL => ?_ ); (conv => whnf))
 | ((with_reducible apply And.intro); (case' right => try (conv => whnf)); (case' left => try first | rfl | decide | (simp; done) ))
 | (first  | intro g1; try simp at g1))
  all_goals (refine le_of_eq (congrArg (fun n : Int => I n) ?_); unfold formE; (repeat' split) <;> first | rfl | (exfalso; omega) | (exfalso; simp_all; done) | (exfalso; simp_all; omega))
abbrev dsC (d : Ds) : List AV := vwC d.v ++ tkC d.t ++ [.osl 1 6 (rowP d.l)]
abbrev dsO (d : Ds) : List Ob := [.box (dsC d), .perm 66 6 d.l.length]
set_option maxHeartbeats 1000000 in
theorem c_do1 (d : Ds) (ht : RightT d.t) : CSpec Tryz.prog 94 [.ptr 2 0] (dsO d ++ [.box [.ptr 0 0]]) (cuT (liveS d.t.st)) (dsO d ++ [.box [.ptr 0 0]]) := by
  have hs := ht.st.small.fits
  refine v_cspec Tryz.func94 rfl Tryz.ntmps94 Tryz.results94 (by simp) (k := 3) rfl ?_
  repeat' (first
 | (with_reducible first | apply qz0 | (refine h0 _ _ ?_; clear h0 hw) | (refine hw _ _ _ ?_; clear h0 hw) | apply qz1 )
 | refine p_reg fun K1 hK => ?_
 | ((first | refine p_op Tryz.tab fun K' h0 hw => ?_ | refine p_op0 Tryz.tab fun K' h0 hw => ?_); conv => whnf)
 | (refine p_nil (hK _ ?_); clear hK)
 | ((with_reducible refine callV_id (f := 95) ?_); have hcs_ := c_live d.t.st hs; (with_reducible apply callV_f own95 (hcs_)); (case hx => rfl); (case he => rfl); (case hle => first | ((repeat constructor); done) ); (case hpu => repeat constructor); (case' hK => (try clear hcs_); conv => whnf))
 | ((with_reducible apply And.intro); (case' right => try (conv => whnf)); (case' left => try first | rfl | decide | (simp; done) ))
 )
  ((first | refine w_retO Tryz.tab [] (by rfl) (by simp) (by simp) (fun K' hL => ?_) ?_ ?_ ?_ | refine w_retO_end Tryz.tab [] (by rfl) (by simp) (by simp) (fun K' hL => ?_) ?_ ?_ ?_); (conv => whnf); (refine hL _ ?_; clear hL); all_goals simp [cuT])
set_option maxHeartbeats 1000000 in
theorem c_do2 (d : Ds) : CSpec Tryz.prog 96 [.ptr 2 0] (dsO d ++ [.box [.ptr 0 0]]) (cuT (pauseC d.v.cu)) (dsO d ++ [.box [.ptr 0 0]]) := by
  refine v_cspec Tryz.func96 rfl Tryz.ntmps96 Tryz.results96 (by simp) (k := 3) rfl ?_
  repeat' (first
 | (with_reducible first | apply qz0 | (refine h0 _ _ ?_; clear h0 hw) | (refine hw _ _ _ ?_; clear h0 hw) | apply qz1 )
 | refine p_reg fun K1 hK => ?_
 | ((first | refine p_op Tryz.tab fun K' h0 hw => ?_ | refine p_op0 Tryz.tab fun K' h0 hw => ?_); conv => whnf)
 | (refine p_nil (hK _ ?_); clear hK)
 | ((with_reducible refine callV_id (f := 97) ?_); have hcs_ := c_pause d.v.cu; (with_reducible apply callV_f own97 (hcs_)); (case hx => rfl); (case he => rfl); (case hle => first | ((repeat constructor); done) ); (case hpu => repeat constructor); (case' hK => (try clear hcs_); conv => whnf))
 | ((with_reducible apply And.intro); (case' right => try (conv => whnf)); (case' left => try first | rfl | decide | (simp; done) ))
 )
  ((first | refine w_retO Tryz.tab [] (by rfl) (by simp) (by simp) (fun K' hL => ?_) ?_ ?_ ?_ | refine w_retO_end Tryz.tab [] (by rfl) (by simp) (by simp) (fun K' hL => ?_) ?_ ?_ ?_); (conv => whnf); (refine hL _ ?_; clear hL); all_goals simp [cuT])
set_option maxHeartbeats 1000000 in
theorem c_do3 (d : Ds) (a : Ac) (ht : RightT d.t) : CSpec Tryz.prog 98 [.ptr 2 0, .ptr 3 0] (dsO d ++ [.box [.ptr 0 0], .box (acC a)]) (cuT (seekC d.t.st a.n)) (dsO d ++ [.box [.ptr 0 0], .box (acC a)]) := by
  have hs := ht.st.small.fits
  refine v_cspec Tryz.func98 rfl Tryz.ntmps98 Tryz.results98 (by simp) (k := 4) rfl ?_
  repeat' (first
 | (with_reducible first | apply qz0 | (refine h0 _ _ ?_; clear h0 hw) | (refine hw _ _ _ ?_; clear h0 hw) | apply qz1 )
 | refine p_reg fun K1 hK => ?_
 | refine p_dreg Tryz.mix fun K1 hK => ?_
 | ((first | refine p_op Tryz.tab fun K' h0 hw => ?_ | refine p_dop Tryz.tab fun K' h0 hw => ?_ | refine p_dop0 Tryz.tab fun K' h0 hw => ?_); conv => whnf)
 | (refine p_nil (hK _ ?_); clear hK)
 | (refine d_nil (p_obj ?_ (hK _ _ _ _)); clear hK)
 | ((with_reducible refine callV_id (f := 99) ?_); have hcs_ := c_cursorSeek d.t.st a.n hs; (with_reducible apply callV_f own99 (hcs_)); (case hx => rfl); (case he => rfl); (case hle => first | ((repeat constructor); done) ); (case hpu => repeat constructor); (case' hK => (try clear hcs_); conv => whnf))
 | ((with_reducible apply And.intro); (case' right => try (conv => whnf)); (case' left => try first | rfl | decide | (simp; done) ))
 )
  ((first | refine w_retO Tryz.tab [] (by rfl) (by simp) (by simp) (fun K' hL => ?_) ?_ ?_ ?_ | refine w_retO_end Tryz.tab [] (by rfl) (by simp) (by simp) (fun K' hL => ?_) ?_ ?_ ?_); (conv => whnf); (refine hL _ ?_; clear hL); all_goals simp [cuT])
set_option maxHeartbeats 1000000 in
theorem c_set1 (d : Ds) (ht : RightT d.t) : CSpec Tryz.prog 93 [.ptr 0 0, .fn (.func 94) [] [.ptr 2 0]] (dsO d ++ [.box [.ptr 0 0]]) (I (setA d (liveS d.t.st)).2) (dsO (setA d (liveS d.t.st)).1 ++ [.box [.ptr 0 0]]) := by
  refine v_cspec Tryz.func93 rfl Tryz.ntmps93 Tryz.results93 (by simp) (k := 3) rfl ?_
  repeat' (first
 | (with_reducible first | apply qz0 | (refine h0 _ _ ?_; clear h0 hw) | (refine hw _ _ _ ?_; clear h0 hw) | apply qz1 | apply qz2 | apply qz6 )
 | refine p_reg fun K1 hK => ?_ | refine p_regE fun K1 hK => ?_
 | apply go_seq
 | ((first | refine p_op Tryz.tab fun K' h0 hw => ?_ | refine p_op0 Tryz.tab fun K' h0 hw => ?_); conv => whnf)
 | (refine p_nil (hK _ ?_); clear hK)
 | ((with_reducible refine callV_id (f := 94) ?_); have hcs_ := c_do1 d ht; (with_reducible apply w_callR [0, 1, 2] own94 (hcs_)); (case hx => rfl); (case he => rfl); (case hle => first | ((repeat constructor); done) ); (case hm => rfl); (case hnd => decide); (case' hK => (try clear hcs_); conv => whnf); (any_goals first | exact ⟨rfl, rfl, rfl, trivial⟩ | (simp; done)))
 | ((with_reducible apply go_cond); (case hb => rfl))
 | ((with_reducible apply And.intro); (case' right => try (conv => whnf)); (case' left => try first | rfl | decide | (simp; done) ))
 | (first | (guard_hyp g1; intro g2; try simp at g2) | intro g1; try simp at g1))
  · simp only [setA, if_pos g1]
    ((first | refine w_retO Tryz.tab [] (by rfl) (by simp) (by simp) (fun K' hL => ?_) ?_ ?_ ?_ | refine w_retO_end Tryz.tab [] (by rfl) (by simp) (by simp) (fun K' hL => ?_) ?_ ?_ ?_); (conv => whnf); (refine hL _ ?_; clear hL); all_goals simp)
  · simp only [setA, if_neg g1]
    ((first | refine w_retO Tryz.tab [] (by rfl) (by simp) (by simp) (fun K' hL => ?_) ?_ ?_ ?_ | refine w_retO_end Tryz.tab [] (by rfl) (by simp) (by simp) (fun K' hL => ?_) ?_ ?_ ?_); (conv => whnf); (refine hL _ ?_; clear hL); all_goals simp)
set_option maxHeartbeats 1000000 in
theorem c_set2 (d : Ds) : CSpec Tryz.prog 93 [.ptr 0 0, .fn (.func 96) [] [.ptr 2 0]] (dsO d ++ [.box [.ptr 0 0]]) (I (setA d (pauseC d.v.cu)).2) (dsO (setA d (pauseC d.v.cu)).1 ++ [.box [.ptr 0 0]]) := by
  refine v_cspec Tryz.func93 rfl Tryz.ntmps93 Tryz.results93 (by simp) (k := 3) rfl ?_
  repeat' (first
 | (with_reducible first | apply qz0 | (refine h0 _ _ ?_; clear h0 hw) | (refine hw _ _ _ ?_; clear h0 hw) | apply qz1 | apply qz2 | apply qz6 )
 | refine p_reg fun K1 hK => ?_ | refine p_regE fun K1 hK => ?_
 | apply go_seq
 | ((first | refine p_op Tryz.tab fun K' h0 hw => ?_ | refine p_op0 Tryz.tab fun K' h0 hw => ?_); conv => whnf)
 | (refine p_nil (hK _ ?_); clear hK)
 | ((with_reducible refine callV_id (f := 96) ?_); have hcs_ := c_do2 d; (with_reducible apply w_callR [0, 1, 2] own96 (hcs_)); (case hx => rfl); (case he => rfl); (case hle => first | ((repeat constructor); done) ); (case hm => rfl); (case hnd => decide); (case' hK => (try clear hcs_); conv => whnf); (any_goals first | exact ⟨rfl, rfl, rfl, trivial⟩ | (simp; done)))
 | ((with_reducible apply go_cond); (case hb => rfl))
 | ((with_reducible apply And.intro); (case' right => try (conv => whnf)); (case' left => try first | rfl | decide | (simp; done) ))
 | (first | (guard_hyp g1; intro g2; try simp at g2) | intro g1; try simp at g1))
  · simp only [setA, if_pos g1]
    ((first | refine w_retO Tryz.tab [] (by rfl) (by simp) (by simp) (fun K' hL => ?_) ?_ ?_ ?_ | refine w_retO_end Tryz.tab [] (by rfl) (by simp) (by simp) (fun K' hL => ?_) ?_ ?_ ?_); (conv => whnf); (refine hL _ ?_; clear hL); all_goals simp)
  · simp only [setA, if_neg g1]
    ((first | refine w_retO Tryz.tab [] (by rfl) (by simp) (by simp) (fun K' hL => ?_) ?_ ?_ ?_ | refine w_retO_end Tryz.tab [] (by rfl) (by simp) (by simp) (fun K' hL => ?_) ?_ ?_ ?_); (conv => whnf); (refine hL _ ?_; clear hL); all_goals simp)
set_option maxHeartbeats 1000000 in
theorem c_set3 (d : Ds) (a : Ac) (ht : RightT d.t) : CSpec Tryz.prog 93 [.ptr 0 0, .fn (.func 98) [] [.ptr 2 0, .ptr 3 0]] (dsO d ++ [.box [.ptr 0 0], .box (acC a)]) (I (setA d (seekC d.t.st a.n)).2) (dsO (setA d (seekC d.t.st a.n)).1 ++ [.box [.ptr 0 0], .box (acC a)]) := by
  refine v_cspec Tryz.func93 rfl Tryz.ntmps93 Tryz.results93 (by simp) (k := 4) rfl ?_
  repeat' (first
 | (with_reducible first | apply qz0 | (refine h0 _ _ ?_; clear h0 hw) | (refine hw _ _ _ ?_; clear h0 hw) | apply qz1 | apply qz2 | apply qz6 )
 | refine p_reg fun K1 hK => ?_ | refine p_regE fun K1 hK => ?_
 | apply go_seq
 | ((first | refine p_op Tryz.tab fun K' h0 hw => ?_ | refine p_op0 Tryz.tab fun K' h0 hw => ?_); conv => whnf)
 | (refine p_nil (hK _ ?_); clear hK)
 | ((with_reducible refine callV_id (f := 98) ?_); have hcs_ := c_do3 d a ht; (with_reducible apply w_callR [0, 1, 2, 3] own98 (hcs_)); (case hx => rfl); (case he => rfl); (case hle => first | ((repeat constructor); done) ); (case hm => rfl); (case hnd => decide); (case' hK => (try clear hcs_); conv => whnf); (any_goals first | exact ⟨rfl, rfl, rfl, rfl, trivial⟩ | (simp; done)))
 | ((with_reducible apply go_cond); (case hb => rfl))
 | ((with_reducible apply And.intro); (case' right => try (conv => whnf)); (case' left => try first | rfl | decide | (simp; done) ))
 | (first | (guard_hyp g1; intro g2; try simp at g2) | intro g1; try simp at g1))
  · simp only [setA, if_pos g1]
    ((first | refine w_retO Tryz.tab [] (by rfl) (by simp) (by simp) (fun K' hL => ?_) ?_ ?_ ?_ | refine w_retO_end Tryz.tab [] (by rfl) (by simp) (by simp) (fun K' hL => ?_) ?_ ?_ ?_); (conv => whnf); (refine hL _ ?_; clear hL); all_goals simp)
  · simp only [setA, if_neg g1]
    ((first | refine w_retO Tryz.tab [] (by rfl) (by simp) (by simp) (fun K' hL => ?_) ?_ ?_ ?_ | refine w_retO_end Tryz.tab [] (by rfl) (by simp) (by simp) (fun K' hL => ?_) ?_ ?_ ?_); (conv => whnf); (refine hL _ ?_; clear hL); all_goals simp)
set_option maxHeartbeats 4000000 in
theorem c_dsend (d : Ds) (upto : Int) (ht : RightT d.t) (hv : OkV d.v) (hl : d.l.length ≤ 100000) : CSpec Tryz.prog 100 [.ptr 0 0, I upto] (dsO d) (I (sendA d upto).2) (dsO (sendA d upto).1) := by
  refine v_cspec Tryz.func100 rfl Tryz.ntmps100 Tryz.results100 (by simp) (k := 2) rfl ?_
  repeat' (first
 | (with_reducible first | apply qz0 | (refine h0 _ _ ?_; clear h0 hw) | apply qz1 | apply qz2 | apply qz3 | apply qz5 | apply qz6 )
 | refine p_reg fun K1 hK => ?_
 | apply go_seq
 | (refine p_op Tryz.tab fun K' h0 hw => ?_; conv => whnf)
 | (refine p_nil (hK _ ?_); clear hK)
 | (first | refine v_grd_yes (by rfl) (by rfl) ?_)
 | ((first | (apply v_grd_no; (case hg => rfl); (case hb => rfl)) | (apply v_grd; (case hg => rfl); (case hb => rfl))); (case hi => (simp only [Nat.reduceAdd, Nat.reduceMul]; rfl)))
 | ((with_reducible refine callV_id (f := 62) ?_); have hcs_ := c_fresh d.v.cu; (with_reducible apply callV_f own62 (hcs_)); (case hx => rfl); (case he => rfl); (case hle => first | ((repeat constructor); done) ); (case hpu => repeat constructor); (case' hK => (try clear hcs_); conv => whnf))
 | ((with_reducible apply go_cond); (case hb => rfl))
 | ((with_reducible apply And.intro); (case' right => try (conv => whnf)); (case' left => try first | rfl | decide | (simp; done) ))
 | (first | (guard_hyp g6; intro g7; try simp at g7) | (guard_hyp g5; intro g6; try simp at g6) | (guard_hyp g4; intro g5; try simp at g5) | (guard_hyp g3; intro g4; try simp at g4) | (guard_hyp g2; intro g3; try simp at g3) | (guard_hyp g1; intro g2; try simp at g2) | intro g1; try simp at g1))
  · have e : sendA d upto = (d, 4) := if_pos g1
    rw [e]
    ((first | refine w_retO Tryz.tab [] (by rfl) (by simp) (by simp) (fun K' hL => ?_) ?_ ?_ ?_ | refine w_retO_end Tryz.tab [] (by rfl) (by simp) (by simp) (fun K' hL => ?_) ?_ ?_ ?_); (conv => whnf); (refine hL _ ?_; clear hL); all_goals simp)
  · have e : sendA d upto = (d, 3) := by rw [sendA, if_neg (by simp [g1]), if_pos (by omega)]
    rw [e]
    ((first | refine w_retO Tryz.tab [] (by rfl) (by simp) (by simp) (fun K' hL => ?_) ?_ ?_ ?_ | refine w_retO_end Tryz.tab [] (by rfl) (by simp) (by simp) (fun K' hL => ?_) ?_ ?_ ?_); (conv => whnf); (refine hL _ ?_; clear hL); all_goals simp)
  · have hcu : cuE d.v.cu = 0 := by
      rcases hv.cu with h | h
      · rw [g1] at h; cases h
      · exact h
    have hrm : remC d.t.st d.v.cu < 101 := by
      unfold remC; split
      · omega
      · have h1 := ht.st.all.1; have h2 := ht.st.1; have h3 := cuE_ok hcu; unfold cuOK at h3
        rename_i hb
        have h4 := (lost_in (by simpa using hb)).1
        simp only [inB, decide_eq_true_eq] at h4
        omega
    obtain ⟨T, hT⟩ : ∃ T, T = sendL d.t.st upto 101 d.v.cu d.v.ou d.l := ⟨_, rfl⟩
    have e : sendA d upto = (⟨⟨T.1, T.2.1⟩, d.t, T.2.2.1⟩, T.2.2.2) := by rw [sendA, if_neg (by simp [g1]), if_neg (by omega), hT]
    rw [e]
    clear e
    refine w_loop (X := Cu × Ou × List Pkt × Nat) [4, 5, 6, 7, 8, 9, 10, 11, 24, 25, 26, 27, 28, 29, 30, 31, 32, 33, 34, 35, 36, 37, 38, 39, 40, 41, 42, 43, 44, 45, 46, 47, 48, 49, 50, 51, 52, 53, 54, 55, 56, 57, 58, 59, 60, 61, 62, 63, 64, 65, 66, 67, 68, 69, 70, 71, 72, 73, 74, 75, 76, 77, 78, 79, 80, 81, 82, 83, 84, 85] (fun _ => []) (fun x => [(0, .box (dsC ⟨⟨x.1, x.2.1⟩, d.t, x.2.2.1⟩)), (1, .perm 66 6 x.2.2.1.length)]) (fun x => sendL d.t.st upto x.2.2.2 x.1 x.2.1 x.2.2.1 = T ∧ cuE x.1 = 0 ∧ outOK x.2.1 ∧ remC d.t.st x.1 < x.2.2.2 ∧ x.2.2.1.length + 4 * x.2.2.2 ≤ 100404) (fun x => x.2.2.2) (d.v.cu, d.v.ou, d.l, 101) ?_ ?_ ?_
    · exact ⟨hT.symm, hcu, hv.ou, hrm, by simp; omega⟩
    · refine ⟨kt_refl, ko_refl, ?_, ?_, ?_, ?_, Nat.le_refl _⟩ <;> simp
    rintro ⟨c, o, l, f⟩ ⟨h1, h2, h3, h4, h5⟩
    simp only at h1 h2 h3 h4 h5
    obtain ⟨f, rfl⟩ : ∃ f', f = f' + 1 := ⟨f - 1, by omega⟩
    have hcr := c_cursorRaw d.t.st c upto ht.st h2
    by_cases hn : (nextR d.t.st c upto).2.2.1 = true
    · obtain ⟨k1, k2, k3, k4, k5, k6, k7⟩ := next_ok ht.st h2 hn
      have kf := frameE_ok k3
      have hor := fun turn => c_raw o (nextR d.t.st c upto).2.1 turn h3 (by omega)
      have hrl : ∀ turn, (rawS o (nextR d.t.st c upto).2.1 turn).2.1.length ≤ 4 := fun turn => by
        by_cases hz : (rawS o (nextR d.t.st c upto).2.1 turn).2.2 = 0
        · obtain ⟨q1, q2, e, _⟩ := raw_ok h3 k3 hz
          rw [e, pksTo_len]; omega
        · rw [raw_no hz]; simp
      have hl1 := hrl true
      have hl2 := hrl (decide (c.frame = 0))
      have hok : ∀ turn, (rawS o (nextR d.t.st c upto).2.1 turn).2.2 = 0 → outOK (rawS o (nextR d.t.st c upto).2.1 turn).1 := fun turn hz => by
        obtain ⟨q1, q2, e, e1, _⟩ := raw_ok h3 k3 hz
        rw [e]; exact e1
      repeat' (first
 | (with_reducible first | apply qz0 | (refine h0 _ _ ?_; clear h0 hw) | (refine hw _ _ _ ?_; clear h0 hw) | apply qz1 | apply qz2 | apply qz3 | apply qz5 | apply qz6 | apply qz8 | apply qz9 | apply qzb )
 | refine p_reg fun K1 hK => ?_ | refine p_regE fun K1 hK => ?_
 | refine p_dreg Tryz.mix fun K1 hK => ?_
 | apply go_seq
 | ((first | refine p_op Tryz.tab fun K' h0 hw => ?_ | refine p_op0 Tryz.tab fun K' h0 hw => ?_ | refine p_dop Tryz.tab fun K' h0 hw => ?_ | refine p_dop0 Tryz.tab fun K' h0 hw => ?_); conv => whnf)
 | (refine p_nil (hK _ ?_); clear hK)
 | (refine d_nil (p_obj ?_ (hK _ _ _ _)); clear hK)
 | (first | refine d_grd_yes (by rfl) (by rfl) ?_ )
 | ((first | (apply d_grd_no; (case hg => rfl); (case hb => rfl)) | (apply d_grd; (case hg => rfl); (case hb => rfl)) ); (case hi => (simp only [Nat.reduceAdd, Nat.reduceMul]; rfl)))
 | (refine p_call own120 (hcr) ?_; conv => whnf)
 | ((with_reducible refine callV_id (f := 121) ?_); have hcs_ := hor true; (with_reducible apply callV_f own121 (hcs_)); (case hx => rfl); (case he => rfl); (case hle => first | ((repeat constructor); done) ); (case hpu => repeat constructor); (case' hK => (try clear hcs_); conv => whnf))
 | ((with_reducible refine callV_id (f := 121) ?_); have hcs_ := hor (decide (c.frame = 0)); (with_reducible apply callV_f own121 (hcs_)); (case hx => rfl); (case he => rfl); (case hle => first | ((repeat constructor); done) ); (case hpu => repeat constructor); (case' hK => (try clear hcs_); conv => whnf))
 | ((with_reducible apply go_cond); (case hb => rfl))
 | ((with_reducible apply And.intro); (case' right => try (conv => whnf)); (case' left => try first | rfl | decide | (simp; done) ))
 | exact p_side
 | (first | (guard_hyp g6; intro g7; try simp at g7) | (guard_hyp g5; intro g6; try simp at g6) | (guard_hyp g4; intro g5; try simp at g5) | (guard_hyp g3; intro g4; try simp at g4) | (guard_hyp g2; intro g3; try simp at g3) | (guard_hyp g1; intro g2; try simp at g2) | intro g1; try simp at g1))
      · exact absurd hn (by simp [g4])
      all_goals (rw [sendL, if_pos g4, g5] at h1)
      · rw [Bool.false_or, if_neg g6] at h1
        rw [← h1]
        ((first | refine w_retO Tryz.tab [] (by rfl) (by simp) (by simp) (fun K' hL => ?_) ?_ ?_ ?_ | refine w_retO_end Tryz.tab [] (by rfl) (by simp) (by simp) (fun K' hL => ?_) ?_ ?_ ?_); (conv => whnf); (refine hL _ ?_; clear hL); all_goals simp)
      · rw [Bool.false_or, if_pos g6] at h1
        (refine p_nx (((nextR d.t.st c upto).1, (rawS o (nextR d.t.st c upto).2.1 (decide (c.frame = 0))).1, l ++ (rawS o (nextR d.t.st c upto).2.1 (decide (c.frame = 0))).2.1, f)) ?_; (try simp only); (try exact trivial))
        exact ⟨h1, k2, hok _ g6, by omega, by simp only [List.length_append]; omega⟩
      · rw [Bool.true_or, if_neg g6] at h1
        rw [← h1]
        ((first | refine w_retO Tryz.tab [] (by rfl) (by simp) (by simp) (fun K' hL => ?_) ?_ ?_ ?_ | refine w_retO_end Tryz.tab [] (by rfl) (by simp) (by simp) (fun K' hL => ?_) ?_ ?_ ?_); (conv => whnf); (refine hL _ ?_; clear hL); all_goals simp)
      · rw [Bool.true_or, if_pos g6] at h1
        (refine p_nx (((nextR d.t.st c upto).1, (rawS o (nextR d.t.st c upto).2.1 true).1, l ++ (rawS o (nextR d.t.st c upto).2.1 true).2.1, f)) ?_; (try simp only); (try exact trivial))
        exact ⟨h1, k2, hok _ g6, by omega, by simp only [List.length_append]; omega⟩
    · have e : sendL d.t.st upto (f + 1) c o l = (c, o, l, 0) := by rw [sendL, if_neg hn]
      rw [e] at h1
      rw [← h1]
      repeat' (first
 | (with_reducible first | apply qz0 | (refine h0 _ _ ?_; clear h0 hw) | (refine hw _ _ _ ?_; clear h0 hw) | apply qz1 | apply qz2 | apply qz3 | apply qz5 | apply qz6 | apply qz8 | apply qzb )
 | refine p_reg fun K1 hK => ?_
 | refine p_dreg Tryz.mix fun K1 hK => ?_
 | apply go_seq
 | ((first | refine p_op Tryz.tab fun K' h0 hw => ?_ | refine p_dop Tryz.tab fun K' h0 hw => ?_ | refine p_dop0 Tryz.tab fun K' h0 hw => ?_); conv => whnf)
 | (refine p_nil (hK _ ?_); clear hK)
 | (refine d_nil (p_obj ?_ (hK _ _ _ _)); clear hK)
 | ((first | (apply d_grd; (case hg => rfl); (case hb => rfl)) ); (case hi => (simp only [Nat.reduceAdd, Nat.reduceMul]; rfl)))
 | (refine p_call own120 (hcr) ?_; conv => whnf)
 | ((with_reducible apply go_cond); (case hb => rfl))
 | ((with_reducible apply And.intro); (case' right => try (conv => whnf)); (case' left => try first | rfl | decide | (simp; done) ))
 | exact absurd g4 hn
 | (first | (guard_hyp g6; intro g7; try simp at g7) | (guard_hyp g5; intro g6; try simp at g6) | (guard_hyp g4; intro g5; try simp at g5) | (guard_hyp g3; intro g4; try simp at g4) | (guard_hyp g2; intro g3; try simp at g3) | (guard_hyp g1; intro g2; try simp at g2) | intro g1; try simp at g1))
      ((first | refine w_retO Tryz.tab [] (by rfl) (by simp) (by simp) (fun K' hL => ?_) ?_ ?_ ?_ | refine w_retO_end Tryz.tab [] (by rfl) (by simp) (by simp) (fun K' hL => ?_) ?_ ?_ ?_); (conv => whnf); (refine hL _ ?_; clear hL); all_goals simp)
  · have e : sendA d upto = (d, 3) := by rw [sendA, if_neg (by simp [g1]), if_pos (by omega)]
    rw [e]
    ((first | refine w_retO Tryz.tab [] (by rfl) (by simp) (by simp) (fun K' hL => ?_) ?_ ?_ ?_ | refine w_retO_end Tryz.tab [] (by rfl) (by simp) (by simp) (fun K' hL => ?_) ?_ ?_ ?_); (conv => whnf); (refine hL _ ?_; clear hL); all_goals simp)
set_option maxHeartbeats 4000000 in
theorem c_ddo (d : Ds) (a : Ac) (ht : RightT d.t) (hv : OkV d.v) (hl : d.l.length ≤ 100000) (hs : a.text.size ≤ 1000000000000000) : CSpec Tryz.prog 66 [.ptr 0 0, .agg (acC a)] (dsO d) (I (doA d a).2) (dsO (doA d a).1) := by
  have hr := c_trackRaw d.t a.text ht hs
  refine v_cspec Tryz.func66 rfl Tryz.ntmps66 Tryz.results66 (by simp) (k := 2) rfl ?_
  repeat' (first
 | (with_reducible first | apply qz0 | (refine h0 _ _ ?_; clear h0 hw) | (refine hw _ _ _ ?_; clear h0 hw) | apply qz1 | apply qz2 | apply qz3 | apply qz5 | apply qz6 | apply qz8 | apply qz9 )
 | refine p_reg fun K1 hK => ?_
 | refine p_dreg Tryz.mix fun K1 hK => ?_
 | apply go_seq
 | ((first | refine p_op Tryz.tab fun K' h0 hw => ?_ | refine p_op0 Tryz.tab fun K' h0 hw => ?_ | refine p_dop Tryz.tab fun K' h0 hw => ?_ | refine p_dop0 Tryz.tab fun K' h0 hw => ?_); conv => whnf)
 | (refine p_nil (hK _ ?_); clear hK)
 | (refine d_nil (p_obj ?_ (hK _ _ _ _)); clear hK)
 | (refine p_call own41 (hr) ?_; conv => whnf)
 | ((with_reducible refine callV_id (f := 93) ?_); have hcs_ := c_set1 d ht; (with_reducible apply w_callO [0, 1, 2] own93 (hcs_)); (case hx => rfl); (case he => rfl); (case hle => first | ((repeat constructor); done) ); (case hm => rfl); (case hnd => decide); (case' hK => (try clear hcs_); conv => whnf); (any_goals (simp; done)))
 | ((with_reducible refine callV_id (f := 93) ?_); have hcs_ := c_set2 d; (with_reducible apply w_callO [0, 1, 2] own93 (hcs_)); (case hx => rfl); (case he => rfl); (case hle => first | ((repeat constructor); done) ); (case hm => rfl); (case hnd => decide); (case' hK => (try clear hcs_); conv => whnf); (any_goals (simp; done)))
 | ((with_reducible refine callV_id (f := 93) ?_); have hcs_ := c_set3 d a ht; (with_reducible apply w_callO [0, 1, 2, 18] own93 (hcs_)); (case hx => rfl); (case he => rfl); (case hle => first | ((repeat constructor); done) ); (case hm => rfl); (case hnd => decide); (case' hK => (try clear hcs_); conv => whnf); (any_goals (simp; done)))
 | ((with_reducible refine callV_id (f := 62) ?_); have hcs_ := c_fresh d.v.cu; (with_reducible apply callV_f own62 (hcs_)); (case hx => rfl); (case he => rfl); (case hle => first | ((repeat constructor); done) ); (case hpu => repeat constructor); (case' hK => (try clear hcs_); conv => whnf))
 | ((with_reducible refine callV_id (f := 100) ?_); have hcs_ := c_dsend d a.n ht hv hl; (with_reducible apply w_callO [0, 1] own100 (hcs_)); (case hx => rfl); (case he => rfl); (case hle => first | ((repeat constructor); done) ); (case hm => rfl); (case hnd => decide); (case' hK => (try clear hcs_); conv => whnf); (any_goals (simp; done)))
 | ((with_reducible apply go_cond); (case hb => rfl))
 | ((with_reducible apply And.intro); (case' right => try (conv => whnf)); (case' left => try first | rfl | decide | (simp; done) ))
 | (first | (guard_hyp g4; intro g5; try simp at g5) | (guard_hyp g3; intro g4; try simp at g4) | (guard_hyp g2; intro g3; try simp at g3) | (guard_hyp g1; intro g2; try simp at g2) | intro g1; try simp at g1))
  · have e : doA d a = (⟨d.v, (feedR d.t a.text).1, d.l⟩, (feedR d.t a.text).2.2) := if_pos g1
    rw [e]
    ((first | refine w_retO Tryz.tab [] (by rfl) (by simp) (by simp) (fun K' hL => ?_) ?_ ?_ ?_ | refine w_retO_end Tryz.tab [] (by rfl) (by simp) (by simp) (fun K' hL => ?_) ?_ ?_ ?_); (conv => whnf); (refine hL _ ?_; clear hL); all_goals simp)
  · have e : doA d a = setA d (liveS d.t.st) := by rw [doA, if_neg g1, if_pos g2]
    rw [e]
    ((first | refine w_retO Tryz.tab [] (by rfl) (by simp) (by simp) (fun K' hL => ?_) ?_ ?_ ?_ | refine w_retO_end Tryz.tab [] (by rfl) (by simp) (by simp) (fun K' hL => ?_) ?_ ?_ ?_); (conv => whnf); (refine hL _ ?_; clear hL); all_goals simp)
  · have e : doA d a = (d, 4) := by rw [doA, if_neg g1, if_neg g2, if_pos g3, if_pos g4]
    rw [e]
    ((first | refine w_retO Tryz.tab [] (by rfl) (by simp) (by simp) (fun K' hL => ?_) ?_ ?_ ?_ | refine w_retO_end Tryz.tab [] (by rfl) (by simp) (by simp) (fun K' hL => ?_) ?_ ?_ ?_); (conv => whnf); (refine hL _ ?_; clear hL); all_goals simp)
  · have e : doA d a = setA d (pauseC d.v.cu) := by rw [doA, if_neg g1, if_neg g2, if_pos g3, if_neg (by simp [g4])]
    rw [e]
    ((first | refine w_retO Tryz.tab [] (by rfl) (by simp) (by simp) (fun K' hL => ?_) ?_ ?_ ?_ | refine w_retO_end Tryz.tab [] (by rfl) (by simp) (by simp) (fun K' hL => ?_) ?_ ?_ ?_); (conv => whnf); (refine hL _ ?_; clear hL); all_goals simp)
  · have e : doA d a = setA d (seekC d.t.st a.n) := by rw [doA, if_neg g1, if_neg g2, if_neg g3, if_pos g4]
    rw [e]
    ((first | refine w_retO Tryz.tab [] (by rfl) (by simp) (by simp) (fun K' hL => ?_) ?_ ?_ ?_ | refine w_retO_end Tryz.tab [] (by rfl) (by simp) (by simp) (fun K' hL => ?_) ?_ ?_ ?_); (conv => whnf); (refine hL _ ?_; clear hL); all_goals simp)
  · have e : doA d a = sendA d a.n := by rw [doA, if_neg g1, if_neg g2, if_neg g3, if_neg g4]
    rw [e]
    ((first | refine w_retO Tryz.tab [] (by rfl) (by simp) (by simp) (fun K' hL => ?_) ?_ ?_ ?_ | refine w_retO_end Tryz.tab [] (by rfl) (by simp) (by simp) (fun K' hL => ?_) ?_ ?_ ?_); (conv => whnf); (refine hL _ ?_; clear hL); all_goals simp)
abbrev dsT (r : Ds × Int) : AV := .tup [.agg (tkC r.1.t), .agg (vwC r.1.v), pkts r.1.l, I r.2]
set_option maxHeartbeats 4000000 in
theorem c_deskRaw (t : Tk) (v : Vw) (a : Ac) (ht : RightT t) (hv : OkV v) (hs : a.text.size ≤ 1000000000000000) : PSpec Tryz.prog 37 [.agg (tkC t), .agg (vwC v), .agg (acC a)] (dsT (actR t v a)) := by
  have ho := c_trackOwn t ht
  have hd := c_ddo ⟨v, t, []⟩ a ht hv (by simp) hs
  have hf := c_form a
  refine p_pspec Tryz.func37 Tryz.ntmps37 Tryz.results37 ?_
  repeat' (first
 | ((with_reducible apply w_ownCell 176 13 66 6); (case hb => rfl); (case hj => rfl); (case hsz => decide); (case hm => (try simp only [Nat.reduceAdd, Nat.reduceMul]); exact rfl))
 | (with_reducible first | apply qz0 | (refine h0 _ _ ?_; clear h0 hw) | (refine hw _ _ _ ?_; clear h0 hw) | apply qz1 | apply qz2 | apply qz5 | apply qz6 | (refine hL _ ?_; clear hL))
 | refine p_reg fun K1 hK => ?_ | refine p_regE fun K1 hK => ?_
 | refine p_dreg Tryz.mix fun K1 hK => ?_
 | apply go_seq
 | ((first | refine p_op Tryz.tab fun K' h0 hw => ?_ | refine p_op0 Tryz.tab fun K' h0 hw => ?_ | refine p_dop Tryz.tab fun K' h0 hw => ?_ | refine p_dop0 Tryz.tab fun K' h0 hw => ?_); conv => whnf)
 | (refine p_nil (hK _ ?_); clear hK)
 | (refine d_nil (p_obj ?_ (hK _ _ _ _)); clear hK)
 | (refine p_call own42 (ho) ?_; conv => whnf)
 | (refine p_call own65 (hf) ?_; conv => whnf)
 | ((with_reducible refine callV_id (f := 66) ?_); (with_reducible apply w_callO [176, 208] own66 (hd)); (case hx => rfl); (case he => rfl); (case hle => first | ((repeat constructor); done) ); (case hm => rfl); (case hnd => decide); (case' hK => conv => whnf); (any_goals (simp; done)))
 | ((with_reducible apply go_cond); (case hb => rfl))
 | ((with_reducible first | refine w_ret Tryz.tab fun K' hL => ?_ ); (conv => whnf))
 | ((with_reducible apply And.intro); (case' right => try (conv => whnf)); (case' left => try first | rfl | decide | (simp; done) ))
 | (first | (guard_hyp g2; intro g3; try simp at g3) | (guard_hyp g1; intro g2; try simp at g2) | intro g1; try simp at g1))
  · rw [actR, if_pos g1, if_neg g2]; simp [ds0, tk0, st0, vw0, cu0, ou0]
  · rw [actR, if_pos g1, if_pos g2]; simp [g2]
  · rw [actR, if_neg g1]; simp [ds0, tk0, st0, vw0, cu0, ou0]
  · exact absurd g2 g1
set_option maxHeartbeats 2000000 in
theorem c_deskDo (t : Tk) (v : Vw) (a : Ac) (ht : FitsT t) (hs : a.text.size ≤ 1000000000000000) : PSpec Tryz.prog 10 [.agg (tkC t), .agg (vwC v), .agg (acC a)] (dsT (actS t v a)) := by
  have q1 := c_trackCheck t ht
  have q2 := c_viewer v
  by_cases h : actE t v = 0
  · have h1 : trackE t = 0 ∧ viewerE v = 0 := by
      unfold actE at h
      by_cases c : trackE t = 0
      · rw [if_pos c] at h; exact ⟨c, h⟩
      · rw [if_neg c] at h; exact absurd h c
    have hr := c_deskRaw t v a (trackE_ok h1.1) (viewerE_ok h1.2) hs
    rw [show actS t v a = actR t v a from if_pos h]
    refine p_pspec Tryz.func10 Tryz.ntmps10 Tryz.results10 ?_
    repeat' (first
 | (with_reducible first | apply qz0 | (refine h0 _ _ ?_; clear h0 hw) | (refine hw _ _ _ ?_; clear h0 hw) | apply qz1 | apply qz2 | apply qz5 | apply qz6 | (refine hL _ ?_; clear hL))
 | refine p_reg fun K1 hK => ?_ | refine p_regE fun K1 hK => ?_
 | apply go_seq
 | ((first | refine p_op Tryz.tab fun K' h0 hw => ?_ | refine p_op0 Tryz.tab fun K' h0 hw => ?_); conv => whnf)
 | (refine p_nil (hK _ ?_); clear hK)
 | (refine p_call own21 (q1) ?_; conv => whnf)
 | (refine p_call own36 (q2) ?_; conv => whnf)
 | (refine p_call own37 (hr) ?_; conv => whnf)
 | ((with_reducible apply go_cond); (case hb => rfl))
 | ((with_reducible first | refine w_ret Tryz.tab fun K' hL => ?_ ); (conv => whnf))
 | ((with_reducible apply And.intro); (case' right => try (conv => whnf)); (case' left => try first | rfl | decide | (simp; done) ))
 | (first | (guard_hyp g2; intro g3; try simp at g3) | (guard_hyp g1; intro g2; try simp at g2) | intro g1; try simp at g1))
    all_goals first | exact absurd h1.2 g2 | exact absurd h1.1 g1 | exact absurd g2 g1 | (simp; done)
  · rw [show actS t v a = (ds0, actE t v) from if_neg h]
    refine p_pspec Tryz.func10 Tryz.ntmps10 Tryz.results10 ?_
    repeat' (first
 | (with_reducible first | apply qz0 | (refine h0 _ _ ?_; clear h0 hw) | (refine hw _ _ _ ?_; clear h0 hw) | apply qz1 | apply qz2 | apply qz5 | apply qz6 | (refine hL _ ?_; clear hL))
 | refine p_reg fun K1 hK => ?_ | refine p_regE fun K1 hK => ?_
 | apply go_seq
 | ((first | refine p_op Tryz.tab fun K' h0 hw => ?_ | refine p_op0 Tryz.tab fun K' h0 hw => ?_); conv => whnf)
 | (refine p_nil (hK _ ?_); clear hK)
 | (refine p_call own21 (q1) ?_; conv => whnf)
 | (refine p_call own36 (q2) ?_; conv => whnf)
 | ((with_reducible apply go_cond); (case hb => rfl))
 | ((with_reducible first | refine w_ret Tryz.tab fun K' hL => ?_ ); (conv => whnf))
 | ((with_reducible apply And.intro); (case' right => try (conv => whnf)); (case' left => try first | rfl | decide | (simp; done) ))
 | (first | (guard_hyp g2; intro g3; try simp at g3) | (guard_hyp g1; intro g2; try simp at g2) | intro g1; try simp at g1))
    all_goals first
      | exact absurd (show actE t v = 0 by rw [actE, if_pos g1]; exact g2) h
      | exact absurd g2 g1
      | (rw [show actE t v = viewerE v from if_pos g1]; simp [ds0, tk0, st0, vw0, cu0, ou0]; done)
      | (rw [show actE t v = trackE t from if_neg g1]; simp [ds0, tk0, st0, vw0, cu0, ou0]; done)
end Go.Proofs.YtokkencbpmjdaaaGreat

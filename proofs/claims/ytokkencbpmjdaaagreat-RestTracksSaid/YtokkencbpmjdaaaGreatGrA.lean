/- Walks of package group. CONDITIONS: slices fit into memory. -/
import Derived.Test.YtokkencbpmjdaaaGreatDa
section
namespace Go.Proofs.YtokkencbpmjdaaaGreat
open Go Go.Sy
set_option maxRecDepth 4000
set_option linter.unusedSimpArgs false
set_option linter.unusedVariables false
attribute [local irreducible] Reg RegD Later Out CallV Tri Side EqV Pause
theorem p_cloneStr (l : List ByteArray) (hl : l.length ≤ 8796093022208) : PSpec Tryz.prog 138 [strs l] (strs l) :=
  pspec_of_cspec (c_cloneStr l hl) (.osl _ _ _) (.sl _ _)
set_option maxHeartbeats 400000 in
theorem c_frameOwn (f : Fr) (hl : f.parts.length ≤ 8796093022208) : PSpec Tryz.prog 127 [.agg (frC f)] (.agg (frC f)) := by
  refine p_pspec Tryz.func127 Tryz.ntmps127 Tryz.results127 ?_
  repeat' (first
 | (with_reducible first | apply qz0 | (refine h0 _ _ ?_; clear h0 hw) | (refine hw _ _ _ ?_; clear h0 hw) | apply qz1 | (refine hL _ ?_; clear hL))
 | refine p_reg fun K1 hK => ?_
 | ((first | refine p_op Tryz.tab fun K' h0 hw => ?_ | refine p_op0 Tryz.tab fun K' h0 hw => ?_); conv => whnf)
 | (refine p_nil (hK _ ?_); clear hK)
 | (refine p_call own138 (p_cloneStr _ hl) ?_; conv => whnf)
 | ((with_reducible first | refine w_ret Tryz.tab fun K' hL => ?_ ); (conv => whnf))
 | ((with_reducible apply And.intro); (case' right => try (conv => whnf)); (case' left => try first | rfl | decide | (simp; done) ))
 )
  all_goals simp
def lastT (g : List Fr) : Int := ((g[g.length - 1]?).map (·.time)).getD 0
def growS (g : List Fr) (f : Fr) : List Fr := if f.key = true then [f] else if 0 < g.length ∧ g.length < 6 ∧ lastT g ≤ f.time then g ++ [f] else g
def doneS (g : List Fr) (done : List (List Fr)) (f : Fr) : List (List Fr) := if f.key = true ∧ 0 < g.length then done ++ [g] else done
theorem last_at {g : List Fr} {x : Fr} (hl : g.length ≤ 1000000000000) (h0 : 0 < g.length) (h : g[(IntKind.i64.wrap ((g.length : Int) - 1)).toNat]? = some x) : lastT g = x.time := by
  rw [wrp (by omega) (by omega), show ((g.length : Int) - 1).toNat = g.length - 1 by omega] at h
  simp [lastT, h]
def makB (p q : Nat) (g : List Fr) (done : List (List Fr)) : Ob := .box [.osl p 3 (rowF g), .osl q 1 (rowG done)]
set_option maxHeartbeats 1000000 in
theorem c_addKey (g : List Fr) (done : List (List Fr)) (f : Fr) (hk : f.key = true) (hl : f.parts.length ≤ 8796093022208) (hd : done.length ≤ 1000000000000) :
    CSpec Tryz.prog 110 [.ptr 0 0, .agg (frC f)] [makB 1 2 g done, .perm 84 3 g.length, .perm 30 1 done.length] (.tup [])
      [makB 3 2 (growS g f) (doneS g done f), .perm 84 3 g.length, .perm 30 1 (doneS g done f).length, .perm 84 3 1] := by
  have h1 : growS g f = [f] := if_pos hk
  obtain ⟨t, k, ps⟩ := f
  simp only at hk
  subst hk
  rw [h1]
  refine v_cspec Tryz.func110 rfl Tryz.ntmps110 Tryz.results110 (by simp) (k := 3) rfl ?_
  repeat' (first
 | (with_reducible first | apply qz0 | (refine h0 _ _ ?_; clear h0 hw) | (refine hw _ _ _ ?_; clear h0 hw) | apply qz2 | apply qz3 | apply qz6 | apply qz9 )
 | refine p_reg fun K1 hK => ?_ | refine p_regE fun K1 hK => ?_
 | refine p_dregE Tryz.mix fun K1 hK => ?_
 | apply go_seq
 | ((first | refine p_op Tryz.tab fun K' h0 hw => ?_ | refine p_op0 Tryz.tab fun K' h0 hw => ?_ | refine p_dop Tryz.tab fun K' h0 hw => ?_ | refine p_dop0 Tryz.tab fun K' h0 hw => ?_); conv => whnf)
 | (refine p_nil (hK _ ?_); clear hK)
 | (refine d_nil (p_obj ?_ (hK _ _ _ _)); clear hK)
 | ((with_reducible refine callV_id (f := 127) ?_); have hcs_ := c_frameOwn ⟨t, true, ps⟩ hl; (with_reducible apply callV_f own127 (hcs_)); (case hx => rfl); (case he => rfl); (case hle => first | ((repeat constructor); done) ); (case hpu => repeat constructor); (case' hK => (try clear hcs_); conv => whnf))
 | ((with_reducible apply go_cond); (case hb => rfl))
 | ((with_reducible apply And.intro); (case' right => try (conv => whnf)); (case' left => try first | rfl | decide | (simp [makB]; done) ))
 | exact p_side
 | (first  | intro g1; try simp at g1))
  all_goals (first | (((first | refine w_retO Tryz.tab [3] (by rfl) (by simp) (by simp) (fun K' hL => ?_) ?_ ?_ ?_ | refine w_retO_end Tryz.tab [3] (by rfl) (by simp) (by simp) (fun K' hL => ?_) ?_ ?_ ?_); (conv => whnf); (refine hL _ ?_; clear hL); all_goals simp [makB, doneS, *]); done) | (((first | refine w_retO Tryz.tab [19] (by rfl) (by simp) (by simp) (fun K' hL => ?_) ?_ ?_ ?_ | refine w_retO_end Tryz.tab [19] (by rfl) (by simp) (by simp) (fun K' hL => ?_) ?_ ?_ ?_); (conv => whnf); (refine hL _ ?_; clear hL); all_goals simp [makB, doneS, *]); done) | (((first | refine w_retO Tryz.tab [35] (by rfl) (by simp) (by simp) (fun K' hL => ?_) ?_ ?_ ?_ | refine w_retO_end Tryz.tab [35] (by rfl) (by simp) (by simp) (fun K' hL => ?_) ?_ ?_ ?_); (conv => whnf); (refine hL _ ?_; clear hL); all_goals simp [makB, doneS, *]); done) | (((first | refine w_retO Tryz.tab [51] (by rfl) (by simp) (by simp) (fun K' hL => ?_) ?_ ?_ ?_ | refine w_retO_end Tryz.tab [51] (by rfl) (by simp) (by simp) (fun K' hL => ?_) ?_ ?_ ?_); (conv => whnf); (refine hL _ ?_; clear hL); all_goals simp [makB, doneS, *]); done) | (((first | refine w_retO Tryz.tab [67] (by rfl) (by simp) (by simp) (fun K' hL => ?_) ?_ ?_ ?_ | refine w_retO_end Tryz.tab [67] (by rfl) (by simp) (by simp) (fun K' hL => ?_) ?_ ?_ ?_); (conv => whnf); (refine hL _ ?_; clear hL); all_goals simp [makB, doneS, *]); done) | (((first | refine w_retO Tryz.tab [83] (by rfl) (by simp) (by simp) (fun K' hL => ?_) ?_ ?_ ?_ | refine w_retO_end Tryz.tab [83] (by rfl) (by simp) (by simp) (fun K' hL => ?_) ?_ ?_ ?_); (conv => whnf); (refine hL _ ?_; clear hL); all_goals simp [makB, doneS, *]); done) | (((first | refine w_retO Tryz.tab [99] (by rfl) (by simp) (by simp) (fun K' hL => ?_) ?_ ?_ ?_ | refine w_retO_end Tryz.tab [99] (by rfl) (by simp) (by simp) (fun K' hL => ?_) ?_ ?_ ?_); (conv => whnf); (refine hL _ ?_; clear hL); all_goals simp [makB, doneS, *]); done) | (((first | refine w_retO Tryz.tab [115] (by rfl) (by simp) (by simp) (fun K' hL => ?_) ?_ ?_ ?_ | refine w_retO_end Tryz.tab [115] (by rfl) (by simp) (by simp) (fun K' hL => ?_) ?_ ?_ ?_); (conv => whnf); (refine hL _ ?_; clear hL); all_goals simp [makB, doneS, *]); done) | (((first | refine w_retO Tryz.tab [131] (by rfl) (by simp) (by simp) (fun K' hL => ?_) ?_ ?_ ?_ | refine w_retO_end Tryz.tab [131] (by rfl) (by simp) (by simp) (fun K' hL => ?_) ?_ ?_ ?_); (conv => whnf); (refine hL _ ?_; clear hL); all_goals simp [makB, doneS, *]); done) | (((first | refine w_retO Tryz.tab [147] (by rfl) (by simp) (by simp) (fun K' hL => ?_) ?_ ?_ ?_ | refine w_retO_end Tryz.tab [147] (by rfl) (by simp) (by simp) (fun K' hL => ?_) ?_ ?_ ?_); (conv => whnf); (refine hL _ ?_; clear hL); all_goals simp [makB, doneS, *]); done) | (((first | refine w_retO Tryz.tab [163] (by rfl) (by simp) (by simp) (fun K' hL => ?_) ?_ ?_ ?_ | refine w_retO_end Tryz.tab [163] (by rfl) (by simp) (by simp) (fun K' hL => ?_) ?_ ?_ ?_); (conv => whnf); (refine hL _ ?_; clear hL); all_goals simp [makB, doneS, *]); done) | (((first | refine w_retO Tryz.tab [179] (by rfl) (by simp) (by simp) (fun K' hL => ?_) ?_ ?_ ?_ | refine w_retO_end Tryz.tab [179] (by rfl) (by simp) (by simp) (fun K' hL => ?_) ?_ ?_ ?_); (conv => whnf); (refine hL _ ?_; clear hL); all_goals simp [makB, doneS, *]); done) | (((first | refine w_retO Tryz.tab [195] (by rfl) (by simp) (by simp) (fun K' hL => ?_) ?_ ?_ ?_ | refine w_retO_end Tryz.tab [195] (by rfl) (by simp) (by simp) (fun K' hL => ?_) ?_ ?_ ?_); (conv => whnf); (refine hL _ ?_; clear hL); all_goals simp [makB, doneS, *]); done) | (((first | refine w_retO Tryz.tab [211] (by rfl) (by simp) (by simp) (fun K' hL => ?_) ?_ ?_ ?_ | refine w_retO_end Tryz.tab [211] (by rfl) (by simp) (by simp) (fun K' hL => ?_) ?_ ?_ ?_); (conv => whnf); (refine hL _ ?_; clear hL); all_goals simp [makB, doneS, *]); done) | (((first | refine w_retO Tryz.tab [227] (by rfl) (by simp) (by simp) (fun K' hL => ?_) ?_ ?_ ?_ | refine w_retO_end Tryz.tab [227] (by rfl) (by simp) (by simp) (fun K' hL => ?_) ?_ ?_ ?_); (conv => whnf); (refine hL _ ?_; clear hL); all_goals simp [makB, doneS, *]); done) | (((first | refine w_retO Tryz.tab [243] (by rfl) (by simp) (by simp) (fun K' hL => ?_) ?_ ?_ ?_ | refine w_retO_end Tryz.tab [243] (by rfl) (by simp) (by simp) (fun K' hL => ?_) ?_ ?_ ?_); (conv => whnf); (refine hL _ ?_; clear hL); all_goals simp [makB, doneS, *]); done) | (((first | refine w_retO Tryz.tab [259] (by rfl) (by simp) (by simp) (fun K' hL => ?_) ?_ ?_ ?_ | refine w_retO_end Tryz.tab [259] (by rfl) (by simp) (by simp) (fun K' hL => ?_) ?_ ?_ ?_); (conv => whnf); (refine hL _ ?_; clear hL); all_goals simp [makB, doneS, *]); done) | (((first | refine w_retO Tryz.tab [275] (by rfl) (by simp) (by simp) (fun K' hL => ?_) ?_ ?_ ?_ | refine w_retO_end Tryz.tab [275] (by rfl) (by simp) (by simp) (fun K' hL => ?_) ?_ ?_ ?_); (conv => whnf); (refine hL _ ?_; clear hL); all_goals simp [makB, doneS, *]); done) | (((first | refine w_retO Tryz.tab [291] (by rfl) (by simp) (by simp) (fun K' hL => ?_) ?_ ?_ ?_ | refine w_retO_end Tryz.tab [291] (by rfl) (by simp) (by simp) (fun K' hL => ?_) ?_ ?_ ?_); (conv => whnf); (refine hL _ ?_; clear hL); all_goals simp [makB, doneS, *]); done) | (((first | refine w_retO Tryz.tab [307] (by rfl) (by simp) (by simp) (fun K' hL => ?_) ?_ ?_ ?_ | refine w_retO_end Tryz.tab [307] (by rfl) (by simp) (by simp) (fun K' hL => ?_) ?_ ?_ ?_); (conv => whnf); (refine hL _ ?_; clear hL); all_goals simp [makB, doneS, *]); done) | (((first | refine w_retO Tryz.tab [323] (by rfl) (by simp) (by simp) (fun K' hL => ?_) ?_ ?_ ?_ | refine w_retO_end Tryz.tab [323] (by rfl) (by simp) (by simp) (fun K' hL => ?_) ?_ ?_ ?_); (conv => whnf); (refine hL _ ?_; clear hL); all_goals simp [makB, doneS, *]); done) | (((first | refine w_retO Tryz.tab [339] (by rfl) (by simp) (by simp) (fun K' hL => ?_) ?_ ?_ ?_ | refine w_retO_end Tryz.tab [339] (by rfl) (by simp) (by simp) (fun K' hL => ?_) ?_ ?_ ?_); (conv => whnf); (refine hL _ ?_; clear hL); all_goals simp [makB, doneS, *]); done) | (((first | refine w_retO Tryz.tab [355] (by rfl) (by simp) (by simp) (fun K' hL => ?_) ?_ ?_ ?_ | refine w_retO_end Tryz.tab [355] (by rfl) (by simp) (by simp) (fun K' hL => ?_) ?_ ?_ ?_); (conv => whnf); (refine hL _ ?_; clear hL); all_goals simp [makB, doneS, *]); done) | (((first | refine w_retO Tryz.tab [371] (by rfl) (by simp) (by simp) (fun K' hL => ?_) ?_ ?_ ?_ | refine w_retO_end Tryz.tab [371] (by rfl) (by simp) (by simp) (fun K' hL => ?_) ?_ ?_ ?_); (conv => whnf); (refine hL _ ?_; clear hL); all_goals simp [makB, doneS, *]); done) | (((first | refine w_retO Tryz.tab [387] (by rfl) (by simp) (by simp) (fun K' hL => ?_) ?_ ?_ ?_ | refine w_retO_end Tryz.tab [387] (by rfl) (by simp) (by simp) (fun K' hL => ?_) ?_ ?_ ?_); (conv => whnf); (refine hL _ ?_; clear hL); all_goals simp [makB, doneS, *]); done) | (((first | refine w_retO Tryz.tab [403] (by rfl) (by simp) (by simp) (fun K' hL => ?_) ?_ ?_ ?_ | refine w_retO_end Tryz.tab [403] (by rfl) (by simp) (by simp) (fun K' hL => ?_) ?_ ?_ ?_); (conv => whnf); (refine hL _ ?_; clear hL); all_goals simp [makB, doneS, *]); done) | (((first | refine w_retO Tryz.tab [419] (by rfl) (by simp) (by simp) (fun K' hL => ?_) ?_ ?_ ?_ | refine w_retO_end Tryz.tab [419] (by rfl) (by simp) (by simp) (fun K' hL => ?_) ?_ ?_ ?_); (conv => whnf); (refine hL _ ?_; clear hL); all_goals simp [makB, doneS, *]); done) | (((first | refine w_retO Tryz.tab [435] (by rfl) (by simp) (by simp) (fun K' hL => ?_) ?_ ?_ ?_ | refine w_retO_end Tryz.tab [435] (by rfl) (by simp) (by simp) (fun K' hL => ?_) ?_ ?_ ?_); (conv => whnf); (refine hL _ ?_; clear hL); all_goals simp [makB, doneS, *]); done) | (((first | refine w_retO Tryz.tab [451] (by rfl) (by simp) (by simp) (fun K' hL => ?_) ?_ ?_ ?_ | refine w_retO_end Tryz.tab [451] (by rfl) (by simp) (by simp) (fun K' hL => ?_) ?_ ?_ ?_); (conv => whnf); (refine hL _ ?_; clear hL); all_goals simp [makB, doneS, *]); done) | (((first | refine w_retO Tryz.tab [467] (by rfl) (by simp) (by simp) (fun K' hL => ?_) ?_ ?_ ?_ | refine w_retO_end Tryz.tab [467] (by rfl) (by simp) (by simp) (fun K' hL => ?_) ?_ ?_ ?_); (conv => whnf); (refine hL _ ?_; clear hL); all_goals simp [makB, doneS, *]); done) | (((first | refine w_retO Tryz.tab [483] (by rfl) (by simp) (by simp) (fun K' hL => ?_) ?_ ?_ ?_ | refine w_retO_end Tryz.tab [483] (by rfl) (by simp) (by simp) (fun K' hL => ?_) ?_ ?_ ?_); (conv => whnf); (refine hL _ ?_; clear hL); all_goals simp [makB, doneS, *]); done) | (((first | refine w_retO Tryz.tab [499] (by rfl) (by simp) (by simp) (fun K' hL => ?_) ?_ ?_ ?_ | refine w_retO_end Tryz.tab [499] (by rfl) (by simp) (by simp) (fun K' hL => ?_) ?_ ?_ ?_); (conv => whnf); (refine hL _ ?_; clear hL); all_goals simp [makB, doneS, *]); done) | (((first | refine w_retO Tryz.tab [515] (by rfl) (by simp) (by simp) (fun K' hL => ?_) ?_ ?_ ?_ | refine w_retO_end Tryz.tab [515] (by rfl) (by simp) (by simp) (fun K' hL => ?_) ?_ ?_ ?_); (conv => whnf); (refine hL _ ?_; clear hL); all_goals simp [makB, doneS, *]); done) | (((first | refine w_retO Tryz.tab [531] (by rfl) (by simp) (by simp) (fun K' hL => ?_) ?_ ?_ ?_ | refine w_retO_end Tryz.tab [531] (by rfl) (by simp) (by simp) (fun K' hL => ?_) ?_ ?_ ?_); (conv => whnf); (refine hL _ ?_; clear hL); all_goals simp [makB, doneS, *]); done) | (((first | refine w_retO Tryz.tab [547] (by rfl) (by simp) (by simp) (fun K' hL => ?_) ?_ ?_ ?_ | refine w_retO_end Tryz.tab [547] (by rfl) (by simp) (by simp) (fun K' hL => ?_) ?_ ?_ ?_); (conv => whnf); (refine hL _ ?_; clear hL); all_goals simp [makB, doneS, *]); done) | (((first | refine w_retO Tryz.tab [563] (by rfl) (by simp) (by simp) (fun K' hL => ?_) ?_ ?_ ?_ | refine w_retO_end Tryz.tab [563] (by rfl) (by simp) (by simp) (fun K' hL => ?_) ?_ ?_ ?_); (conv => whnf); (refine hL _ ?_; clear hL); all_goals simp [makB, doneS, *]); done) | (((first | refine w_retO Tryz.tab [579] (by rfl) (by simp) (by simp) (fun K' hL => ?_) ?_ ?_ ?_ | refine w_retO_end Tryz.tab [579] (by rfl) (by simp) (by simp) (fun K' hL => ?_) ?_ ?_ ?_); (conv => whnf); (refine hL _ ?_; clear hL); all_goals simp [makB, doneS, *]); done) | (((first | refine w_retO Tryz.tab [595] (by rfl) (by simp) (by simp) (fun K' hL => ?_) ?_ ?_ ?_ | refine w_retO_end Tryz.tab [595] (by rfl) (by simp) (by simp) (fun K' hL => ?_) ?_ ?_ ?_); (conv => whnf); (refine hL _ ?_; clear hL); all_goals simp [makB, doneS, *]); done))
set_option maxHeartbeats 1000000 in
theorem c_addElse (g : List Fr) (done : List (List Fr)) (f : Fr) (hk : f.key = false) (hl : f.parts.length ≤ 8796093022208) (hd : g.length ≤ 1000000000000) :
    CSpec Tryz.prog 110 [.ptr 0 0, .agg (frC f)] [makB 1 2 g done, .perm 84 3 g.length, .perm 30 1 done.length] (.tup [])
      [makB 1 2 (growS g f) (doneS g done f), .perm 84 3 (growS g f).length, .perm 30 1 (doneS g done f).length] := by
  have h2 : doneS g done f = done := if_neg (by simp [hk])
  rw [h2]
  obtain ⟨t, k, ps⟩ := f
  simp only at hk
  subst hk
  have e1 := wrp (n := (g.length : Int) - 1) (by omega) (by omega)
  refine v_cspec Tryz.func110 rfl Tryz.ntmps110 Tryz.results110 (by simp) (k := 3) rfl ?_
  repeat' (first
 | (with_reducible first | apply qz0 | (refine h0 _ _ ?_; clear h0 hw) | (refine hw _ _ _ ?_; clear h0 hw) | apply qz2 | apply qz3 | apply qz9 )
 | refine p_reg fun K1 hK => ?_
 | refine p_dreg Tryz.mix fun K1 hK => ?_ | refine p_dregE Tryz.mix fun K1 hK => ?_
 | ((first | refine p_op Tryz.tab fun K' h0 hw => ?_ | refine p_dop Tryz.tab fun K' h0 hw => ?_ | refine p_dop0 Tryz.tab fun K' h0 hw => ?_); conv => whnf)
 | (refine p_nil (hK _ ?_); clear hK)
 | (refine d_nil (p_obj ?_ (hK _ _ _ _)); clear hK)
 | (first | refine d_grd_yes (by rfl) (by rfl) ?_ )
 | ((first | (apply d_grd_no; (case hg => rfl); (case hb => rfl)) | (apply d_grd; (case hg => rfl); (case hb => rfl)) ); (case hi => (simp only [Nat.reduceAdd, Nat.reduceMul]; rfl)))
 | ((with_reducible refine callV_id (f := 127) ?_); have hcs_ := c_frameOwn ⟨t, false, ps⟩ hl; (with_reducible apply callV_f own127 (hcs_)); (case hx => rfl); (case he => rfl); (case hle => first | ((repeat constructor); done) ); (case hpu => repeat constructor); (case' hK => (try clear hcs_); conv => whnf))
 | ((with_reducible apply go_cond); (case hb => rfl))
 | ((with_reducible apply And.intro); (case' right => try (conv => whnf)); (case' left => try first | rfl | decide | (simp [makB]; done) ))
 | exact p_side
 | ((with_reducible refine all_row ?_); (first | intro x1 hx1); conv => whnf)
 | (first | (guard_hyp g4; intro g5; try simp at g5) | (guard_hyp g3; intro g4; try simp at g4) | (guard_hyp g2; intro g3; try simp at g3) | (guard_hyp g1; intro g2; try simp at g2) | intro g1; try simp at g1))
  · have hl := last_at hd g2 (by simpa using hx1)
    have hv : growS g ⟨t, false, ps⟩ = g ++ [⟨t, false, ps⟩] := by unfold growS; rw [if_neg (by simp), if_pos ⟨g2, by omega, by rw [hl]; exact g4⟩]
    rw [hv]
    ((first | refine w_retO Tryz.tab [] (by rfl) (by simp) (by simp) (fun K' hL => ?_) ?_ ?_ ?_ | refine w_retO_end Tryz.tab [] (by rfl) (by simp) (by simp) (fun K' hL => ?_) ?_ ?_ ?_); (conv => whnf); (refine hL _ ?_; clear hL); all_goals simp [makB])
  · have hl := last_at hd g2 (by simpa using hx1)
    have hv : growS g ⟨t, false, ps⟩ = g := by unfold growS; rw [if_neg (by simp), if_neg (by rw [hl]; simp; omega)]
    rw [hv]
    ((first | refine w_retO Tryz.tab [] (by rfl) (by simp) (by simp) (fun K' hL => ?_) ?_ ?_ ?_ | refine w_retO_end Tryz.tab [] (by rfl) (by simp) (by simp) (fun K' hL => ?_) ?_ ?_ ?_); (conv => whnf); (refine hL _ ?_; clear hL); all_goals simp [makB])
  · have hv : growS g ⟨t, false, ps⟩ = g := by unfold growS; rw [if_neg (by simp), if_neg (by omega)]
    rw [hv]
    ((first | refine w_retO Tryz.tab [] (by rfl) (by simp) (by simp) (fun K' hL => ?_) ?_ ?_ ?_ | refine w_retO_end Tryz.tab [] (by rfl) (by simp) (by simp) (fun K' hL => ?_) ?_ ?_ ?_); (conv => whnf); (refine hL _ ?_; clear hL); all_goals simp [makB])
  · have hv : growS g ⟨t, false, ps⟩ = g := by unfold growS; rw [if_neg (by simp), if_neg (by simp [g2])]
    rw [hv]
    ((first | refine w_retO Tryz.tab [] (by rfl) (by simp) (by simp) (fun K' hL => ?_) ?_ ?_ ?_ | refine w_retO_end Tryz.tab [] (by rfl) (by simp) (by simp) (fun K' hL => ?_) ?_ ?_ ?_); (conv => whnf); (refine hL _ ?_; clear hL); all_goals simp [makB])
theorem doneS_len (g : List Fr) (done : List (List Fr)) (f : Fr) : (doneS g done f).length ≤ done.length + 1 := by
  unfold doneS; split <;> simp
structure EG where
  fl : Bool
  i : Nat
  g : List Fr
  done : List (List Fr)
  n1 : Nat
end Go.Proofs.YtokkencbpmjdaaaGreat
end
section
namespace Go.Proofs.YtokkencbpmjdaaaGreat
open Go Go.Sy
set_option maxRecDepth 4000
set_option linter.unusedSimpArgs false
set_option linter.unusedVariables false
attribute [local irreducible] Reg RegD Later Out CallV Tri Side EqV Pause
def Fits (l : List Fr) : Prop := l.length ≤ 4000000000000 ∧ ∀ f ∈ l, f.parts.length ≤ 8796093022208
theorem Fits.at {l : List Fr} (h : Fits l) {i : Nat} {x : Fr} (hx : l[i]? = some x) : x.parts.length ≤ 8796093022208 := h.2 _ (List.mem_of_getElem? hx)
def badG (p : Option Fr) (f : Fr) : Bool := match p with
  | none => !f.key
  | some q => f.key || decide (f.time < q.time)
def goE : Option Fr → List Fr → Int
  | _, [] => 0
  | p, f :: l => if frameE f ≠ 0 then frameE f else if badG p f = true then 4 else goE (some f) l
def groupE (g : List Fr) : Int := if g = [] then 5 else if 6 < g.length then 2 else goE none g
def prevAt (g : List Fr) (i : Nat) : Option Fr := if i = 0 then none else g[i - 1]?
theorem prevAt_succ {g : List Fr} {i : Nat} {x : Fr} (h : g[i]? = some x) : prevAt g (i + 1) = some x := by simp [prevAt, h]
theorem pre_at {g : List Fr} {i : Nat} {x : Fr} (h0 : 0 < i) (hi : i ≤ 4000000000000) (h : g[(IntKind.i64.wrap ((i : Int) - 1)).toNat]? = some x) : prevAt g i = some x := by
  rw [wrp (by omega) (by omega), show ((i : Int) - 1).toNat = i - 1 by omega] at h
  rw [prevAt, if_neg (by omega), h]
theorem groupE_big {g : List Fr} (h : g ≠ []) (h6 : 6 < g.length) : groupE g = 2 := by rw [groupE, if_neg h, if_pos h6]
theorem groupE_go {g : List Fr} (h : g ≠ []) (h6 : g.length ≤ 6) : groupE g = goE none g := by rw [groupE, if_neg h, if_neg (by omega)]
section
variable {g : List Fr} {i : Nat} {x : Fr}
theorem goE_end (h : goE (prevAt g i) (g.drop i) = goE none g) (hi : g.length ≤ i) : goE none g = 0 := by rw [← h, List.drop_eq_nil_of_le hi]; rfl
theorem goE_bad (h : goE (prevAt g i) (g.drop i) = goE none g) (hx : g[i]? = some x) (hf : ¬ frameE x = 0) : goE none g = frameE x := by rw [← h, drop_at hx, goE, if_pos hf]
theorem goE_four (h : goE (prevAt g i) (g.drop i) = goE none g) (hx : g[i]? = some x) (hf : frameE x = 0) (hb : badG (prevAt g i) x = true) : goE none g = 4 := by rw [← h, drop_at hx, goE, if_neg (by simp [hf]), if_pos hb]
theorem goE_next (h : goE (prevAt g i) (g.drop i) = goE none g) (hx : g[i]? = some x) (hf : frameE x = 0) (hb : badG (prevAt g i) x = false) : goE (prevAt g (i + 1)) (g.drop (i + 1)) = goE none g := by
  rw [← h, drop_at hx, goE, if_neg (by simp [hf]), if_neg (by simp [hb]), prevAt_succ hx]
theorem bad_zero (h : i = 0) : badG (prevAt g i) x = !x.key := by rw [prevAt, if_pos h]; rfl
theorem bad_key (h : ¬ i = 0) (hi : i < g.length) (hk : x.key = true) : badG (prevAt g i) x = true := by
  obtain ⟨y, hy⟩ : ∃ y, g[i - 1]? = some y := ⟨g[i - 1]'(by omega), by simp⟩
  rw [prevAt, if_neg h, hy]; simp [badG, hk]
theorem bad_time {y : Fr} (h0 : ¬ i = 0) (hl : g.length ≤ 4000000000000) (hi : i < g.length) (hk : x.key = false) (h : g[(IntKind.i64.wrap ((i : Int) - 1)).toNat]? = some y) : badG (prevAt g i) x = decide (x.time < y.time) := by
  rw [pre_at (by omega) (by omega) h]; simp [badG, hk]
end
set_option maxHeartbeats 1000000 in
theorem c_groupCheck (g : List Fr) (hl : Fits g) : PSpec Tryz.prog 82 [.agg (grC g)] (I (groupE g)) := by
  refine p_pspec Tryz.func82 Tryz.ntmps82 Tryz.results82 ?_
  have hl1 := hl.1
  repeat' (first
 | (with_reducible first | apply qz0 | (refine h0 _ _ ?_; clear h0 hw) | (refine hw _ _ _ ?_; clear h0 hw) | apply qz1 | apply qz2 | apply qz3 | apply qz5 | apply qz6 | apply qz8 | apply qz9 | (refine hL _ ?_; clear hL))
 | refine p_reg fun K1 hK => ?_
 | apply go_seq
 | (refine p_op Tryz.tab fun K' h0 hw => ?_; conv => whnf)
 | (refine p_nil (hK _ ?_); clear hK)
 | ((with_reducible apply go_cond); (case hb => rfl))
 | ((with_reducible first | refine w_ret Tryz.tab fun K' hL => ?_ ); (conv => whnf))
 | ((with_reducible apply And.intro); (case' right => try (conv => whnf)); (case' left => try first | rfl | decide | (simp; done) ))
 | (first | (guard_hyp g7; intro g8; try simp at g8) | (guard_hyp g6; intro g7; try simp at g7) | (guard_hyp g5; intro g6; try simp at g6) | (guard_hyp g4; intro g5; try simp at g5) | (guard_hyp g3; intro g4; try simp at g4) | (guard_hyp g2; intro g3; try simp at g3) | (guard_hyp g1; intro g2; try simp at g2) | intro g1; try simp at g1))
  · simp [groupE, g1]
  · simp [groupE_big g1 (by omega)]
  refine w_loop (X := Nat) [2, 4, 5, 6, 19, 20, 21, 22, 23, 24, 25, 26, 27, 28, 29, 30, 31, 32, 33, 34, 35, 36, 37, 38, 39, 40, 41, 42, 43, 44, 45, 46, 47, 48, 49, 50] (fun i => [(19, I i)]) (fun _ => []) (fun i => i ≤ g.length ∧ goE (prevAt g i) (g.drop i) = goE none g) (fun i => g.length - i) 0 (by simp [prevAt]) ?_ ?_
  · refine ⟨kt_refl, ko_refl, ?_, ?_, ?_, ?_, Nat.le_refl _⟩ <;> simp
  rintro i ⟨h1, h2⟩
  have hgo := groupE_go g1 (by omega)
  repeat' (first
 | (with_reducible first | apply qz0 | (refine h0 _ _ ?_; clear h0 hw) | (refine hw _ _ _ ?_; clear h0 hw) | apply qz1 | apply qz2 | apply qz3 | apply qz4 | apply qz5 | apply qz6 | apply qz7 | apply qz8 | apply qz9 | apply qza | apply qzb | apply qzc | (refine hL _ ?_; clear hL))
 | refine p_reg fun K1 hK => ?_ | refine p_regE fun K1 hK => ?_
 | refine p_dreg Tryz.mix fun K1 hK => ?_
 | apply go_seq
 | ((first | refine p_op Tryz.tab fun K' h0 hw => ?_ | refine p_op0 Tryz.tab fun K' h0 hw => ?_ | refine p_dop Tryz.tab fun K' h0 hw => ?_); conv => whnf)
 | (refine p_nil (hK _ ?_); clear hK)
 | (refine d_nil (p_obj ?_ (hK _ _ _ _)); clear hK)
 | (first | refine d_grd_yes (by rfl) (by rfl) ?_ )
 | ((first | (apply d_grd_no; (case hg => rfl); (case hb => rfl)) | (apply d_grd_undef; (case hg => rfl); (case hb => rfl)) | (apply d_grd; (case hg => rfl); (case hb => rfl)) ); (case hi => (simp only [Nat.reduceAdd, Nat.reduceMul]; rfl)))
 | ((with_reducible refine callV_id (f := 114) ?_); have hcs_ := c_frameCheck x1 (Nat.le_trans (hl.at (by simpa using hx1)) (by decide)); (with_reducible apply callV_f own114 (hcs_)); (case hx => rfl); (case he => rfl); (case hle => first | ((repeat constructor); done) ); (case hpu => repeat constructor); (case' hK => (try clear hcs_); conv => whnf))
 | ((with_reducible apply go_cond); (case hb => rfl))
 | ((with_reducible first | refine w_ret Tryz.tab fun K' hL => ?_ ); (conv => whnf))
 | ((with_reducible apply And.intro); (case' right => try (conv => whnf)); (case' left => try first | rfl | decide | (simp; done) ))
 | exact p_side
 | ((with_reducible refine all_row ?_); (first | (guard_hyp hx1; intro x2 hx2) | intro x1 hx1); conv => whnf)
 | (first | (guard_hyp g7; intro g8; try simp at g8) | (guard_hyp g6; intro g7; try simp at g7) | (guard_hyp g5; intro g6; try simp at g6) | (guard_hyp g4; intro g5; try simp at g5) | (guard_hyp g3; intro g4; try simp at g4) | (guard_hyp g2; intro g3; try simp at g3) | (guard_hyp g1; intro g2; try simp at g2) | intro g1; try simp at g1))
  · simp at hx1; simp [hgo, goE_bad h2 hx1 g4]
  · simp at hx1; simp [hgo, goE_four h2 hx1 g4 (by rw [pre_at g6 (by omega) hx2]; simp [badG, g7])]
  · simp at hx1
    (refine p_nx ((i + 1)) ?_; (try simp only); (try exact trivial))
    exact ⟨by omega, goE_next h2 hx1 g4 (by rw [pre_at g6 (by omega) hx2]; simp [badG, g5]; omega)⟩
  · simp at hx1
    (refine p_nx ((i + 1)) ?_; (try simp only); (try exact trivial))
    exact ⟨by omega, goE_next h2 hx1 g4 (by rw [prevAt, if_pos g6]; simp [badG, g5, g6])⟩
  · simp at hx1
    have hb : badG (prevAt g i) x1 = true := by
      unfold prevAt; split
      · rename_i q; simp [q] at g5; simp [badG, g5]
      · rename_i q
        obtain ⟨y, hy⟩ : ∃ y, g[i - 1]? = some y := ⟨g[i - 1]'(by omega), by simp⟩
        simp [q] at g5; simp [hy, badG, g5]
    simp [hgo, goE_four h2 hx1 g4 hb]
  · simp [hgo, goE_end h2 g3]
set_option maxHeartbeats 1000000 in
theorem c_checkGroup (g : List Fr) (hl : Fits g) : PSpec Tryz.prog 56 [.agg (grC g)] (I (groupE g)) := by
  refine p_pspec Tryz.func56 Tryz.ntmps56 Tryz.results56 ?_
  have hl1 := hl.1
  repeat' (first
 | (with_reducible first | apply qz0 | (refine h0 _ _ ?_; clear h0 hw) | (refine hw _ _ _ ?_; clear h0 hw) | apply qz1 | apply qz2 | apply qz3 | apply qz5 | apply qz6 | (refine hL _ ?_; clear hL))
 | refine p_reg fun K1 hK => ?_
 | apply go_seq
 | (refine p_op Tryz.tab fun K' h0 hw => ?_; conv => whnf)
 | (refine p_nil (hK _ ?_); clear hK)
 | ((with_reducible apply go_cond); (case hb => rfl))
 | ((with_reducible first | refine w_ret Tryz.tab fun K' hL => ?_ ); (conv => whnf))
 | ((with_reducible apply And.intro); (case' right => try (conv => whnf)); (case' left => try first | rfl | decide | (simp; done) ))
 | (first | (guard_hyp g8; intro g9; try simp at g9) | (guard_hyp g7; intro g8; try simp at g8) | (guard_hyp g6; intro g7; try simp at g7) | (guard_hyp g5; intro g6; try simp at g6) | (guard_hyp g4; intro g5; try simp at g5) | (guard_hyp g3; intro g4; try simp at g4) | (guard_hyp g2; intro g3; try simp at g3) | (guard_hyp g1; intro g2; try simp at g2) | intro g1; try simp at g1))
  · simp [groupE, g1]
  · simp [groupE_big g1 (by omega)]
  refine w_loop (X := Nat) [2, 3, 4, 13, 14, 15, 16, 17, 18, 19, 20, 21, 22, 23, 24, 25, 26, 27, 28, 29, 30, 31, 32, 33, 34, 35, 36, 37, 38, 39, 40, 41, 42, 43, 44, 45, 46, 47, 48, 49, 50, 51, 52, 53, 54, 55, 56, 57, 58, 59, 60, 61, 62, 63, 64, 65, 66, 67] (fun i => [(3, I i)]) (fun _ => []) (fun i => i ≤ g.length ∧ goE (prevAt g i) (g.drop i) = goE none g) (fun i => g.length - i) 0 (by simp [prevAt]) ?_ ?_
  · refine ⟨kt_refl, ko_refl, ?_, ?_, ?_, ?_, Nat.le_refl _⟩ <;> simp
  rintro i ⟨h1, h2⟩
  have hgo := groupE_go g1 (by omega)
  repeat' (first
 | (with_reducible first | apply qz0 | (refine h0 _ _ ?_; clear h0 hw) | apply qz1 | apply qz2 | apply qz3 | apply qz4 | apply qz5 | apply qz6 | apply qz7 | apply qz8 | apply qz9 | apply qza | apply qzb | apply qzc | (refine hL _ ?_; clear hL))
 | refine p_reg fun K1 hK => ?_ | refine p_regE fun K1 hK => ?_
 | refine p_dreg Tryz.mix fun K1 hK => ?_
 | apply go_seq
 | ((first | refine p_op Tryz.tab fun K' h0 hw => ?_ | refine p_dop Tryz.tab fun K' h0 hw => ?_); conv => whnf)
 | (refine p_nil (hK _ ?_); clear hK)
 | (refine d_nil (p_obj ?_ (hK _ _ _ _)); clear hK)
 | (first | refine d_grd_yes (by rfl) (by rfl) ?_ )
 | ((first | (apply d_grd_no; (case hg => rfl); (case hb => rfl)) | (apply d_grd_undef; (case hg => rfl); (case hb => rfl)) | (apply d_grd; (case hg => rfl); (case hb => rfl)) ); (case hi => (simp only [Nat.reduceAdd, Nat.reduceMul]; rfl)))
 | ((with_reducible refine callV_id (f := 85) ?_); have hcs_ := c_checkFrame x1 (Nat.le_trans (hl.at (by simpa using hx1)) (by decide)); (with_reducible apply callV_f own85 (hcs_)); (case hx => rfl); (case he => rfl); (case hle => first | ((repeat constructor); done) ); (case hpu => repeat constructor); (case' hK => (try clear hcs_); conv => whnf))
 | ((with_reducible apply go_cond); (case hb => rfl))
 | ((with_reducible first | refine w_ret Tryz.tab fun K' hL => ?_ ); (conv => whnf))
 | ((with_reducible apply And.intro); (case' right => try (conv => whnf)); (case' left => try first | rfl | decide | (simp; done) | (simp (disch := omega) only [wrp]; omega) | (simp (disch := omega) [wrp]; (try omega); done)))
 | exact p_side
 | ((with_reducible apply all_rk); (case hx => with_reducible assumption); (conv => whnf))
 | ((with_reducible refine all_row ?_); (first | (guard_hyp hx1; intro x2 hx2) | intro x1 hx1); conv => whnf)
 | (first | (guard_hyp g8; intro g9; try simp at g9) | (guard_hyp g7; intro g8; try simp at g8) | (guard_hyp g6; intro g7; try simp at g7) | (guard_hyp g5; intro g6; try simp at g6) | (guard_hyp g4; intro g5; try simp at g5) | (guard_hyp g3; intro g4; try simp at g4) | (guard_hyp g2; intro g3; try simp at g3) | (guard_hyp g1; intro g2; try simp at g2) | intro g1; try simp at g1))
  · simp at hx1; simp [hgo, goE_bad h2 hx1 g4]
  all_goals (try (exfalso; omega))
  all_goals (try (simp at hx1))
  · (refine p_nx ((i + 1)) ?_; (try simp only); (try exact trivial))
    exact ⟨by omega, goE_next h2 hx1 g4 (by rw [bad_zero g5]; simp [g6])⟩
  · simp [hgo, goE_four h2 hx1 g4 (by rw [bad_zero g5]; simp [g6])]
  · simp [hgo, goE_four h2 hx1 g4 (by rw [bad_time g5 hl1 g3 g7 hx2]; simp [g8])]
  · (refine p_nx ((i + 1)) ?_; (try simp only); (try exact trivial))
    exact ⟨by omega, goE_next h2 hx1 g4 (by rw [bad_time g5 hl1 g3 g7 hx2]; simp; omega)⟩
  · simp [hgo, goE_four h2 hx1 g4 (bad_key g5 g3 g7)]
  · simp [hgo, goE_end h2 g3]
end Go.Proofs.YtokkencbpmjdaaaGreat
end
section
namespace Go.Proofs.YtokkencbpmjdaaaGreat
open Go Go.Sy
set_option maxRecDepth 4000
set_option linter.unusedSimpArgs false
set_option linter.unusedVariables false
attribute [local irreducible] Reg RegD Later Out CallV Tri Side EqV Pause
def partsB : List ByteArray → Nat
  | [] => 0
  | s :: l => s.size + partsB l
def groupB : List Fr → Nat
  | [] => 0
  | f :: l => partsB f.parts + groupB l
theorem partsB_app (a b : List ByteArray) : partsB (a ++ b) = partsB a + partsB b := by
  induction a with
  | nil => simp [partsB]
  | cons x a ih => simp only [List.cons_append, partsB, ih]; omega
theorem groupB_app (a b : List Fr) : groupB (a ++ b) = groupB a + groupB b := by
  induction a with
  | nil => simp [groupB]
  | cons x a ih => simp only [List.cons_append, groupB, ih]; omega
theorem partsB_take (l : List ByteArray) (i : Nat) : partsB (l.take i) ≤ partsB l := by
  have := partsB_app (l.take i) (l.drop i)
  rw [List.take_append_drop] at this; omega
theorem groupB_take (l : List Fr) (i : Nat) : groupB (l.take i) ≤ groupB l := by
  have := groupB_app (l.take i) (l.drop i)
  rw [List.take_append_drop] at this; omega
theorem partsB_at {l : List ByteArray} {i : Nat} {x : ByteArray} (h : l[i]? = some x) : partsB (l.take (i + 1)) = partsB (l.take i) + x.size := by
  rw [take_at h, partsB_app]; simp [partsB]
theorem groupB_at {l : List Fr} {i : Nat} {x : Fr} (h : l[i]? = some x) : groupB (l.take (i + 1)) = groupB (l.take i) + partsB x.parts := by
  rw [take_at h, groupB_app]; simp [groupB]
set_option maxHeartbeats 1000000 in
theorem c_groupBytes (g : List Fr) (hl : Fits g) (hb : groupB g ≤ 1000000000000000) : PSpec Tryz.prog 130 [.agg (grC g)] (I (groupB g)) := by
  refine p_pspec Tryz.func130 Tryz.ntmps130 Tryz.results130 ?_
  have hl1 := hl.1
  repeat' (first
 | (with_reducible first | apply qz0 | (refine h0 _ _ ?_; clear h0 hw) | (refine hw _ _ _ ?_; clear h0 hw) | apply qz3 )
 | refine p_reg fun K1 hK => ?_
 | apply go_seq
 | (refine p_op Tryz.tab fun K' h0 hw => ?_; conv => whnf)
 | (refine p_nil (hK _ ?_); clear hK)
 | ((with_reducible apply And.intro); (case' right => try (conv => whnf)); (case' left => try first | rfl | decide | (simp; done) ))
 )
  refine w_loop (X := Nat) [3, 5, 7, 11, 12, 13, 14, 15, 16, 17, 18, 19, 20, 21, 22, 23, 24, 25, 26, 27] (fun i => [(11, I i), (3, I (groupB (g.take i)))]) (fun _ => []) (fun i => i ≤ g.length) (fun i => g.length - i) 0 (by simp) ?_ ?_
  · refine ⟨kt_refl, ko_refl, ?_, ?_, ?_, ?_, Nat.le_refl _⟩ <;> simp [groupB]
  intro i h1
  repeat' (first
 | (with_reducible first | apply qz0 | (refine h0 _ _ ?_; clear h0 hw) | (refine hw _ _ _ ?_; clear h0 hw) | apply qz1 | apply qz2 | apply qz3 | apply qz4 | apply qz6 | apply qz7 | apply qza | apply qzc | (refine hL _ ?_; clear hL))
 | refine p_reg fun K1 hK => ?_
 | apply go_seq
 | ((first | refine p_op Tryz.tab fun K' h0 hw => ?_ | refine p_op0 Tryz.tab fun K' h0 hw => ?_); conv => whnf)
 | (refine p_nil (hK _ ?_); clear hK)
 | ((with_reducible apply go_cond); (case hb => rfl))
 | ((with_reducible first | refine w_ret Tryz.tab fun K' hL => ?_ ); (conv => whnf))
 | ((with_reducible apply And.intro); (case' right => try (conv => whnf)); (case' left => try first | rfl | decide | (simp; done) ))
 | exact p_side
 | ((with_reducible refine all_row ?_); (first | intro x1 hx1); conv => whnf)
 | (first  | intro g1; try simp at g1))
  · simp at hx1
    have e := groupB_at hx1
    have e2 := groupB_take g (i + 1)
    have hpl := hl.at hx1
    refine w_loop (X := Nat) [3, 7, 18, 19, 20, 21, 22, 23, 24, 25, 26] (fun j => [(18, I j), (3, I (groupB (g.take i) + partsB (x1.parts.take j) : Nat))]) (fun _ => []) (fun j => j ≤ x1.parts.length) (fun j => x1.parts.length - j) 0 (by simp) ?_ ?_
    · refine ⟨kt_refl, ko_refl, ?_, ?_, ?_, ?_, Nat.le_refl _⟩ <;> simp [partsB]
    intro j h2
    repeat' (first
 | (with_reducible first | apply qz0 | (refine h0 _ _ ?_; clear h0 hw) | apply qz2 | apply qz3 | apply qz4 | apply qz6 | apply qz7 | apply qz9 | apply qza | apply qzc )
 | refine p_reg fun K1 hK => ?_ | refine p_regE fun K1 hK => ?_
 | apply go_seq
 | (refine p_op Tryz.tab fun K' h0 hw => ?_; conv => whnf)
 | (refine p_nil (hK _ ?_); clear hK)
 | ((with_reducible apply go_cond); (case hb => rfl))
 | ((with_reducible apply And.intro); (case' right => try (conv => whnf)); (case' left => try first | decide | (simp; done) ))
 | exact p_side
 | ((with_reducible refine all_row ?_); (first | (guard_hyp hx1; intro x2 hx2) ); conv => whnf)
 | (first  | intro g1; try simp at g1))
    · simp at hx2
      have e3 := partsB_at hx2
      have e4 := partsB_take x1.parts (j + 1)
      ((refine w_nx ((j + 1)) ?_ ?_ ?_ ?_ ?_ ?_); (case refine_1 => simp [e3, Int.natCast_add, Int.add_assoc]); (case refine_2 => simp [e3, Int.natCast_add, Int.add_assoc]); (case refine_3 => simp (disch := omega) [e3, Int.natCast_add, Int.add_assoc, wrp]); (case refine_4 => simp [e3, Int.natCast_add, Int.add_assoc]); (case refine_5 => first | (simp; omega) | (simp; done) | omega | (simp only; omega)); (case' refine_6 => (try simp only); (try exact trivial)))
      omega
    · have e5 : x1.parts.take j = x1.parts := List.take_of_length_le (by omega)
      ((refine w_nx ((i + 1)) ?_ ?_ ?_ ?_ ?_ ?_); (case refine_1 => simp [e, e5]); (case refine_2 => simp [e, e5]); (case refine_3 => simp (disch := omega) [e, e5, wrp]); (case refine_4 => simp [e, e5]); (case refine_5 => first | (simp; omega) | (simp; done) | omega | (simp only; omega)); (case' refine_6 => (try simp only); (try exact trivial)))
      omega
  · rw [show g.take i = g from List.take_of_length_le (by omega)]; simp
set_option maxHeartbeats 1000000 in
theorem c_sizeOf (g : List Fr) (hl : Fits g) (hb : groupB g ≤ 1000000000000000) : PSpec Tryz.prog 86 [.agg (grC g)] (I (groupB g)) := by
  refine p_pspec Tryz.func86 Tryz.ntmps86 Tryz.results86 ?_
  have hl1 := hl.1
  repeat' (first
 | (with_reducible first | apply qz0 | (refine h0 _ _ ?_; clear h0 hw) | (refine hw _ _ _ ?_; clear h0 hw) | apply qz3 )
 | refine p_reg fun K1 hK => ?_
 | apply go_seq
 | (refine p_op Tryz.tab fun K' h0 hw => ?_; conv => whnf)
 | (refine p_nil (hK _ ?_); clear hK)
 | ((with_reducible apply And.intro); (case' right => try (conv => whnf)); (case' left => try first | rfl ))
 )
  refine w_loop (X := Nat) [3, 4, 5, 6, 7, 8, 9, 10, 11, 12, 13, 14, 15, 16, 17, 18, 19, 20, 21, 22, 23, 24, 25, 26, 27, 28, 29, 30, 31, 32, 33, 34, 35] (fun i => [(4, I i), (3, I (groupB (g.take i)))]) (fun _ => []) (fun i => i ≤ g.length) (fun i => g.length - i) 0 (by simp) ?_ ?_
  · refine ⟨kt_refl, ko_refl, ?_, ?_, ?_, ?_, Nat.le_refl _⟩ <;> simp [groupB]
  intro i h1
  repeat' (first
 | (with_reducible first | apply qz0 | (refine h0 _ _ ?_; clear h0 hw) | apply qz1 | apply qz2 | apply qz3 | apply qz4 | apply qz6 | apply qz7 | apply qza | apply qzc | (refine hL _ ?_; clear hL))
 | refine p_reg fun K1 hK => ?_
 | apply go_seq
 | (refine p_op Tryz.tab fun K' h0 hw => ?_; conv => whnf)
 | (refine p_nil (hK _ ?_); clear hK)
 | ((with_reducible apply go_cond); (case hb => rfl))
 | ((with_reducible first | refine w_ret Tryz.tab fun K' hL => ?_ ); (conv => whnf))
 | ((with_reducible apply And.intro); (case' right => try (conv => whnf)); (case' left => try first | rfl | decide | (simp; done) ))
 | (first  | intro g1; try simp at g1))
  · obtain ⟨x, hx⟩ : ∃ x, g[i]? = some x := ⟨g[i]'(by omega), by simp⟩
    have e := groupB_at hx
    have e2 := groupB_take g (i + 1)
    have hpl := hl.at hx
    refine w_loop (X := Nat) [3, 5, 13, 14, 15, 16, 17, 18, 19, 20, 21, 22, 23, 24, 25, 26, 27, 28, 29, 30, 31, 32, 33, 34, 35] (fun j => [(5, I j), (3, I (groupB (g.take i) + partsB (x.parts.take j) : Nat))]) (fun _ => []) (fun j => j ≤ x.parts.length) (fun j => x.parts.length - j) 0 (by simp) ?_ ?_
    · refine ⟨kt_refl, ko_refl, ?_, ?_, ?_, ?_, Nat.le_refl _⟩ <;> simp [partsB]
    intro j h2
    repeat' (first
 | (with_reducible first | apply qz0 | (refine h0 _ _ ?_; clear h0 hw) | apply qz2 | apply qz3 | apply qz4 | apply qz6 | apply qz7 | apply qz9 | apply qza | apply qzc )
 | refine p_reg fun K1 hK => ?_ | refine p_regE fun K1 hK => ?_
 | apply go_seq
 | (refine p_op Tryz.tab fun K' h0 hw => ?_; conv => whnf)
 | (refine p_nil (hK _ ?_); clear hK)
 | ((with_reducible apply go_cond); (case hb => rfl))
 | ((with_reducible apply And.intro); (case' right => try (conv => whnf)); (case' left => try first | rfl | decide | (simp; done) ))
 | exact p_side
 | ((with_reducible apply all_rk); (case hx => with_reducible assumption); (conv => whnf))
 | ((with_reducible refine all_row ?_); (first | (guard_hyp hx1; intro x2 hx2) | intro x1 hx1); conv => whnf)
 | (first  | intro g1; try simp at g1))
    · simp at hx1 hx2
      obtain rfl : x1 = x := by rw [hx1] at hx; exact Option.some.inj hx
      have e3 := partsB_at hx2
      have e4 := partsB_take x1.parts (j + 1)
      ((refine w_nx ((j + 1)) ?_ ?_ ?_ ?_ ?_ ?_); (case refine_1 => simp [e3, Int.natCast_add, Int.add_assoc]); (case refine_2 => simp [e3, Int.natCast_add, Int.add_assoc]); (case refine_3 => simp (disch := omega) [e3, Int.natCast_add, Int.add_assoc, wrp]); (case refine_4 => simp [e3, Int.natCast_add, Int.add_assoc]); (case refine_5 => first | (simp; omega) | (simp; done) | omega | (simp only; omega)); (case' refine_6 => (try simp only); (try exact trivial)))
      omega
    · simp at hx1
      obtain rfl : x1 = x := by rw [hx1] at hx; exact Option.some.inj hx
      have e5 : x1.parts.take j = x1.parts := List.take_of_length_le (by omega)
      ((refine w_nx ((i + 1)) ?_ ?_ ?_ ?_ ?_ ?_); (case refine_1 => simp [e, e5]); (case refine_2 => simp [e, e5]); (case refine_3 => simp (disch := omega) [e, e5, wrp]); (case refine_4 => simp [e, e5]); (case refine_5 => first | (simp; omega) | (simp; done) | omega | (simp only; omega)); (case' refine_6 => (try simp only); (try exact trivial)))
      omega
  · rw [show g.take i = g from List.take_of_length_le (by omega)]; simp
def growT (g : List Fr) (f : Fr) : AV := .tup [.agg (grC (growS g f)), B (f.key && decide (0 < g.length))]
set_option maxHeartbeats 1000000 in
theorem c_growOf (g : List Fr) (f : Fr) (hl1 : g.length ≤ 6) : PSpec Tryz.prog 116 [.agg (grC g), .agg (frC f)] (growT g f) := by
  refine p_pspec Tryz.func116 Tryz.ntmps116 Tryz.results116 ?_
  repeat' (first
 | (with_reducible first | apply qz0 | (refine h0 _ _ ?_; clear h0 hw) | (refine hw _ _ _ ?_; clear h0 hw) | apply qz1 | apply qz2 | apply qz5 | apply qz6 | (refine hL _ ?_; clear hL))
 | refine p_reg fun K1 hK => ?_
 | refine p_dreg Tryz.mix fun K1 hK => ?_
 | apply go_seq
 | ((first | refine p_op Tryz.tab fun K' h0 hw => ?_ | refine p_op0 Tryz.tab fun K' h0 hw => ?_ | refine p_dop Tryz.tab fun K' h0 hw => ?_ | refine p_dop0 Tryz.tab fun K' h0 hw => ?_); conv => whnf)
 | (refine p_nil (hK _ ?_); clear hK)
 | (refine d_nil (p_obj ?_ (hK _ _ _ _)); clear hK)
 | (first | refine d_grd_yes (by rfl) (by rfl) ?_ )
 | ((first | (apply d_grd_no; (case hg => rfl); (case hb => rfl)) | (apply d_grd; (case hg => rfl); (case hb => rfl)) ); (case hi => (simp only [Nat.reduceAdd, Nat.reduceMul]; rfl)))
 | ((with_reducible apply go_cond); (case hb => rfl))
 | ((with_reducible first | refine w_ret Tryz.tab fun K' hL => ?_ ); (conv => whnf))
 | ((with_reducible apply And.intro); (case' right => try (conv => whnf)); (case' left => try first | rfl | decide | (simp; done) ))
 | ((with_reducible apply Side.mk); (try simp (disch := omega) only [wrp]); (try simp); (try simp (disch := omega) only [wrp]); (try omega))
 | ((with_reducible refine all_row ?_); (first | intro x1 hx1); conv => whnf)
 | (first | (guard_hyp g2; intro g3; try simp at g3) | (guard_hyp g1; intro g2; try simp at g2) | intro g1; try simp at g1))
  · have hv : growS g f = [f] := if_pos g1
    simp [growT, hv, g1]
  · have := List.length_pos_iff.2 g2; omega
  · have := List.length_pos_iff.2 g2; show Nat.succ _ ≤ _; omega
  · have h0 := List.length_pos_iff.2 g2
    have hl := last_at (by omega) h0 (by simpa using hx1)
    have hv : growS g f = g := by unfold growS; rw [if_neg (by simp [g1]), if_neg (by rw [hl]; omega)]
    simp [growT, hv, g1]
  · have h0 := List.length_pos_iff.2 g2
    have hl := last_at (by omega) h0 (by simpa using hx1)
    have hv : growS g f = g ++ [f] := by unfold growS; rw [if_neg (by simp [g1]), if_pos ⟨h0, by omega, by rw [hl]; omega⟩]
    simp [growT, hv, g1]
  · have hv : growS g f = g := by unfold growS; rw [if_neg (by simp [g1]), if_neg (by omega)]
    simp [growT, hv, g1]
  · have hv : growS g f = g := by unfold growS; rw [if_neg (by simp [g1]), if_neg (by simp [g2])]
    simp [growT, hv, g1]
theorem doneS_eq (g : List Fr) (done : List (List Fr)) (f : Fr) : doneS g done f = if (f.key && decide (0 < g.length)) = true then done ++ [g] else done := by
  unfold doneS; simp
end Go.Proofs.YtokkencbpmjdaaaGreat
end
section
namespace Go.Proofs.YtokkencbpmjdaaaGreat
open Go Go.Sy
set_option maxRecDepth 4000
set_option linter.unusedSimpArgs false
set_option linter.unusedVariables false
attribute [local irreducible] Reg RegD Later Out CallV Tri Side EqV Pause
theorem partsB_big {l : List ByteArray} (h : l.any big = false) : partsB l ≤ 8 * l.length := by
  induction l with
  | nil => simp [partsB]
  | cons s l ih =>
    simp only [List.any_cons, Bool.or_eq_false_iff] at h
    have h1 : s.size ≤ 8 := by have := h.1; simp [big] at this; exact this
    have := ih h.2
    simp only [partsB, List.length_cons]; omega
theorem goE_ok : ∀ {l : List Fr} {p : Option Fr}, goE p l = 0 → ∀ f ∈ l, frameE f = 0
  | [], _, _ => by simp
  | f :: l, p, h => by
    rw [goE] at h
    by_cases h1 : frameE f = 0
    · rw [if_neg (by simp [h1])] at h
      split at h
      · cases h
      · intro x hx
        rcases List.mem_cons.1 hx with rfl | hx
        · exact h1
        · exact goE_ok h x hx
    · rw [if_pos h1] at h; exact absurd h h1
theorem groupB_ok {l : List Fr} (h : ∀ f ∈ l, frameE f = 0) : groupB l ≤ 32 * l.length := by
  induction l with
  | nil => simp [groupB]
  | cons f l ih =>
    have h1 := frameE_ok (h f (by simp))
    have h2 := partsB_big h1.2.2.2.2
    have := ih fun x hx => h x (by simp [hx])
    simp only [groupB, List.length_cons]; omega
theorem groupE_ok {g : List Fr} (h : groupE g = 0) : g ≠ [] ∧ g.length ≤ 6 ∧ goE none g = 0 ∧ ∀ f ∈ g, frameE f = 0 := by
  unfold groupE at h
  split at h
  · cases h
  · rename_i h1
    split at h
    · cases h
    · rename_i h2; exact ⟨h1, by omega, h, goE_ok h⟩
theorem groupE_bytes {g : List Fr} (h : groupE g = 0) : groupB g ≤ 192 := by
  have h1 := groupE_ok h
  have := groupB_ok h1.2.2.2
  omega
end Go.Proofs.YtokkencbpmjdaaaGreat
end
section
namespace Go.Proofs.YtokkencbpmjdaaaGreat
open Go Go.Sy
set_option linter.unusedSimpArgs false
set_option linter.unusedVariables false
theorem goE_app : ∀ (l : List Fr) (p : Option Fr) (f : Fr), goE p l = 0 → frameE f = 0 → badG (match l.getLast? with | some x => some x | none => p) f = false → goE p (l ++ [f]) = 0
  | [], p, f, _, hf, hb => by
    simp only [List.getLast?_nil] at hb
    simp [goE, hf, hb]
  | x :: l, p, f, h, hf, hb => by
    simp only [goE] at h
    by_cases h1 : frameE x = 0
    · rw [if_neg (by simp [h1])] at h
      by_cases h2 : badG p x = true
      · rw [if_pos h2] at h; cases h
      · rw [if_neg h2] at h
        simp only [List.cons_append, goE]
        rw [if_neg (by simp [h1]), if_neg h2]
        refine goE_app l (some x) f h hf ?_
        cases hl : l.getLast? with
        | none =>
          have : l = [] := by simpa using hl
          subst this
          simpa using hb
        | some y =>
          have : (x :: l).getLast? = some y := by rw [List.getLast?_cons]; simp [hl]
          rw [this] at hb; exact hb
    · rw [if_pos h1] at h; exact absurd h h1
theorem lastT_get {g : List Fr} (h : g ≠ []) : ∃ x, g.getLast? = some x ∧ lastT g = x.time := by
  have hl := List.length_pos_iff.2 h
  refine ⟨g[g.length - 1]'(by omega), ?_, ?_⟩
  · rw [List.getLast?_eq_getElem?]; simp
  · unfold lastT; simp [show g.length - 1 < g.length by omega]
def OkG (g : List Fr) : Prop := g = [] ∨ groupE g = 0
theorem okG_one {f : Fr} (hf : frameE f = 0) (hk : f.key = true) : groupE [f] = 0 := by
  simp [groupE, goE, hf, badG, hk]
theorem okG_grow {g : List Fr} {f : Fr} (h : OkG g) (hf : frameE f = 0) : OkG (growS g f) := by
  unfold growS
  split
  · rename_i hk; exact .inr (okG_one hf hk)
  · rename_i hk
    split
    · rename_i hc
      right
      have hg : g ≠ [] := fun e => by subst e; simp at hc
      have h1 : groupE g = 0 := by rcases h with h | h; exact absurd h hg; exact h
      obtain ⟨_, h2, h3, _⟩ := groupE_ok h1
      rw [groupE_go (by simp) (by simp; omega)]
      obtain ⟨x, hx, hlx⟩ := lastT_get hg
      refine goE_app g none f h3 hf ?_
      rw [hx]
      have hk' : f.key = false := by simpa using hk
      simp [badG, hk']; omega
    · exact h
theorem okG_done {g : List Fr} {done : List (List Fr)} {f : Fr} (h : OkG g) (hd : ∀ x ∈ done, groupE x = 0) : ∀ x ∈ doneS g done f, groupE x = 0 := by
  unfold doneS
  split
  · rename_i hc
    intro x hx
    rcases List.mem_append.1 hx with hx | hx
    · exact hd x hx
    · simp at hx; subst hx
      rcases h with h | h
      · subst h; simp at hc
      · exact h
  · exact hd
def withOpen (done : List (List Fr)) (g : List Fr) : List (List Fr) := if 0 < g.length then done ++ [g] else done
def NoKey (l : List Fr) : Prop := ∀ x ∈ l, x.key = false
inductive Cov : List Fr → List (List Fr) → Prop
  | nil (s : List Fr) (h : NoKey s) : Cov s []
  | cons (pre : List Fr) (f : Fr) (r q tail : List Fr) (gs : List (List Fr)) (h1 : NoKey pre) (h2 : f.key = true) (h3 : NoKey r) (h4 : q.Sublist r) (h5 : Cov tail gs) : Cov (pre ++ f :: (r ++ tail)) ((f :: q) :: gs)
theorem Cov.skip {s : List Fr} {gs : List (List Fr)} {x : Fr} (h : Cov s gs) (hx : x.key = false) : Cov (x :: s) gs := by
  cases h with
  | nil s h => exact .nil _ (by intro y hy; rcases List.mem_cons.1 hy with rfl | hy; exact hx; exact h y hy)
  | cons pre f r q tail gs h1 h2 h3 h4 h5 =>
    have := Cov.cons (x :: pre) f r q tail gs (by intro y hy; rcases List.mem_cons.1 hy with rfl | hy; exact hx; exact h1 y hy) h2 h3 h4 h5
    simpa using this
end Go.Proofs.YtokkencbpmjdaaaGreat
end

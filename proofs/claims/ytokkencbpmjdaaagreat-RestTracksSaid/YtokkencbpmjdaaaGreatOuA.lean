/- Walks of package out, of frame's Check, and of what the laws on them call. No condition. -/
import Derived.Test.YtokkencbpmjdaaaGreatDa
import Derived.Test.YtokkencbpmjdaaaGreatFrA
section
namespace Go.Proofs.YtokkencbpmjdaaaGreat
open Go Go.Sy
set_option maxRecDepth 4000
set_option linter.unusedSimpArgs false
set_option linter.unusedVariables false
attribute [local irreducible] Reg RegD Later Out CallV Tri Side EqV Pause
namespace Outs
set_option maxHeartbeats 400000 in
theorem c_within (n lo hi : Int) : PSpec Tryz.prog 92 [I n, I lo, I hi] (B (decide (lo ≤ n ∧ n ≤ hi))) := by
  refine p_pspec Tryz.func92 Tryz.ntmps92 Tryz.results92 ?_
  repeat' (first
 | (with_reducible first | apply qz0 | (refine h0 _ _ ?_; clear h0 hw) | apply qz1 | (refine hL _ ?_; clear hL))
 | refine p_reg fun K1 hK => ?_
 | (refine p_op Tryz.tab fun K' h0 hw => ?_; conv => whnf)
 | (refine p_nil (hK _ ?_); clear hK)
 | (first | refine v_grd_yes (by rfl) (by rfl) ?_)
 | ((first | (apply v_grd_no; (case hg => rfl); (case hb => rfl)) | (apply v_grd; (case hg => rfl); (case hb => rfl))); (case hi => (simp only [Nat.reduceAdd, Nat.reduceMul]; rfl)))
 | ((with_reducible first | refine w_ret Tryz.tab fun K' hL => ?_ ); (conv => whnf))
 | (first  | intro g1; try simp at g1))
  all_goals (simp [le_s]; try omega)
end Outs
def outOK (o : Ou) : Prop := (0 ≤ o.last ∧ o.last ≤ 1000000000) ∧ (0 ≤ o.time ∧ o.time ≤ 1000000) ∧ -1000000 ≤ o.shift ∧ o.shift ≤ 1000000
instance (o : Ou) : Decidable (outOK o) := by unfold outOK; infer_instance
def outE (o : Ou) : Int := if outOK o then 0 else 3
set_option maxHeartbeats 400000 in
theorem c_outCheck (o : Ou) : PSpec Tryz.prog 64 [.agg (ouC o)] (I (outE o)) := by
  refine p_pspec Tryz.func64 Tryz.ntmps64 Tryz.results64 ?_
  repeat' (first
 | (with_reducible first | apply qz0 | (refine h0 _ _ ?_; clear h0 hw) | (refine hw _ _ _ ?_; clear h0 hw) | apply qz1 | apply qz2 | apply qz5 | apply qz6 | (refine hL _ ?_; clear hL))
 | refine p_reg fun K1 hK => ?_
 | apply go_seq
 | (refine p_op Tryz.tab fun K' h0 hw => ?_; conv => whnf)
 | (refine p_nil (hK _ ?_); clear hK)
 | (first | refine v_grd_yes (by rfl) (by rfl) ?_)
 | ((first | (apply v_grd_no; (case hg => rfl); (case hb => rfl)) | (apply v_grd; (case hg => rfl); (case hb => rfl))); (case hi => (simp only [Nat.reduceAdd, Nat.reduceMul]; rfl)))
 | (refine p_call own92 (Outs.c_within _ _ _) ?_; conv => whnf)
 | ((with_reducible apply go_cond); (case hb => rfl))
 | ((with_reducible first | refine w_ret Tryz.tab fun K' hL => ?_ ); (conv => whnf))
 | ((with_reducible apply And.intro); (case' right => try (conv => whnf)); (case' left => try first | rfl | decide | (simp; done) ))
 | (first  | intro g1; try simp at g1))
  all_goals (refine le_of_eq ?_; simp only [outE]; split <;> simp_all [outOK] <;> omega)
set_option maxHeartbeats 400000 in
theorem c_checkOut (o : Ou) : PSpec Tryz.prog 29 [.agg (ouC o)] (I (outE o)) := by
  refine p_pspec Tryz.func29 Tryz.ntmps29 Tryz.results29 ?_
  repeat' (first
 | (with_reducible first | apply qz0 | (refine h0 _ _ ?_; clear h0 hw) | (refine hw _ _ _ ?_; clear h0 hw) | apply qz1 | apply qz2 | apply qz5 | apply qz6 | (refine hL _ ?_; clear hL))
 | refine p_reg fun K1 hK => ?_
 | apply go_seq
 | (refine p_op Tryz.tab fun K' h0 hw => ?_; conv => whnf)
 | (refine p_nil (hK _ ?_); clear hK)
 | (first | refine v_grd_yes (by rfl) (by rfl) ?_)
 | ((first | (apply v_grd_no; (case hg => rfl); (case hb => rfl)) | (apply v_grd; (case hg => rfl); (case hb => rfl))); (case hi => (simp only [Nat.reduceAdd, Nat.reduceMul]; rfl)))
 | (refine p_call own30 (Outs.c_btw _ _ _) ?_; conv => whnf)
 | ((with_reducible apply go_cond); (case hb => rfl))
 | ((with_reducible first | refine w_ret Tryz.tab fun K' hL => ?_ ); (conv => whnf))
 | ((with_reducible apply And.intro); (case' right => try (conv => whnf)); (case' left => try first | rfl | decide | (simp; done) ))
 | (first  | intro g1; try simp at g1))
  all_goals (refine le_of_eq ?_; simp only [outE]; split <;> simp_all [outOK] <;> omega)
def pkS (last t : Int) (f : Fr) (i : Nat) : Pkt := ⟨(last + 1) % 65536, t, decide ((i : Int) = 0), decide ((i : Int) = (f.parts.length : Int) - 1), f.key && decide ((i : Int) = 0), f.parts.getD i ByteArray.empty⟩
def pk (last t : Int) (f : Fr) (i : Nat) : Pkt := pkS (last + i) t f i
def pksTo (last t : Int) (f : Fr) (k : Nat) : List Pkt := (List.range k).map (pk last t f)
theorem pksTo_succ (last t : Int) (f : Fr) (k : Nat) : pksTo last t f (k + 1) = pksTo last t f k ++ [pk last t f k] := by simp [pksTo, List.range_succ]
theorem pksTo_len (last t : Int) (f : Fr) (k : Nat) : (pksTo last t f k).length = k := by simp [pksTo]
def sendObs (o : Ou) (l : List Pkt) : List Ob := [.box [I o.last, I o.time, I o.shift, .osl 1 6 (rowP l)], .perm 66 6 l.length]
def sendB (a b : Nat) (o : Ou) (l : List Pkt) : List (Nat × Ob) := [(a, .box [I o.last, I o.time, I o.shift, .osl b 6 (rowP l)]), (b, .perm 66 6 l.length)]
theorem at_getD {l : List ByteArray} {i : Nat} {x : ByteArray} (h : l[i]? = some x) : l.getD i ByteArray.empty = x := by simp [List.getD_eq_getElem?_getD, h]
set_option maxHeartbeats 1000000 in
theorem c_packet (o : Ou) (l : List Pkt) (f : Fr) (i : Nat) (hi : i < f.parts.length) (hf : f.parts.length ≤ 4) (hl : l.length ≤ 4) (ho : 0 ≤ o.last ∧ o.last ≤ 1000000010) :
    CSpec Tryz.prog 142 [.ptr 0 0, .agg (frC f), I i] (sendObs o l) (.tup []) (sendObs ⟨o.last + 1, o.time, o.shift⟩ (l ++ [pkS o.last o.time f i])) := by
  refine v_cspec Tryz.func142 rfl Tryz.ntmps142 Tryz.results142 (by simp) (k := 2) rfl ?_
  have e1 := wrp (n := o.last + 1) (by omega) (by omega)
  have e2 := tmp (a := o.last + 1) (b := 65536) (by omega)
  have e3 := wrp (n := (f.parts.length : Int) - 1) (by omega) (by omega)
  repeat' (first
 | (with_reducible first | apply qz0 | (refine h0 _ _ ?_; clear h0 hw) | (refine hw _ _ _ ?_; clear h0 hw) )
 | refine p_reg fun K1 hK => ?_
 | refine p_dregE Tryz.mix fun K1 hK => ?_
 | ((first | refine p_op Tryz.tab fun K' h0 hw => ?_ | refine p_op0 Tryz.tab fun K' h0 hw => ?_ | refine p_dop Tryz.tab fun K' h0 hw => ?_ | refine p_dop0 Tryz.tab fun K' h0 hw => ?_); conv => whnf)
 | (refine p_nil (hK _ ?_); clear hK)
 | (refine d_nil (p_obj ?_ (hK _ _ _ _)); clear hK)
 | (first | refine d_grd_yes (by rfl) (by rfl) ?_ )
 | ((first | (apply d_grd_no; (case hg => rfl); (case hb => rfl)) | (apply d_grd; (case hg => rfl); (case hb => rfl)) ); (case hi => (simp only [Nat.reduceAdd, Nat.reduceMul]; rfl)))
 | ((with_reducible apply And.intro); (case' right => try (conv => whnf)); (case' left => try first | rfl | decide | (simp [sendObs]; done) ))
 | exact p_side
 | ((with_reducible refine all_row ?_); (first | intro x1 hx1); conv => whnf)
 | (first | (guard_hyp g1; intro g2; try simp at g2) | intro g1; try simp at g1))
  all_goals
    simp at hx1
    ((first | refine w_retO Tryz.tab [] (by rfl) (by simp) (by simp) (fun K' hL => ?_) ?_ ?_ ?_ | refine w_retO_end Tryz.tab [] (by rfl) (by simp) (by simp) (fun K' hL => ?_) ?_ ?_ ?_); (conv => whnf); (refine hL _ ?_; clear hL); all_goals simp [sendObs, e1, e2, e3, hx1, g1, pkS])
def shiftS (o : Ou) (f : Fr) (turn : Bool) : Int := if turn = true ∨ o.last = 0 then o.time + 10 - f.time else o.shift
def frameS (o : Ou) (f : Fr) (turn : Bool) : Ou × List Pkt × Int :=
  if f.time + shiftS o f turn < o.time then (⟨o.last, o.time, shiftS o f turn⟩, [], 4)
  else if 1000000 < f.time + shiftS o f turn ∨ 1000000000 < o.last + f.parts.length then (⟨o.last, o.time, shiftS o f turn⟩, [], 2)
  else (⟨o.last + f.parts.length, f.time + shiftS o f turn, shiftS o f turn⟩, pksTo o.last (f.time + shiftS o f turn) f f.parts.length, 0)
set_option maxHeartbeats 2000000 in
theorem c_frame (o : Ou) (f : Fr) (turn : Bool) (ho : outOK o) (hf : 0 ≤ f.time ∧ f.time ≤ 1000000 ∧ f.parts.length ≤ 4) :
    CSpec Tryz.prog 135 [.ptr 0 0, .agg (frC f), B turn] (sendObs o []) (I (frameS o f turn).2.2) (sendObs (frameS o f turn).1 (frameS o f turn).2.1) := by
  refine v_cspec Tryz.func135 rfl Tryz.ntmps135 Tryz.results135 (by simp) (k := 2) rfl ?_
  have hp := ho
  unfold outOK at hp
  have hs : -2000000 ≤ shiftS o f turn ∧ shiftS o f turn ≤ 2000000 := by unfold shiftS; split <;> omega
  have e1 := wrp (n := o.time + 10) (by omega) (by omega)
  have e2 := wrp (n := o.time + 10 - f.time) (by omega) (by omega)
  have e3 := wrp (n := f.time + shiftS o f turn) (by omega) (by omega)
  have e4 := wrp (n := o.last + (f.parts.length : Int)) (by omega) (by omega)
  repeat' (first
 | ((first | with_reducible refine w_cut (x := .seq (.region _ _ _) (.cond (.tmp 17) _ _)) (X := Unit) [9, 10, 11, 12, 13, 14, 15, 16, 17, 18, 19, 20, 21, 22, 23, 24, 25, 26, 27, 28, 29, 30] (fun _ => []) (fun _ => sendB 0 1 ⟨o.last, o.time, shiftS o f turn⟩ []) (fun _ => True) ?_ ?_); (try (rintro z hz; simp only at hz)))
 | (with_reducible first | apply qz0 | (refine h0 _ _ ?_; clear h0 hw) | (refine hw _ _ _ ?_; clear h0 hw) | apply qz1 | apply qz2 | apply qz3 | apply qz5 | apply qz6 | apply qz8 | apply qz9 )
 | refine p_reg fun K1 hK => ?_
 | refine p_dreg Tryz.mix fun K1 hK => ?_ | refine p_dregE Tryz.mix fun K1 hK => ?_
 | apply go_seq
 | ((first | refine p_op Tryz.tab fun K' h0 hw => ?_ | refine p_op0 Tryz.tab fun K' h0 hw => ?_ | refine p_dop Tryz.tab fun K' h0 hw => ?_ | refine p_dop0 Tryz.tab fun K' h0 hw => ?_); conv => whnf)
 | (refine p_nil (hK _ ?_); clear hK)
 | (refine d_nil (p_obj ?_ (hK _ _ _ _)); clear hK)
 | (first | refine d_grd_yes (by rfl) (by rfl) ?_ | refine v_grd_yes (by rfl) (by rfl) ?_)
 | ((first | (apply d_grd_no; (case hg => rfl); (case hb => rfl)) | (apply d_grd; (case hg => rfl); (case hb => rfl)) | (apply v_grd_no; (case hg => rfl); (case hb => rfl)) | (apply v_grd; (case hg => rfl); (case hb => rfl))); (case hi => (simp only [Nat.reduceAdd, Nat.reduceMul]; rfl)))
 | ((with_reducible apply go_cond); (case hb => rfl))
 | ((with_reducible apply And.intro); (case' right => try (conv => whnf)); (case' left => try first | rfl | decide | (simp [sendObs, sendB]; done) ))
 | (first | (guard_hyp g5; intro g6; try simp at g6) | (guard_hyp g4; intro g5; try simp at g5) | (guard_hyp g3; intro g4; try simp at g4) | (guard_hyp g2; intro g3; try simp at g3) | (guard_hyp g1; intro g2; try simp at g2) | intro g1; try simp at g1))
  · have hv : shiftS o f turn = o.time + 10 - f.time := if_pos (.inr g2)
    ((refine w_nx (()) ?_ ?_ ?_ ?_ ?_ ?_); (case refine_1 => simp [sendObs, sendB, hv, e1, e2]); (case refine_2 => simp [sendObs, sendB, hv, e1, e2]); (case refine_3 => simp (disch := omega) [sendObs, sendB, hv, e1, e2, wrp]); (case refine_4 => simp [sendObs, sendB, hv, e1, e2]); (case refine_5 => first | (simp; omega) | (simp; done) | omega | (simp only; omega)); (case' refine_6 => (try simp only); (try exact trivial)))
  · have hv : shiftS o f turn = o.shift := if_neg (by simp [g1, g2])
    ((refine w_nx (()) ?_ ?_ ?_ ?_ ?_ ?_); (case refine_1 => simp [sendObs, sendB, hv, e1, e2]); (case refine_2 => simp [sendObs, sendB, hv, e1, e2]); (case refine_3 => simp (disch := omega) [sendObs, sendB, hv, e1, e2, wrp]); (case refine_4 => simp [sendObs, sendB, hv, e1, e2]); (case refine_5 => first | (simp; omega) | (simp; done) | omega | (simp only; omega)); (case' refine_6 => (try simp only); (try exact trivial)))
  · have hv : shiftS o f turn = o.time + 10 - f.time := if_pos (.inl (by simp_all))
    ((refine w_nx (()) ?_ ?_ ?_ ?_ ?_ ?_); (case refine_1 => simp [sendObs, sendB, hv, e1, e2]); (case refine_2 => simp [sendObs, sendB, hv, e1, e2]); (case refine_3 => simp (disch := omega) [sendObs, sendB, hv, e1, e2, wrp]); (case refine_4 => simp [sendObs, sendB, hv, e1, e2]); (case refine_5 => first | (simp; omega) | (simp; done) | omega | (simp only; omega)); (case' refine_6 => (try simp only); (try exact trivial)))
  · rw [e3] at g3
    have hv : frameS o f turn = (⟨o.last, o.time, shiftS o f turn⟩, [], 4) := if_pos g3
    rw [hv]
    ((first | refine w_retO Tryz.tab [] (by rfl) (by simp) (by simp) (fun K' hL => ?_) ?_ ?_ ?_ | refine w_retO_end Tryz.tab [] (by rfl) (by simp) (by simp) (fun K' hL => ?_) ?_ ?_ ?_); (conv => whnf); (refine hL _ ?_; clear hL); all_goals simp [sendObs, sendB])
  · rw [e3] at g3 g4
    rw [e4] at g5
    have hv : frameS o f turn = (⟨o.last, o.time, shiftS o f turn⟩, [], 2) := by unfold frameS; rw [if_neg (by omega), if_pos (by omega)]
    rw [hv]
    ((first | refine w_retO Tryz.tab [] (by rfl) (by simp) (by simp) (fun K' hL => ?_) ?_ ?_ ?_ | refine w_retO_end Tryz.tab [] (by rfl) (by simp) (by simp) (fun K' hL => ?_) ?_ ?_ ?_); (conv => whnf); (refine hL _ ?_; clear hL); all_goals simp [sendObs, sendB])
  · rw [e3] at g3 g4
    rw [e4] at g5
    have hv : frameS o f turn = (⟨o.last + f.parts.length, f.time + shiftS o f turn, shiftS o f turn⟩, pksTo o.last (f.time + shiftS o f turn) f f.parts.length, 0) := by unfold frameS; rw [if_neg (by omega), if_neg (by omega)]
    rw [hv]
    refine w_loop (X := Nat) [8, 70, 71, 72, 73, 74, 75, 76, 77] (fun k => [(70, I k)]) (fun k => sendB 0 1 ⟨o.last + k, f.time + shiftS o f turn, shiftS o f turn⟩ (pksTo o.last (f.time + shiftS o f turn) f k)) (fun k => k ≤ f.parts.length) (fun k => f.parts.length - k) 0 (by simp) ?_ ?_
    · refine ⟨kt_refl, ko_refl, ?_, ?_, ?_, ?_, Nat.le_refl _⟩ <;> simp [sendB, e3, pksTo]
    rintro k h1
    repeat' (first
 | (with_reducible first | apply qz0 | (refine h0 _ _ ?_; clear h0 hw) | (refine hw _ _ _ ?_; clear h0 hw) | apply qz1 | apply qz2 | apply qz3 | apply qz4 | apply qz6 | apply qz7 | apply qz9 | apply qza | apply qzc )
 | refine p_reg fun K1 hK => ?_ | refine p_regE fun K1 hK => ?_
 | apply go_seq
 | (refine p_op Tryz.tab fun K' h0 hw => ?_; conv => whnf)
 | (refine p_nil (hK _ ?_); clear hK)
 | ((with_reducible refine callV_id (f := 142) ?_); have hcs_ := c_packet ⟨o.last + k, f.time + shiftS o f turn, shiftS o f turn⟩ (pksTo o.last (f.time + shiftS o f turn) f k) f k (by omega) hf.2.2 (by rw [pksTo_len]; omega) (by simp only; omega); (with_reducible apply w_callO [0, 1] own142 (hcs_)); (case hx => rfl); (case he => rfl); (case hle => first | ((repeat constructor); done) ); (case hm => rfl); (case hnd => decide); (case' hK => (try clear hcs_); conv => whnf); (any_goals (simp [sendObs, sendB]; done)))
 | ((with_reducible apply go_cond); (case hb => rfl))
 | ((with_reducible apply And.intro); (case' right => try (conv => whnf)); (case' left => try first | decide | (simp [sendObs, sendB]; done) ))
 | (first | (guard_hyp g5; intro g6; try simp at g6) | (guard_hyp g4; intro g5; try simp at g5) | (guard_hyp g3; intro g4; try simp at g4) | (guard_hyp g2; intro g3; try simp at g3) | (guard_hyp g1; intro g2; try simp at g2) | intro g1; try simp at g1))
    · have hp2 := pksTo_succ o.last (f.time + shiftS o f turn) f k
      unfold pk at hp2
      have ha : o.last + (k : Int) + 1 = o.last + ((k : Int) + 1) := by omega
      ((refine w_nx ((k + 1)) ?_ ?_ ?_ ?_ ?_ ?_); (case refine_1 => simp [sendObs, sendB, hp2, ha]); (case refine_2 => simp [sendObs, sendB, hp2, ha]); (case refine_3 => simp (disch := omega) [sendObs, sendB, hp2, ha, wrp]); (case refine_4 => simp [sendObs, sendB, hp2, ha]); (case refine_5 => first | (simp; omega) | (simp; done) | omega | (simp only; omega)); (case' refine_6 => (try simp only); (try exact trivial)))
      omega
    · obtain rfl : k = f.parts.length := by omega
      ((first | refine w_retO Tryz.tab [] (by rfl) (by simp) (by simp) (fun K' hL => ?_) ?_ ?_ ?_ | refine w_retO_end Tryz.tab [] (by rfl) (by simp) (by simp) (fun K' hL => ?_) ?_ ?_ ?_); (conv => whnf); (refine hL _ ?_; clear hL); all_goals simp [sendObs, sendB])
  · rw [e3] at g3 g4
    have hv : frameS o f turn = (⟨o.last, o.time, shiftS o f turn⟩, [], 2) := by unfold frameS; rw [if_neg (by omega), if_pos (by omega)]
    rw [hv]
    ((first | refine w_retO Tryz.tab [] (by rfl) (by simp) (by simp) (fun K' hL => ?_) ?_ ?_ ?_ | refine w_retO_end Tryz.tab [] (by rfl) (by simp) (by simp) (fun K' hL => ?_) ?_ ?_ ?_); (conv => whnf); (refine hL _ ?_; clear hL); all_goals simp [sendObs, sendB])
end Go.Proofs.YtokkencbpmjdaaaGreat
end
section
namespace Go.Proofs.YtokkencbpmjdaaaGreat
open Go Go.Sy
set_option maxRecDepth 4000
set_option linter.unusedSimpArgs false
set_option linter.unusedVariables false
attribute [local irreducible] Reg RegD Later Out CallV Tri Side EqV Pause
def ou0 : Ou := ⟨0, 0, 0⟩
def rawS (o : Ou) (f : Fr) (turn : Bool) : Ou × List Pkt × Int := if (frameS o f turn).2.2 = 0 then frameS o f turn else (ou0, [], (frameS o f turn).2.2)
def outT (x : Ou × List Pkt × Int) : AV := .tup [.agg (ouC x.1), pkts x.2.1, I x.2.2]
theorem outT_pu (x : Ou × List Pkt × Int) : Pu (outT x) := by unfold outT; repeat constructor
set_option maxHeartbeats 1000000 in
theorem c_raw (o : Ou) (f : Fr) (turn : Bool) (ho : outOK o) (hf : 0 ≤ f.time ∧ f.time ≤ 1000000 ∧ f.parts.length ≤ 4) :
    PSpec Tryz.prog 121 [.agg (ouC o), .agg (frC f), B turn] (outT (rawS o f turn)) := by
  refine v_pspec Tryz.func121 rfl Tryz.ntmps121 Tryz.results121 (by simp) (outT_pu _) ?_
  repeat' (first
 | ((with_reducible apply w_ownCell 112 3 66 6); (case hb => rfl); (case hj => rfl); (case hsz => decide); (case hm => (try simp only [Nat.reduceAdd, Nat.reduceMul]); exact rfl))
 | (with_reducible first | apply qz0 | (refine h0 _ _ ?_; clear h0 hw) | (refine hw _ _ _ ?_; clear h0 hw) | apply qz1 | apply qz2 | apply qz5 | apply qz6 | (refine hL _ ?_; clear hL))
 | refine p_reg fun K1 hK => ?_
 | refine p_dreg Tryz.mix fun K1 hK => ?_
 | apply go_seq
 | ((first | refine p_op Tryz.tab fun K' h0 hw => ?_ | refine p_op0 Tryz.tab fun K' h0 hw => ?_ | refine p_dop Tryz.tab fun K' h0 hw => ?_ | refine p_dop0 Tryz.tab fun K' h0 hw => ?_); conv => whnf)
 | (refine p_nil (hK _ ?_); clear hK)
 | (refine d_nil (p_obj ?_ (hK _ _ _ _)); clear hK)
 | ((with_reducible refine callV_id (f := 135) ?_); have hcs_ := c_frame o f turn ho hf; (with_reducible apply w_callO [112, 144] own135 (hcs_)); (case hx => rfl); (case he => rfl); (case hle => first | ((repeat constructor); done) ); (case hm => rfl); (case hnd => decide); (case' hK => (try clear hcs_); conv => whnf); (any_goals (simp [sendObs]; done)))
 | ((with_reducible apply go_cond); (case hb => rfl))
 | ((with_reducible first | refine w_ret Tryz.tab fun K' hL => ?_ ); (conv => whnf))
 | ((with_reducible apply And.intro); (case' right => try (conv => whnf)); (case' left => try first | rfl | decide | (simp [sendObs]; done) ))
 | (first | (guard_hyp g1; intro g2; try simp at g2) | intro g1; try simp at g1))
  · have hv : rawS o f turn = (ou0, [], (frameS o f turn).2.2) := if_neg g1
    rw [hv]; simp [outT, ou0]
  · have hv : rawS o f turn = frameS o f turn := if_pos g1
    rw [hv]; simp [outT, g1]
def sendE (o : Ou) (f : Fr) : Int := if outE o = 0 then frameE f else outE o
def sendS (o : Ou) (f : Fr) (turn : Bool) : Ou × List Pkt × Int := if sendE o f = 0 then rawS o f turn else (ou0, [], sendE o f)
theorem outE_ok {o : Ou} (h : outE o = 0) : outOK o := by
  unfold outE at h
  by_cases c : outOK o
  · exact c
  · rw [if_neg c] at h; cases h
theorem sendE_ok {o : Ou} {f : Fr} (h : sendE o f = 0) : outOK o ∧ 0 ≤ f.time ∧ f.time ≤ 1000000 ∧ f.parts.length ≤ 4 ∧ f.parts ≠ [] ∧ f.parts.any big = false := by
  unfold sendE at h
  by_cases c : outE o = 0
  · rw [if_pos c] at h; exact ⟨outE_ok c, frameE_ok h⟩
  · rw [if_neg c] at h; exact absurd h c
set_option maxHeartbeats 2000000 in
theorem c_sendOf (o : Ou) (f : Fr) (turn : Bool) (ho : outOK o) (hf : 0 ≤ f.time ∧ f.time ≤ 1000000 ∧ f.parts.length ≤ 4) :
    PSpec Tryz.prog 35 [.agg (ouC o), .agg (frC f), B turn] (outT (rawS o f turn)) := by
  have hp := ho
  unfold outOK at hp
  have hs : -2000000 ≤ shiftS o f turn ∧ shiftS o f turn ≤ 2000000 := by unfold shiftS; split <;> omega
  have e1 := wrp (n := o.time + 10) (by omega) (by omega)
  have e2 := wrp (n := o.time + 10 - f.time) (by omega) (by omega)
  have e3 := wrp (n := f.time + shiftS o f turn) (by omega) (by omega)
  have e4 := wrp (n := o.last + (f.parts.length : Int)) (by omega) (by omega)
  refine v_pspec Tryz.func35 rfl Tryz.ntmps35 Tryz.results35 (by simp) (outT_pu _) ?_
  repeat' (first
 | ((first | with_reducible refine w_cut (x := .seq (.region _ _ _) (.cond (.tmp 19) _ _)) (X := Unit) [14, 15, 16, 17, 18, 19, 20, 21, 22, 23, 24, 25, 26] (fun _ => []) (fun _ => [(96, .box [I o.last, I o.time, I (shiftS o f turn)])]) (fun _ => True) ?_ ?_); (try (rintro z hz; simp only at hz)))
 | ((with_reducible apply w_ownNil 10 66 6); (case hs => rfl); (case hsz => decide); (case hm => (try simp only [Nat.reduceAdd, Nat.reduceMul]); exact rfl))
 | (with_reducible first | apply qz0 | (refine h0 _ _ ?_; clear h0 hw) | (refine hw _ _ _ ?_; clear h0 hw) | apply qz1 | apply qz2 | apply qz3 | apply qz5 | apply qz6 | (refine hL _ ?_; clear hL))
 | refine p_reg fun K1 hK => ?_ | refine p_regE fun K1 hK => ?_
 | apply go_seq
 | ((first | refine p_op Tryz.tab fun K' h0 hw => ?_ | refine p_op0 Tryz.tab fun K' h0 hw => ?_); conv => whnf)
 | (refine p_nil (hK _ ?_); clear hK)
 | (first | refine v_grd_yes (by rfl) (by rfl) ?_)
 | ((first | (apply v_grd_no; (case hg => rfl); (case hb => rfl)) | (apply v_grd; (case hg => rfl); (case hb => rfl))); (case hi => (simp only [Nat.reduceAdd, Nat.reduceMul]; rfl)))
 | ((with_reducible apply go_cond); (case hb => rfl))
 | ((with_reducible first | refine w_ret Tryz.tab fun K' hL => ?_ ); (conv => whnf))
 | ((with_reducible apply And.intro); (case' right => try (conv => whnf)); (case' left => try first | rfl | decide | (simp; done) ))
 | (first | (guard_hyp g8; intro g9; try simp at g9) | (guard_hyp g7; intro g8; try simp at g8) | (guard_hyp g6; intro g7; try simp at g7) | (guard_hyp g5; intro g6; try simp at g6) | (guard_hyp g4; intro g5; try simp at g5) | (guard_hyp g3; intro g4; try simp at g4) | (guard_hyp g2; intro g3; try simp at g3) | (guard_hyp g1; intro g2; try simp at g2) | intro g1; try simp at g1))
  · have hv : shiftS o f turn = o.time + 10 - f.time := if_pos (.inr g2)
    ((refine w_nx (()) ?_ ?_ ?_ ?_ ?_ ?_); (case refine_1 => simp [hv, e1, e2]); (case refine_2 => simp [hv, e1, e2]); (case refine_3 => simp (disch := omega) [hv, e1, e2, wrp]); (case refine_4 => simp [hv, e1, e2]); (case refine_5 => first | (simp; omega) | (simp; done) | omega | (simp only; omega)); (case' refine_6 => (try simp only); (try exact trivial)))
  · have hv : shiftS o f turn = o.shift := if_neg (by simp [g1, g2])
    ((refine w_nx (()) ?_ ?_ ?_ ?_ ?_ ?_); (case refine_1 => simp [hv, e1, e2]); (case refine_2 => simp [hv, e1, e2]); (case refine_3 => simp (disch := omega) [hv, e1, e2, wrp]); (case refine_4 => simp [hv, e1, e2]); (case refine_5 => first | (simp; omega) | (simp; done) | omega | (simp only; omega)); (case' refine_6 => (try simp only); (try exact trivial)))
  · have hv : shiftS o f turn = o.time + 10 - f.time := if_pos (.inl (by simp_all))
    ((refine w_nx (()) ?_ ?_ ?_ ?_ ?_ ?_); (case refine_1 => simp [hv, e1, e2]); (case refine_2 => simp [hv, e1, e2]); (case refine_3 => simp (disch := omega) [hv, e1, e2, wrp]); (case refine_4 => simp [hv, e1, e2]); (case refine_5 => first | (simp; omega) | (simp; done) | omega | (simp only; omega)); (case' refine_6 => (try simp only); (try exact trivial)))
  · rw [e3] at g3
    have hv : frameS o f turn = (⟨o.last, o.time, shiftS o f turn⟩, [], 4) := if_pos g3
    simp [outT, rawS, hv, ou0]
  · rw [e3] at g3 g4
    rw [e4] at g5
    have hv : frameS o f turn = (⟨o.last, o.time, shiftS o f turn⟩, [], 2) := by unfold frameS; rw [if_neg (by omega), if_pos (by omega)]
    simp [outT, rawS, hv, ou0]
  · rw [e3] at g3 g4
    rw [e4] at g5
    have hv : frameS o f turn = (⟨o.last + f.parts.length, f.time + shiftS o f turn, shiftS o f turn⟩, pksTo o.last (f.time + shiftS o f turn) f f.parts.length, 0) := by unfold frameS; rw [if_neg (by omega), if_neg (by omega)]
    have hr : rawS o f turn = frameS o f turn := if_pos (by rw [hv])
    rw [hr, hv]
    refine w_loop (X := Nat) [10, 11, 12, 55, 56, 57, 58, 59, 60, 61, 62, 63, 64, 65, 66, 67, 68, 69, 70, 71, 72, 73, 74, 75, 76, 77, 78, 79, 80, 81, 82, 83, 84, 85, 86, 87, 88, 89, 90, 91, 92] (fun k => [(11, I k), (10, .osl 592 6 (rowP (pksTo o.last (f.time + shiftS o f turn) f k)))]) (fun k => [(592, .perm 66 6 k)]) (fun k => k ≤ f.parts.length) (fun k => f.parts.length - k) 0 (by simp) ?_ ?_
    · refine ⟨kt_refl, ko_refl, ?_, ?_, ?_, ?_, Nat.le_refl _⟩ <;> simp [pksTo]
    rintro k h1
    have hpl := pksTo_len o.last (f.time + shiftS o f turn) f k
    have hp2 := pksTo_succ o.last (f.time + shiftS o f turn) f k
    unfold pk pkS at hp2
    have ha : o.last + (k : Int) + 1 = o.last + 1 + k := by omega
    rw [ha] at hp2
    have e5 := wrp (n := o.last + 1) (by omega) (by omega)
    have e6 := wrp (n := o.last + 1 + (k : Int)) (by omega) (by omega)
    have e7 := tmp (a := o.last + 1 + (k : Int)) (b := 65536) (by omega)
    have e8 := wrp (n := (f.parts.length : Int) - 1) (by omega) (by omega)
    repeat' (first
 | (with_reducible first | apply qz0 | (refine h0 _ _ ?_; clear h0 hw) | (refine hw _ _ _ ?_; clear h0 hw) | apply qz1 | apply qz2 | apply qz3 | apply qz4 | apply qz6 | apply qz7 | apply qz9 | apply qza | apply qzc | (refine hL _ ?_; clear hL))
 | refine p_reg fun K1 hK => ?_ | refine p_regE fun K1 hK => ?_
 | refine p_dreg Tryz.mix fun K1 hK => ?_ | refine p_dregE Tryz.mix fun K1 hK => ?_
 | apply go_seq
 | ((first | refine p_op Tryz.tab fun K' h0 hw => ?_ | refine p_op0 Tryz.tab fun K' h0 hw => ?_ | refine p_dop Tryz.tab fun K' h0 hw => ?_ | refine p_dop0 Tryz.tab fun K' h0 hw => ?_); conv => whnf)
 | (refine p_nil (hK _ ?_); clear hK)
 | (refine d_nil (p_obj ?_ (hK _ _ _ _)); clear hK)
 | ((with_reducible apply go_cond); (case hb => rfl))
 | ((with_reducible first | refine w_ret Tryz.tab fun K' hL => ?_ ); (conv => whnf))
 | ((with_reducible apply And.intro); (case' right => try (conv => whnf)); (case' left => try first | rfl | decide | (simp [pksTo_len]; done) ))
 | exact p_side
 | ((with_reducible refine all_row ?_); (first | intro x1 hx1); conv => whnf)
 | (first | (guard_hyp g8; intro g9; try simp at g9) | (guard_hyp g7; intro g8; try simp at g8) | (guard_hyp g6; intro g7; try simp at g7) | (guard_hyp g5; intro g6; try simp at g6) | (guard_hyp g4; intro g5; try simp at g5) | (guard_hyp g3; intro g4; try simp at g4) | (guard_hyp g2; intro g3; try simp at g3) | (guard_hyp g1; intro g2; try simp at g2) | intro g1; try simp at g1))
    all_goals (try rw [e8] at g8)
    iterate 4
      (simp at hx1
       first | have q7 : decide ((k : Int) = 0) = true := by simp; omega | have q7 : decide ((k : Int) = 0) = false := by simp; omega
       first | have q8 : decide ((k : Int) = (f.parts.length : Int) - 1) = true := by simp; omega | have q8 : decide ((k : Int) = (f.parts.length : Int) - 1) = false := by simp; omega
       clear g7 g8
       have hp3 := hp2
       rw [q7, q8, at_getD hx1] at hp3
       ((refine w_nx ((k + 1)) ?_ ?_ ?_ ?_ ?_ ?_); (case refine_1 => simp [hp3, e5, e6, e7, pksTo_len]); (case refine_2 => simp [hp3, e5, e6, e7, pksTo_len]); (case refine_3 => simp (disch := omega) [hp3, e5, e6, e7, pksTo_len, wrp]); (case refine_4 => simp [hp3, e5, e6, e7, pksTo_len]); (case refine_5 => first | (simp; omega) | (simp; done) | omega | (simp only; omega)); (case' refine_6 => (try simp only); (try exact trivial)))
       omega)
    · obtain rfl : k = f.parts.length := by omega
      simp [outT, e3, e4]
  · rw [e3] at g3 g4
    have hv : frameS o f turn = (⟨o.last, o.time, shiftS o f turn⟩, [], 2) := by unfold frameS; rw [if_neg (by omega), if_pos (by omega)]
    simp [outT, rawS, hv, ou0]
end Go.Proofs.YtokkencbpmjdaaaGreat
end
section
namespace Go.Proofs.YtokkencbpmjdaaaGreat
open Go Go.Sy
set_option maxRecDepth 4000
set_option linter.unusedSimpArgs false
set_option linter.unusedVariables false
attribute [local irreducible] Reg RegD Later Out CallV Tri Side EqV Pause
end Go.Proofs.YtokkencbpmjdaaaGreat
end
section
namespace Go.Proofs.YtokkencbpmjdaaaGreat
open Go Go.Sy
set_option maxRecDepth 4000
set_option linter.unusedSimpArgs false
set_option linter.unusedVariables false
attribute [local irreducible] Reg RegD Later Out CallV Tri Side EqV Pause
theorem send_ok {o : Ou} {f : Fr} {turn : Bool} (h : (sendS o f turn).2.2 = 0) : ∃ t sh, sendS o f turn = (⟨o.last + f.parts.length, t, sh⟩, pksTo o.last t f f.parts.length, 0) ∧ outE ⟨o.last + f.parts.length, t, sh⟩ = 0 ∧
    outOK o ∧ frameE f = 0 ∧ o.time ≤ t ∧ t ≤ 1000000 ∧ o.last + f.parts.length ≤ 1000000000 ∧ (turn = true → t = o.time + 10) := by
  unfold sendS at h ⊢
  by_cases h1 : sendE o f = 0
  · rw [if_pos h1] at h ⊢
    obtain ⟨k1, k2, k3, k4, k5, k6⟩ := sendE_ok h1
    have kf : frameE f = 0 := by
      unfold sendE at h1
      by_cases c : outE o = 0
      · rw [if_pos c] at h1; exact h1
      · rw [if_neg c] at h1; exact absurd h1 c
    have kp := k1
    unfold outOK at kp
    unfold rawS at h ⊢
    by_cases h2 : (frameS o f turn).2.2 = 0
    · rw [if_pos h2]
      unfold frameS at h2 ⊢
      by_cases q1 : f.time + shiftS o f turn < o.time
      · rw [if_pos q1] at h2; cases h2
      · rw [if_neg q1] at h2 ⊢
        by_cases q2 : 1000000 < f.time + shiftS o f turn ∨ 1000000000 < o.last + f.parts.length
        · rw [if_pos q2] at h2; cases h2
        · rw [if_neg q2]
          refine ⟨_, _, rfl, ?_, k1, kf, by omega, by omega, by omega, fun ht => ?_⟩
          · unfold outE
            rw [if_pos]
            unfold outOK
            refine ⟨by simp only; omega, by simp only; omega, ?_⟩
            simp only
            unfold shiftS at q1 q2 ⊢
            split <;> rename_i c <;> (try rw [if_pos c] at q1 q2) <;> (try rw [if_neg c] at q1 q2) <;> omega
          · simp [shiftS, ht]; omega
    · rw [if_neg h2] at h; exact absurd h h2
  · rw [if_neg h1] at h; exact absurd h h1
end Go.Proofs.YtokkencbpmjdaaaGreat
end

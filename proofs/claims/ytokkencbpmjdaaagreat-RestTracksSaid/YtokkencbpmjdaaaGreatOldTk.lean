/- Walks of tracks and the desk, for what is old: what comes back is new. CONDITIONS: slices fit into memory. -/
import Derived.Test.YtokkencbpmjdaaaGreatOld
import Derived.Test.YtokkencbpmjdaaaGreatDesk
namespace Go.Proofs.YtokkencbpmjdaaaGreat
open Go Go.Sy
set_option maxRecDepth 4000
set_option linter.unusedSimpArgs false
set_option linter.unusedVariables false
attribute [local irreducible] Reg RegD Later Out CallV Tri Side EqV Pause
abbrev sltsO (l : List Slt) : AV := .ol 7 (rowL l)
abbrev tkO (t : Tk) : List AV := [I t.last, I t.buf.next, sltsO t.buf.held, sltsO t.op, I t.st.first, grsO t.st.gs, frsO t.st.op]
theorem old_rowL (l : List Slt) : oldM (rowL l) = rowL l := by
  rw [oldM_map, List.map_map]; exact List.map_congr_left fun s _ => by simp [oldL, AV.old]
theorem pl_rowL (l : List Slt) : plM (rowL l) := plM_iff.2 fun x hx => by
  obtain ⟨s, _, rfl⟩ := List.mem_map.1 hx; exact ⟨trivial, trivial, trivial, trivial, trivial, trivial, trivial, trivial⟩
theorem pl_tkC (t : Tk) : plL (tkC t) := ⟨trivial, trivial, pl_rowL _, pl_rowL _, trivial, pl_rowG _, pl_rowF _, trivial⟩
set_option maxHeartbeats 400000 in
theorem c_cloneSltO (l : List Slt) (hl : l.length ≤ 1000000000000) : CSpec Tryz.prog 71 [sltsO l] [] (.osl 0 7 (rowL l)) [.perm 102 7 l.length] := by
  cases l with
  | nil =>
    refine cspec_emptyO fun v hv => ?_
    rcases hv with rfl | ⟨a, cap, rfl⟩
    · refine v_cspec Tryz.func71 rfl Tryz.ntmps71 Tryz.results71 (by simp) (k := 0) rfl ?_
      repeat' (first
 | ((with_reducible apply w_ownNil 2 102 7); (case hs => rfl); (case hsz => decide); (case hm => (try simp only [Nat.reduceAdd, Nat.reduceMul]); exact rfl))
 | (with_reducible first | apply qz0 | (refine h0 _ _ ?_; clear h0 hw) | apply qz1 | apply qz5 )
 | refine p_reg fun K1 hK => ?_
 | apply go_seq
 | (refine p_op Tryz.tab fun K' h0 hw => ?_; conv => whnf)
 | (refine p_nil (hK _ ?_); clear hK)
 | ((with_reducible apply go_cond); (case hb => rfl))
 | ((with_reducible apply And.intro); (case' right => try (conv => whnf)); (case' left => try first | decide ))
 | (first  | intro g1; try simp at g1))
      ((first | refine w_retO Tryz.tab [80] (by rfl) (by simp) (by simp) (fun K' hL => ?_) ?_ ?_ ?_ | refine w_retO_end Tryz.tab [80] (by rfl) (by simp) (by simp) (fun K' hL => ?_) ?_ ?_ ?_); (conv => whnf); (refine hL _ ?_; clear hL); all_goals simp)
    · refine v_cspec Tryz.func71 rfl Tryz.ntmps71 Tryz.results71 (by simp) (k := 0) rfl ?_
      repeat' (first
 | (with_reducible first | apply qz0 | (refine h0 _ _ ?_; clear h0 hw) | (refine hw _ _ _ ?_; clear h0 hw) | apply qz1 | apply qz2 | apply qz6 )
 | refine p_reg fun K1 hK => ?_
 | apply go_seq
 | (refine p_op Tryz.tab fun K' h0 hw => ?_; conv => whnf)
 | (refine p_nil (hK _ ?_); clear hK)
 | ((with_reducible apply go_cond); (case hb => rfl))
 | ((with_reducible apply And.intro); (case' right => try (conv => whnf)); (case' left => try first | rfl | decide ))
 | exact p_side
 | (first  | intro g1; try simp at g1))
      ((first | refine w_retO Tryz.tab [48] (by rfl) (by simp) (by simp) (fun K' hL => ?_) ?_ ?_ ?_ | refine w_retO_end Tryz.tab [48] (by rfl) (by simp) (by simp) (fun K' hL => ?_) ?_ ?_ ?_); (conv => whnf); (refine hL _ ?_; clear hL); all_goals simp)
  | cons x l =>
    simp at hl
    refine v_cspec Tryz.func71 rfl Tryz.ntmps71 Tryz.results71 (by simp) (k := 0) rfl ?_
    repeat' (first
 | (with_reducible first | apply qz0 | (refine h0 _ _ ?_; clear h0 hw) | (refine hw _ _ _ ?_; clear h0 hw) | apply qz1 | apply qz2 | apply qz6 )
 | refine p_reg fun K1 hK => ?_
 | apply go_seq
 | (refine p_op Tryz.tab fun K' h0 hw => ?_; conv => whnf)
 | (refine p_nil (hK _ ?_); clear hK)
 | ((with_reducible apply go_cond); (case hb => rfl))
 | ((with_reducible apply And.intro); (case' right => try (conv => whnf)); (case' left => try first | rfl | decide ))
 | exact p_side
 | (first  | intro g1; try simp at g1))
    ((first | refine w_retO Tryz.tab [48] (by rfl) (by simp) (by simp) (fun K' hL => ?_) ?_ ?_ ?_ | refine w_retO_end Tryz.tab [48] (by rfl) (by simp) (by simp) (fun K' hL => ?_) ?_ ?_ ?_); (conv => whnf); (refine hL _ ?_; clear hL); all_goals simp)
theorem p_cloneSltO (l : List Slt) (hl : l.length ≤ 1000000000000) : PSpec Tryz.prog 71 [sltsO l] (slts l) := pspec_of_cspec (c_cloneSltO l hl) (.osl _ _ _) (.sl _ _)
theorem p_storeOwnO (s : Sto) (hs : Small s) : PSpec Tryz.prog 72 [.agg (stO s)] (.agg (stC s)) :=
  pspec_of_cspec (c_storeOwnO s hs) (.agg _ _ (.cons _ _ _ _ (.refl _) (.cons _ _ _ _ (.osl _ _ _) (.cons _ _ _ _ (.osl _ _ _) .nil)))) (.agg _ (.cons _ _ (.s _) (.cons _ _ (.sl _ _) (.cons _ _ (.sl _ _) .nil))))
set_option maxHeartbeats 1000000 in
theorem c_trackOwnO (t : Tk) (ht : RightT t) : PSpec Tryz.prog 42 [.agg (tkO t)] (.agg (tkC t)) := by
  have h1 := buf_small ht.buf
  have h2 := (buildE_ok ht.op).1
  refine p_pspec Tryz.func42 Tryz.ntmps42 Tryz.results42 ?_
  repeat' (first
 | (with_reducible first | apply qz0 | (refine h0 _ _ ?_; clear h0 hw) | (refine hw _ _ _ ?_; clear h0 hw) | apply qz1 | (refine hL _ ?_; clear hL))
 | refine p_reg fun K1 hK => ?_
 | refine p_dreg Tryz.mix fun K1 hK => ?_
 | ((first | refine p_op Tryz.tab fun K' h0 hw => ?_ | refine p_dop Tryz.tab fun K' h0 hw => ?_ | refine p_dop0 Tryz.tab fun K' h0 hw => ?_); conv => whnf)
 | (refine p_nil (hK _ ?_); clear hK)
 | (refine d_nil (p_obj ?_ (hK _ _ _ _)); clear hK)
 | ((with_reducible refine callV_id (f := 71) ?_); have hcs_ := p_cloneSltO t.buf.held (by omega); (with_reducible apply callV_f own71 (hcs_)); (case hx => rfl); (case he => rfl); (case hle => first | ((repeat constructor); done) ); (case hpu => repeat constructor); (case' hK => (try clear hcs_); conv => whnf))
 | ((with_reducible refine callV_id (f := 71) ?_); have hcs_ := p_cloneSltO t.op (by omega); (with_reducible apply callV_f own71 (hcs_)); (case hx => rfl); (case he => rfl); (case hle => first | ((repeat constructor); done) ); (case hpu => repeat constructor); (case' hK => (try clear hcs_); conv => whnf))
 | ((with_reducible refine callV_id (f := 72) ?_); have hcs_ := p_storeOwnO t.st ht.st.small; (with_reducible apply callV_f own72 (hcs_)); (case hx => rfl); (case he => rfl); (case hle => first | ((repeat constructor); done) ); (case hpu => repeat constructor); (case' hK => (try clear hcs_); conv => whnf))
 | ((with_reducible first | refine w_ret Tryz.tab fun K' hL => ?_ ); (conv => whnf))
 | ((with_reducible apply And.intro); (case' right => try (conv => whnf)); (case' left => try first | rfl | decide | (simp; done) ))
 )
  all_goals repeat constructor
theorem c_trackCheckO (t : Tk) (ht : FitsT t) : PSpec Tryz.prog 21 [.agg (tkO t)] (I (trackE t)) := by
  have h := (c_trackCheck t ht).olds ⟨pl_tkC t, trivial⟩ trivial
  rwa [show oldL [.agg (tkC t)] = [.agg (tkO t)] by simp only [oldL, AV.old, old_rowL, old_rowF, old_rowG]] at h
set_option maxHeartbeats 4000000 in
theorem c_trackRawO (t : Tk) (s : ByteArray) (ht : RightT t) (hs : s.size ≤ 1000000000000000) : PSpec Tryz.prog 41 [.agg (tkO t), Tx s] (tkT (feedR t s)) := by
  have hd := c_decode s hs
  have ho := c_trackOwnO t ht
  by_cases h : (decS s).2 = 0
  · have hp := decS_right h
    have hf := c_feed t (decS s).1 ht hp
    have hn := c_trackDone (feedP t (decS s).1).1 (feedP t (decS s).1).2.1 (feedP t (decS s).1).2.2
    have e : feedR t s = if (feedP t (decS s).1).2.2 = 0 then ((feedP t (decS s).1).1, (feedP t (decS s).1).2.1, 0) else (tk0, 0, (feedP t (decS s).1).2.2) := by
      rw [feedR, if_pos h, doneT]
      split
      · rename_i q; exact Prod.ext rfl (Prod.ext rfl q)
      · rfl
    rw [e]
    refine p_pspec Tryz.func41 Tryz.ntmps41 Tryz.results41 ?_
    repeat' (first
 | (with_reducible first | apply qz0 | (refine h0 _ _ ?_; clear h0 hw) | (refine hw _ _ _ ?_; clear h0 hw) | apply qz1 | apply qz2 | apply qz5 | apply qz6 | (refine hL _ ?_; clear hL))
 | refine p_reg fun K1 hK => ?_
 | apply go_seq
 | ((first | refine p_op Tryz.tab fun K' h0 hw => ?_ | refine p_op0 Tryz.tab fun K' h0 hw => ?_); conv => whnf)
 | (refine p_nil (hK _ ?_); clear hK)
 | (refine p_call own69 (hd) ?_; conv => whnf)
 | (refine p_call own42 (ho) ?_; conv => whnf)
 | ((with_reducible refine callV_id (f := 70) ?_); (with_reducible apply w_callO [272] own70 (hf)); (case hx => rfl); (case he => rfl); (case hle => first | ((repeat constructor); done) ); (case hm => rfl); (case hnd => decide); (case' hK => conv => whnf); (any_goals (simp; done)))
 | ((with_reducible refine callV_id (f := 44) ?_); (with_reducible apply w_callR [272] own44 (hn)); (case hx => rfl); (case he => rfl); (case hle => first | ((repeat constructor); done) ); (case hm => rfl); (case hnd => decide); (case' hK => conv => whnf); (any_goals first | exact ⟨rfl, trivial⟩ | (simp; done)))
 | ((with_reducible apply go_cond); (case hb => rfl))
 | ((with_reducible first | refine w_ret Tryz.tab fun K' hL => ?_ ); (conv => whnf))
 | ((with_reducible apply And.intro); (case' right => try (conv => whnf)); (case' left => try first | rfl | decide | (simp; done) ))
 | (first | (guard_hyp g1; intro g2; try simp at g2) | intro g1; try simp at g1))
    all_goals first | exact absurd h g1 | exact absurd g1 h | (split <;> simp [tk0, st0]; done) | (simp [tk0, st0]; done)
  · have e : feedR t s = (tk0, 0, (decS s).2) := if_neg h
    rw [e]
    refine p_pspec Tryz.func41 Tryz.ntmps41 Tryz.results41 ?_
    repeat' (first
 | (with_reducible first | apply qz0 | (refine h0 _ _ ?_; clear h0 hw) | (refine hw _ _ _ ?_; clear h0 hw) | apply qz1 | apply qz2 | apply qz5 | apply qz6 | (refine hL _ ?_; clear hL))
 | refine p_reg fun K1 hK => ?_
 | apply go_seq
 | ((first | refine p_op Tryz.tab fun K' h0 hw => ?_ | refine p_op0 Tryz.tab fun K' h0 hw => ?_); conv => whnf)
 | (refine p_nil (hK _ ?_); clear hK)
 | (refine p_call own69 (hd) ?_; conv => whnf)
 | ((with_reducible apply go_cond); (case hb => rfl))
 | ((with_reducible first | refine w_ret Tryz.tab fun K' hL => ?_ ); (conv => whnf))
 | ((with_reducible apply And.intro); (case' right => try (conv => whnf)); (case' left => try first | rfl | decide | (simp; done) ))
 | (first | (guard_hyp g1; intro g2; try simp at g2) | intro g1; try simp at g1))
    all_goals first | exact absurd h g1 | exact absurd g1 h | (split <;> simp [tk0, st0]; done) | (simp [tk0, st0]; done)
set_option maxHeartbeats 2000000 in
theorem c_trackFeedO (t : Tk) (s : ByteArray) (ht : FitsT t) (hs : s.size ≤ 1000000000000000) : PSpec Tryz.prog 12 [.agg (tkO t), Tx s] (tkT (feedS t s)) := by
  by_cases h : trackE t = 0
  · rw [show feedS t s = feedR t s from if_pos h]
    have hr := c_trackRawO t s (trackE_ok h) hs
    refine p_pspec Tryz.func12 Tryz.ntmps12 Tryz.results12 ?_
    repeat' (first
 | (with_reducible first | apply qz0 | (refine h0 _ _ ?_; clear h0 hw) | (refine hw _ _ _ ?_; clear h0 hw) | apply qz1 | apply qz2 | apply qz5 | apply qz6 | (refine hL _ ?_; clear hL))
 | refine p_reg fun K1 hK => ?_
 | apply go_seq
 | ((first | refine p_op Tryz.tab fun K' h0 hw => ?_ | refine p_op0 Tryz.tab fun K' h0 hw => ?_); conv => whnf)
 | (refine p_nil (hK _ ?_); clear hK)
 | ((with_reducible refine callV_id (f := 21) ?_); have hcs_ := c_trackCheckO t ht; (with_reducible apply callV_f own21 (hcs_)); (case hx => rfl); (case he => rfl); (case hle => first | ((repeat constructor); done) ); (case hpu => repeat constructor); (case' hK => (try clear hcs_); conv => whnf))
 | (refine p_call own41 (hr) ?_; conv => whnf)
 | ((with_reducible apply go_cond); (case hb => rfl))
 | ((with_reducible first | refine w_ret Tryz.tab fun K' hL => ?_ ); (conv => whnf))
 | ((with_reducible apply And.intro); (case' right => try (conv => whnf)); (case' left => try first | rfl | decide | (simp; done) ))
 | (first | (guard_hyp g1; intro g2; try simp at g2) | intro g1; try simp at g1))
    all_goals first | exact absurd h g1 | (simp; done)
  · rw [show feedS t s = (tk0, 0, trackE t) from if_neg h]
    refine p_pspec Tryz.func12 Tryz.ntmps12 Tryz.results12 ?_
    repeat' (first
 | (with_reducible first | apply qz0 | (refine h0 _ _ ?_; clear h0 hw) | (refine hw _ _ _ ?_; clear h0 hw) | apply qz1 | apply qz2 | apply qz5 | apply qz6 | (refine hL _ ?_; clear hL))
 | refine p_reg fun K1 hK => ?_
 | apply go_seq
 | ((first | refine p_op Tryz.tab fun K' h0 hw => ?_ | refine p_op0 Tryz.tab fun K' h0 hw => ?_); conv => whnf)
 | (refine p_nil (hK _ ?_); clear hK)
 | ((with_reducible refine callV_id (f := 21) ?_); have hcs_ := c_trackCheckO t ht; (with_reducible apply callV_f own21 (hcs_)); (case hx => rfl); (case he => rfl); (case hle => first | ((repeat constructor); done) ); (case hpu => repeat constructor); (case' hK => (try clear hcs_); conv => whnf))
 | ((with_reducible apply go_cond); (case hb => rfl))
 | ((with_reducible first | refine w_ret Tryz.tab fun K' hL => ?_ ); (conv => whnf))
 | ((with_reducible apply And.intro); (case' right => try (conv => whnf)); (case' left => try first | rfl | decide | (simp; done) ))
 | (first | (guard_hyp g1; intro g2; try simp at g2) | intro g1; try simp at g1))
    all_goals first | exact absurd g1 h | (simp [tk0, st0]; done)
set_option maxHeartbeats 4000000 in
theorem c_trackDrainO (t : Tk) (ht : FitsT t) : PSpec Tryz.prog 13 [.agg (tkO t)] (tkT (drainS t)) := by
  by_cases h : trackE t = 0
  · have hr := trackE_ok h
    have ho := c_trackOwnO t hr
    have hem := c_bufEmpty t.buf hr.buf
    obtain ⟨d1, d2, d3, d4, d5, d6⟩ := drain_ok hr
    have hsl := c_slots (relS 0 t.buf.next t.buf.held []).2.2 (emptyT t) 0 d1 d2 (by omega) (by omega)
    obtain ⟨x, hx⟩ : ∃ x, x = takenL (relS 0 t.buf.next t.buf.held []).2.2 (emptyT t) 0 := ⟨_, rfl⟩
    have hdn := c_trackDone x.1 x.2.1 x.2.2
    rw [← hx] at hsl
    have e : drainS t = if x.2.2 = 0 then (x.1, x.2.1, 0) else (tk0, 0, x.2.2) := by
      rw [drainS, if_pos h, drainR, ← hx, doneT]
      split
      · rename_i q; exact Prod.ext rfl (Prod.ext rfl q)
      · rfl
    rw [e]
    clear hx e
    refine p_pspec Tryz.func13 Tryz.ntmps13 Tryz.results13 ?_
    repeat' (first
 | (with_reducible first | apply qz0 | (refine h0 _ _ ?_; clear h0 hw) | (refine hw _ _ _ ?_; clear h0 hw) | apply qz1 | apply qz2 | apply qz5 | apply qz6 | (refine hL _ ?_; clear hL))
 | refine p_reg fun K1 hK => ?_
 | apply go_seq
 | ((first | refine p_op Tryz.tab fun K' h0 hw => ?_ | refine p_op0 Tryz.tab fun K' h0 hw => ?_); conv => whnf)
 | (refine p_nil (hK _ ?_); clear hK)
 | ((with_reducible refine callV_id (f := 21) ?_); have hcs_ := c_trackCheckO t ht; (with_reducible apply callV_f own21 (hcs_)); (case hx => rfl); (case he => rfl); (case hle => first | ((repeat constructor); done) ); (case hpu => repeat constructor); (case' hK => (try clear hcs_); conv => whnf))
 | (refine p_call own42 (ho) ?_; conv => whnf)
 | (refine p_call own43 (hem) ?_; conv => whnf)
 | ((with_reducible refine callV_id (f := 45) ?_); (with_reducible apply w_callO [192] own45 (hsl)); (case hx => rfl); (case he => rfl); (case hle => first | ((repeat constructor); done) ); (case hm => rfl); (case hnd => decide); (case' hK => conv => whnf); (any_goals (simp [emptyT]; done)))
 | ((with_reducible refine callV_id (f := 44) ?_); (with_reducible apply w_callR [192] own44 (hdn)); (case hx => rfl); (case he => rfl); (case hle => first | ((repeat constructor); done) ); (case hm => rfl); (case hnd => decide); (case' hK => conv => whnf); (any_goals first | exact ⟨rfl, trivial⟩ | (simp [emptyT]; done)))
 | ((with_reducible apply go_cond); (case hb => rfl))
 | ((with_reducible first | refine w_ret Tryz.tab fun K' hL => ?_ ); (conv => whnf))
 | ((with_reducible apply And.intro); (case' right => try (conv => whnf)); (case' left => try first | rfl | decide | (simp [emptyT]; done) ))
 | (first | (guard_hyp g1; intro g2; try simp at g2) | intro g1; try simp at g1))
    all_goals first | exact absurd h g1 | (split <;> simp [tk0, st0]; done) | (simp [tk0, st0]; done)
  · rw [show drainS t = (tk0, 0, trackE t) from if_neg h]
    refine p_pspec Tryz.func13 Tryz.ntmps13 Tryz.results13 ?_
    repeat' (first
 | (with_reducible first | apply qz0 | (refine h0 _ _ ?_; clear h0 hw) | (refine hw _ _ _ ?_; clear h0 hw) | apply qz1 | apply qz2 | apply qz5 | apply qz6 | (refine hL _ ?_; clear hL))
 | refine p_reg fun K1 hK => ?_
 | apply go_seq
 | ((first | refine p_op Tryz.tab fun K' h0 hw => ?_ | refine p_op0 Tryz.tab fun K' h0 hw => ?_); conv => whnf)
 | (refine p_nil (hK _ ?_); clear hK)
 | ((with_reducible refine callV_id (f := 21) ?_); have hcs_ := c_trackCheckO t ht; (with_reducible apply callV_f own21 (hcs_)); (case hx => rfl); (case he => rfl); (case hle => first | ((repeat constructor); done) ); (case hpu => repeat constructor); (case' hK => (try clear hcs_); conv => whnf))
 | ((with_reducible apply go_cond); (case hb => rfl))
 | ((with_reducible first | refine w_ret Tryz.tab fun K' hL => ?_ ); (conv => whnf))
 | ((with_reducible apply And.intro); (case' right => try (conv => whnf)); (case' left => try first | rfl | decide | (simp; done) ))
 | (first | (guard_hyp g1; intro g2; try simp at g2) | intro g1; try simp at g1))
    all_goals first | exact absurd g1 h | (simp [tk0, st0]; done)
set_option maxHeartbeats 4000000 in
theorem c_deskRawO (t : Tk) (v : Vw) (a : Ac) (ht : RightT t) (hv : OkV v) (hs : a.text.size ≤ 1000000000000000) : PSpec Tryz.prog 37 [.agg (tkO t), .agg (vwC v), .agg (acC a)] (dsT (actR t v a)) := by
  have ho := c_trackOwnO t ht
  have hd := c_ddo ⟨v, t, []⟩ a ht hv (by simp) hs
  have hf := c_form a
  refine p_pspec Tryz.func37 Tryz.ntmps37 Tryz.results37 ?_
  repeat' (first
 | ((with_reducible apply w_ownCell 176 13 66 6); (case hb => rfl); (case hj => rfl); (case hsz => decide); (case hm => (try simp only [Nat.reduceAdd, Nat.reduceMul]); exact rfl))
 | (with_reducible first | apply qz0 | (refine h0 _ _ ?_; clear h0 hw) | (refine hw _ _ _ ?_; clear h0 hw) | apply qz1 | apply qz2 | apply qz5 | apply qz6 | (refine hL _ ?_; clear hL))
 | refine p_reg fun K1 hK => ?_ | refine p_regE fun K1 hK => ?_
 | refine p_dreg Tryz.mix fun K1 hK => ?_
 | apply go_seq
 | ((first | refine p_op Tryz.tab fun K' h0 hw => ?_ | refine p_op0 Tryz.tab fun K' h0 hw => ?_ | refine p_dop Tryz.tab fun K' h0 hw => ?_ | refine p_dop0 Tryz.tab fun K' h0 hw => ?_); conv => whnf)
 | (refine p_nil (hK _ ?_); clear hK)
 | (refine d_nil (p_obj ?_ (hK _ _ _ _)); clear hK)
 | (refine p_call own42 (ho) ?_; conv => whnf)
 | (refine p_call own65 (hf) ?_; conv => whnf)
 | ((with_reducible refine callV_id (f := 66) ?_); (with_reducible apply w_callO [176, 208] own66 (hd)); (case hx => rfl); (case he => rfl); (case hle => first | ((repeat constructor); done) ); (case hm => rfl); (case hnd => decide); (case' hK => conv => whnf); (any_goals (simp; done)))
 | ((with_reducible apply go_cond); (case hb => rfl))
 | ((with_reducible first | refine w_ret Tryz.tab fun K' hL => ?_ ); (conv => whnf))
 | ((with_reducible apply And.intro); (case' right => try (conv => whnf)); (case' left => try first | rfl | decide | (simp; done) ))
 | (first | (guard_hyp g2; intro g3; try simp at g3) | (guard_hyp g1; intro g2; try simp at g2) | intro g1; try simp at g1))
  · rw [actR, if_pos g1, if_neg g2]; simp [ds0, tk0, st0, vw0, cu0, ou0]
  · rw [actR, if_pos g1, if_pos g2]; simp [g2]
  · rw [actR, if_neg g1]; simp [ds0, tk0, st0, vw0, cu0, ou0]
  · exact absurd g2 g1
set_option maxHeartbeats 2000000 in
theorem c_deskDoO (t : Tk) (v : Vw) (a : Ac) (ht : FitsT t) (hs : a.text.size ≤ 1000000000000000) : PSpec Tryz.prog 10 [.agg (tkO t), .agg (vwC v), .agg (acC a)] (dsT (actS t v a)) := by
  have q1 := c_trackCheckO t ht
  have q2 := c_viewer v
  by_cases h : actE t v = 0
  · have h1 : trackE t = 0 ∧ viewerE v = 0 := by
      unfold actE at h
      by_cases c : trackE t = 0
      · rw [if_pos c] at h; exact ⟨c, h⟩
      · rw [if_neg c] at h; exact absurd h c
    have hr := c_deskRawO t v a (trackE_ok h1.1) (viewerE_ok h1.2) hs
    rw [show actS t v a = actR t v a from if_pos h]
    refine p_pspec Tryz.func10 Tryz.ntmps10 Tryz.results10 ?_
    repeat' (first
 | (with_reducible first | apply qz0 | (refine h0 _ _ ?_; clear h0 hw) | (refine hw _ _ _ ?_; clear h0 hw) | apply qz1 | apply qz2 | apply qz5 | apply qz6 | (refine hL _ ?_; clear hL))
 | refine p_reg fun K1 hK => ?_ | refine p_regE fun K1 hK => ?_
 | apply go_seq
 | ((first | refine p_op Tryz.tab fun K' h0 hw => ?_ | refine p_op0 Tryz.tab fun K' h0 hw => ?_); conv => whnf)
 | (refine p_nil (hK _ ?_); clear hK)
 | (refine p_call own21 (q1) ?_; conv => whnf)
 | (refine p_call own36 (q2) ?_; conv => whnf)
 | (refine p_call own37 (hr) ?_; conv => whnf)
 | ((with_reducible apply go_cond); (case hb => rfl))
 | ((with_reducible first | refine w_ret Tryz.tab fun K' hL => ?_ ); (conv => whnf))
 | ((with_reducible apply And.intro); (case' right => try (conv => whnf)); (case' left => try first | rfl | decide | (simp; done) ))
 | (first | (guard_hyp g2; intro g3; try simp at g3) | (guard_hyp g1; intro g2; try simp at g2) | intro g1; try simp at g1))
    all_goals first | exact absurd h1.2 g2 | exact absurd h1.1 g1 | exact absurd g2 g1 | (simp; done)
  · rw [show actS t v a = (ds0, actE t v) from if_neg h]
    refine p_pspec Tryz.func10 Tryz.ntmps10 Tryz.results10 ?_
    repeat' (first
 | (with_reducible first | apply qz0 | (refine h0 _ _ ?_; clear h0 hw) | (refine hw _ _ _ ?_; clear h0 hw) | apply qz1 | apply qz2 | apply qz5 | apply qz6 | (refine hL _ ?_; clear hL))
 | refine p_reg fun K1 hK => ?_ | refine p_regE fun K1 hK => ?_
 | apply go_seq
 | ((first | refine p_op Tryz.tab fun K' h0 hw => ?_ | refine p_op0 Tryz.tab fun K' h0 hw => ?_); conv => whnf)
 | (refine p_nil (hK _ ?_); clear hK)
 | (refine p_call own21 (q1) ?_; conv => whnf)
 | (refine p_call own36 (q2) ?_; conv => whnf)
 | ((with_reducible apply go_cond); (case hb => rfl))
 | ((with_reducible first | refine w_ret Tryz.tab fun K' hL => ?_ ); (conv => whnf))
 | ((with_reducible apply And.intro); (case' right => try (conv => whnf)); (case' left => try first | rfl | decide | (simp; done) ))
 | (first | (guard_hyp g2; intro g3; try simp at g3) | (guard_hyp g1; intro g2; try simp at g2) | intro g1; try simp at g1))
    all_goals first
      | exact absurd (show actE t v = 0 by rw [actE, if_pos g1]; exact g2) h
      | exact absurd g2 g1
      | (rw [show actE t v = viewerE v from if_pos g1]; simp [ds0, tk0, st0, vw0, cu0, ou0]; done)
      | (rw [show actE t v = trackE t from if_neg g1]; simp [ds0, tk0, st0, vw0, cu0, ou0]; done)
end Go.Proofs.YtokkencbpmjdaaaGreat

/- Tracks, walked: feed, drain; the document's. No condition. -/
import Derived.Test.YtokkencbpmjdaaaGreatTrack2
namespace Go.Proofs.YtokkencbpmjdaaaGreat
open Go Go.Sy
set_option maxRecDepth 4000
set_option linter.unusedSimpArgs false
set_option linter.unusedVariables false
attribute [local irreducible] Reg RegD Later Out CallV Tri Side EqV Pause
set_option maxHeartbeats 2000000 in
theorem c_trackFeed (t : Tk) (s : ByteArray) (ht : FitsT t) (hs : s.size ≤ 1000000000000000) : PSpec Tryz.prog 12 [.agg (tkC t), Tx s] (tkT (feedS t s)) := by
  by_cases h : trackE t = 0
  · rw [show feedS t s = feedR t s from if_pos h]
    have hr := c_trackRaw t s (trackE_ok h) hs
    refine p_pspec Tryz.func12 Tryz.ntmps12 Tryz.results12 ?_
    repeat' (first
 | (with_reducible first | apply qz0 | (refine h0 _ _ ?_; clear h0 hw) | (refine hw _ _ _ ?_; clear h0 hw) | apply qz1 | apply qz2 | apply qz5 | apply qz6 | (refine hL _ ?_; clear hL))
 | refine p_reg fun K1 hK => ?_
 | apply go_seq
 | ((first | refine p_op Tryz.tab fun K' h0 hw => ?_ | refine p_op0 Tryz.tab fun K' h0 hw => ?_); conv => whnf)
 | (refine p_nil (hK _ ?_); clear hK)
 | ((with_reducible refine callV_id (f := 21) ?_); have hcs_ := c_trackCheck t ht; (with_reducible apply callV_f own21 (hcs_)); (case hx => rfl); (case he => rfl); (case hle => first | ((repeat constructor); done) ); (case hpu => repeat constructor); (case' hK => (try clear hcs_); conv => whnf))
 | (refine p_call own41 (hr) ?_; conv => whnf)
 | ((with_reducible apply go_cond); (case hb => rfl))
 | ((with_reducible first | refine w_ret Tryz.tab fun K' hL => ?_ ); (conv => whnf))
 | ((with_reducible apply And.intro); (case' right => try (conv => whnf)); (case' left => try first | rfl | decide | (simp; done) ))
 | (first | (guard_hyp g1; intro g2; try simp at g2) | intro g1; try simp at g1))
    all_goals first | exact absurd h g1 | (simp; done)
  · rw [show feedS t s = (tk0, 0, trackE t) from if_neg h]
    refine p_pspec Tryz.func12 Tryz.ntmps12 Tryz.results12 ?_
    repeat' (first
 | (with_reducible first | apply qz0 | (refine h0 _ _ ?_; clear h0 hw) | (refine hw _ _ _ ?_; clear h0 hw) | apply qz1 | apply qz2 | apply qz5 | apply qz6 | (refine hL _ ?_; clear hL))
 | refine p_reg fun K1 hK => ?_
 | apply go_seq
 | ((first | refine p_op Tryz.tab fun K' h0 hw => ?_ | refine p_op0 Tryz.tab fun K' h0 hw => ?_); conv => whnf)
 | (refine p_nil (hK _ ?_); clear hK)
 | ((with_reducible refine callV_id (f := 21) ?_); have hcs_ := c_trackCheck t ht; (with_reducible apply callV_f own21 (hcs_)); (case hx => rfl); (case he => rfl); (case hle => first | ((repeat constructor); done) ); (case hpu => repeat constructor); (case' hK => (try clear hcs_); conv => whnf))
 | ((with_reducible apply go_cond); (case hb => rfl))
 | ((with_reducible first | refine w_ret Tryz.tab fun K' hL => ?_ ); (conv => whnf))
 | ((with_reducible apply And.intro); (case' right => try (conv => whnf)); (case' left => try first | rfl | decide | (simp; done) ))
 | (first | (guard_hyp g1; intro g2; try simp at g2) | intro g1; try simp at g1))
    all_goals first | exact absurd g1 h | (simp [tk0, st0]; done)
set_option maxHeartbeats 4000000 in
theorem c_trackDrain (t : Tk) (ht : FitsT t) : PSpec Tryz.prog 13 [.agg (tkC t)] (tkT (drainS t)) := by
  by_cases h : trackE t = 0
  · have hr := trackE_ok h
    have ho := c_trackOwn t hr
    have hem := c_bufEmpty t.buf hr.buf
    obtain ⟨d1, d2, d3, d4, d5, d6⟩ := drain_ok hr
    have hsl := c_slots (relS 0 t.buf.next t.buf.held []).2.2 (emptyT t) 0 d1 d2 (by omega) (by omega)
    obtain ⟨x, hx⟩ : ∃ x, x = takenL (relS 0 t.buf.next t.buf.held []).2.2 (emptyT t) 0 := ⟨_, rfl⟩
    have hdn := c_trackDone x.1 x.2.1 x.2.2
    rw [← hx] at hsl
    have e : drainS t = if x.2.2 = 0 then (x.1, x.2.1, 0) else (tk0, 0, x.2.2) := by
      rw [drainS, if_pos h, drainR, ← hx, doneT]
      split
      · rename_i q; exact Prod.ext rfl (Prod.ext rfl q)
      · rfl
    rw [e]
    clear hx e
    refine p_pspec Tryz.func13 Tryz.ntmps13 Tryz.results13 ?_
    repeat' (first
 | (with_reducible first | apply qz0 | (refine h0 _ _ ?_; clear h0 hw) | (refine hw _ _ _ ?_; clear h0 hw) | apply qz1 | apply qz2 | apply qz5 | apply qz6 | (refine hL _ ?_; clear hL))
 | refine p_reg fun K1 hK => ?_
 | apply go_seq
 | ((first | refine p_op Tryz.tab fun K' h0 hw => ?_ | refine p_op0 Tryz.tab fun K' h0 hw => ?_); conv => whnf)
 | (refine p_nil (hK _ ?_); clear hK)
 | ((with_reducible refine callV_id (f := 21) ?_); have hcs_ := c_trackCheck t ht; (with_reducible apply callV_f own21 (hcs_)); (case hx => rfl); (case he => rfl); (case hle => first | ((repeat constructor); done) ); (case hpu => repeat constructor); (case' hK => (try clear hcs_); conv => whnf))
 | (refine p_call own42 (ho) ?_; conv => whnf)
 | (refine p_call own43 (hem) ?_; conv => whnf)
 | ((with_reducible refine callV_id (f := 45) ?_); (with_reducible apply w_callO [192] own45 (hsl)); (case hx => rfl); (case he => rfl); (case hle => first | ((repeat constructor); done) ); (case hm => rfl); (case hnd => decide); (case' hK => conv => whnf); (any_goals (simp [emptyT]; done)))
 | ((with_reducible refine callV_id (f := 44) ?_); (with_reducible apply w_callR [192] own44 (hdn)); (case hx => rfl); (case he => rfl); (case hle => first | ((repeat constructor); done) ); (case hm => rfl); (case hnd => decide); (case' hK => conv => whnf); (any_goals first | exact ⟨rfl, trivial⟩ | (simp [emptyT]; done)))
 | ((with_reducible apply go_cond); (case hb => rfl))
 | ((with_reducible first | refine w_ret Tryz.tab fun K' hL => ?_ ); (conv => whnf))
 | ((with_reducible apply And.intro); (case' right => try (conv => whnf)); (case' left => try first | rfl | decide | (simp [emptyT]; done) ))
 | (first | (guard_hyp g1; intro g2; try simp at g2) | intro g1; try simp at g1))
    all_goals first | exact absurd h g1 | (split <;> simp [tk0, st0]; done) | (simp [tk0, st0]; done)
  · rw [show drainS t = (tk0, 0, trackE t) from if_neg h]
    refine p_pspec Tryz.func13 Tryz.ntmps13 Tryz.results13 ?_
    repeat' (first
 | (with_reducible first | apply qz0 | (refine h0 _ _ ?_; clear h0 hw) | (refine hw _ _ _ ?_; clear h0 hw) | apply qz1 | apply qz2 | apply qz5 | apply qz6 | (refine hL _ ?_; clear hL))
 | refine p_reg fun K1 hK => ?_
 | apply go_seq
 | ((first | refine p_op Tryz.tab fun K' h0 hw => ?_ | refine p_op0 Tryz.tab fun K' h0 hw => ?_); conv => whnf)
 | (refine p_nil (hK _ ?_); clear hK)
 | ((with_reducible refine callV_id (f := 21) ?_); have hcs_ := c_trackCheck t ht; (with_reducible apply callV_f own21 (hcs_)); (case hx => rfl); (case he => rfl); (case hle => first | ((repeat constructor); done) ); (case hpu => repeat constructor); (case' hK => (try clear hcs_); conv => whnf))
 | ((with_reducible apply go_cond); (case hb => rfl))
 | ((with_reducible first | refine w_ret Tryz.tab fun K' hL => ?_ ); (conv => whnf))
 | ((with_reducible apply And.intro); (case' right => try (conv => whnf)); (case' left => try first | rfl | decide | (simp; done) ))
 | (first | (guard_hyp g1; intro g2; try simp at g2) | intro g1; try simp at g1))
    all_goals first | exact absurd g1 h | (simp [tk0, st0]; done)
set_option maxHeartbeats 4000000 in
theorem c_taken (l : List Slt) (t : Tk) (ht : OkTk t) (hl : ∀ a ∈ l, sltE a = 0) (hn : l.length ≤ 1000) :
    PSpec Tryz.prog 61 [.agg (tkC t), slts l] (tkT (doneT (takenL l t 0))) := by
  refine p_pspec Tryz.func61 Tryz.ntmps61 Tryz.results61 ?_
  repeat' (first
 | (with_reducible first | apply qz0 | (refine h0 _ _ ?_; clear h0 hw) | (refine hw _ _ _ ?_; clear h0 hw) | apply qz3 )
 | refine p_reg fun K1 hK => ?_
 | apply go_seq
 | (refine p_op Tryz.tab fun K' h0 hw => ?_; conv => whnf)
 | (refine p_nil (hK _ ?_); clear hK)
 | ((with_reducible apply And.intro); (case' right => try (conv => whnf)); (case' left => try first | rfl ))
 )
  refine w_loop (X := Nat × Tk × Int) [5, 6, 7, 8, 9, 10, 11, 12, 13, 14, 15, 16, 17, 18, 19, 20, 21, 22, 23, 24, 25, 26, 27, 28, 29, 30, 31, 32, 33, 34, 35, 36, 37, 38, 39, 40, 41, 42, 43, 44, 45, 46, 47, 48, 49, 50, 51] (fun x => [(8, I x.1), (7, I x.2.2)]) (fun x => [(0, .box (tkC x.2.1))]) (fun x => x.1 ≤ l.length ∧ takenL (l.drop x.1) x.2.1 x.2.2 = takenL l t 0 ∧ OkTk x.2.1 ∧ 0 ≤ x.2.2 ∧ x.2.2 ≤ 1000 + x.1) (fun x => l.length - x.1) (0, t, 0) ?_ ?_ ?_
  · exact ⟨Nat.zero_le _, rfl, ht, by simp, by simp⟩
  · refine ⟨kt_refl, ko_refl, ?_, ?_, ?_, ?_, Nat.le_refl _⟩ <;> simp
  rintro ⟨i, t', k'⟩ ⟨h1, h2, h3, h4, h5⟩
  simp only at h1 h2 h3 h4 h5
  have hsl : ∀ {x1 : Slt}, l[i]? = some x1 → sltE x1 = 0 := fun h => hl _ (List.mem_of_getElem? h)
  have hfr : ∀ x1 : Slt, PSpec Tryz.prog 89 [.agg [slts t'.op], .agg (sltC x1)] (rawT t'.op x1) := fun x1 => c_addOf t'.op x1 (OkO.right (buildE_ok h3.op))
  have hraw : ∀ x1 : Slt, l[i]? = some x1 → (addS t'.op x1).2.2 = true → PSpec Tryz.prog 90 [.agg (stC t'.st), .agg (frC (addS t'.op x1).2.1)] (stT (storeRaw t'.st (addS t'.op x1).2.1)) := fun x1 h h' => c_storeAddR _ _ h3.st (add_frame (buildE_ok h3.op) (hsl h) h')
  have e3 := wrp (n := k' + 1) (by omega) (by omega)
  repeat' (first
 | (with_reducible first | apply qz0 | (refine h0 _ _ ?_; clear h0 hw) | (refine hw _ _ _ ?_; clear h0 hw) | apply qz1 | apply qz2 | apply qz3 | apply qz4 | apply qz5 | apply qz6 | apply qz7 | apply qz8 | apply qz9 | apply qza | apply qzb | apply qzc | (refine hL _ ?_; clear hL))
 | refine p_reg fun K1 hK => ?_ | refine p_regE fun K1 hK => ?_
 | refine p_dreg Tryz.mix fun K1 hK => ?_
 | apply go_seq
 | ((first | refine p_op Tryz.tab fun K' h0 hw => ?_ | refine p_op0 Tryz.tab fun K' h0 hw => ?_ | refine p_dop Tryz.tab fun K' h0 hw => ?_ | refine p_dop0 Tryz.tab fun K' h0 hw => ?_); conv => whnf)
 | (refine p_nil (hK _ ?_); clear hK)
 | (refine d_nil (p_obj ?_ (hK _ _ _ _)); clear hK)
 | ((with_reducible refine callV_id (f := 89) ?_); have hcs_ := hfr x1; (with_reducible apply callV_f own89 (hcs_)); (case hx => rfl); (case he => rfl); (case hle => first | ((repeat constructor); done) ); (case hpu => repeat constructor); (case' hK => (try clear hcs_); conv => whnf))
 | ((with_reducible refine callV_id (f := 90) ?_); have hcs_ := hraw x1 (by simpa using hx1) (by assumption); (with_reducible apply callV_f own90 (hcs_)); (case hx => rfl); (case he => rfl); (case hle => first | ((repeat constructor); done) ); (case hpu => repeat constructor); (case' hK => (try clear hcs_); conv => whnf))
 | ((with_reducible apply go_cond); (case hb => rfl))
 | ((with_reducible first | refine w_ret Tryz.tab fun K' hL => ?_ ); (conv => whnf))
 | ((with_reducible apply And.intro); (case' right => try (conv => whnf)); (case' left => try first | rfl | decide | (simp; done) ))
 | exact p_side
 | ((with_reducible refine all_row ?_); (first | intro x1 hx1); conv => whnf)
 | (first | (guard_hyp g4; intro g5; try simp at g5) | (guard_hyp g3; intro g4; try simp at g4) | (guard_hyp g2; intro g3; try simp at g3) | (guard_hyp g1; intro g2; try simp at g2) | intro g1; try simp at g1))
  all_goals (try simp at hx1)
  · rw [takenL_at hx1, if_pos g2, if_neg g3] at h2
    rw [← h2, doneT, if_neg g3]
    simp [tk0, st0]
  · rw [takenL_at hx1, if_pos g2, if_pos g3, if_pos g4] at h2
    ((refine w_nx ((i + 1, ⟨t'.last, t'.buf, (addS t'.op x1).1, (storeRaw t'.st (addS t'.op x1).2.1).1⟩, k' + 1)) ?_ ?_ ?_ ?_ ?_ ?_); (case refine_1 => simp [e3]); (case refine_2 => simp [e3]); (case refine_3 => simp (disch := omega) [e3, wrp]); (case refine_4 => simp [e3]); (case refine_5 => first | (simp; omega) | (simp; done) | omega | (simp only; omega)); (case' refine_6 => (try simp only); (try exact trivial)))
    exact ⟨by omega, h2, ⟨add_build h3.op (hsl hx1), raw_rightS h3.st (add_frame (buildE_ok h3.op) (hsl hx1) g2) g3⟩, by omega, by omega⟩
  · rw [takenL_at hx1, if_pos g2, if_pos g3, if_neg (by simp [g4])] at h2
    (refine p_nx ((i + 1, ⟨t'.last, t'.buf, (addS t'.op x1).1, (storeRaw t'.st (addS t'.op x1).2.1).1⟩, k')) ?_; (try simp only); (try exact trivial))
    exact ⟨by omega, h2, ⟨add_build h3.op (hsl hx1), raw_rightS h3.st (add_frame (buildE_ok h3.op) (hsl hx1) g2) g3⟩, h4, by omega⟩
  · rw [takenL_at hx1, if_neg (by simp [g2])] at h2
    (refine p_nx ((i + 1, ⟨t'.last, t'.buf, (addS t'.op x1).1, t'.st⟩, k')) ?_; (try simp only); (try exact trivial))
    exact ⟨by omega, h2, ⟨add_build h3.op (hsl hx1), h3.st⟩, h4, by omega⟩
  · rw [List.drop_eq_nil_of_le g1] at h2
    rw [← h2]
    simp [takenL, doneT]
set_option maxHeartbeats 4000000 in
theorem c_feedOf (t : Tk) (s : ByteArray) (ht : RightT t) : PSpec Tryz.prog 32 [.agg (tkC t), Tx s] (tkT (feedR t s)) := by
  have hd := c_packetOf s
  by_cases h : (decS s).2 = 0
  · have hp := decS_right h
    have hq := pktE_ok4 hp
    rw [show feedR t s = doneT (feedP t (decS s).1) from if_pos h]
    obtain ⟨p, hpe⟩ : ∃ p, p = (decS s).1 := ⟨_, rfl⟩
    rw [← hpe] at hp hq ⊢
    have hd' : PSpec Tryz.prog 58 [Tx s] (decT (p, 0)) := by
      have : decS s = (p, 0) := by rw [hpe]; exact Prod.ext rfl h
      rwa [this] at hd
    have e1 := wrp (n := p.seq + 65536) (by omega) (by omega)
    have hl := ht.last
    refine p_pspec Tryz.func32 Tryz.ntmps32 Tryz.results32 ?_
    repeat' (first
 | ((first | with_reducible refine w_cut (x := .seq (.region _ _ _) (.cond (.tmp 26) _ _)) (X := Unit) [5, 6, 8, 9, 24, 25, 26, 27, 28, 29, 30, 31, 32, 33, 34, 35, 36, 37, 38] (fun _ => [(9, I (numS t p))]) (fun _ => []) (fun _ => numE t p = 0) ?_ ?_); (try (rintro z hz; simp only at hz)))
 | ((first | with_reducible refine w_cut (x := .seq (.region _ _ _) (.cond (.tmp 42) _ _)) (X := Unit) [39, 40, 41, 42, 43, 44] (fun _ => []) (fun _ => [(0, .box [I (if t.last < numS t p then numS t p else t.last), I t.buf.next, slts t.buf.held, slts t.op, I t.st.first, grs t.st.gs, frs t.st.op])]) (fun _ => True) ?_ ?_); (try (rintro z hz; simp only at hz)))
 | (with_reducible first | apply qz0 | (refine h0 _ _ ?_; clear h0 hw) | (refine hw _ _ _ ?_; clear h0 hw) | apply qz1 | apply qz2 | apply qz6 | apply qzb | (refine hL _ ?_; clear hL))
 | refine p_reg fun K1 hK => ?_ | refine p_regE fun K1 hK => ?_
 | apply go_seq
 | ((first | refine p_op Tryz.tab fun K' h0 hw => ?_ | refine p_op0 Tryz.tab fun K' h0 hw => ?_); conv => whnf)
 | (refine p_nil (hK _ ?_); clear hK)
 | (refine p_call own58 (hd') ?_; conv => whnf)
 | (refine p_call own59 (c_unwrapOf _ _) ?_; conv => whnf)
 | ((with_reducible refine callV_id (f := 60) ?_); have hcs_ := c_putOf t.buf ⟨numS t p, p⟩ ht.buf (num_right ht hp (by assumption)); (with_reducible apply callV_f own60 (hcs_)); (case hx => rfl); (case he => rfl); (case hle => first | ((repeat constructor); done) ); (case hpu => repeat constructor); (case' hK => (try clear hcs_); conv => whnf))
 | ((with_reducible refine callV_id (f := 61) ?_); have hcs_ := c_taken (rawB t.buf ⟨numS t p, p⟩).2.2 (putT t (numS t p) p) (feedP_ok ht hp (by assumption)).1 (feedP_ok ht hp (by assumption)).2.1 (by have := (feedP_ok ht hp (by assumption)).2.2.1; omega); (with_reducible apply callV_f own61 (hcs_)); (case hx => rfl); (case he => rfl); (case hle => first | ((repeat constructor); done) ); (case hpu => repeat constructor); (case' hK => (try clear hcs_); conv => whnf))
 | ((with_reducible apply go_cond); (case hb => rfl))
 | ((with_reducible first | refine w_ret Tryz.tab fun K' hL => ?_ ); (conv => whnf))
 | ((with_reducible apply And.intro); (case' right => try (conv => whnf)); (case' left => try first | rfl | decide | (simp [putT]; done) ))
 | (first | (guard_hyp g5; intro g6; try simp at g6) | (guard_hyp g4; intro g5; try simp at g5) | (guard_hyp g3; intro g4; try simp at g4) | (guard_hyp g2; intro g3; try simp at g3) | (guard_hyp g1; intro g2; try simp at g2) | intro g1; try simp at g1))
    · have e2 : numE t p = (unwrapS t.last p.seq).2 := if_neg (by omega)
      rw [feedP, if_neg (by rw [e2]; exact g3), doneT, if_neg (by rw [e2]; exact g3), e2]
      simp [tk0, st0]
    · have e : numS t p = (unwrapS t.last p.seq).1 := if_neg (by omega)
      have e2 : numE t p = (unwrapS t.last p.seq).2 := if_neg (by omega)
      ((refine w_nx (()) ?_ ?_ ?_ ?_ ?_ ?_); (case refine_1 => simp [e]); (case refine_2 => simp [e]); (case refine_3 => simp (disch := omega) [e, wrp]); (case refine_4 => simp [e]); (case refine_5 => first | (simp; omega) | (simp; done) | omega | (simp only; omega)); (case' refine_6 => (try simp only); (try exact trivial)))
      rw [e2, g3]
    · have e : numS t p = p.seq + 65536 := if_pos (by omega)
      have e2 : numE t p = 0 := if_pos (by omega)
      ((refine w_nx (()) ?_ ?_ ?_ ?_ ?_ ?_); (case refine_1 => simp [e, e1]); (case refine_2 => simp [e, e1]); (case refine_3 => simp (disch := omega) [e, e1, wrp]); (case refine_4 => simp [e, e1]); (case refine_5 => first | (simp; omega) | (simp; done) | omega | (simp only; omega)); (case' refine_6 => (try simp only); (try exact trivial)))
      exact e2
    · ((refine w_nx (()) ?_ ?_ ?_ ?_ ?_ ?_); (case refine_1 => simp [g4]); (case refine_2 => simp [g4]); (case refine_3 => simp (disch := omega) [g4, wrp]); (case refine_4 => simp [g4]); (case refine_5 => first | (simp; omega) | (simp; done) | omega | (simp only; omega)); (case' refine_6 => (try simp only); (try exact trivial)))
    · have g5 : ¬ t.last < numS t p := by omega
      ((refine w_nx (()) ?_ ?_ ?_ ?_ ?_ ?_); (case refine_1 => simp [g5]); (case refine_2 => simp [g5]); (case refine_3 => simp (disch := omega) [g5, wrp]); (case refine_4 => simp [g5]); (case refine_5 => first | (simp; omega) | (simp; done) | omega | (simp only; omega)); (case' refine_6 => (try simp only); (try exact trivial)))
    · rw [feedP, if_pos (by assumption)]
      simp
  · rw [show feedR t s = (tk0, 0, (decS s).2) from if_neg h]
    refine p_pspec Tryz.func32 Tryz.ntmps32 Tryz.results32 ?_
    repeat' (first
 | (with_reducible first | apply qz0 | (refine h0 _ _ ?_; clear h0 hw) | (refine hw _ _ _ ?_; clear h0 hw) | apply qz1 | apply qz2 | apply qz5 | apply qz6 | (refine hL _ ?_; clear hL))
 | refine p_reg fun K1 hK => ?_ | refine p_regE fun K1 hK => ?_
 | apply go_seq
 | ((first | refine p_op Tryz.tab fun K' h0 hw => ?_ | refine p_op0 Tryz.tab fun K' h0 hw => ?_); conv => whnf)
 | (refine p_nil (hK _ ?_); clear hK)
 | (refine p_call own58 (hd) ?_; conv => whnf)
 | ((with_reducible apply go_cond); (case hb => rfl))
 | ((with_reducible first | refine w_ret Tryz.tab fun K' hL => ?_ ); (conv => whnf))
 | ((with_reducible apply And.intro); (case' right => try (conv => whnf)); (case' left => try first | rfl | decide | (simp; done) ))
 | (first | (guard_hyp g5; intro g6; try simp at g6) | (guard_hyp g4; intro g5; try simp at g5) | (guard_hyp g3; intro g4; try simp at g4) | (guard_hyp g2; intro g3; try simp at g3) | (guard_hyp g1; intro g2; try simp at g2) | intro g1; try simp at g1))
    all_goals first | exact absurd g1 h | (simp [tk0, st0]; done)
end Go.Proofs.YtokkencbpmjdaaaGreat

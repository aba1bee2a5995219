/- Tracks, walked: what becomes of slots, of a packet. No condition. -/
import Derived.Test.YtokkencbpmjdaaaGreatTrackLaw2
namespace Go.Proofs.YtokkencbpmjdaaaGreat
open Go Go.Sy
set_option maxRecDepth 4000
set_option linter.unusedSimpArgs false
set_option linter.unusedVariables false
attribute [local irreducible] Reg RegD Later Out CallV Tri Side EqV Pause
abbrev tkB (t : Tk) (k : Int) : List AV := [I t.last, I t.buf.next, slts t.buf.held, slts t.op, I t.st.first, grs t.st.gs, frs t.st.op, I k]
theorem takenL_at {l : List Slt} {t : Tk} {k : Int} {i : Nat} {x : Slt} (hx : l[i]? = some x) : takenL (l.drop i) t k = if (addS t.op x).2.2 = true then
      (if (storeRaw t.st (addS t.op x).2.1).2.2 = 0 then takenL (l.drop (i + 1)) ⟨t.last, t.buf, (addS t.op x).1, (storeRaw t.st (addS t.op x).2.1).1⟩ (if (storeRaw t.st (addS t.op x).2.1).2.1 = true then k + 1 else k)
        else (⟨t.last, t.buf, (addS t.op x).1, t.st⟩, k, (storeRaw t.st (addS t.op x).2.1).2.2))
    else takenL (l.drop (i + 1)) ⟨t.last, t.buf, (addS t.op x).1, t.st⟩ k := by rw [drop_at hx]; rfl
set_option maxHeartbeats 4000000 in
theorem c_slots (l : List Slt) (t : Tk) (k : Int) (ht : OkTk t) (hl : ∀ a ∈ l, sltE a = 0) (hn : l.length ≤ 1000) (hk : 0 ≤ k ∧ k ≤ 1000) :
    CSpec Tryz.prog 45 [.ptr 0 0, slts l] [.box (tkB t k)] (I (takenL l t k).2.2) [.box (tkB (takenL l t k).1 (takenL l t k).2.1)] := by
  refine v_cspec Tryz.func45 rfl Tryz.ntmps45 Tryz.results45 (by simp) (k := 1) rfl ?_
  repeat' (first
 | (with_reducible first | apply qz0 | (refine h0 _ _ ?_; clear h0 hw) | apply qz3 )
 | refine p_reg fun K1 hK => ?_
 | apply go_seq
 | (refine p_op Tryz.tab fun K' h0 hw => ?_; conv => whnf)
 | (refine p_nil (hK _ ?_); clear hK)
 )
  refine w_loop (X := Nat × Tk × Int) [4, 6, 7, 8, 9, 10, 11, 12, 15, 16, 17, 18, 19, 20, 21, 22, 23, 24, 25, 26, 27, 28, 29, 30, 31, 32, 33, 34, 35, 36, 37, 38, 39, 40, 41, 42, 43, 44, 45, 46, 47, 48, 49, 50, 51, 52, 53, 54, 55, 56, 57, 58, 59, 60, 61, 62, 63, 64] (fun x => [(15, I x.1)]) (fun x => [(0, .box (tkB x.2.1 x.2.2))]) (fun x => x.1 ≤ l.length ∧ takenL (l.drop x.1) x.2.1 x.2.2 = takenL l t k ∧ OkTk x.2.1 ∧ 0 ≤ x.2.2 ∧ x.2.2 ≤ 1000 + x.1) (fun x => l.length - x.1) (0, t, k) ?_ ?_ ?_
  · exact ⟨Nat.zero_le _, rfl, ht, hk.1, by simp; omega⟩
  · refine ⟨kt_refl, ko_refl, ?_, ?_, ?_, ?_, Nat.le_refl _⟩ <;> simp
  rintro ⟨i, t', k'⟩ ⟨h1, h2, h3, h4, h5⟩
  simp only at h1 h2 h3 h4 h5
  have hsl : ∀ {x1 : Slt}, l[i]? = some x1 → sltE x1 = 0 := fun h => hl _ (List.mem_of_getElem? h)
  have hfr : ∀ x1 : Slt, PSpec Tryz.prog 75 [.agg [slts t'.op], .agg (sltC x1)] (rawT t'.op x1) := fun x1 => c_frameRaw t'.op x1 (OkO.right (buildE_ok h3.op))
  have hraw : ∀ x1 : Slt, l[i]? = some x1 → (addS t'.op x1).2.2 = true → PSpec Tryz.prog 76 [.agg (stC t'.st), .agg (frC (addS t'.op x1).2.1)] (stT (storeRaw t'.st (addS t'.op x1).2.1)) := fun x1 h h' => c_storeRaw _ _ h3.st (add_frame (buildE_ok h3.op) (hsl h) h')
  have e3 := wrp (n := k' + 1) (by omega) (by omega)
  repeat' (first
 | (with_reducible first | apply qz0 | (refine h0 _ _ ?_; clear h0 hw) | (refine hw _ _ _ ?_; clear h0 hw) | apply qz1 | apply qz2 | apply qz3 | apply qz4 | apply qz5 | apply qz6 | apply qz7 | apply qz8 | apply qz9 | apply qza | apply qzb | apply qzc )
 | refine p_reg fun K1 hK => ?_ | refine p_regE fun K1 hK => ?_
 | refine p_dreg Tryz.mix fun K1 hK => ?_
 | apply go_seq
 | ((first | refine p_op Tryz.tab fun K' h0 hw => ?_ | refine p_op0 Tryz.tab fun K' h0 hw => ?_ | refine p_dop Tryz.tab fun K' h0 hw => ?_ | refine p_dop0 Tryz.tab fun K' h0 hw => ?_); conv => whnf)
 | (refine p_nil (hK _ ?_); clear hK)
 | (refine d_nil (p_obj ?_ (hK _ _ _ _)); clear hK)
 | ((with_reducible refine callV_id (f := 75) ?_); have hcs_ := hfr x1; (with_reducible apply callV_f own75 (hcs_)); (case hx => rfl); (case he => rfl); (case hle => first | ((repeat constructor); done) ); (case hpu => repeat constructor); (case' hK => (try clear hcs_); conv => whnf))
 | ((with_reducible refine callV_id (f := 76) ?_); have hcs_ := hraw x1 (by simpa using hx1) (by assumption); (with_reducible apply callV_f own76 (hcs_)); (case hx => rfl); (case he => rfl); (case hle => first | ((repeat constructor); done) ); (case hpu => repeat constructor); (case' hK => (try clear hcs_); conv => whnf))
 | ((with_reducible apply go_cond); (case hb => rfl))
 | ((with_reducible apply And.intro); (case' right => try (conv => whnf)); (case' left => try first | rfl | decide | (simp; done) ))
 | exact p_side
 | ((with_reducible refine all_row ?_); (first | intro x1 hx1); conv => whnf)
 | (first | (guard_hyp g4; intro g5; try simp at g5) | (guard_hyp g3; intro g4; try simp at g4) | (guard_hyp g2; intro g3; try simp at g3) | (guard_hyp g1; intro g2; try simp at g2) | intro g1; try simp at g1))
  all_goals (try simp at hx1)
  · rw [takenL_at hx1, if_neg (by simp [g2])] at h2
    (refine p_nx ((i + 1, ⟨t'.last, t'.buf, (addS t'.op x1).1, t'.st⟩, k')) ?_; (try simp only); (try exact trivial))
    exact ⟨by omega, h2, ⟨add_build h3.op (hsl hx1), h3.st⟩, h4, by omega⟩
  · rw [takenL_at hx1, if_pos g2, if_neg g3] at h2
    rw [← h2]
    ((first | refine w_retO Tryz.tab [] (by rfl) (by simp) (by simp) (fun K' hL => ?_) ?_ ?_ ?_ | refine w_retO_end Tryz.tab [] (by rfl) (by simp) (by simp) (fun K' hL => ?_) ?_ ?_ ?_); (conv => whnf); (refine hL _ ?_; clear hL); all_goals simp)
  · rw [takenL_at hx1, if_pos g2, if_pos g3, if_pos g4] at h2
    ((refine w_nx ((i + 1, ⟨t'.last, t'.buf, (addS t'.op x1).1, (storeRaw t'.st (addS t'.op x1).2.1).1⟩, k' + 1)) ?_ ?_ ?_ ?_ ?_ ?_); (case refine_1 => simp [e3]); (case refine_2 => simp [e3]); (case refine_3 => simp (disch := omega) [e3, wrp]); (case refine_4 => simp [e3]); (case refine_5 => first | (simp; omega) | (simp; done) | omega | (simp only; omega)); (case' refine_6 => (try simp only); (try exact trivial)))
    exact ⟨by omega, h2, ⟨add_build h3.op (hsl hx1), raw_rightS h3.st (add_frame (buildE_ok h3.op) (hsl hx1) g2) g3⟩, by omega, by omega⟩
  · rw [takenL_at hx1, if_pos g2, if_pos g3, if_neg (by simp [g4])] at h2
    (refine p_nx ((i + 1, ⟨t'.last, t'.buf, (addS t'.op x1).1, (storeRaw t'.st (addS t'.op x1).2.1).1⟩, k')) ?_; (try simp only); (try exact trivial))
    exact ⟨by omega, h2, ⟨add_build h3.op (hsl hx1), raw_rightS h3.st (add_frame (buildE_ok h3.op) (hsl hx1) g2) g3⟩, h4, by omega⟩
  · rw [List.drop_eq_nil_of_le g1] at h2
    rw [← h2]
    ((first | refine w_retO Tryz.tab [] (by rfl) (by simp) (by simp) (fun K' hL => ?_) ?_ ?_ ?_ | refine w_retO_end Tryz.tab [] (by rfl) (by simp) (by simp) (fun K' hL => ?_) ?_ ?_ ?_); (conv => whnf); (refine hL _ ?_; clear hL); all_goals simp [takenL])
set_option maxHeartbeats 1000000 in
theorem c_trackDone (t : Tk) (k e : Int) : CSpec Tryz.prog 44 [.ptr 0 0, I e] [.box (tkB t k)] (tkT (if e = 0 then (t, k, 0) else (tk0, 0, e))) [.box (tkB t k)] := by
  refine v_cspec Tryz.func44 rfl Tryz.ntmps44 Tryz.results44 (by simp) (k := 1) rfl ?_
  repeat' (first
 | (with_reducible first | apply qz0 | (refine h0 _ _ ?_; clear h0 hw) | (refine hw _ _ _ ?_; clear h0 hw) | apply qz1 | apply qz2 | apply qz5 | apply qz6 )
 | refine p_reg fun K1 hK => ?_
 | refine p_dreg Tryz.mix fun K1 hK => ?_
 | apply go_seq
 | ((first | refine p_op Tryz.tab fun K' h0 hw => ?_ | refine p_op0 Tryz.tab fun K' h0 hw => ?_ | refine p_dop Tryz.tab fun K' h0 hw => ?_ | refine p_dop0 Tryz.tab fun K' h0 hw => ?_); conv => whnf)
 | (refine p_nil (hK _ ?_); clear hK)
 | (refine d_nil (p_obj ?_ (hK _ _ _ _)); clear hK)
 | ((with_reducible apply go_cond); (case hb => rfl))
 | ((with_reducible apply And.intro); (case' right => try (conv => whnf)); (case' left => try first | rfl | decide | (simp; done) ))
 | (first | (guard_hyp g1; intro g2; try simp at g2) | intro g1; try simp at g1))
  · rw [if_neg g1]
    ((first | refine w_retO Tryz.tab [] (by rfl) (by simp) (by simp) (fun K' hL => ?_) ?_ ?_ ?_ | refine w_retO_end Tryz.tab [] (by rfl) (by simp) (by simp) (fun K' hL => ?_) ?_ ?_ ?_); (conv => whnf); (refine hL _ ?_; clear hL); all_goals simp [tk0, st0])
  · rw [if_pos g1]
    ((first | refine w_retO Tryz.tab [] (by rfl) (by simp) (by simp) (fun K' hL => ?_) ?_ ?_ ?_ | refine w_retO_end Tryz.tab [] (by rfl) (by simp) (by simp) (fun K' hL => ?_) ?_ ?_ ?_); (conv => whnf); (refine hL _ ?_; clear hL); all_goals simp)
theorem p_cloneSlt (l : List Slt) (hl : l.length ≤ 1000000000000) : PSpec Tryz.prog 71 [slts l] (slts l) := pspec_of_cspec (c_cloneSlt l hl) (.osl _ _ _) (.sl _ _)
theorem p_storeOwn (s : Sto) (hs : Small s) : PSpec Tryz.prog 72 [.agg (stC s)] (.agg (stC s)) :=
  pspec_of_cspec (c_storeOwn s hs) (.agg _ _ (.cons _ _ _ _ (.refl _) (.cons _ _ _ _ (.osl _ _ _) (.cons _ _ _ _ (.osl _ _ _) .nil)))) (.agg _ (.cons _ _ (.s _) (.cons _ _ (.sl _ _) (.cons _ _ (.sl _ _) .nil))))
theorem buf_small {b : Bf} (h : bufE b = 0) : b.held.length ≤ 4 := (bufE_ok h).2.1
set_option maxHeartbeats 1000000 in
theorem c_trackOwn (t : Tk) (ht : RightT t) : PSpec Tryz.prog 42 [.agg (tkC t)] (.agg (tkC t)) := by
  have h1 := buf_small ht.buf
  have h2 := (buildE_ok ht.op).1
  refine p_pspec Tryz.func42 Tryz.ntmps42 Tryz.results42 ?_
  repeat' (first
 | (with_reducible first | apply qz0 | (refine h0 _ _ ?_; clear h0 hw) | (refine hw _ _ _ ?_; clear h0 hw) | apply qz1 | (refine hL _ ?_; clear hL))
 | refine p_reg fun K1 hK => ?_
 | refine p_dreg Tryz.mix fun K1 hK => ?_
 | ((first | refine p_op Tryz.tab fun K' h0 hw => ?_ | refine p_dop Tryz.tab fun K' h0 hw => ?_ | refine p_dop0 Tryz.tab fun K' h0 hw => ?_); conv => whnf)
 | (refine p_nil (hK _ ?_); clear hK)
 | (refine d_nil (p_obj ?_ (hK _ _ _ _)); clear hK)
 | ((with_reducible refine callV_id (f := 71) ?_); have hcs_ := p_cloneSlt t.buf.held (by omega); (with_reducible apply callV_f own71 (hcs_)); (case hx => rfl); (case he => rfl); (case hle => first | ((repeat constructor); done) ); (case hpu => repeat constructor); (case' hK => (try clear hcs_); conv => whnf))
 | ((with_reducible refine callV_id (f := 71) ?_); have hcs_ := p_cloneSlt t.op (by omega); (with_reducible apply callV_f own71 (hcs_)); (case hx => rfl); (case he => rfl); (case hle => first | ((repeat constructor); done) ); (case hpu => repeat constructor); (case' hK => (try clear hcs_); conv => whnf))
 | ((with_reducible refine callV_id (f := 72) ?_); have hcs_ := p_storeOwn t.st ht.st.small; (with_reducible apply callV_f own72 (hcs_)); (case hx => rfl); (case he => rfl); (case hle => first | ((repeat constructor); done) ); (case hpu => repeat constructor); (case' hK => (try clear hcs_); conv => whnf))
 | ((with_reducible first | refine w_ret Tryz.tab fun K' hL => ?_ ); (conv => whnf))
 | ((with_reducible apply And.intro); (case' right => try (conv => whnf)); (case' left => try first | rfl | decide | (simp; done) ))
 )
  all_goals repeat constructor
set_option maxHeartbeats 4000000 in
theorem c_feed (t : Tk) (p : Pkt) (ht : RightT t) (hp : pktE p = 0) : CSpec Tryz.prog 70 [.ptr 0 0, .agg (pktC p)] [.box (tkB t 0)] (I (feedP t p).2.2) [.box (tkB (feedP t p).1 (feedP t p).2.1)] := by
  have hq := pktE_ok4 hp
  have e1 := wrp (n := p.seq + 65536) (by omega) (by omega)
  have hput : ∀ n, (⟨n, p⟩ : Slt).n = n := fun _ => rfl
  refine v_cspec Tryz.func70 rfl Tryz.ntmps70 Tryz.results70 (by simp) (k := 1) rfl ?_
  repeat' (first
 | ((first | with_reducible refine w_cut (x := .seq (.region _ _ _) (.cond (.tmp 18) _ _)) (X := Unit) [4, 5, 6, 7, 13, 14, 15, 16, 17, 18, 19, 20, 21, 22, 23, 24, 25, 26, 27, 28, 29, 30, 31, 32, 33] (fun _ => [(5, I (numS t p))]) (fun _ => []) (fun _ => numE t p = 0) ?_ ?_); (try (rintro z hz; simp only at hz)))
 | (with_reducible first | apply qz0 | (refine h0 _ _ ?_; clear h0 hw) | (refine hw _ _ _ ?_; clear h0 hw) | apply qz1 | apply qz2 | apply qz5 | apply qz6 | apply qzb )
 | refine p_reg fun K1 hK => ?_ | refine p_regE fun K1 hK => ?_
 | refine p_dreg Tryz.mix fun K1 hK => ?_
 | apply go_seq
 | ((first | refine p_op Tryz.tab fun K' h0 hw => ?_ | refine p_op0 Tryz.tab fun K' h0 hw => ?_ | refine p_dop Tryz.tab fun K' h0 hw => ?_ | refine p_dop0 Tryz.tab fun K' h0 hw => ?_); conv => whnf)
 | (refine p_nil (hK _ ?_); clear hK)
 | (refine d_nil (p_obj ?_ (hK _ _ _ _)); clear hK)
 | (refine p_call own47 (c_unwrap _ _) ?_; conv => whnf)
 | ((with_reducible refine callV_id (f := 107) ?_); have hcs_ := c_bufRaw t.buf ⟨numS t p, p⟩ ht.buf (num_right ht hp (by assumption)); (with_reducible apply callV_f own107 (hcs_)); (case hx => rfl); (case he => rfl); (case hle => first | ((repeat constructor); done) ); (case hpu => repeat constructor); (case' hK => (try clear hcs_); conv => whnf))
 | ((with_reducible refine callV_id (f := 45) ?_); have hcs_ := c_slots (rawB t.buf ⟨numS t p, p⟩).2.2 (putT t (numS t p) p) 0 (feedP_ok ht hp (by assumption)).1 (feedP_ok ht hp (by assumption)).2.1 (by have := (feedP_ok ht hp (by assumption)).2.2.1; omega) (by omega); (with_reducible apply w_callO [0] own45 (hcs_)); (case hx => rfl); (case he => rfl); (case hle => first | ((repeat constructor); done) ); (case hm => rfl); (case hnd => decide); (case' hK => (try clear hcs_); conv => whnf); (any_goals (simp [putT, maxI]; done)))
 | ((with_reducible apply go_cond); (case hb => rfl))
 | ((with_reducible apply And.intro); (case' right => try (conv => whnf)); (case' left => try first | rfl | decide | (simp [putT, maxI]; done) ))
 | (first | (guard_hyp g2; intro g3; try simp at g3) | (guard_hyp g1; intro g2; try simp at g2) | intro g1; try simp at g1))
  · have e : feedP t p = (t, 0, (unwrapS t.last p.seq).2) := by
      have : numE t p = (unwrapS t.last p.seq).2 := if_neg g1
      rw [feedP, this, if_neg g2]
    rw [e]
    ((first | refine w_retO Tryz.tab [] (by rfl) (by simp) (by simp) (fun K' hL => ?_) ?_ ?_ ?_ | refine w_retO_end Tryz.tab [] (by rfl) (by simp) (by simp) (fun K' hL => ?_) ?_ ?_ ?_); (conv => whnf); (refine hL _ ?_; clear hL); all_goals simp)
  · have e : numS t p = (unwrapS t.last p.seq).1 := if_neg g1
    have e2 : numE t p = (unwrapS t.last p.seq).2 := if_neg g1
    ((refine w_nx (()) ?_ ?_ ?_ ?_ ?_ ?_); (case refine_1 => simp [e]); (case refine_2 => simp [e]); (case refine_3 => simp (disch := omega) [e, wrp]); (case refine_4 => simp [e]); (case refine_5 => first | (simp; omega) | (simp; done) | omega | (simp only; omega)); (case' refine_6 => (try simp only); (try exact trivial)))
    rw [e2, g2]
  · have e : numS t p = p.seq + 65536 := if_pos g1
    have e2 : numE t p = 0 := if_pos g1
    ((refine w_nx (()) ?_ ?_ ?_ ?_ ?_ ?_); (case refine_1 => simp [e, e1]); (case refine_2 => simp [e, e1]); (case refine_3 => simp (disch := omega) [e, e1, wrp]); (case refine_4 => simp [e, e1]); (case refine_5 => first | (simp; omega) | (simp; done) | omega | (simp only; omega)); (case' refine_6 => (try simp only); (try exact trivial)))
    exact e2
  · have e : feedP t p = takenL (rawB t.buf ⟨numS t p, p⟩).2.2 (putT t (numS t p) p) 0 := if_pos g2
    rw [e]
    ((first | refine w_retO Tryz.tab [] (by rfl) (by simp) (by simp) (fun K' hL => ?_) ?_ ?_ ?_ | refine w_retO_end Tryz.tab [] (by rfl) (by simp) (by simp) (fun K' hL => ?_) ?_ ?_ ?_); (conv => whnf); (refine hL _ ?_; clear hL); all_goals simp)
set_option maxHeartbeats 4000000 in
theorem c_trackRaw (t : Tk) (s : ByteArray) (ht : RightT t) (hs : s.size ≤ 1000000000000000) : PSpec Tryz.prog 41 [.agg (tkC t), Tx s] (tkT (feedR t s)) := by
  have hd := c_decode s hs
  have ho := c_trackOwn t ht
  by_cases h : (decS s).2 = 0
  · have hp := decS_right h
    have hf := c_feed t (decS s).1 ht hp
    have hn := c_trackDone (feedP t (decS s).1).1 (feedP t (decS s).1).2.1 (feedP t (decS s).1).2.2
    have e : feedR t s = if (feedP t (decS s).1).2.2 = 0 then ((feedP t (decS s).1).1, (feedP t (decS s).1).2.1, 0) else (tk0, 0, (feedP t (decS s).1).2.2) := by
      rw [feedR, if_pos h, doneT]
      split
      · rename_i q; exact Prod.ext rfl (Prod.ext rfl q)
      · rfl
    rw [e]
    refine p_pspec Tryz.func41 Tryz.ntmps41 Tryz.results41 ?_
    repeat' (first
 | (with_reducible first | apply qz0 | (refine h0 _ _ ?_; clear h0 hw) | (refine hw _ _ _ ?_; clear h0 hw) | apply qz1 | apply qz2 | apply qz5 | apply qz6 | (refine hL _ ?_; clear hL))
 | refine p_reg fun K1 hK => ?_
 | apply go_seq
 | ((first | refine p_op Tryz.tab fun K' h0 hw => ?_ | refine p_op0 Tryz.tab fun K' h0 hw => ?_); conv => whnf)
 | (refine p_nil (hK _ ?_); clear hK)
 | (refine p_call own69 (hd) ?_; conv => whnf)
 | (refine p_call own42 (ho) ?_; conv => whnf)
 | ((with_reducible refine callV_id (f := 70) ?_); (with_reducible apply w_callO [272] own70 (hf)); (case hx => rfl); (case he => rfl); (case hle => first | ((repeat constructor); done) ); (case hm => rfl); (case hnd => decide); (case' hK => conv => whnf); (any_goals (simp; done)))
 | ((with_reducible refine callV_id (f := 44) ?_); (with_reducible apply w_callR [272] own44 (hn)); (case hx => rfl); (case he => rfl); (case hle => first | ((repeat constructor); done) ); (case hm => rfl); (case hnd => decide); (case' hK => conv => whnf); (any_goals first | exact ⟨rfl, trivial⟩ | (simp; done)))
 | ((with_reducible apply go_cond); (case hb => rfl))
 | ((with_reducible first | refine w_ret Tryz.tab fun K' hL => ?_ ); (conv => whnf))
 | ((with_reducible apply And.intro); (case' right => try (conv => whnf)); (case' left => try first | rfl | decide | (simp; done) ))
 | (first | (guard_hyp g1; intro g2; try simp at g2) | intro g1; try simp at g1))
    all_goals first | exact absurd h g1 | exact absurd g1 h | (split <;> simp [tk0, st0]; done) | (simp [tk0, st0]; done)
  · have e : feedR t s = (tk0, 0, (decS s).2) := if_neg h
    rw [e]
    refine p_pspec Tryz.func41 Tryz.ntmps41 Tryz.results41 ?_
    repeat' (first
 | (with_reducible first | apply qz0 | (refine h0 _ _ ?_; clear h0 hw) | (refine hw _ _ _ ?_; clear h0 hw) | apply qz1 | apply qz2 | apply qz5 | apply qz6 | (refine hL _ ?_; clear hL))
 | refine p_reg fun K1 hK => ?_
 | apply go_seq
 | ((first | refine p_op Tryz.tab fun K' h0 hw => ?_ | refine p_op0 Tryz.tab fun K' h0 hw => ?_); conv => whnf)
 | (refine p_nil (hK _ ?_); clear hK)
 | (refine p_call own69 (hd) ?_; conv => whnf)
 | ((with_reducible apply go_cond); (case hb => rfl))
 | ((with_reducible first | refine w_ret Tryz.tab fun K' hL => ?_ ); (conv => whnf))
 | ((with_reducible apply And.intro); (case' right => try (conv => whnf)); (case' left => try first | rfl | decide | (simp; done) ))
 | (first | (guard_hyp g1; intro g2; try simp at g2) | intro g1; try simp at g1))
    all_goals first | exact absurd h g1 | exact absurd g1 h | (split <;> simp [tk0, st0]; done) | (simp [tk0, st0]; done)
end Go.Proofs.YtokkencbpmjdaaaGreat

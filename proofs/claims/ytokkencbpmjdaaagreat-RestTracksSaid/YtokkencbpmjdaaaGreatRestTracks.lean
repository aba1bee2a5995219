/- RestTracks, walked. CONDITIONS: what is handed in fits into memory. -/
import Derived.Test.YtokkencbpmjdaaaGreatSpoilTk
import Derived.Test.YtokkencbpmjdaaaGreatSyLb
import Derived.Test.YtokkencbpmjdaaaGreatDeskWat
import Derived.Test.YtokkencbpmjdaaaGreatDeskLaws
import Derived.Test.YtokkencbpmjdaaaGreatFrA
import Derived.Test.YtokkencbpmjdaaaGreatDeskPa
namespace Go.Proofs.YtokkencbpmjdaaaGreat
open Go Go.Sy
set_option maxRecDepth 4000
set_option linter.unusedSimpArgs false
set_option linter.unusedVariables false
attribute [local irreducible] Reg RegD Later Out CallV YieldV Tri Side EqV
def FitsK (t : Tk) : Prop := t.buf.held.length * 48 ≤ 140737488355328 ∧ t.op.length * 48 ≤ 140737488355328 ∧ FitsQ t.st
theorem FitsK.fits {t : Tk} (h : FitsK t) : FitsT t := ⟨by have := h.1; omega, by have := h.2.1; omega, h.2.2.fits⟩
set_option maxHeartbeats 1000000 in
theorem c_sameTrackQ (a b : Tk) (ha : FitsT a) : PSpec Tryz.prog 11 [.agg (tkC a), .agg (tkC b)] (B (decide (a = b))) := by
  refine p_pspec Tryz.func11 Tryz.ntmps11 Tryz.results11 ?_
  repeat' (first
 | (with_reducible first | apply qz0 | (refine h0 _ _ ?_; clear h0 hw) | (refine hw _ _ _ ?_; clear h0 hw) | apply qz1 | (refine hL _ ?_; clear hL))
 | refine p_reg fun K1 hK => ?_
 | (refine p_op Tryz.tab fun K' h0 hw => ?_; conv => whnf)
 | (refine p_nil (hK _ ?_); clear hK)
 | (first | refine v_grd_yes (by rfl) (by rfl) ?_)
 | ((first | (apply v_grd_no; (case hg => rfl); (case hb => rfl)) | (apply v_grd; (case hg => rfl); (case hb => rfl))); (case hi => (simp only [Nat.reduceAdd, Nat.reduceMul]; rfl)))
 | ((with_reducible refine callV_id (f := 38) ?_); have hcs_ := c_sameBuffer a.buf b.buf (by have := ha.1; omega); (with_reducible apply callV_f own38 (hcs_)); (case hx => rfl); (case he => rfl); (case hle => first | ((repeat constructor); done) ); (case hpu => repeat constructor); (case' hK => (try clear hcs_); conv => whnf))
 | ((with_reducible refine callV_id (f := 39) ?_); have hcs_ := c_sameSlots a.op b.op (by have := ha.2.1; omega); (with_reducible apply callV_f own39 (hcs_)); (case hx => rfl); (case he => rfl); (case hle => first | ((repeat constructor); done) ); (case hpu => repeat constructor); (case' hK => (try clear hcs_); conv => whnf))
 | ((with_reducible refine callV_id (f := 40) ?_); have hcs_ := c_sameStoreT a.st b.st ha.2.2; (with_reducible apply callV_f own40 (hcs_)); (case hx => rfl); (case he => rfl); (case hle => first | ((repeat constructor); done) ); (case hpu => repeat constructor); (case' hK => (try clear hcs_); conv => whnf))
 | ((with_reducible first | refine w_ret Tryz.tab fun K' hL => ?_ ); (conv => whnf))
 | ((with_reducible apply And.intro); (case' right => try (conv => whnf)); (case' left => try first | rfl | decide | (simp; done) ))
 | (first | (guard_hyp g3; intro g4; try simp at g4) | (guard_hyp g2; intro g3; try simp at g3) | (guard_hyp g1; intro g2; try simp at g2) | intro g1; try simp at g1))
  · refine le_of_eq (congrArg B ?_)
    rw [Bool.eq_iff_iff]; simp
    exact ⟨fun h => Tk.ext' g1 g2 g3 h, fun h => by rw [h]⟩
  all_goals
    refine le_of_eq (congrArg B ?_)
    simp; intro h; subst h; simp_all
theorem c_sameTrackO (a b : Tk) (ha : FitsT a) : PSpec Tryz.prog 11 [.agg (tkO a), .agg (tkO b)] (B (decide (a = b))) := by
  have h := (c_sameTrackQ a b ha).olds ⟨pl_tkC a, pl_tkC b, trivial⟩ trivial
  rwa [show oldL [.agg (tkC a), .agg (tkC b)] = [.agg (tkO a), .agg (tkO b)] by simp only [oldL, AV.old, old_rowL, old_rowF, old_rowG]] at h
theorem c_sameTrackM (a b : Tk) (ha : FitsT a) : PSpec Tryz.prog 11 [.agg (tkC a), .agg (tkO b)] (B (decide (a = b))) :=
  (c_sameTrackQ a b ha).mix ⟨.inl rfl, .inr (by simp only [AV.old, oldL, old_rowL, old_rowF, old_rowG]), trivial⟩ ⟨pl_tkC _, pl_tkC _, trivial⟩ trivial
theorem spo_rowE (l : List Int) : spoM (rowE l) = l.map fun _ => [.hole] := by
  rw [spoM_map, List.map_map]; exact List.map_congr_left fun s _ => by simp [spcL, AV.spc, scalV]
theorem sk_rowE (l : List Int) : skM (rowE l) := skM_iff.2 fun x hx => by
  obtain ⟨s, _, rfl⟩ := List.mem_map.1 hx; exact ⟨trivial, trivial⟩
theorem pl_vwC (v : Vw) : plL (vwC v) := ⟨trivial, trivial, trivial, trivial, trivial, trivial, trivial⟩
theorem pl_acC (a : Ac) : plL (acC a) := ⟨trivial, trivial, trivial, trivial⟩
theorem sk_vwC (v : Vw) : skL (vwC v) := ⟨trivial, trivial, trivial, trivial, trivial, trivial, trivial⟩
theorem sk_acC (a : Ac) : skL (acC a) := ⟨trivial, trivial, trivial, trivial⟩
theorem ho_vwC (v : Vw) : hoL (vwC v) := ⟨trivial, trivial, trivial, trivial, trivial, trivial, trivial⟩
theorem ho_acC (a : Ac) : hoL (acC a) := ⟨trivial, trivial, trivial, trivial⟩
theorem watchR_fits (l : List Pkt) : (watchR l).1.length ≤ 4000000000000 ∧ ∀ f ∈ (watchR l).1, f.parts.length ≤ 1000000000000000 := by
  unfold watchR
  split
  · exact ⟨by simp, by simp⟩
  split
  · exact ⟨by simp, by simp⟩
  split
  · exact ⟨by simp, by simp⟩
  · exact allF_fits _
set_option maxHeartbeats 1000000 in
theorem c_spoilFramesT (l : List Fr) (hl : l.length ≤ 4000000000000) (hp : ∀ f ∈ l, f.parts.length ≤ 1000000000000000) : PSpec Tryz.prog 18 [.wsl 3 (rowFW l)] (.tup []) := by
  refine p_pspec Tryz.func18 Tryz.ntmps18 Tryz.results18 ?_
  repeat' (first
 | (with_reducible first | apply qz0 | (refine h0 _ _ ?_; clear h0 hw) | apply qz3 )
 | refine p_reg fun K1 hK => ?_
 | (refine p_op Tryz.tab fun K' h0 hw => ?_; conv => whnf)
 | (refine p_nil (hK _ ?_); clear hK)
 )
  refine w_loop (X := Nat) [2, 3, 4, 5, 6, 7, 8, 9, 10, 11, 12, 13, 14, 15, 16, 17, 18, 19, 20, 21, 22, 23, 24, 25, 26, 27, 28, 29, 30] (fun i => [(2, I i)]) (fun _ => []) (fun i => i ≤ l.length) (fun i => l.length - i) 0 (by simp) ?_ ?_
  · refine ⟨kt_refl, ko_refl, ?_, ?_, ?_, ?_, Nat.le_refl _⟩ <;> simp
  intro i h1
  repeat' (first
 | (with_reducible first | apply qz0 | (refine h0 _ _ ?_; clear h0 hw) | apply qz2 | apply qz3 | apply qz4 | apply qz6 | apply qz7 | apply qza | apply qzc | (refine hL _ ?_; clear hL))
 | refine p_reg fun K1 hK => ?_
 | apply go_seq
 | (refine p_op Tryz.tab fun K' h0 hw => ?_; conv => whnf)
 | (refine p_nil (hK _ ?_); clear hK)
 | ((with_reducible apply go_cond); (case hb => rfl))
 | ((with_reducible first | refine w_ret_end Tryz.tab fun K' hL => ?_); (conv => whnf))
 | (first | (guard_hyp g1; intro g2; try simp at g2) | intro g1; try simp at g1))
  · obtain ⟨f, hf⟩ : ∃ f, l[i]? = some f := ⟨l[i], by simp [g1]⟩
    have hq := hp f (List.mem_of_getElem? hf)
    refine w_loop (X := Nat) [3, 10, 11, 12, 13, 14, 15, 16, 17, 18, 19, 20, 21, 22, 23, 24, 25, 26] (fun k => [(3, I k)]) (fun _ => []) (fun k => k ≤ f.parts.length) (fun k => f.parts.length - k) 0 (by simp) ?_ ?_
    · refine ⟨kt_refl, ko_refl, ?_, ?_, ?_, ?_, Nat.le_refl _⟩ <;> simp
    intro k h2
    repeat' (first
 | (with_reducible first | apply qz0 | (refine h0 _ _ ?_; clear h0 hw) | apply qz2 | apply qz3 | apply qz4 | apply qz6 | apply qz7 | apply qz9 | apply qza | apply qzc )
 | refine p_reg fun K1 hK => ?_ | refine p_regE fun K1 hK => ?_
 | apply go_seq
 | ((first | refine p_op Tryz.tab fun K' h0 hw => ?_ | refine p_op0 Tryz.tab fun K' h0 hw => ?_); conv => whnf)
 | (refine p_nil (hK _ ?_); clear hK)
 | ((with_reducible apply go_cond); (case hb => rfl))
 | ((with_reducible apply And.intro); (case' right => try (conv => whnf)); (case' left => try first | rfl | decide | (simp; done) ))
 | exact p_side
 | ((with_reducible apply all_rk); (case hx => with_reducible assumption); (conv => whnf))
 | ((with_reducible refine all_row ?_); (first | (guard_hyp hx1; intro x2 hx2) | intro x1 hx1); conv => whnf)
 | (first | (guard_hyp g1; intro g2; try simp at g2) | intro g1; try simp at g1))
    · have e : f = x1 := by simpa [hf] using hx1
      subst e
      have h3 := hx2
      (refine p_nx ((k + 1)) ?_; (try simp only); (try exact trivial))
      omega
    · have e : f = x1 := by simpa [hf] using hx1
      subst e
      (refine p_nx ((i + 1)) ?_; (try simp only); (try exact trivial))
      omega
  · exact .refl _
theorem actS_small (t : Tk) (v : Vw) (a : Ac) : SmallT (actS t v a).1.t ∧ (actS t v a).1.l.length ≤ 1000000 := by
  unfold actS
  split
  · rename_i h
    have h1 : trackE t = 0 ∧ viewerE v = 0 := by
      unfold actE at h
      by_cases c : trackE t = 0
      · rw [if_pos c] at h; exact ⟨c, h⟩
      · rw [if_neg c] at h; exact absurd h c
    refine ⟨?_, by have := actR_len a (trackE_ok h1.1) (viewerE_ok h1.2); omega⟩
    by_cases h2 : (actR t v a).2 = 0
    · exact (actR_ok (trackE_ok h1.1) (viewerE_ok h1.2) h2).2.2.1.small
    · rw [actR_no h2]; exact tk0_small
  · exact ⟨tk0_small, by simp [ds0]⟩
set_option maxHeartbeats 16000000 in
theorem c_restTracks (t : Tk) (v : Vw) (a : Ac) (ht : FitsK t) (hs : a.text.size ≤ 1000000000000000) : PSpec Tryz.prog 3 [.agg (tkC t), .agg (vwC v), .agg (acC a)] (B true) := by
  have hR := c_copiedStore t.st ht.2.2
  have q5 := c_checkTrack t ht.fits
  have q6 := c_checkViewer v
  have b1 := ht.1
  have b2 := ht.2.1
  have q7 : actE t v = 0 → PSpec Tryz.prog 9 [.agg (tkC t), .agg (vwC v), .agg (acC a)] (dsT (actS t v a)) := fun h => by
    have h1 : trackE t = 0 ∧ viewerE v = 0 := by
      unfold actE at h
      by_cases c : trackE t = 0
      · rw [if_pos c] at h; exact ⟨c, h⟩
      · rw [if_neg c] at h; exact absurd h c
    rw [actS, if_pos h]
    exact c_doOf t v a (trackE_ok h1.1) (viewerE_ok h1.2) hs
  have r1 := c_deskDoO t v a ht.fits hs
  have r2 := c_sameTrackM (actS t v a).1.t (actS t v a).1.t (actS_small t v a).1.fits
  rw [decide_eq_true rfl] at r2
  have r3 := c_trackFeedO t a.text ht.fits hs
  have r4 := c_trackDrainO t ht.fits
  have r5 := c_watch (actS t v a).1.l
  have r6 := c_run [a] (by simp) (by simpa using hs)
  have r7 := c_sameTrackO t t ht.fits
  rw [decide_eq_true rfl] at r7
  have k1 := (actS_small t v a)
  have k2 := feedS_small t a.text
  have k3 := drainS_small t
  have k4 := (runS_ok [a]).1.small
  have k5 := watchR_fits (actS t v a).1.l
  have k6 := (runS_ok [a]).2.2
  have q8 : ¬ actE t v = 0 → actS t v a = (ds0, actE t v) := fun h => if_neg h
  have e7 : actE t v = if trackE t = 0 then viewerE v else trackE t := rfl
  generalize actS t v a = rx at *
  generalize feedS t a.text = ry at *
  generalize drainS t = rz at *
  generalize watchR rx.1.l = rm at *
  generalize runS [a] = ru at *
  have p1 := c_spoilSlots rx.1.t.buf.held (by have := k1.1.1; omega)
  have p2 := c_spoilSlots rx.1.t.op (by have := k1.1.2.1; omega)
  have p3 := c_spoilSlots ry.1.buf.held (by have := k2.1; omega)
  have p4 := c_spoilSlots ry.1.op (by have := k2.2.1; omega)
  have p5 := c_spoilSlots rz.1.buf.held (by have := k3.1; omega)
  have p6 := c_spoilSlots rz.1.op (by have := k3.2.1; omega)
  have p7 := c_spoilSlots ru.1.1.t.buf.held (by have := k4.1; omega)
  have p8 := c_spoilSlots ru.1.1.t.op (by have := k4.2.1; omega)
  have s1 := c_spoilStore rx.1.t.st k1.1.2.2
  have s2 := c_spoilStore ry.1.st k2.2.2
  have s3 := c_spoilStore rz.1.st k3.2.2
  have s4 := c_spoilStore ru.1.1.t.st k4.2.2
  have pf := c_spoilFramesT rm.1 (by have := k5.1; omega) (fun f hf => by have := k5.2 f hf; omega)
  have z1 := k1.2
  have z2 := k6.1
  have z3 := k6.2
  refine p_pspec Tryz.func3 Tryz.ntmps3 Tryz.results3 ?_
  repeat' (first
 | ((first | with_reducible refine w_cut (x := .seq (.region _ _ _) (.cond (.tmp 63) _ _)) (X := Unit) [8, 62, 63, 64, 65] (fun _ => [(8, I (actE t v))]) (fun _ => []) (fun _ => True) ?_ ?_); (try (rintro z hz; simp only at hz)))
 | ((first | with_reducible refine w_cut (x := .seq (.region _ _ _) (.cond (.tmp 67) _ _)) (X := Unit) [8, 66, 67, 68, 69, 70, 71, 72, 73, 74, 75, 76] (fun _ => [(8, I rx.2)]) (fun _ => [(496, .box (tkC t)), (576, .box (tkC rx.1.t))]) (fun _ => True) ?_ ?_); (try (rintro z hz; simp only at hz)))
 | (with_reducible first | apply qz0 | (refine h0 _ _ ?_; clear h0 hw) | (refine hw _ _ _ ?_; clear h0 hw) | apply qz2 | apply qz3 | apply qz6 )
 | refine p_reg fun K1 hK => ?_ | refine p_regE fun K1 hK => ?_
 | refine p_dreg Tryz.mix fun K1 hK => ?_
 | apply go_seq
 | ((first | refine p_op Tryz.tab fun K' h0 hw => ?_ | refine p_op0 Tryz.tab fun K' h0 hw => ?_ | refine p_dop Tryz.tab fun K' h0 hw => ?_ | refine p_dop0 Tryz.tab fun K' h0 hw => ?_); conv => whnf)
 | (refine p_nil (hK _ ?_); clear hK)
 | (refine d_nil (p_obj ?_ (hK _ _ _ _)); clear hK)
 | (first | refine v_grd_yes (by rfl) (by rfl) ?_)
 | (refine p_call own4 (c_trackBegun) ?_; conv => whnf)
 | (refine p_call own5 (c_deskBegun) ?_; conv => whnf)
 | (refine p_call own6 (hR) ?_; conv => whnf)
 | (refine p_call own7 (q5) ?_; conv => whnf)
 | (refine p_call own8 (q6) ?_; conv => whnf)
 | ((with_reducible refine callV_id (f := 9) ?_); have hcs_ := q7 (by assumption); (with_reducible apply callV_f own9 (hcs_)); (case hx => rfl); (case he => rfl); (case hle => first | ((repeat constructor); done) ); (case hpu => repeat constructor); (case' hK => (try clear hcs_); conv => whnf))
 | ((with_reducible apply go_cond); (case hb => rfl))
 | ((with_reducible apply And.intro); (case' right => try (conv => whnf)); (case' left => try first | rfl | decide | (simp; done) ))
 | exact p_side
 | (first  | intro g1; try simp at g1; try simp (disch := omega) only [wrp] at g1))
  · have e : actE t v = viewerE v := by rw [e7, if_pos (by assumption)]
    ((refine w_nx (()) ?_ ?_ ?_ ?_ ?_ ?_); (case refine_1 => simp [e]); (case refine_2 => simp [e]); (case refine_3 => simp (disch := omega) [e, wrp]); (case refine_4 => simp [e]); (case refine_5 => first | (simp; omega) | (simp; done) | omega | (simp only; omega)); (case' refine_6 => (try simp only); (try exact trivial)))
  · have e : actE t v = trackE t := by rw [e7, if_neg (by assumption)]
    ((refine w_nx (()) ?_ ?_ ?_ ?_ ?_ ?_); (case refine_1 => simp [e]); (case refine_2 => simp [e]); (case refine_3 => simp (disch := omega) [e, wrp]); (case refine_4 => simp [e]); (case refine_5 => first | (simp; omega) | (simp; done) | omega | (simp only; omega)); (case' refine_6 => (try simp only); (try exact trivial)))
  · (refine p_nx (()) ?_; (try simp only); (try exact trivial))
  · have e := q8 (by assumption)
    ((refine w_nx (()) ?_ ?_ ?_ ?_ ?_ ?_); (case refine_1 => simp [e, ds0, tk0, st0]); (case refine_2 => simp [e, ds0, tk0, st0]); (case refine_3 => simp (disch := omega) [e, ds0, tk0, st0, wrp]); (case refine_4 => simp [e, ds0, tk0, st0]); (case refine_5 => first | (simp; omega) | (simp; done) | omega | (simp only; omega)); (case' refine_6 => (try simp only); (try exact trivial)))
  · refine w_unroll ?_
    repeat' (first
 | ((with_reducible apply w_raise (code := .seq (.block 1 _) _) [(3, .ptr 0 0), (4, .ptr 16 0), (5, .ptr 32 0), (7, .ptr 496 0), (9, .ptr 576 0), (8, I rx.2), (10, I 0), (6, B false)] [(0, tkC t), (16, vwC v), (32, acC a), (496, tkC t), (576, tkC rx.1.t)] 16); (case hid => rfl); (case hS => simp); (case hB => simp [boxB]); (case hSp => simp [plS, AV.pl]); (case hBp => exact ⟨pl_tkC _, pl_vwC _, pl_acC _, pl_tkC _, pl_tkC _, trivial⟩); (case' h => simp only [oldS, oldB, oldL, AV.old, old_rowL, old_rowF, old_rowG, old_rowS]))
 | ((with_reducible apply w_spoil (code := .seq (.region 22 _ _) _) [(3, .ptr 0 0), (4, .ptr 16 0), (5, .ptr 32 0), (7, .ptr 496 0), (9, .ptr 576 0), (8, I rx.2), (10, I 0), (6, B false), (11, .ptr 784 0), (15, .ptr 1152 0), (18, .ptr 1312 0), (23, .ptr 1632 0), (13, pkts rx.1.l), (21, frs rm.1), (25, pkts ru.1.1.l), (26, errs ru.1.2)] [(0, tkO t), (16, vwC v), (32, acC a), (496, tkO t), (576, tkO rx.1.t), (784, tkC rx.1.t), (1152, tkC ry.1), (1312, tkC rz.1), (1632, tkC ru.1.1.t)] 16); (case hmk => rfl); (case h16 => decide); (case hid => rfl); (case hS => simp); (case hB => simp [boxB]); (case hSp => simp [skS, AV.sk, sk_rowP, sk_rowF, sk_rowE]); (case hBp => exact ⟨sk_tkO _, sk_vwC _, sk_acC _, sk_tkO _, sk_tkO _, sk_tkC _, sk_tkC _, sk_tkC _, sk_tkC _, trivial⟩); (case' h => simp only [spoS, spoB, spoL, AV.spo, spo_rowL, spo_rowF, spo_rowG, spo_rowS, spo_rowP, spo_rowE]))
 | ((with_reducible apply v_litB (d := 135) (es := [tkW rx.1.t, tkW ry.1, tkW rz.1, tkW ru.1.1.t]) (cs := tkW rx.1.t ++ tkW ry.1 ++ tkW rz.1 ++ tkW ru.1.1.t) Tryz.tab); (case hnb => (try simp only [Nat.reduceAdd, Nat.reduceMul]); exact rfl); (case hi => exact rfl); (case he => exact rfl); (case h1 => decide); (case h2 => decide); (case h3 => rfl); (case hes => rfl); (case hcs => rfl))
 | (with_reducible first | apply qz0 | (refine h0 _ _ ?_; clear h0 hw) | (refine hw _ _ _ ?_; clear h0 hw) | apply qz2 | apply qz3 | apply qz6 )
 | refine p_reg fun K1 hK => ?_
 | apply go_seq
 | ((first | refine p_op Tryz.tab fun K' h0 hw => ?_ | refine p_op0 Tryz.tab fun K' h0 hw => ?_); conv => whnf)
 | (refine p_nil (hK _ ?_); clear hK)
 | (first | refine v_grd_yes (by rfl) (by rfl) ?_)
 | ((first | (apply v_grd; (case hg => rfl); (case hb => rfl))); (case hi => (simp only [Nat.reduceAdd, Nat.reduceMul]; rfl)))
 | (refine p_call own10 (r1) ?_; conv => whnf)
 | (refine p_call own11 (r2) ?_; conv => whnf)
 | (refine p_call own12 (r3) ?_; conv => whnf)
 | (refine p_call own13 (r4) ?_; conv => whnf)
 | (refine p_call own14 (r5) ?_; conv => whnf)
 | (refine p_call own15 (r6) ?_; conv => whnf)
 | (refine p_call own11 (r7) ?_; conv => whnf)
 | ((with_reducible apply go_cond); (case hb => rfl))
 | ((with_reducible apply And.intro); (case' right => try (conv => whnf)); (case' left => try first | rfl | decide | (simp [framesT, tkT]; done) ))
 | (first  | intro g1; try simp at g1))
    refine w_loop (X := Nat) [29, 136, 137, 138, 139, 140, 141, 142, 143, 144, 145, 146, 147, 148, 149, 150, 151, 152, 153, 154, 155, 156, 157, 158, 159, 160, 161] (fun i => [(29, I i)]) (fun _ => []) (fun i => i ≤ 4) (fun i => 4 - i) 0 (by simp) ?_ ?_
    · refine ⟨kt_refl, ko_refl, ?_, ?_, ?_, ?_, Nat.le_refl _⟩ <;> simp
    intro n hn
    rcases (by omega : n = 0 ∨ n = 1 ∨ n = 2 ∨ n = 3 ∨ n = 4) with rfl | rfl | rfl | rfl | rfl
    · repeat' (first
 | (with_reducible first | apply qz0 | (refine h0 _ _ ?_; clear h0 hw) | apply qz2 | apply qz3 | apply qz6 | apply qz9 )
 | refine p_reg fun K1 hK => ?_ | refine p_regE fun K1 hK => ?_
 | apply go_seq
 | (refine p_op Tryz.tab fun K' h0 hw => ?_; conv => whnf)
 | (refine p_nil (hK _ ?_); clear hK)
 | (refine p_call own16 (p1) ?_; conv => whnf)
 | (refine p_call own16 (p2) ?_; conv => whnf)
 | (refine p_call own17 (s1) ?_; conv => whnf)
 | ((with_reducible apply go_cond); (case hb => rfl))
 | ((with_reducible apply And.intro); (case' right => try (conv => whnf)); (case' left => try first | rfl | decide | (simp; done) ))
 | exact p_side
 | (first  | intro g1; try simp at g1))
      (refine p_nx (1) ?_; (try simp only); (try exact trivial))
      omega
    · repeat' (first
 | (with_reducible first | apply qz0 | (refine h0 _ _ ?_; clear h0 hw) | apply qz2 | apply qz3 | apply qz6 | apply qz9 )
 | refine p_reg fun K1 hK => ?_ | refine p_regE fun K1 hK => ?_
 | apply go_seq
 | (refine p_op Tryz.tab fun K' h0 hw => ?_; conv => whnf)
 | (refine p_nil (hK _ ?_); clear hK)
 | (refine p_call own16 (p3) ?_; conv => whnf)
 | (refine p_call own16 (p4) ?_; conv => whnf)
 | (refine p_call own17 (s2) ?_; conv => whnf)
 | ((with_reducible apply go_cond); (case hb => rfl))
 | ((with_reducible apply And.intro); (case' right => try (conv => whnf)); (case' left => try first | rfl | decide | (simp; done) ))
 | exact p_side
 | (first  | intro g1; try simp at g1))
      (refine p_nx (2) ?_; (try simp only); (try exact trivial))
      omega
    · repeat' (first
 | (with_reducible first | apply qz0 | (refine h0 _ _ ?_; clear h0 hw) | apply qz2 | apply qz3 | apply qz6 | apply qz9 )
 | refine p_reg fun K1 hK => ?_ | refine p_regE fun K1 hK => ?_
 | apply go_seq
 | (refine p_op Tryz.tab fun K' h0 hw => ?_; conv => whnf)
 | (refine p_nil (hK _ ?_); clear hK)
 | (refine p_call own16 (p5) ?_; conv => whnf)
 | (refine p_call own16 (p6) ?_; conv => whnf)
 | (refine p_call own17 (s3) ?_; conv => whnf)
 | ((with_reducible apply go_cond); (case hb => rfl))
 | ((with_reducible apply And.intro); (case' right => try (conv => whnf)); (case' left => try first | rfl | decide | (simp; done) ))
 | exact p_side
 | (first  | intro g1; try simp at g1))
      (refine p_nx (3) ?_; (try simp only); (try exact trivial))
      omega
    · repeat' (first
 | (with_reducible first | apply qz0 | (refine h0 _ _ ?_; clear h0 hw) | apply qz2 | apply qz3 | apply qz6 | apply qz9 )
 | refine p_reg fun K1 hK => ?_ | refine p_regE fun K1 hK => ?_
 | apply go_seq
 | (refine p_op Tryz.tab fun K' h0 hw => ?_; conv => whnf)
 | (refine p_nil (hK _ ?_); clear hK)
 | (refine p_call own16 (p7) ?_; conv => whnf)
 | (refine p_call own16 (p8) ?_; conv => whnf)
 | (refine p_call own17 (s4) ?_; conv => whnf)
 | ((with_reducible apply go_cond); (case hb => rfl))
 | ((with_reducible apply And.intro); (case' right => try (conv => whnf)); (case' left => try first | rfl | decide | (simp; done) ))
 | exact p_side
 | (first  | intro g1; try simp at g1))
      (refine p_nx (4) ?_; (try simp only); (try exact trivial))
      omega
    · repeat' (first
 | (with_reducible first | apply qz0 | (refine h0 _ _ ?_; clear h0 hw) | apply qz3 | apply qz4 | apply qz6 | apply qz7 | apply qza | apply qzc )
 | refine p_reg fun K1 hK => ?_
 | apply go_seq
 | (refine p_op Tryz.tab fun K' h0 hw => ?_; conv => whnf)
 | (refine p_nil (hK _ ?_); clear hK)
 | (refine p_call own18 (pf) ?_; conv => whnf)
 | ((with_reducible apply go_cond); (case hb => rfl))
 | (first  | intro g1; try simp at g1))
      refine w_loop (X := Nat) [30, 164, 165, 166, 167, 168, 169, 170, 171, 172, 173] (fun i => [(30, I i)]) (fun _ => []) (fun i => i ≤ rx.1.l.length) (fun i => rx.1.l.length - i) 0 (by simp) ?_ ?_
      · refine ⟨kt_refl, ko_refl, ?_, ?_, ?_, ?_, Nat.le_refl _⟩ <;> simp
      intro j2 hj2
      repeat' (first
 | (with_reducible first | apply qz0 | (refine h0 _ _ ?_; clear h0 hw) | apply qz2 | apply qz3 | apply qz4 | apply qz6 | apply qz7 | apply qz9 | apply qza | apply qzc )
 | refine p_reg fun K1 hK => ?_ | refine p_regE fun K1 hK => ?_
 | apply go_seq
 | ((first | refine p_op Tryz.tab fun K' h0 hw => ?_ | refine p_op0 Tryz.tab fun K' h0 hw => ?_); conv => whnf)
 | (refine p_nil (hK _ ?_); clear hK)
 | ((with_reducible apply go_cond); (case hb => rfl))
 | ((with_reducible apply And.intro); (case' right => try (conv => whnf)); (case' left => try first | rfl | decide ))
 | exact p_side
 | ((with_reducible refine all_row ?_); (first  | intro x1 hx1); conv => whnf)
 | (first  | intro g1; try simp at g1))
      · (refine p_nx ((j2 + 1)) ?_; (try simp only); (try exact trivial))
        omega
      refine w_loop (X := Nat) [31, 174, 175, 176, 177, 178, 179, 180, 181, 182, 183] (fun i => [(31, I i)]) (fun _ => []) (fun i => i ≤ ru.1.1.l.length) (fun i => ru.1.1.l.length - i) 0 (by simp) ?_ ?_
      · refine ⟨kt_refl, ko_refl, ?_, ?_, ?_, ?_, Nat.le_refl _⟩ <;> simp
      intro j3 hj3
      repeat' (first
 | (with_reducible first | apply qz0 | (refine h0 _ _ ?_; clear h0 hw) | apply qz2 | apply qz3 | apply qz4 | apply qz6 | apply qz7 | apply qz9 | apply qza | apply qzc )
 | refine p_reg fun K1 hK => ?_ | refine p_regE fun K1 hK => ?_
 | apply go_seq
 | ((first | refine p_op Tryz.tab fun K' h0 hw => ?_ | refine p_op0 Tryz.tab fun K' h0 hw => ?_); conv => whnf)
 | (refine p_nil (hK _ ?_); clear hK)
 | ((with_reducible apply go_cond); (case hb => rfl))
 | ((with_reducible apply And.intro); (case' right => try (conv => whnf)); (case' left => try first | rfl | decide ))
 | exact p_side
 | ((with_reducible refine all_row ?_); (first  | intro x1 hx1); conv => whnf)
 | (first  | intro g1; try simp at g1))
      · (refine p_nx ((j3 + 1)) ?_; (try simp only); (try exact trivial))
        omega
      refine w_loop (X := Nat) [32, 184, 185, 186, 187, 188, 189, 190, 191, 192] (fun i => [(32, I i)]) (fun _ => []) (fun i => i ≤ ru.1.2.length) (fun i => ru.1.2.length - i) 0 (by simp) ?_ ?_
      · refine ⟨kt_refl, ko_refl, ?_, ?_, ?_, ?_, Nat.le_refl _⟩ <;> simp
      intro j4 hj4
      repeat' (first
 | (with_reducible first | apply qz0 | (refine h0 _ _ ?_; clear h0 hw) | apply qz2 | apply qz3 | apply qz4 | apply qz6 | apply qz7 | apply qz9 | apply qza | apply qzc )
 | refine p_reg fun K1 hK => ?_ | refine p_regE fun K1 hK => ?_
 | apply go_seq
 | ((first | refine p_op Tryz.tab fun K' h0 hw => ?_ | refine p_op0 Tryz.tab fun K' h0 hw => ?_); conv => whnf)
 | (refine p_nil (hK _ ?_); clear hK)
 | ((with_reducible apply go_cond); (case hb => rfl))
 | ((with_reducible apply And.intro); (case' right => try (conv => whnf)); (case' left => try first | rfl ))
 | exact p_side
 | ((with_reducible refine all_row ?_); (first  | intro x1 hx1); conv => whnf)
 | ((with_reducible refine spoil_out [(3, .ptr 0 0), (4, .ptr 16 0), (5, .ptr 32 0), (7, .ptr 496 0), (9, .ptr 576 0), (8, I rx.2), (10, I 0), (6, B false)] [(0, tkO t), (16, vwC v), (32, acC a), (496, tkO t), (576, tkO rx.1.t)] ?_ ?_ ?_ ?_ ?_); (focus simp); (focus simp [boxB]); (focus simp [hoS, AV.ho]); (focus exact ⟨ho_tkO _, ho_vwC _, ho_acC _, ho_tkO _, ho_tkO _, trivial⟩))
 | ((with_reducible refine round_out [(3, .ptr 0 0), (4, .ptr 16 0), (5, .ptr 32 0), (7, .ptr 496 0), (9, .ptr 576 0), (8, I rx.2), (10, I 1), (6, B false)] [(0, tkC t), (16, vwC v), (32, acC a), (496, tkC t), (576, tkC rx.1.t)] ?_ ?_ ?_ ?_ ?_); (focus simp [oldS, AV.old, wrp]); (focus simp [boxB, oldB, oldL, AV.old, old_rowL, old_rowF, old_rowG, old_rowS]); (focus simp [plS, AV.pl]); (focus exact ⟨pl_tkC _, pl_vwC _, pl_acC _, pl_tkC _, pl_tkC _, trivial⟩))
 | (first  | intro g1; try simp at g1))
      · (refine p_nx ((j4 + 1)) ?_; (try simp only); (try exact trivial))
        omega
      refine un_next ?_
      repeat' (first
 | ((with_reducible apply w_raise (code := .seq (.block 1 _) _) [(3, .ptr 0 0), (4, .ptr 16 0), (5, .ptr 32 0), (7, .ptr 496 0), (9, .ptr 576 0), (8, I rx.2), (10, I 1), (6, B false)] [(0, tkC t), (16, vwC v), (32, acC a), (496, tkC t), (576, tkC rx.1.t)] 16); (case hid => rfl); (case hS => simp); (case hB => simp [boxB]); (case hSp => simp [plS, AV.pl]); (case hBp => exact ⟨pl_tkC _, pl_vwC _, pl_acC _, pl_tkC _, pl_tkC _, trivial⟩); (case' h => simp only [oldS, oldB, oldL, AV.old, old_rowL, old_rowF, old_rowG, old_rowS]))
 | ((with_reducible apply w_spoil (code := .seq (.region 22 _ _) _) [(3, .ptr 0 0), (4, .ptr 16 0), (5, .ptr 32 0), (7, .ptr 496 0), (9, .ptr 576 0), (8, I rx.2), (10, I 1), (6, B false), (11, .ptr 2480 0), (15, .ptr 2848 0), (18, .ptr 3008 0), (23, .ptr 3328 0), (13, pkts rx.1.l), (21, frs rm.1), (25, pkts ru.1.1.l), (26, errs ru.1.2)] [(0, tkO t), (16, vwC v), (32, acC a), (496, tkO t), (576, tkO rx.1.t), (2480, tkC rx.1.t), (2848, tkC ry.1), (3008, tkC rz.1), (3328, tkC ru.1.1.t)] 16); (case hmk => rfl); (case h16 => decide); (case hid => rfl); (case hS => simp); (case hB => simp [boxB]); (case hSp => simp [skS, AV.sk, sk_rowP, sk_rowF, sk_rowE]); (case hBp => exact ⟨sk_tkO _, sk_vwC _, sk_acC _, sk_tkO _, sk_tkO _, sk_tkC _, sk_tkC _, sk_tkC _, sk_tkC _, trivial⟩); (case' h => simp only [spoS, spoB, spoL, AV.spo, spo_rowL, spo_rowF, spo_rowG, spo_rowS, spo_rowP, spo_rowE]))
 | ((with_reducible apply v_litB (d := 135) (es := [tkW rx.1.t, tkW ry.1, tkW rz.1, tkW ru.1.1.t]) (cs := tkW rx.1.t ++ tkW ry.1 ++ tkW rz.1 ++ tkW ru.1.1.t) Tryz.tab); (case hnb => (try simp only [Nat.reduceAdd, Nat.reduceMul]); exact rfl); (case hi => exact rfl); (case he => exact rfl); (case h1 => decide); (case h2 => decide); (case h3 => rfl); (case hes => rfl); (case hcs => rfl))
 | (with_reducible first | apply qz0 | (refine h0 _ _ ?_; clear h0 hw) | (refine hw _ _ _ ?_; clear h0 hw) | apply qz2 | apply qz3 | apply qz6 )
 | refine p_reg fun K1 hK => ?_
 | apply go_seq
 | ((first | refine p_op Tryz.tab fun K' h0 hw => ?_ | refine p_op0 Tryz.tab fun K' h0 hw => ?_); conv => whnf)
 | (refine p_nil (hK _ ?_); clear hK)
 | (first | refine v_grd_yes (by rfl) (by rfl) ?_)
 | ((first | (apply v_grd; (case hg => rfl); (case hb => rfl))); (case hi => (simp only [Nat.reduceAdd, Nat.reduceMul]; rfl)))
 | (refine p_call own10 (r1) ?_; conv => whnf)
 | (refine p_call own11 (r2) ?_; conv => whnf)
 | (refine p_call own12 (r3) ?_; conv => whnf)
 | (refine p_call own13 (r4) ?_; conv => whnf)
 | (refine p_call own14 (r5) ?_; conv => whnf)
 | (refine p_call own15 (r6) ?_; conv => whnf)
 | (refine p_call own11 (r7) ?_; conv => whnf)
 | ((with_reducible apply go_cond); (case hb => rfl))
 | ((with_reducible apply And.intro); (case' right => try (conv => whnf)); (case' left => try first | rfl | decide | (simp [framesT, tkT]; done) ))
 | (first  | intro g1; try simp at g1))
      refine w_loop (X := Nat) [29, 136, 137, 138, 139, 140, 141, 142, 143, 144, 145, 146, 147, 148, 149, 150, 151, 152, 153, 154, 155, 156, 157, 158, 159, 160, 161] (fun i => [(29, I i)]) (fun _ => []) (fun i => i ≤ 4) (fun i => 4 - i) 0 (by simp) ?_ ?_
      · refine ⟨kt_refl, ko_refl, ?_, ?_, ?_, ?_, Nat.le_refl _⟩ <;> simp
      intro n hn
      rcases (by omega : n = 0 ∨ n = 1 ∨ n = 2 ∨ n = 3 ∨ n = 4) with rfl | rfl | rfl | rfl | rfl
      · repeat' (first
 | (with_reducible first | apply qz0 | (refine h0 _ _ ?_; clear h0 hw) | apply qz2 | apply qz3 | apply qz6 | apply qz9 )
 | refine p_reg fun K1 hK => ?_ | refine p_regE fun K1 hK => ?_
 | apply go_seq
 | (refine p_op Tryz.tab fun K' h0 hw => ?_; conv => whnf)
 | (refine p_nil (hK _ ?_); clear hK)
 | (refine p_call own16 (p1) ?_; conv => whnf)
 | (refine p_call own16 (p2) ?_; conv => whnf)
 | (refine p_call own17 (s1) ?_; conv => whnf)
 | ((with_reducible apply go_cond); (case hb => rfl))
 | ((with_reducible apply And.intro); (case' right => try (conv => whnf)); (case' left => try first | rfl | decide | (simp; done) ))
 | exact p_side
 | (first  | intro g1; try simp at g1))
        (refine p_nx (1) ?_; (try simp only); (try exact trivial))
        omega
      · repeat' (first
 | (with_reducible first | apply qz0 | (refine h0 _ _ ?_; clear h0 hw) | apply qz2 | apply qz3 | apply qz6 | apply qz9 )
 | refine p_reg fun K1 hK => ?_ | refine p_regE fun K1 hK => ?_
 | apply go_seq
 | (refine p_op Tryz.tab fun K' h0 hw => ?_; conv => whnf)
 | (refine p_nil (hK _ ?_); clear hK)
 | (refine p_call own16 (p3) ?_; conv => whnf)
 | (refine p_call own16 (p4) ?_; conv => whnf)
 | (refine p_call own17 (s2) ?_; conv => whnf)
 | ((with_reducible apply go_cond); (case hb => rfl))
 | ((with_reducible apply And.intro); (case' right => try (conv => whnf)); (case' left => try first | rfl | decide | (simp; done) ))
 | exact p_side
 | (first  | intro g1; try simp at g1))
        (refine p_nx (2) ?_; (try simp only); (try exact trivial))
        omega
      · repeat' (first
 | (with_reducible first | apply qz0 | (refine h0 _ _ ?_; clear h0 hw) | apply qz2 | apply qz3 | apply qz6 | apply qz9 )
 | refine p_reg fun K1 hK => ?_ | refine p_regE fun K1 hK => ?_
 | apply go_seq
 | (refine p_op Tryz.tab fun K' h0 hw => ?_; conv => whnf)
 | (refine p_nil (hK _ ?_); clear hK)
 | (refine p_call own16 (p5) ?_; conv => whnf)
 | (refine p_call own16 (p6) ?_; conv => whnf)
 | (refine p_call own17 (s3) ?_; conv => whnf)
 | ((with_reducible apply go_cond); (case hb => rfl))
 | ((with_reducible apply And.intro); (case' right => try (conv => whnf)); (case' left => try first | rfl | decide | (simp; done) ))
 | exact p_side
 | (first  | intro g1; try simp at g1))
        (refine p_nx (3) ?_; (try simp only); (try exact trivial))
        omega
      · repeat' (first
 | (with_reducible first | apply qz0 | (refine h0 _ _ ?_; clear h0 hw) | apply qz2 | apply qz3 | apply qz6 | apply qz9 )
 | refine p_reg fun K1 hK => ?_ | refine p_regE fun K1 hK => ?_
 | apply go_seq
 | (refine p_op Tryz.tab fun K' h0 hw => ?_; conv => whnf)
 | (refine p_nil (hK _ ?_); clear hK)
 | (refine p_call own16 (p7) ?_; conv => whnf)
 | (refine p_call own16 (p8) ?_; conv => whnf)
 | (refine p_call own17 (s4) ?_; conv => whnf)
 | ((with_reducible apply go_cond); (case hb => rfl))
 | ((with_reducible apply And.intro); (case' right => try (conv => whnf)); (case' left => try first | rfl | decide | (simp; done) ))
 | exact p_side
 | (first  | intro g1; try simp at g1))
        (refine p_nx (4) ?_; (try simp only); (try exact trivial))
        omega
      · repeat' (first
 | (with_reducible first | apply qz0 | (refine h0 _ _ ?_; clear h0 hw) | apply qz3 | apply qz4 | apply qz6 | apply qz7 | apply qza | apply qzc )
 | refine p_reg fun K1 hK => ?_
 | apply go_seq
 | (refine p_op Tryz.tab fun K' h0 hw => ?_; conv => whnf)
 | (refine p_nil (hK _ ?_); clear hK)
 | (refine p_call own18 (pf) ?_; conv => whnf)
 | ((with_reducible apply go_cond); (case hb => rfl))
 | (first  | intro g1; try simp at g1))
        refine w_loop (X := Nat) [30, 164, 165, 166, 167, 168, 169, 170, 171, 172, 173] (fun i => [(30, I i)]) (fun _ => []) (fun i => i ≤ rx.1.l.length) (fun i => rx.1.l.length - i) 0 (by simp) ?_ ?_
        · refine ⟨kt_refl, ko_refl, ?_, ?_, ?_, ?_, Nat.le_refl _⟩ <;> simp
        intro j2 hj2
        repeat' (first
 | (with_reducible first | apply qz0 | (refine h0 _ _ ?_; clear h0 hw) | apply qz2 | apply qz3 | apply qz4 | apply qz6 | apply qz7 | apply qz9 | apply qza | apply qzc )
 | refine p_reg fun K1 hK => ?_ | refine p_regE fun K1 hK => ?_
 | apply go_seq
 | ((first | refine p_op Tryz.tab fun K' h0 hw => ?_ | refine p_op0 Tryz.tab fun K' h0 hw => ?_); conv => whnf)
 | (refine p_nil (hK _ ?_); clear hK)
 | ((with_reducible apply go_cond); (case hb => rfl))
 | ((with_reducible apply And.intro); (case' right => try (conv => whnf)); (case' left => try first | rfl | decide ))
 | exact p_side
 | ((with_reducible refine all_row ?_); (first  | intro x1 hx1); conv => whnf)
 | (first  | intro g1; try simp at g1))
        · (refine p_nx ((j2 + 1)) ?_; (try simp only); (try exact trivial))
          omega
        refine w_loop (X := Nat) [31, 174, 175, 176, 177, 178, 179, 180, 181, 182, 183] (fun i => [(31, I i)]) (fun _ => []) (fun i => i ≤ ru.1.1.l.length) (fun i => ru.1.1.l.length - i) 0 (by simp) ?_ ?_
        · refine ⟨kt_refl, ko_refl, ?_, ?_, ?_, ?_, Nat.le_refl _⟩ <;> simp
        intro j3 hj3
        repeat' (first
 | (with_reducible first | apply qz0 | (refine h0 _ _ ?_; clear h0 hw) | apply qz2 | apply qz3 | apply qz4 | apply qz6 | apply qz7 | apply qz9 | apply qza | apply qzc )
 | refine p_reg fun K1 hK => ?_ | refine p_regE fun K1 hK => ?_
 | apply go_seq
 | ((first | refine p_op Tryz.tab fun K' h0 hw => ?_ | refine p_op0 Tryz.tab fun K' h0 hw => ?_); conv => whnf)
 | (refine p_nil (hK _ ?_); clear hK)
 | ((with_reducible apply go_cond); (case hb => rfl))
 | ((with_reducible apply And.intro); (case' right => try (conv => whnf)); (case' left => try first | rfl | decide ))
 | exact p_side
 | ((with_reducible refine all_row ?_); (first  | intro x1 hx1); conv => whnf)
 | (first  | intro g1; try simp at g1))
        · (refine p_nx ((j3 + 1)) ?_; (try simp only); (try exact trivial))
          omega
        refine w_loop (X := Nat) [32, 184, 185, 186, 187, 188, 189, 190, 191, 192] (fun i => [(32, I i)]) (fun _ => []) (fun i => i ≤ ru.1.2.length) (fun i => ru.1.2.length - i) 0 (by simp) ?_ ?_
        · refine ⟨kt_refl, ko_refl, ?_, ?_, ?_, ?_, Nat.le_refl _⟩ <;> simp
        intro j4 hj4
        repeat' (first
 | (with_reducible first | apply qz0 | (refine h0 _ _ ?_; clear h0 hw) | apply qz2 | apply qz3 | apply qz4 | apply qz6 | apply qz7 | apply qz9 | apply qza | apply qzc )
 | refine p_reg fun K1 hK => ?_ | refine p_regE fun K1 hK => ?_
 | apply go_seq
 | ((first | refine p_op Tryz.tab fun K' h0 hw => ?_ | refine p_op0 Tryz.tab fun K' h0 hw => ?_); conv => whnf)
 | (refine p_nil (hK _ ?_); clear hK)
 | ((with_reducible apply go_cond); (case hb => rfl))
 | ((with_reducible apply And.intro); (case' right => try (conv => whnf)); (case' left => try first | rfl ))
 | exact p_side
 | ((with_reducible refine all_row ?_); (first  | intro x1 hx1); conv => whnf)
 | ((with_reducible refine spoil_out [(3, .ptr 0 0), (4, .ptr 16 0), (5, .ptr 32 0), (7, .ptr 496 0), (9, .ptr 576 0), (8, I rx.2), (10, I 1), (6, B false)] [(0, tkO t), (16, vwC v), (32, acC a), (496, tkO t), (576, tkO rx.1.t)] ?_ ?_ ?_ ?_ ?_); (focus simp); (focus simp [boxB]); (focus simp [hoS, AV.ho]); (focus exact ⟨ho_tkO _, ho_vwC _, ho_acC _, ho_tkO _, ho_tkO _, trivial⟩))
 | ((with_reducible refine round_out [(3, .ptr 0 0), (4, .ptr 16 0), (5, .ptr 32 0), (7, .ptr 496 0), (9, .ptr 576 0), (8, I rx.2), (10, I 2), (6, B false)] [(0, tkC t), (16, vwC v), (32, acC a), (496, tkC t), (576, tkC rx.1.t)] ?_ ?_ ?_ ?_ ?_); (focus simp [oldS, AV.old, wrp]); (focus simp [boxB, oldB, oldL, AV.old, old_rowL, old_rowF, old_rowG, old_rowS]); (focus simp [plS, AV.pl]); (focus exact ⟨pl_tkC _, pl_vwC _, pl_acC _, pl_tkC _, pl_tkC _, trivial⟩))
 | (first  | intro g1; try simp at g1))
        · (refine p_nx ((j4 + 1)) ?_; (try simp only); (try exact trivial))
          omega
        refine un_next ?_
        repeat' (first
 | (with_reducible first | apply qz0 | (refine h0 _ _ ?_; clear h0 hw) | apply qz1 | apply qz4 | apply qz6 | apply qz7 | apply qza | (refine hL _ ?_; clear hL))
 | refine p_reg fun K1 hK => ?_
 | apply go_seq
 | (refine p_op Tryz.tab fun K' h0 hw => ?_; conv => whnf)
 | (refine p_nil (hK _ ?_); clear hK)
 | ((with_reducible apply go_cond); (case hb => rfl))
 | ((with_reducible first | refine w_ret Tryz.tab fun K' hL => ?_ ); (conv => whnf))
 | (with_reducible refine un_exit ?_)
 | (first  | intro g1; try simp at g1))
        exact .refl _
theorem cells_frsT {cx : List AV} (h : Reads (.sl 3 40 (.agg [.int .i64, .bool, .sl 1 16 .str])) cx) : ∃ l : List Fr, cx = [frs l] ∧ l.length * 40 ≤ 140737488355328 ∧ ∀ f ∈ l, f.parts.length ≤ 8796093022208 := by
  obtain ⟨es, h1, h2, h3⟩ := h
  obtain ⟨l, h4, h5⟩ := map_of (f := frC) (Q := fun f => f.parts.length ≤ 8796093022208) (es := es) fun x hx => by obtain ⟨f, hf, hq, _⟩ := cells_fr (h2 x hx); exact ⟨f, hf, hq⟩
  subst h1
  refine ⟨l, by rw [h4], ?_, h5⟩
  rw [h4, List.length_map] at h3
  unfold reachBytes at h3; omega
theorem cells_grT {cx : List AV} (h : ReadsL [.sl 3 40 (.agg [.int .i64, .bool, .sl 1 16 .str])] cx) : ∃ g : List Fr, cx = grC g ∧ g.length * 40 ≤ 140737488355328 ∧ ∀ f ∈ g, f.parts.length ≤ 8796093022208 := by
  obtain ⟨_, _, rfl, h, rfl⟩ := h
  obtain ⟨l, rfl, h1, h2⟩ := cells_frsT h
  exact ⟨l, rfl, h1, h2⟩
theorem cells_grsT {cx : List AV} (h : Reads (.sl 1 24 (.agg [.sl 3 40 (.agg [.int .i64, .bool, .sl 1 16 .str])])) cx) : ∃ l : List (List Fr), cx = [grs l] ∧ l.length * 24 ≤ 140737488355328 ∧ ∀ g ∈ l, g.length * 40 ≤ 140737488355328 ∧ ∀ f ∈ g, f.parts.length ≤ 8796093022208 := by
  obtain ⟨es, h1, h2, h3⟩ := h
  obtain ⟨l, h4, h5⟩ := map_of (f := grC) (Q := fun g => g.length * 40 ≤ 140737488355328 ∧ ∀ f ∈ g, f.parts.length ≤ 8796093022208) (es := es) fun x hx => by obtain ⟨g, hg, hq⟩ := cells_grT (h2 x hx); exact ⟨g, hg, hq⟩
  subst h1
  refine ⟨l, by rw [h4], ?_, h5⟩
  rw [h4, List.length_map] at h3
  unfold reachBytes at h3; omega
theorem cells_sltsT {cx : List AV} (h : Reads (.sl 7 48 (.agg [.int .i64, .agg [.int .i64, .int .i64, .bool, .bool, .bool, .str]])) cx) : ∃ l : List Slt, cx = [slts l] ∧ l.length * 48 ≤ 140737488355328 := by
  obtain ⟨es, h1, h2, h3⟩ := h
  obtain ⟨l, h4, h5⟩ := map_of (f := sltC) (Q := fun s => s.p.text.size ≤ reachBytes) (es := es) fun x hx => by obtain ⟨f, hf, hq⟩ := cells_slt (h2 x hx); exact ⟨f, hf, hq⟩
  subst h1
  refine ⟨l, by rw [h4], ?_⟩
  rw [h4, List.length_map] at h3
  unfold reachBytes at h3; omega
theorem cells_tkT {cx : List AV} (h : Reads shTk cx) : ∃ t : Tk, cx = tkC t ∧ FitsK t := by
  obtain ⟨_, _, rfl, ⟨n, rfl, _⟩, _, _, rfl, ⟨_, _, rfl, ⟨m, rfl, _⟩, _, _, rfl, hb, rfl⟩, _, _, rfl, ⟨_, _, rfl, ho, rfl⟩, _, _, rfl, ⟨_, _, rfl, ⟨f, rfl, _⟩, _, _, rfl, hg, _, _, rfl, ⟨_, _, rfl, hp, rfl⟩, rfl⟩, rfl⟩ := h
  obtain ⟨l, rfl, b1⟩ := cells_sltsT hb
  obtain ⟨o, rfl, o1⟩ := cells_sltsT ho
  obtain ⟨gs, rfl, g1, g2⟩ := cells_grsT hg
  obtain ⟨g, hgr, g3, g4⟩ := cells_grT ⟨_, _, rfl, hp, rfl⟩
  rw [List.append_nil] at hgr
  subst hgr
  exact ⟨⟨n, ⟨m, l⟩, o, ⟨f, gs, g⟩⟩, by simp, b1, o1, g1, g2, g3, g4⟩
theorem reads_tkT {a : AV} (h : ReadsArg shTk a) : ∃ t : Tk, a = .agg (tkC t) ∧ FitsK t := by
  obtain ⟨_, rfl, h⟩ := h
  obtain ⟨t, rfl, ht⟩ := cells_tkT h
  exact ⟨t, rfl, ht⟩
theorem reads_act {a : AV} (h : ReadsArg (.agg [.int .i64, .int .i64, .str]) a) : ∃ x : Ac, a = .agg (acC x) ∧ x.text.size ≤ 1000000000000000 := by
  obtain ⟨_, rfl, h⟩ := h
  obtain ⟨x, rfl, hx⟩ := cells_act h
  exact ⟨x, rfl, by unfold reachBytes at hx; omega⟩
theorem law_restTracks (args : List AV) (h : ReadsArgs [shTk, shVw, .agg [.int .i64, .int .i64, .str]] args) (_ : True) : PSpec Tryz.prog 3 args (B true) := by
  obtain ⟨_, _, rfl, h1, _, _, rfl, h2, _, _, rfl, h3, rfl⟩ := h
  obtain ⟨t, rfl, ht⟩ := reads_tkT h1
  obtain ⟨v, rfl⟩ := reads_vw h2
  obtain ⟨x, rfl, hx⟩ := reads_act h3
  exact c_restTracks t v x ht hx
end Go.Proofs.YtokkencbpmjdaaaGreat

/- OutGoes, walked. No condition. -/
import Derived.Test.YtapgdbjlgebjmaaOutTells
import Derived.Test.YtapgdbjlgebjmaaFrameTells
namespace Go.Proofs.Ytapgdbjlgebjmaa
open Go Go.Sy
set_option maxRecDepth 4000
set_option linter.unusedSimpArgs false
set_option linter.unusedVariables false
attribute [local irreducible] Reg RegD Later Out CallV Tri Side EqV
theorem send_err {o : Ou} {f : Fr} {turn : Bool} (h : ¬ (sendS o f turn).2.2 = 0) : sendS o f turn = (ou0, [], (sendS o f turn).2.2) := by
  unfold sendS at h ⊢
  by_cases h1 : sendE o f = 0
  · rw [if_pos h1] at h ⊢
    unfold rawS at h ⊢
    by_cases h2 : (frameS o f turn).2.2 = 0
    · rw [if_pos h2] at h; exact absurd h2 h
    · rw [if_neg h2]
  · rw [if_neg h1]
theorem send_ok {o : Ou} {f : Fr} {turn : Bool} (h : (sendS o f turn).2.2 = 0) : ∃ t sh, sendS o f turn = (⟨o.last + f.parts.length, t, sh⟩, pksTo o.last t f f.parts.length, 0) ∧ outE ⟨o.last + f.parts.length, t, sh⟩ = 0 ∧
    outOK o ∧ frameE f = 0 ∧ o.time ≤ t ∧ t ≤ 1000000 ∧ o.last + f.parts.length ≤ 1000000000 ∧ (turn = true → t = o.time + 10) := by
  unfold sendS at h ⊢
  by_cases h1 : sendE o f = 0
  · rw [if_pos h1] at h ⊢
    obtain ⟨k1, k2, k3, k4, k5, k6⟩ := sendE_ok h1
    have kf : frameE f = 0 := by
      unfold sendE at h1
      by_cases c : outE o = 0
      · rw [if_pos c] at h1; exact h1
      · rw [if_neg c] at h1; exact absurd h1 c
    have kp := k1
    unfold outOK at kp
    unfold rawS at h ⊢
    by_cases h2 : (frameS o f turn).2.2 = 0
    · rw [if_pos h2]
      unfold frameS at h2 ⊢
      by_cases q1 : f.time + shiftS o f turn < o.time
      · rw [if_pos q1] at h2; cases h2
      · rw [if_neg q1] at h2 ⊢
        by_cases q2 : 1000000 < f.time + shiftS o f turn ∨ 1000000000 < o.last + f.parts.length
        · rw [if_pos q2] at h2; cases h2
        · rw [if_neg q2]
          refine ⟨_, _, rfl, ?_, k1, kf, by omega, by omega, by omega, fun ht => ?_⟩
          · unfold outE
            rw [if_pos]
            unfold outOK
            refine ⟨by simp only; omega, by simp only; omega, ?_⟩
            simp only
            unfold shiftS at q1 q2 ⊢
            split <;> rename_i c <;> (try rw [if_pos c] at q1 q2) <;> (try rw [if_neg c] at q1 q2) <;> omega
          · simp [shiftS, ht]; omega
    · rw [if_neg h2] at h; exact absurd h h2
  · rw [if_neg h1] at h; exact absurd h h1
def slk (o : Ou) (t : Int) (f : Fr) (i : Nat) : Slt := ⟨o.last + 1 + i, pk o.last t f i⟩
def slsTo (o : Ou) (t : Int) (f : Fr) (k : Nat) : List Slt := (List.range k).map (slk o t f)
theorem slsTo_succ (o : Ou) (t : Int) (f : Fr) (k : Nat) : slsTo o t f (k + 1) = slsTo o t f k ++ [slk o t f k] := by simp [slsTo, List.range_succ]
theorem slsTo_len (o : Ou) (t : Int) (f : Fr) (k : Nat) : (slsTo o t f k).length = k := by simp [slsTo]
theorem pk_right {o : Ou} {t : Int} {f : Fr} {i : Nat} (ho : 0 ≤ o.last) (ht : 0 ≤ t ∧ t ≤ 1000000) (hf : frameE f = 0) (hi : i < f.parts.length) : pktE (pk o.last t f i) = 0 := by
  have hb := (frameE_ok hf).2.2.2.2
  have hx : (f.parts.getD i ByteArray.empty).size ≤ 8 := by
    rw [List.any_eq_false] at hb
    have := hb f.parts[i] (List.getElem_mem hi)
    rw [List.getD_eq_getElem?_getD, List.getElem?_eq_getElem hi]
    simp [big] at this; exact this
  unfold pktE
  rw [if_neg (by simp only [pk, pkS]; omega), if_neg (by simp only [pk, pkS]; omega), if_neg (by simp [pk, pkS])]
theorem slk_right {o : Ou} {t : Int} {f : Fr} {i : Nat} (ho : 0 ≤ o.last) (ht : 0 ≤ t ∧ t ≤ 1000000) (hf : frameE f = 0) (hi : i < f.parts.length) (h1 : 65536 ≤ o.last + 1 + i) (h2 : o.last + f.parts.length ≤ 1000000000) : sltE (slk o t f i) = 0 := by
  have hr : rightB (o.last + 1 + i) = true := by simp [rightB]; omega
  unfold sltE
  rw [if_neg (by simp [slk, hr]), if_neg (by simp only [slk]; simp [pk_right ho ht hf hi]), if_neg ?_]
  simp only [slk, pk, pkS, Decidable.not_not]
  congr 1; omega
theorem pksTo_get {last t : Int} {f : Fr} {k i : Nat} (h : i < k) : (pksTo last t f k)[i]? = some (pk last t f i) := by simp [pksTo, h]
theorem out_frames {o : Ou} {t : Int} {f : Fr} (ho : 0 ≤ o.last) (ht : 0 ≤ t ∧ t ≤ 1000000) (hf : frameE f = 0) (h2 : o.last + f.parts.length ≤ 1000000000) (h1 : 65536 ≤ o.last + 1) : allF (slsTo o t f f.parts.length) = ([⟨t, f.key, f.parts⟩], 0) := by
  have hk := frameE_ok hf
  have hs : ∀ i, i < f.parts.length → sltE (slk o t f i) = 0 := fun i hi => slk_right ho ht hf hi (by omega) h2
  obtain ⟨ft, fk, ps⟩ := f
  simp only at hk hs h2
  have e2 : (o.last + 1 + 2 = o.last + 1 + 1 + 1) = True := eq_true (by omega)
  have e3 : (o.last + 1 + 3 = o.last + 1 + 2 + 1) = True := eq_true (by omega)
  match ps, hk.2.2.2.1, hk.2.2.1 with
  | [a], _, _ =>
    have h0 := hs 0 (by simp)
    simp only [slsTo, List.range_succ, List.range_zero, List.length_cons, List.length_nil, List.nil_append, List.cons_append, List.map_cons, List.map_nil, allF, eachF, h0]
    simp [addS, openS, slk, pk, pkS, madeS]
  | [a, b], _, _ =>
    have h0 := hs 0 (by simp)
    have h1 := hs 1 (by simp)
    simp only [slsTo, List.range_succ, List.range_zero, List.length_cons, List.length_nil, List.nil_append, List.cons_append, List.map_cons, List.map_nil, allF, eachF, h0, h1]
    simp [addS, openS, slk, pk, pkS, madeS, followsB, e2, e3]
  | [a, b, c], _, _ =>
    have h0 := hs 0 (by simp)
    have h1 := hs 1 (by simp)
    have h2 := hs 2 (by simp)
    simp only [slsTo, List.range_succ, List.range_zero, List.length_cons, List.length_nil, List.nil_append, List.cons_append, List.map_cons, List.map_nil, allF, eachF, h0, h1, h2]
    simp [addS, openS, slk, pk, pkS, madeS, followsB, e2, e3]
  | [a, b, c, d], _, _ =>
    have h0 := hs 0 (by simp)
    have h1 := hs 1 (by simp)
    have h2 := hs 2 (by simp)
    have h3 := hs 3 (by simp)
    simp only [slsTo, List.range_succ, List.range_zero, List.length_cons, List.length_nil, List.nil_append, List.cons_append, List.map_cons, List.map_nil, allF, eachF, h0, h1, h2, h3]
    simp [addS, openS, slk, pk, pkS, madeS, followsB, e2, e3]
  | [], h, _ => exact absurd rfl h
  | _ :: _ :: _ :: _ :: _ :: _, _, h => simp at h
set_option maxHeartbeats 4000000 in
theorem c_outGoes (o : Ou) (f : Fr) (turn : Bool) (hl : f.parts.length ≤ 8796093022208) : PSpec Try.prog 9 [.agg (ouC o), .agg (frC f), B turn] (B true) := by
  refine v_pspec Try.func9 rfl Try.ntmps9 Try.results9 (by simp) (by first | exact .s _ | repeat constructor) ?_
  have hA := c_send o f turn (by omega)
  by_cases hE : (sendS o f turn).2.2 = 0
  · obtain ⟨t, sh, e, k1, k2, k3, k4, k5, k6, k7⟩ := send_ok hE
    have kf := frameE_ok k3
    have kp := List.length_pos_iff.2 kf.2.2.2.1
    have ko := k2
    unfold outOK at ko
    rw [e] at hA
    unfold outT at hA
    have hC := c_outCheck ⟨o.last + f.parts.length, t, sh⟩
    rw [k1] at hC
    have e1 := wrp (n := o.last + (f.parts.length : Int)) (by omega) (by omega)
    have e2 := wrp (n := o.time + 10) (by omega) (by omega)
    have e3 := wrp (n := o.last + 1) (by omega) (by omega)
    have hpl := pksTo_len o.last t f f.parts.length
    have kt : ¬ t < o.time := by omega
    repeat' (first
    | ((with_reducible apply w_ownNil 10 48 7); (case hs => rfl); (case hsz => decide); (case hm => (try simp only [Nat.reduceAdd, Nat.reduceMul]); exact rfl))
    | ((first | with_reducible refine w_cut (x := .cond (.tmp 76) _ _) (X := Unit) [6, 37, 38, 39, 40, 41, 42, 43, 44, 45, 46, 47, 48, 49, 50, 51, 52, 53, 54, 55, 56, 57, 58, 59, 60, 61, 62, 63, 64, 65, 66, 67, 68, 69, 70, 71, 72, 73, 74, 75, 76] (fun _ => []) (fun _ => []) (fun _ => True) ?_ ?_ | with_reducible refine w_cut (x := .seq (.region _ _ _) (.cond (.tmp 76) _ _)) (X := Unit) [6, 37, 38, 39, 40, 41, 42, 43, 44, 45, 46, 47, 48, 49, 50, 51, 52, 53, 54, 55, 56, 57, 58, 59, 60, 61, 62, 63, 64, 65, 66, 67, 68, 69, 70, 71, 72, 73, 74, 75, 76] (fun _ => []) (fun _ => []) (fun _ => True) ?_ ?_); (try (rintro z hz; simp only at hz)))
    | (with_reducible first | refine go_later ?_ | (refine h0 _ _ ?_; clear h0 hw) | (refine hw _ _ _ ?_; clear h0 hw) | refine go_ret ?_ | refine go_skip ?_ | refine go_block ?_ | refine go_exit ?_ | refine out_seq_ret ?_ | refine out_seq_normal ?_ | refine out_seq_exit ?_ | refine out_block_ret ?_ | refine out_block_normal ?_ | refine out_block_here ?_ | refine out_loop_ret ?_ | refine out_loop_exit ?_ | refine out_loopR_ret ?_ | refine out_loopR_exit ?_ | (refine hL _ ?_; clear hL))
    | (with_reducible first | refine w_reg (by decide +kernel) fun K1 hK => ?_ | refine w_reg_end (by decide +kernel) fun K1 hK => ?_)
    | ((with_reducible first | apply d_reg Try.mix (by decide +kernel) | apply d_reg_end Try.mix (by decide +kernel)); (case hm => simp only [List.length_cons, List.length_nil, Nat.reduceAdd, Nat.reduceMul]; rfl); (case' h => intro K1 hK))
    | with_reducible refine go_seq ?_
    | ((with_reducible first | apply v_op Try.tab | apply v_op0 Try.tab | apply d_op Try.tab | apply d_op0 Try.tab) <;> first | (intro K' h0 hw; conv => whnf) | (simp only [Nat.reduceAdd, Nat.reduceMul]; rfl))
    | ((with_reducible apply v_nil); (case hm => (simp only [Nat.reduceAdd, Nat.reduceMul]; rfl)); (case' h => with_reducible refine hK _ ?_; clear hK))
    | ((with_reducible apply d_nil); (refine hK _ _ _ _ (by first | decide +kernel | (simp only [List.map_cons, List.map_nil, List.nil_append, List.cons_append]; decide +kernel) | rfl) ?_; clear hK))
    | (first | refine d_grd_yes (by rfl) (by rfl) ?_ | refine v_grd_yes (by rfl) (by rfl) ?_)
    | (apply d_grd_no; (case hg => rfl); (case hb => rfl); (case hi => (simp only [Nat.reduceAdd, Nat.reduceMul]; rfl)))
    | (apply d_grd_undef; (case hg => rfl); (case hb => rfl); (case hi => (simp only [Nat.reduceAdd, Nat.reduceMul]; rfl)))
    | (apply d_grd; (case hg => rfl); (case hb => rfl); (case hi => (simp only [Nat.reduceAdd, Nat.reduceMul]; rfl)))
    | (apply v_grd_no; (case hg => rfl); (case hb => rfl); (case hi => (simp only [Nat.reduceAdd, Nat.reduceMul]; rfl)))
    | (apply v_grd_undef; (case hg => rfl); (case hb => rfl); (case hi => (simp only [Nat.reduceAdd, Nat.reduceMul]; rfl)))
    | (apply v_grd; (case hg => rfl); (case hb => rfl); (case hi => (simp only [Nat.reduceAdd, Nat.reduceMul]; rfl)))
    | ((with_reducible refine callV_id (f := 35) ?_); have hcs_ := hA; (with_reducible apply callV_f own35 (hcs_)); (case hx => rfl); (case he => rfl); (case hle => first | ((repeat constructor); done) | (simp; done)); (case hpu => repeat constructor); (case' hK => (try clear hcs_); conv => whnf))
    | ((with_reducible refine callV_id (f := 36) ?_); have hcs_ := c_outBegun; (with_reducible apply callV_f own36 (hcs_)); (case hx => rfl); (case he => rfl); (case hle => first | ((repeat constructor); done) | (simp; done)); (case hpu => repeat constructor); (case' hK => (try clear hcs_); conv => whnf))
    | ((with_reducible refine callV_id (f := 31) ?_); have hcs_ := c_frameBegun; (with_reducible apply callV_f own31 (hcs_)); (case hx => rfl); (case he => rfl); (case hle => first | ((repeat constructor); done) | (simp; done)); (case hpu => repeat constructor); (case' hK => (try clear hcs_); conv => whnf))
    | ((with_reducible refine callV_id (f := 37) ?_); have hcs_ := hC; (with_reducible apply callV_f own37 (hcs_)); (case hx => rfl); (case he => rfl); (case hle => first | ((repeat constructor); done) | (simp; done)); (case hpu => repeat constructor); (case' hK => (try clear hcs_); conv => whnf))
    | ((with_reducible apply go_cond); (case hb => rfl))
    | ((with_reducible apply out_block_there); (case hne => rfl))
    | ((with_reducible first | refine w_ret Try.tab fun K' hL => ?_ | refine w_ret_end Try.tab fun K' hL => ?_); (conv => whnf))
    | ((with_reducible apply And.intro); (case' right => try (conv => whnf)); (case' left => try first | rfl | decide | (simp; done)))
    | ((with_reducible apply Side.mk); (try simp (disch := omega) only [wrp]); (try simp); (try omega))
    | ((with_reducible apply all_rk); (case hx => with_reducible assumption); (conv => whnf))
    | ((with_reducible refine all_row ?_); (first | (have _y := hx5; clear _y; intro x6 hx6) | (have _y := hx4; clear _y; intro x5 hx5) | (have _y := hx3; clear _y; intro x4 hx4) | (have _y := hx2; clear _y; intro x3 hx3) | (have _y := hx1; clear _y; intro x2 hx2) | (intro x1 hx1)); conv => whnf)
    | (refine ⟨_, eqAT (by rfl) (by rfl) (by rfl) (by rfl), ?_⟩; conv => whnf)
    | ((first | (have _y := g19; clear _y; intro g20; try simp at g20; try simp (disch := omega) only [wrp] at g20) | (have _y := g18; clear _y; intro g19; try simp at g19; try simp (disch := omega) only [wrp] at g19) | (have _y := g17; clear _y; intro g18; try simp at g18; try simp (disch := omega) only [wrp] at g18) | (have _y := g16; clear _y; intro g17; try simp at g17; try simp (disch := omega) only [wrp] at g17) | (have _y := g15; clear _y; intro g16; try simp at g16; try simp (disch := omega) only [wrp] at g16) | (have _y := g14; clear _y; intro g15; try simp at g15; try simp (disch := omega) only [wrp] at g15) | (have _y := g13; clear _y; intro g14; try simp at g14; try simp (disch := omega) only [wrp] at g14) | (have _y := g12; clear _y; intro g13; try simp at g13; try simp (disch := omega) only [wrp] at g13) | (have _y := g11; clear _y; intro g12; try simp at g12; try simp (disch := omega) only [wrp] at g12) | (have _y := g10; clear _y; intro g11; try simp at g11; try simp (disch := omega) only [wrp] at g11) | (have _y := g9; clear _y; intro g10; try simp at g10; try simp (disch := omega) only [wrp] at g10) | (have _y := g8; clear _y; intro g9; try simp at g9; try simp (disch := omega) only [wrp] at g9) | (have _y := g7; clear _y; intro g8; try simp at g8; try simp (disch := omega) only [wrp] at g8) | (have _y := g6; clear _y; intro g7; try simp at g7; try simp (disch := omega) only [wrp] at g7) | (have _y := g5; clear _y; intro g6; try simp at g6; try simp (disch := omega) only [wrp] at g6) | (have _y := g4; clear _y; intro g5; try simp at g5; try simp (disch := omega) only [wrp] at g5) | (have _y := g3; clear _y; intro g4; try simp at g4; try simp (disch := omega) only [wrp] at g4) | (have _y := g2; clear _y; intro g3; try simp at g3; try simp (disch := omega) only [wrp] at g3) | (have _y := g1; clear _y; intro g2; try simp at g2; try simp (disch := omega) only [wrp] at g2) | (intro g1; try simp at g1; try simp (disch := omega) only [wrp] at g1))))
    all_goals try first | omega | exact absurd (k7 (by assumption)) (by assumption) | (exfalso; simp at g5; omega) | (exfalso; simp [pksTo_len] at g5; done)
    · ((with_reducible apply w_next (())); (case kt => first | exact kt_refl | (repeat (first | exact kt_refl | refine kt_wr (by rfl) ?_ | refine kt_jnk (by rfl) ?_ | refine kt_wrs (by rfl) ?_))); (case ko => repeat (first | exact ko_refl | refine ko_wo (by first | exact .inl (by rfl) | exact .inr (by simp) | exact .inr (by omega)) ?_ | refine ko_wor (by rfl) ?_ | refine ko_wos (by simp) ?_)); (case hn => first | exact Nat.le_refl _ | (simp; done) | (simp; omega)); (case hs => simp); (case hb => simp); (case ls => simp (disch := omega) [wrp]); (case lb => simp); (case mu => first | (simp; omega) | (simp; done) | omega | (simp only; omega)); (case' rel' => (try simp only); (try exact trivial)))
    · ((with_reducible apply w_next (())); (case kt => first | exact kt_refl | (repeat (first | exact kt_refl | refine kt_wr (by rfl) ?_ | refine kt_jnk (by rfl) ?_ | refine kt_wrs (by rfl) ?_))); (case ko => repeat (first | exact ko_refl | refine ko_wo (by first | exact .inl (by rfl) | exact .inr (by simp) | exact .inr (by omega)) ?_ | refine ko_wor (by rfl) ?_ | refine ko_wos (by simp) ?_)); (case hn => first | exact Nat.le_refl _ | (simp; done) | (simp; omega)); (case hs => simp); (case hb => simp); (case ls => simp (disch := omega) [wrp]); (case lb => simp); (case mu => first | (simp; omega) | (simp; done) | omega | (simp only; omega)); (case' rel' => (try simp only); (try exact trivial)))
    · exact absurd trivial g4
    refine w_loop (X := Nat) [6, 10, 11, 77, 78, 79, 80, 81, 82, 83, 84, 85, 86, 87, 88, 89, 90, 91, 92, 93, 94, 95, 96, 97, 98, 99, 100, 101, 102, 103, 104, 105, 106, 107, 108, 109, 110, 111, 112, 113, 114, 115, 116, 117, 118, 119, 120, 121, 122, 123, 124, 125, 126, 127, 128, 129, 130, 131] (fun i => [(11, I i), (10, .osl 384 7 (rowL (slsTo o t f i)))]) (fun i => [(384, .perm 48 7 i)]) (fun i => i ≤ f.parts.length ∧ (0 < i → 65536 ≤ o.last + 1)) (fun i => f.parts.length - i) 0 (by simp) ?_ ?_
    · refine ⟨kt_refl, ko_refl, ?_, ?_, ?_, ?_, Nat.le_refl _⟩ <;> simp [slsTo]
    rintro i ⟨h1, h2⟩
    have hsl := slsTo_len o t f i
    have hss := slsTo_succ o t f i
    have hgt : ∀ x1 : Pkt, (pksTo o.last t f f.parts.length)[(i : Int).toNat]? = some x1 → i < f.parts.length ∧ x1 = pk o.last t f i := fun x1 h => by
      have hi := (List.getElem?_eq_some_iff.1 h).1
      rw [pksTo_len] at hi
      have hi' : i < f.parts.length := by omega
      refine ⟨hi', ?_⟩
      have h' : (pksTo o.last t f f.parts.length)[i]? = some x1 := by simpa using h
      rw [pksTo_get hi'] at h'; exact (Option.some.inj h').symm
    have hw : ∀ x1 : Pkt, pktE x1 = 0 → PSpec Try.prog 38 [.agg (pktC x1)] (I 0) := fun x1 h => by have := c_wireCheck x1; rwa [h] at this
    repeat' (first
    | (with_reducible first | refine go_later ?_ | (refine h0 _ _ ?_; clear h0 hw) | (refine hw _ _ _ ?_; clear h0 hw) | refine go_ret ?_ | refine go_skip ?_ | refine go_block ?_ | refine go_exit ?_ | refine out_seq_ret ?_ | refine out_seq_normal ?_ | refine out_seq_exit ?_ | refine out_block_ret ?_ | refine out_block_normal ?_ | refine out_block_here ?_ | refine out_loop_ret ?_ | refine out_loop_exit ?_ | refine out_loopR_ret ?_ | refine out_loopR_exit ?_ | (refine hL _ ?_; clear hL))
    | (with_reducible first | refine w_reg (by decide +kernel) fun K1 hK => ?_ | refine w_reg_end (by decide +kernel) fun K1 hK => ?_)
    | ((with_reducible first | apply d_reg Try.mix (by decide +kernel) | apply d_reg_end Try.mix (by decide +kernel)); (case hm => simp only [List.length_cons, List.length_nil, Nat.reduceAdd, Nat.reduceMul]; rfl); (case' h => intro K1 hK))
    | with_reducible refine go_seq ?_
    | ((with_reducible first | apply v_op Try.tab | apply v_op0 Try.tab | apply d_op Try.tab | apply d_op0 Try.tab) <;> first | (intro K' h0 hw; conv => whnf) | (simp only [Nat.reduceAdd, Nat.reduceMul]; rfl))
    | ((with_reducible apply v_nil); (case hm => (simp only [Nat.reduceAdd, Nat.reduceMul]; rfl)); (case' h => with_reducible refine hK _ ?_; clear hK))
    | ((with_reducible apply d_nil); (refine hK _ _ _ _ (by first | decide +kernel | (simp only [List.map_cons, List.map_nil, List.nil_append, List.cons_append]; decide +kernel) | rfl) ?_; clear hK))
    | (first | refine d_grd_yes (by rfl) (by rfl) ?_ | refine v_grd_yes (by rfl) (by rfl) ?_)
    | (apply d_grd_no; (case hg => rfl); (case hb => rfl); (case hi => (simp only [Nat.reduceAdd, Nat.reduceMul]; rfl)))
    | (apply d_grd_undef; (case hg => rfl); (case hb => rfl); (case hi => (simp only [Nat.reduceAdd, Nat.reduceMul]; rfl)))
    | (apply d_grd; (case hg => rfl); (case hb => rfl); (case hi => (simp only [Nat.reduceAdd, Nat.reduceMul]; rfl)))
    | (apply v_grd_no; (case hg => rfl); (case hb => rfl); (case hi => (simp only [Nat.reduceAdd, Nat.reduceMul]; rfl)))
    | (apply v_grd_undef; (case hg => rfl); (case hb => rfl); (case hi => (simp only [Nat.reduceAdd, Nat.reduceMul]; rfl)))
    | (apply v_grd; (case hg => rfl); (case hb => rfl); (case hi => (simp only [Nat.reduceAdd, Nat.reduceMul]; rfl)))
    | ((with_reducible refine callV_id (f := 38) ?_); have hcs_ := c_wireCheck x1; (with_reducible apply callV_f own38 (hcs_)); (case hx => rfl); (case he => rfl); (case hle => first | ((repeat constructor); done) | (simp [hsl]; done)); (case hpu => repeat constructor); (case' hK => (try clear hcs_); conv => whnf))
    | ((with_reducible refine callV_id (f := 26) ?_); have hcs_ := c_frameAll (slsTo o t f i) (by rw [slsTo_len]; omega); (with_reducible apply callV_f own26 (hcs_)); (case hx => rfl); (case he => rfl); (case hle => first | ((repeat constructor); done) | (simp [hsl]; done)); (case hpu => repeat constructor); (case' hK => (try clear hcs_); conv => whnf))
    | ((with_reducible refine callV_id (f := 24) ?_); have hcs_ := c_sameFrame ⟨t, f.key, f.parts⟩ x1 (by simp only; omega); (with_reducible apply callV_f own24 (hcs_)); (case hx => rfl); (case he => rfl); (case hle => first | ((repeat constructor); done) | (simp [hsl]; done)); (case hpu => repeat constructor); (case' hK => (try clear hcs_); conv => whnf))
    | ((with_reducible apply go_cond); (case hb => rfl))
    | ((with_reducible apply out_block_there); (case hne => rfl))
    | ((with_reducible first | refine w_ret Try.tab fun K' hL => ?_ | refine w_ret_end Try.tab fun K' hL => ?_); (conv => whnf))
    | ((with_reducible apply And.intro); (case' right => try (conv => whnf)); (case' left => try first | rfl | decide | (simp [hsl]; done)))
    | ((with_reducible apply Side.mk); (try simp (disch := omega) only [wrp]); (try simp); (try omega))
    | ((with_reducible apply all_rk); (case hx => with_reducible assumption); (conv => whnf))
    | ((with_reducible refine all_row ?_); (first | (have _y := hx5; clear _y; intro x6 hx6) | (have _y := hx4; clear _y; intro x5 hx5) | (have _y := hx3; clear _y; intro x4 hx4) | (have _y := hx2; clear _y; intro x3 hx3) | (have _y := hx1; clear _y; intro x2 hx2) | (intro x1 hx1)); conv => whnf)
    | (refine ⟨_, eqAT (by rfl) (by rfl) (by rfl) (by rfl), ?_⟩; conv => whnf)
    | ((first | (have _y := g19; clear _y; intro g20; try simp at g20; try simp (disch := omega) only [wrp] at g20) | (have _y := g18; clear _y; intro g19; try simp at g19; try simp (disch := omega) only [wrp] at g19) | (have _y := g17; clear _y; intro g18; try simp at g18; try simp (disch := omega) only [wrp] at g18) | (have _y := g16; clear _y; intro g17; try simp at g17; try simp (disch := omega) only [wrp] at g17) | (have _y := g15; clear _y; intro g16; try simp at g16; try simp (disch := omega) only [wrp] at g16) | (have _y := g14; clear _y; intro g15; try simp at g15; try simp (disch := omega) only [wrp] at g15) | (have _y := g13; clear _y; intro g14; try simp at g14; try simp (disch := omega) only [wrp] at g14) | (have _y := g12; clear _y; intro g13; try simp at g13; try simp (disch := omega) only [wrp] at g13) | (have _y := g11; clear _y; intro g12; try simp at g12; try simp (disch := omega) only [wrp] at g12) | (have _y := g10; clear _y; intro g11; try simp at g11; try simp (disch := omega) only [wrp] at g11) | (have _y := g9; clear _y; intro g10; try simp at g10; try simp (disch := omega) only [wrp] at g10) | (have _y := g8; clear _y; intro g9; try simp at g9; try simp (disch := omega) only [wrp] at g9) | (have _y := g7; clear _y; intro g8; try simp at g8; try simp (disch := omega) only [wrp] at g8) | (have _y := g6; clear _y; intro g7; try simp at g7; try simp (disch := omega) only [wrp] at g7) | (have _y := g5; clear _y; intro g6; try simp at g6; try simp (disch := omega) only [wrp] at g6) | (have _y := g4; clear _y; intro g5; try simp at g5; try simp (disch := omega) only [wrp] at g5) | (have _y := g3; clear _y; intro g4; try simp at g4; try simp (disch := omega) only [wrp] at g4) | (have _y := g2; clear _y; intro g3; try simp at g3; try simp (disch := omega) only [wrp] at g3) | (have _y := g1; clear _y; intro g2; try simp at g2; try simp (disch := omega) only [wrp] at g2) | (intro g1; try simp at g1; try simp (disch := omega) only [wrp] at g1))))
    · obtain ⟨hi, e⟩ := hgt x1 hx1
      exact absurd (by rw [e]; exact pk_right (by omega) (by omega) k3 hi) g8
    · exact .refl _
    · obtain ⟨hi, e⟩ := hgt x1 hx1
      have hsk : slk o t f i = ⟨o.last + 1 + i, x1⟩ := by rw [e]; rfl
      rw [hsk] at hss
      ((with_reducible apply w_next ((i + 1))); (case kt => first | exact kt_refl | (repeat (first | exact kt_refl | refine kt_wr (by rfl) ?_ | refine kt_jnk (by rfl) ?_ | refine kt_wrs (by rfl) ?_))); (case ko => repeat (first | exact ko_refl | refine ko_wo (by first | exact .inl (by rfl) | exact .inr (by simp) | exact .inr (by omega)) ?_ | refine ko_wor (by rfl) ?_ | refine ko_wos (by simp) ?_)); (case hn => first | exact Nat.le_refl _ | (simp; done) | (simp; omega)); (case hs => simp [hss, hsl]); (case hb => simp [hss, hsl]); (case ls => simp (disch := omega) [hss, hsl, wrp]); (case lb => simp [hss, hsl]); (case mu => first | (simp; omega) | (simp; done) | omega | (simp only; omega)); (case' rel' => (try simp only); (try exact trivial)))
      exact ⟨by omega, fun _ => by by_cases q : i = 0; (subst q; simp at g9; exact g9); exact h2 (by omega)⟩
    · obtain ⟨hi, e⟩ := hgt x1 hx1
      exact absurd (by rw [e]; rfl) g7
    · obtain ⟨hi, e⟩ := hgt x1 hx1
      refine absurd ?_ g6
      rw [e, tmp (by omega)]
      show (o.last + i + 1) % 65536 = _
      congr 1; omega
    all_goals
      rw [pksTo_len] at g5
      obtain rfl : i = f.parts.length := by omega
      have hfr := out_frames (o := o) (t := t) (by omega) (by omega) k3 k6 (h2 (by omega))
      (try rw [hfr] at hx1); (try rw [hfr] at g6); (try rw [hfr] at g7)
      first
        | (simp at hx1; subst hx1; refine le_of_eq ?_; simp; done)
        | (simp at hx1; subst hx1; exact absurd rfl g8)
        | exact absurd rfl g7
        | exact absurd rfl g6
  · have e := send_err hE
    rw [e] at hA
    unfold outT at hA
    repeat' (first
    | (with_reducible first | refine go_later ?_ | (refine h0 _ _ ?_; clear h0 hw) | (refine hw _ _ _ ?_; clear h0 hw) | refine go_ret ?_ | refine go_skip ?_ | refine go_block ?_ | refine go_exit ?_ | refine out_seq_ret ?_ | refine out_seq_normal ?_ | refine out_seq_exit ?_ | refine out_block_ret ?_ | refine out_block_normal ?_ | refine out_block_here ?_ | refine out_loop_ret ?_ | refine out_loop_exit ?_ | refine out_loopR_ret ?_ | refine out_loopR_exit ?_ | (refine hL _ ?_; clear hL))
    | (with_reducible first | refine w_reg (by decide +kernel) fun K1 hK => ?_ | refine w_reg_end (by decide +kernel) fun K1 hK => ?_)
    | ((with_reducible first | apply d_reg Try.mix (by decide +kernel) | apply d_reg_end Try.mix (by decide +kernel)); (case hm => simp only [List.length_cons, List.length_nil, Nat.reduceAdd, Nat.reduceMul]; rfl); (case' h => intro K1 hK))
    | with_reducible refine go_seq ?_
    | ((with_reducible first | apply v_op Try.tab | apply v_op0 Try.tab | apply d_op Try.tab | apply d_op0 Try.tab) <;> first | (intro K' h0 hw; conv => whnf) | (simp only [Nat.reduceAdd, Nat.reduceMul]; rfl))
    | ((with_reducible apply v_nil); (case hm => (simp only [Nat.reduceAdd, Nat.reduceMul]; rfl)); (case' h => with_reducible refine hK _ ?_; clear hK))
    | ((with_reducible apply d_nil); (refine hK _ _ _ _ (by first | decide +kernel | (simp only [List.map_cons, List.map_nil, List.nil_append, List.cons_append]; decide +kernel) | rfl) ?_; clear hK))
    | (first | refine d_grd_yes (by rfl) (by rfl) ?_ | refine v_grd_yes (by rfl) (by rfl) ?_)
    | (apply d_grd_no; (case hg => rfl); (case hb => rfl); (case hi => (simp only [Nat.reduceAdd, Nat.reduceMul]; rfl)))
    | (apply d_grd_undef; (case hg => rfl); (case hb => rfl); (case hi => (simp only [Nat.reduceAdd, Nat.reduceMul]; rfl)))
    | (apply d_grd; (case hg => rfl); (case hb => rfl); (case hi => (simp only [Nat.reduceAdd, Nat.reduceMul]; rfl)))
    | (apply v_grd_no; (case hg => rfl); (case hb => rfl); (case hi => (simp only [Nat.reduceAdd, Nat.reduceMul]; rfl)))
    | (apply v_grd_undef; (case hg => rfl); (case hb => rfl); (case hi => (simp only [Nat.reduceAdd, Nat.reduceMul]; rfl)))
    | (apply v_grd; (case hg => rfl); (case hb => rfl); (case hi => (simp only [Nat.reduceAdd, Nat.reduceMul]; rfl)))
    | ((with_reducible refine callV_id (f := 35) ?_); have hcs_ := hA; (with_reducible apply callV_f own35 (hcs_)); (case hx => rfl); (case he => rfl); (case hle => first | ((repeat constructor); done) | (simp; done)); (case hpu => repeat constructor); (case' hK => (try clear hcs_); conv => whnf))
    | ((with_reducible refine callV_id (f := 36) ?_); have hcs_ := c_outBegun; (with_reducible apply callV_f own36 (hcs_)); (case hx => rfl); (case he => rfl); (case hle => first | ((repeat constructor); done) | (simp; done)); (case hpu => repeat constructor); (case' hK => (try clear hcs_); conv => whnf))
    | ((with_reducible refine callV_id (f := 31) ?_); have hcs_ := c_frameBegun; (with_reducible apply callV_f own31 (hcs_)); (case hx => rfl); (case he => rfl); (case hle => first | ((repeat constructor); done) | (simp; done)); (case hpu => repeat constructor); (case' hK => (try clear hcs_); conv => whnf))
    | ((with_reducible apply go_cond); (case hb => rfl))
    | ((with_reducible apply out_block_there); (case hne => rfl))
    | ((with_reducible first | refine w_ret Try.tab fun K' hL => ?_ | refine w_ret_end Try.tab fun K' hL => ?_); (conv => whnf))
    | ((with_reducible apply And.intro); (case' right => try (conv => whnf)); (case' left => try first | rfl | decide | (simp; done)))
    | ((with_reducible apply Side.mk); (try simp (disch := omega) only [wrp]); (try simp); (try omega))
    | ((with_reducible apply all_rk); (case hx => with_reducible assumption); (conv => whnf))
    | ((with_reducible refine all_row ?_); (first | (have _y := hx5; clear _y; intro x6 hx6) | (have _y := hx4; clear _y; intro x5 hx5) | (have _y := hx3; clear _y; intro x4 hx4) | (have _y := hx2; clear _y; intro x3 hx3) | (have _y := hx1; clear _y; intro x2 hx2) | (intro x1 hx1)); conv => whnf)
    | (refine ⟨_, eqAT (by rfl) (by rfl) (by rfl) (by rfl), ?_⟩; conv => whnf)
    | ((first | (have _y := g19; clear _y; intro g20; try simp at g20; try simp (disch := omega) only [wrp] at g20) | (have _y := g18; clear _y; intro g19; try simp at g19; try simp (disch := omega) only [wrp] at g19) | (have _y := g17; clear _y; intro g18; try simp at g18; try simp (disch := omega) only [wrp] at g18) | (have _y := g16; clear _y; intro g17; try simp at g17; try simp (disch := omega) only [wrp] at g17) | (have _y := g15; clear _y; intro g16; try simp at g16; try simp (disch := omega) only [wrp] at g16) | (have _y := g14; clear _y; intro g15; try simp at g15; try simp (disch := omega) only [wrp] at g15) | (have _y := g13; clear _y; intro g14; try simp at g14; try simp (disch := omega) only [wrp] at g14) | (have _y := g12; clear _y; intro g13; try simp at g13; try simp (disch := omega) only [wrp] at g13) | (have _y := g11; clear _y; intro g12; try simp at g12; try simp (disch := omega) only [wrp] at g12) | (have _y := g10; clear _y; intro g11; try simp at g11; try simp (disch := omega) only [wrp] at g11) | (have _y := g9; clear _y; intro g10; try simp at g10; try simp (disch := omega) only [wrp] at g10) | (have _y := g8; clear _y; intro g9; try simp at g9; try simp (disch := omega) only [wrp] at g9) | (have _y := g7; clear _y; intro g8; try simp at g8; try simp (disch := omega) only [wrp] at g8) | (have _y := g6; clear _y; intro g7; try simp at g7; try simp (disch := omega) only [wrp] at g7) | (have _y := g5; clear _y; intro g6; try simp at g6; try simp (disch := omega) only [wrp] at g6) | (have _y := g4; clear _y; intro g5; try simp at g5; try simp (disch := omega) only [wrp] at g5) | (have _y := g3; clear _y; intro g4; try simp at g4; try simp (disch := omega) only [wrp] at g4) | (have _y := g2; clear _y; intro g3; try simp at g3; try simp (disch := omega) only [wrp] at g3) | (have _y := g1; clear _y; intro g2; try simp at g2; try simp (disch := omega) only [wrp] at g2) | (intro g1; try simp at g1; try simp (disch := omega) only [wrp] at g1))))
    · simp [ou0]
    · exact absurd g2 hE
theorem law_outGoes (args : List AV) (h : ReadsArgs [.agg [.int .i64, .int .i64, .int .i64], .agg [.int .i64, .bool, .sl 1 16 .str], .bool] args) (_ : True) : PSpec Try.prog 9 args (B true) := by
  obtain ⟨_, _, rfl, h1, _, _, rfl, h2, _, _, rfl, ⟨b, hb⟩, rfl⟩ := h
  obtain ⟨o, rfl⟩ := reads_ou h1
  obtain ⟨_, rfl, h2⟩ := h2
  obtain ⟨f, rfl, hf, _⟩ := cells_fr h2
  cases hb
  exact c_outGoes _ _ _ hf
end Go.Proofs.Ytapgdbjlgebjmaa

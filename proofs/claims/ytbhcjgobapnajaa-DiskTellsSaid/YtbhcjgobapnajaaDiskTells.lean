/- DiskTells, walked. No condition. -/
import Derived.Test.YtbhcjgobapnajaaDisk13
namespace Go.Proofs.Ytbhcjgobapnajaa
open Go Go.Sy
set_option maxRecDepth 4000
set_option linter.unusedSimpArgs false
set_option linter.unusedVariables false
attribute [local irreducible] Reg RegD Later Out CallV YieldV Tri Side EqV
def syncW (d : Dk) : Dk := if dkE d = 0 then ⟨d.data, d.data.size⟩ else dk0
def crashW (d : Dk) (keep : Int) : Dk := if dkE d = 0 then (if 0 ≤ keep ∧ keep < d.data.size - d.sync then ⟨d.data.extract 0 (d.sync + keep).toNat, d.sync⟩ else d) else dk0
theorem sync_eq (d : Dk) : (syncR d).1 = if (wholeR d).2 = 0 then syncW d else dk0 := by
  unfold syncR syncW
  by_cases h : (wholeR d).2 = 0
  · rw [if_pos h, if_pos h]
    have : dkE d = 0 := by
      unfold wholeR at h
      by_cases c : (readR d).2 = 0
      · exact c
      · rw [if_neg c] at h; exact absurd h c
    rw [if_pos this]
  · rw [if_neg h, if_neg h]
theorem sync_e (d : Dk) : (syncR d).2 = (wholeR d).2 := by
  unfold syncR; split
  · rename_i h; exact h.symm
  · rfl
theorem whole_e (d : Dk) : (wholeR d).2 = if dkE d = 0 then (if endR 0 (readR d).1.1 < d.data.size then 4 else 0) else dkE d := by
  unfold wholeR dkE; split <;> rfl
theorem crash_e (d : Dk) (keep : Int) : (crashR d keep).2 = if dkE d = 0 then (if keep < 0 then 3 else 0) else dkE d := by
  unfold crashR; split
  · split <;> rfl
  · rfl
theorem crash_eq (d : Dk) (keep : Int) : (crashR d keep).1 = if (crashR d keep).2 = 0 then crashW d keep else dk0 := by
  rw [crash_e]
  unfold crashR crashW
  by_cases h : dkE d = 0
  · obtain ⟨h1, h2, h3⟩ := dk_sync h
    rw [if_pos h, if_pos h, if_pos h]
    by_cases hk : keep < 0
    · rw [if_pos hk, if_pos hk]; rfl
    · rw [if_neg hk, if_neg hk, if_pos rfl]
      by_cases hq : keep < d.data.size - d.sync
      · rw [if_pos ⟨by omega, hq⟩, show min keep ((d.data.size : Int) - d.sync) = keep by omega]
      · rw [if_neg (by omega), show min keep ((d.data.size : Int) - d.sync) = (d.data.size : Int) - d.sync by omega, show (d.sync + ((d.data.size : Int) - d.sync)).toNat = d.data.size by omega]
        refine Dk.ext' ?_ rfl
        simp
  · rw [if_neg h, if_neg h, if_neg h]
theorem enc_eq (n : Int) (g : List Fr) : (encR n g).2 = encE n g := by
  unfold encR; split
  · rename_i h; exact h.symm
  · rfl
theorem app_eq (d : Dk) (n : Int) (g : List Fr) : (appR d n g).1 = if (appR d n g).2 = 0 then (appR d n g).1 else dk0 := by
  unfold appR
  by_cases h : appE d n g = 0
  · rw [if_pos h]; rfl
  · rw [if_neg h]; simp
theorem open_eq (d : Dk) : (openS d).1 = if dkE d = 0 then (openS d).1 else (st0, dk0) := by
  unfold openS
  by_cases h : dkE d = 0
  · rw [if_pos h, if_pos h]
  · rw [if_neg h, if_neg h]
theorem isB {d : Dk} {e w : Int} {want : Dk} (he : e = w) (hd : d = if w = 0 then want else dk0) : PSpec Try.prog 26 [.agg (dkC d), I e, I w, .agg (dkC want)] (B true) := by
  have h := c_diskIs d e w want
  rwa [decide_eq_true he, decide_eq_true hd] at h
theorem isS {s : Sto} {e w : Int} {want : Sto} (hs : Small s) (he : e = w) (hd : s = if w = 0 then want else st0) : PSpec Try.prog 27 [.agg (stC s), I e, I w, .agg (stC want)] (B true) := by
  have h := c_storeIs s e w want hs
  rwa [decide_eq_true he, decide_eq_true hd] at h
theorem reads_dk {a : AV} (h : ReadsArg (.agg [.str, .int .i64]) a) : ∃ d : Dk, a = .agg (dkC d) := by
  obtain ⟨_, rfl, _, _, rfl, ⟨s, rfl, _⟩, _, _, rfl, ⟨n, rfl, _⟩, rfl⟩ := h
  exact ⟨⟨s, n⟩, rfl⟩
set_option maxHeartbeats 8000000 in
theorem c_diskTells (d : Dk) (n : Int) (g : List Fr) (keep : Int) (hf : Fits g) : PSpec Try.prog 4 [.agg (dkC d), I n, .agg (grC g), I keep] (B true) := by
  have h1 := c_dkEncode n g hf
  rw [show encTd (encR n g) = .tup [Tx (encR n g).1, I (encE n g)] by rw [← enc_eq]] at h1
  have h2 := c_dkAppend d n g hf
  have h3 := c_dkSync d
  rw [show dkT (syncR d) = .tup [.agg (dkC (syncR d).1), I (wholeR d).2] by rw [← sync_e]] at h3
  have h4 := c_dkCrash d keep
  have h5 := c_dkOpen d
  rw [show openT (openS d) = .tup [.agg (stC (openS d).1.1), .agg (dkC (openS d).1.2), I (dkE d)] by rw [← open_e]] at h5
  have h6 := c_checkDisk d
  have h7 := c_checkRecord n g hf
  have h8 := c_appendOf d n g hf
  have h9 := c_dkCheck d
  have hE := (encE_zero n g).1
  have i1 := isB (d := (appR d n g).1) (e := (appR d n g).2) (w := (appR d n g).2) (want := (appR d n g).1) rfl (app_eq d n g)
  have i2 := isB (d := (syncR d).1) (e := (wholeR d).2) (w := (wholeR d).2) (want := syncW d) rfl (sync_eq d)
  have i3 := isB (d := (crashR d keep).1) (e := (crashR d keep).2) (w := (crashR d keep).2) (want := crashW d keep) rfl (crash_eq d keep)
  have i4 := isB (d := (openS d).1.2) (e := dkE d) (w := dkE d) (want := (openS d).1.2) rfl (by have := congrArg Prod.snd (open_eq d); rw [this]; split <;> rfl)
  have i5 := isS (s := (openS d).1.1) (e := dkE d) (w := dkE d) (want := (openS d).1.1) (open_small d) rfl (by have := congrArg Prod.fst (open_eq d); rw [this]; split <;> rfl)
  have hx : encE n g = 0 → (encR n g).1 = recB n g := fun h => by unfold encR; rw [if_pos h]
  have hy : ¬ encE n g = 0 → (encR n g).1 = ⟨#[]⟩ := fun h => by unfold encR; rw [if_neg h]; rfl
  have hw := whole_e d
  have hc := crash_e d keep
  by_cases c : dkE d = 0
  · obtain ⟨b1, b2, b3⟩ := dk_sync c
    have h10 := c_openOf d c
    have h11 := c_endOf d c
    rw [if_pos c] at hw hc
    have hs : syncW d = ⟨d.data, d.data.size⟩ := if_pos c
    have hcr : crashW d keep = if 0 ≤ keep ∧ keep < d.data.size - d.sync then ⟨d.data.extract 0 (d.sync + keep).toNat, d.sync⟩ else d := if_pos c
    have w1 := wrp (n := (d.data.size : Int) - d.sync) (by omega) (by omega)
    have a1 : endR 0 (readR d).1.1 < d.data.size → (wholeR d).2 = 4 := fun h => by rw [hw, if_pos h]
    have a2 : (d.data.size : Int) ≤ endR 0 (readR d).1.1 → (wholeR d).2 = 0 := fun h => by rw [hw, if_neg (by omega)]
    have k1 : keep < 0 → (crashR d keep).2 = 3 := fun h => by rw [hc, if_pos h]
    have k2 : 0 ≤ keep → (crashR d keep).2 = 0 := fun h => by rw [hc, if_neg (by omega)]
    have r1 : keep < 0 → crashW d keep = d := fun h => by rw [hcr, if_neg (by omega)]
    have r3 : IntKind.i64.wrap ((d.data.size : Int) - d.sync) ≤ keep → crashW d keep = d := fun h => by rw [w1] at h; rw [hcr, if_neg (by omega)]
    have r2 : 0 ≤ keep → keep < IntKind.i64.wrap ((d.data.size : Int) - d.sync) → crashW d keep = ⟨d.data.extract 0 (IntKind.i64.wrap (d.sync + keep)).toNat, d.sync⟩ := fun h1 h => by
      rw [w1] at h; rw [hcr, if_pos ⟨h1, h⟩, wrp (n := d.sync + keep) (by omega) (by omega)]
    rw [c] at h5 h6 h9 i4 i5
    refine v_pspec Try.func4 rfl Try.ntmps4 Try.results4 (by simp) (by first | exact .s _ | repeat constructor) ?_
    repeat' (first
 | ((first | with_reducible refine w_cut (x := .cond (.tmp 67) _ _) (X := Unit) [22, 66, 67, 68, 69, 70] (fun _ => [(22, Tx (encR n g).1)]) (fun _ => []) (fun _ => True) ?_ ?_ | with_reducible refine w_cut (x := .seq (.region _ _ _) (.cond (.tmp 67) _ _)) (X := Unit) [22, 66, 67, 68, 69, 70] (fun _ => [(22, Tx (encR n g).1)]) (fun _ => []) (fun _ => True) ?_ ?_); (try (rintro z hz; simp only at hz)))
 | ((first | with_reducible refine w_cut (x := .cond (.tmp 81) _ _) (X := Unit) [25, 26, 80, 81, 82, 83, 84, 85, 86, 87, 88, 89, 90, 91, 92, 93, 94, 95, 96, 97, 98, 99, 100, 101, 102, 103, 104, 105, 106, 107, 108, 109, 110, 111, 112, 113, 114, 115, 116, 117] (fun _ => [(25, I (wholeR d).2), (26, I (crashR d keep).2)]) (fun _ => [(1136, .box (dkC (syncW d))), (1152, .box (dkC (crashW d keep))), (1168, .box (dkC (openS d).1.2)), (1184, .box (stC (openS d).1.1))]) (fun _ => True) ?_ ?_ | with_reducible refine w_cut (x := .seq (.region _ _ _) (.cond (.tmp 81) _ _)) (X := Unit) [25, 26, 80, 81, 82, 83, 84, 85, 86, 87, 88, 89, 90, 91, 92, 93, 94, 95, 96, 97, 98, 99, 100, 101, 102, 103, 104, 105, 106, 107, 108, 109, 110, 111, 112, 113, 114, 115, 116, 117] (fun _ => [(25, I (wholeR d).2), (26, I (crashR d keep).2)]) (fun _ => [(1136, .box (dkC (syncW d))), (1152, .box (dkC (crashW d keep))), (1168, .box (dkC (openS d).1.2)), (1184, .box (stC (openS d).1.1))]) (fun _ => True) ?_ ?_); (try (rintro z hz; simp only at hz)))
 | (with_reducible first | apply qz0 | (refine h0 _ _ ?_; clear h0 hw) | (refine hw _ _ _ ?_; clear h0 hw) | apply qz1 | apply qz2 | apply qz4 | apply qz5 | apply qz6 | apply qz7 | apply qzb | apply qzc | apply qzd | apply qze | (refine hL _ ?_; clear hL))
 | (with_reducible first | refine w_reg (by decide +kernel) fun K1 hK => ?_ | refine w_reg_end (by decide +kernel) fun K1 hK => ?_)
 | ((with_reducible first | apply d_reg Try.mix (by decide +kernel) | apply d_reg_end Try.mix (by decide +kernel)); (case hm => simp only [List.length_cons, List.length_nil, Nat.reduceAdd, Nat.reduceMul]; rfl); (case' h => intro K1 hK))
 | with_reducible refine go_seq ?_
 | ((with_reducible first | apply v_op Try.tab | apply v_op0 Try.tab | apply d_op Try.tab | apply d_op0 Try.tab) <;> first | (intro K' h0 hw; conv => whnf) | (simp only [Nat.reduceAdd, Nat.reduceMul]; rfl))
 | ((with_reducible apply v_nil); (case hm => (simp only [Nat.reduceAdd, Nat.reduceMul]; rfl)); (case' h => with_reducible refine hK _ ?_; clear hK))
 | ((with_reducible apply d_nil); (refine hK _ _ _ _ (by first | decide +kernel | (simp only [List.map_cons, List.map_nil, List.nil_append, List.cons_append]; decide +kernel) | rfl) ?_; clear hK))
 | (first | refine d_grd_yes (by rfl) (by rfl) ?_ | refine v_grd_yes (by rfl) (by rfl) ?_)
 | ((first | (apply d_grd_no; (case hg => rfl); (case hb => rfl)) | (apply d_grd_undef; (case hg => rfl); (case hb => rfl)) | (apply d_grd; (case hg => rfl); (case hb => rfl)) | (apply v_grd_no; (case hg => rfl); (case hb => rfl)) | (apply v_grd_undef; (case hg => rfl); (case hb => rfl)) | (apply v_grd; (case hg => rfl); (case hb => rfl))); (case hi => (simp only [Nat.reduceAdd, Nat.reduceMul]; rfl)))
 | ((with_reducible refine callV_id (f := 16) ?_); (with_reducible apply callV_f own16 (h1)); (case hx => rfl); (case he => rfl); (case hle => first | ((repeat constructor); done) | (simp; done)); (case hpu => repeat constructor); (case' hK => conv => whnf))
 | ((with_reducible refine callV_id (f := 17) ?_); (with_reducible apply callV_f own17 (h2)); (case hx => rfl); (case he => rfl); (case hle => first | ((repeat constructor); done) | (simp; done)); (case hpu => repeat constructor); (case' hK => conv => whnf))
 | ((with_reducible refine callV_id (f := 18) ?_); (with_reducible apply callV_f own18 (h3)); (case hx => rfl); (case he => rfl); (case hle => first | ((repeat constructor); done) | (simp; done)); (case hpu => repeat constructor); (case' hK => conv => whnf))
 | ((with_reducible refine callV_id (f := 19) ?_); (with_reducible apply callV_f own19 (h4)); (case hx => rfl); (case he => rfl); (case hle => first | ((repeat constructor); done) | (simp; done)); (case hpu => repeat constructor); (case' hK => conv => whnf))
 | ((with_reducible refine callV_id (f := 14) ?_); (with_reducible apply callV_f own14 (h5)); (case hx => rfl); (case he => rfl); (case hle => first | ((repeat constructor); done) | (simp; done)); (case hpu => repeat constructor); (case' hK => conv => whnf))
 | ((with_reducible refine callV_id (f := 20) ?_); (with_reducible apply callV_f own20 (h6)); (case hx => rfl); (case he => rfl); (case hle => first | ((repeat constructor); done) | (simp; done)); (case hpu => repeat constructor); (case' hK => conv => whnf))
 | ((with_reducible refine callV_id (f := 21) ?_); (with_reducible apply callV_f own21 (h7)); (case hx => rfl); (case he => rfl); (case hle => first | ((repeat constructor); done) | (simp; done)); (case hpu => repeat constructor); (case' hK => conv => whnf))
 | ((with_reducible refine callV_id (f := 22) ?_); have hcs_ := c_recordOf n g (hE (by assumption)).1 (hE (by assumption)).2; (with_reducible apply callV_f own22 (hcs_)); (case hx => rfl); (case he => rfl); (case hle => first | ((repeat constructor); done) | (simp; done)); (case hpu => repeat constructor); (case' hK => (try clear hcs_); conv => whnf))
 | ((with_reducible refine callV_id (f := 23) ?_); (with_reducible apply callV_f own23 (h8)); (case hx => rfl); (case he => rfl); (case hle => first | ((repeat constructor); done) | (simp; done)); (case hpu => repeat constructor); (case' hK => conv => whnf))
 | ((with_reducible refine callV_id (f := 24) ?_); (with_reducible apply callV_f own24 (h10)); (case hx => rfl); (case he => rfl); (case hle => first | ((repeat constructor); done) | (simp; done)); (case hpu => repeat constructor); (case' hK => conv => whnf))
 | ((with_reducible refine callV_id (f := 25) ?_); (with_reducible apply callV_f own25 (h11)); (case hx => rfl); (case he => rfl); (case hle => first | ((repeat constructor); done) | (simp; done)); (case hpu => repeat constructor); (case' hK => conv => whnf))
 | ((with_reducible refine callV_id (f := 12) ?_); (with_reducible apply callV_f own12 (c_diskBegun)); (case hx => rfl); (case he => rfl); (case hle => first | ((repeat constructor); done) | (simp; done)); (case hpu => repeat constructor); (case' hK => conv => whnf))
 | ((with_reducible refine callV_id (f := 13) ?_); (with_reducible apply callV_f own13 (h9)); (case hx => rfl); (case he => rfl); (case hle => first | ((repeat constructor); done) | (simp; done)); (case hpu => repeat constructor); (case' hK => conv => whnf))
 | ((with_reducible refine callV_id (f := 26) ?_); (with_reducible apply callV_f own26 (i1)); (case hx => rfl); (case he => rfl); (case hle => first | ((repeat constructor); done) | (simp; done)); (case hpu => repeat constructor); (case' hK => conv => whnf))
 | ((with_reducible refine callV_id (f := 26) ?_); (with_reducible apply callV_f own26 (i2)); (case hx => rfl); (case he => rfl); (case hle => first | ((repeat constructor); done) | (simp; done)); (case hpu => repeat constructor); (case' hK => conv => whnf))
 | ((with_reducible refine callV_id (f := 26) ?_); (with_reducible apply callV_f own26 (i3)); (case hx => rfl); (case he => rfl); (case hle => first | ((repeat constructor); done) | (simp; done)); (case hpu => repeat constructor); (case' hK => conv => whnf))
 | ((with_reducible refine callV_id (f := 26) ?_); (with_reducible apply callV_f own26 (i4)); (case hx => rfl); (case he => rfl); (case hle => first | ((repeat constructor); done) | (simp; done)); (case hpu => repeat constructor); (case' hK => conv => whnf))
 | ((with_reducible refine callV_id (f := 27) ?_); (with_reducible apply callV_f own27 (i5)); (case hx => rfl); (case he => rfl); (case hle => first | ((repeat constructor); done) | (simp; done)); (case hpu => repeat constructor); (case' hK => conv => whnf))
 | ((with_reducible apply go_cond); (case hb => rfl))
 | ((with_reducible first | refine w_ret Try.tab fun K' hL => ?_ | refine w_ret_end Try.tab fun K' hL => ?_); (conv => whnf))
 | ((with_reducible apply And.intro); (case' right => try (conv => whnf)); (case' left => try first | rfl | decide | (simp; done) | (simp (disch := omega) only [wrp]; omega) | (simp (disch := omega) [wrp]; (try omega); done)))
 | ((with_reducible apply Side.mk); (try simp (disch := omega) only [wrp]); (try simp); (try simp (disch := omega) only [wrp]); (try omega))
 | (first | (guard_hyp g6; intro g7; try simp at g7) | (guard_hyp g5; intro g6; try simp at g6) | (guard_hyp g4; intro g5; try simp at g5) | (guard_hyp g3; intro g4; try simp at g4) | (guard_hyp g2; intro g3; try simp at g3) | (guard_hyp g1; intro g2; try simp at g2) | intro g1; try simp at g1))
    · have e := hx g1
      ((refine w_nx (()) ?_ ?_ ?_ ?_ ?_ ?_); (case refine_1 => simp [e]); (case refine_2 => simp [e]); (case refine_3 => simp (disch := omega) [e, wrp]); (case refine_4 => simp [e]); (case refine_5 => first | (simp; omega) | (simp; done) | omega | (simp only; omega)); (case' refine_6 => (try simp only); (try exact trivial)))
    · have e := hy g1
      ((refine w_nx (()) ?_ ?_ ?_ ?_ ?_ ?_); (case refine_1 => simp [e]); (case refine_2 => simp [e]); (case refine_3 => simp (disch := omega) [e, wrp]); (case refine_4 => simp [e]); (case refine_5 => first | (simp; omega) | (simp; done) | omega | (simp only; omega)); (case' refine_6 => (try simp only); (try exact trivial)))
    · have e1 := a1 g4; have e2 := k1 g5; have e3 := r1 g5
      ((refine w_nx (()) ?_ ?_ ?_ ?_ ?_ ?_); (case refine_1 => simp [e1, e2, e3, hs]); (case refine_2 => simp [e1, e2, e3, hs]); (case refine_3 => simp (disch := omega) [e1, e2, e3, hs, wrp]); (case refine_4 => simp [e1, e2, e3, hs]); (case refine_5 => first | (simp; omega) | (simp; done) | omega | (simp only; omega)); (case' refine_6 => (try simp only); (try exact trivial)))
    · have e1 := a1 g4; have e2 := k2 g5; have e3 := r2 g5 g6
      ((refine w_nx (()) ?_ ?_ ?_ ?_ ?_ ?_); (case refine_1 => simp [e1, e2, e3, hs]); (case refine_2 => simp [e1, e2, e3, hs]); (case refine_3 => simp (disch := omega) [e1, e2, e3, hs, wrp]); (case refine_4 => simp [e1, e2, e3, hs]); (case refine_5 => first | (simp; omega) | (simp; done) | omega | (simp only; omega)); (case' refine_6 => (try simp only); (try exact trivial)))
    · have e1 := a1 g4; have e2 := k2 g5; have e3 := r3 g6
      ((refine w_nx (()) ?_ ?_ ?_ ?_ ?_ ?_); (case refine_1 => simp [e1, e2, e3, hs]); (case refine_2 => simp [e1, e2, e3, hs]); (case refine_3 => simp (disch := omega) [e1, e2, e3, hs, wrp]); (case refine_4 => simp [e1, e2, e3, hs]); (case refine_5 => first | (simp; omega) | (simp; done) | omega | (simp only; omega)); (case' refine_6 => (try simp only); (try exact trivial)))
    · have e1 := a2 g4; have e2 := k1 g5; have e3 := r1 g5
      ((refine w_nx (()) ?_ ?_ ?_ ?_ ?_ ?_); (case refine_1 => simp [e1, e2, e3, hs]); (case refine_2 => simp [e1, e2, e3, hs]); (case refine_3 => simp (disch := omega) [e1, e2, e3, hs, wrp]); (case refine_4 => simp [e1, e2, e3, hs]); (case refine_5 => first | (simp; omega) | (simp; done) | omega | (simp only; omega)); (case' refine_6 => (try simp only); (try exact trivial)))
    · have e1 := a2 g4; have e2 := k2 g5; have e3 := r2 g5 g6
      ((refine w_nx (()) ?_ ?_ ?_ ?_ ?_ ?_); (case refine_1 => simp [e1, e2, e3, hs]); (case refine_2 => simp [e1, e2, e3, hs]); (case refine_3 => simp (disch := omega) [e1, e2, e3, hs, wrp]); (case refine_4 => simp [e1, e2, e3, hs]); (case refine_5 => first | (simp; omega) | (simp; done) | omega | (simp only; omega)); (case' refine_6 => (try simp only); (try exact trivial)))
    · have e1 := a2 g4; have e2 := k2 g5; have e3 := r3 g6
      ((refine w_nx (()) ?_ ?_ ?_ ?_ ?_ ?_); (case refine_1 => simp [e1, e2, e3, hs]); (case refine_2 => simp [e1, e2, e3, hs]); (case refine_3 => simp (disch := omega) [e1, e2, e3, hs, wrp]); (case refine_4 => simp [e1, e2, e3, hs]); (case refine_5 => first | (simp; omega) | (simp; done) | omega | (simp only; omega)); (case' refine_6 => (try simp only); (try exact trivial)))
    · exact .refl _
  · rw [if_neg c] at hw hc
    have ho : (openS d).1 = (st0, dk0) := by rw [openS, if_neg c]
    rw [ho] at h5 i4 i5
    rw [show syncW d = dk0 from if_neg c, hw] at i2
    rw [hw] at h3
    rw [show crashW d keep = dk0 from if_neg c, hc] at i3
    rw [show dkT (crashR d keep) = .tup [.agg (dkC (crashR d keep).1), I (dkE d)] by rw [← hc]] at h4
    refine v_pspec Try.func4 rfl Try.ntmps4 Try.results4 (by simp) (by first | exact .s _ | repeat constructor) ?_
    repeat' (first
 | ((first | with_reducible refine w_cut (x := .cond (.tmp 67) _ _) (X := Unit) [22, 66, 67, 68, 69, 70] (fun _ => [(22, Tx (encR n g).1)]) (fun _ => []) (fun _ => True) ?_ ?_ | with_reducible refine w_cut (x := .seq (.region _ _ _) (.cond (.tmp 67) _ _)) (X := Unit) [22, 66, 67, 68, 69, 70] (fun _ => [(22, Tx (encR n g).1)]) (fun _ => []) (fun _ => True) ?_ ?_); (try (rintro z hz; simp only at hz)))
 | (with_reducible first | apply qz0 | (refine h0 _ _ ?_; clear h0 hw) | (refine hw _ _ _ ?_; clear h0 hw) | apply qz1 | apply qz2 | apply qz4 | apply qz5 | apply qz6 | apply qz7 | apply qzb | apply qzc | apply qzd | apply qze | (refine hL _ ?_; clear hL))
 | (with_reducible first | refine w_reg (by decide +kernel) fun K1 hK => ?_ | refine w_reg_end (by decide +kernel) fun K1 hK => ?_)
 | ((with_reducible first | apply d_reg Try.mix (by decide +kernel) | apply d_reg_end Try.mix (by decide +kernel)); (case hm => simp only [List.length_cons, List.length_nil, Nat.reduceAdd, Nat.reduceMul]; rfl); (case' h => intro K1 hK))
 | with_reducible refine go_seq ?_
 | ((with_reducible first | apply v_op Try.tab | apply v_op0 Try.tab | apply d_op Try.tab | apply d_op0 Try.tab) <;> first | (intro K' h0 hw; conv => whnf) | (simp only [Nat.reduceAdd, Nat.reduceMul]; rfl))
 | ((with_reducible apply v_nil); (case hm => (simp only [Nat.reduceAdd, Nat.reduceMul]; rfl)); (case' h => with_reducible refine hK _ ?_; clear hK))
 | ((with_reducible apply d_nil); (refine hK _ _ _ _ (by first | decide +kernel | (simp only [List.map_cons, List.map_nil, List.nil_append, List.cons_append]; decide +kernel) | rfl) ?_; clear hK))
 | (first | refine d_grd_yes (by rfl) (by rfl) ?_ | refine v_grd_yes (by rfl) (by rfl) ?_)
 | ((first | (apply d_grd_no; (case hg => rfl); (case hb => rfl)) | (apply d_grd_undef; (case hg => rfl); (case hb => rfl)) | (apply d_grd; (case hg => rfl); (case hb => rfl)) | (apply v_grd_no; (case hg => rfl); (case hb => rfl)) | (apply v_grd_undef; (case hg => rfl); (case hb => rfl)) | (apply v_grd; (case hg => rfl); (case hb => rfl))); (case hi => (simp only [Nat.reduceAdd, Nat.reduceMul]; rfl)))
 | ((with_reducible refine callV_id (f := 16) ?_); (with_reducible apply callV_f own16 (h1)); (case hx => rfl); (case he => rfl); (case hle => first | ((repeat constructor); done) | (simp [dk0, st0]; done)); (case hpu => repeat constructor); (case' hK => conv => whnf))
 | ((with_reducible refine callV_id (f := 17) ?_); (with_reducible apply callV_f own17 (h2)); (case hx => rfl); (case he => rfl); (case hle => first | ((repeat constructor); done) | (simp [dk0, st0]; done)); (case hpu => repeat constructor); (case' hK => conv => whnf))
 | ((with_reducible refine callV_id (f := 18) ?_); (with_reducible apply callV_f own18 (h3)); (case hx => rfl); (case he => rfl); (case hle => first | ((repeat constructor); done) | (simp [dk0, st0]; done)); (case hpu => repeat constructor); (case' hK => conv => whnf))
 | ((with_reducible refine callV_id (f := 19) ?_); (with_reducible apply callV_f own19 (h4)); (case hx => rfl); (case he => rfl); (case hle => first | ((repeat constructor); done) | (simp [dk0, st0]; done)); (case hpu => repeat constructor); (case' hK => conv => whnf))
 | ((with_reducible refine callV_id (f := 14) ?_); (with_reducible apply callV_f own14 (h5)); (case hx => rfl); (case he => rfl); (case hle => first | ((repeat constructor); done) | (simp [dk0, st0]; done)); (case hpu => repeat constructor); (case' hK => conv => whnf))
 | ((with_reducible refine callV_id (f := 20) ?_); (with_reducible apply callV_f own20 (h6)); (case hx => rfl); (case he => rfl); (case hle => first | ((repeat constructor); done) | (simp [dk0, st0]; done)); (case hpu => repeat constructor); (case' hK => conv => whnf))
 | ((with_reducible refine callV_id (f := 21) ?_); (with_reducible apply callV_f own21 (h7)); (case hx => rfl); (case he => rfl); (case hle => first | ((repeat constructor); done) | (simp [dk0, st0]; done)); (case hpu => repeat constructor); (case' hK => conv => whnf))
 | ((with_reducible refine callV_id (f := 22) ?_); have hcs_ := c_recordOf n g (hE (by assumption)).1 (hE (by assumption)).2; (with_reducible apply callV_f own22 (hcs_)); (case hx => rfl); (case he => rfl); (case hle => first | ((repeat constructor); done) | (simp [dk0, st0]; done)); (case hpu => repeat constructor); (case' hK => (try clear hcs_); conv => whnf))
 | ((with_reducible refine callV_id (f := 23) ?_); (with_reducible apply callV_f own23 (h8)); (case hx => rfl); (case he => rfl); (case hle => first | ((repeat constructor); done) | (simp [dk0, st0]; done)); (case hpu => repeat constructor); (case' hK => conv => whnf))
 | ((with_reducible refine callV_id (f := 12) ?_); (with_reducible apply callV_f own12 (c_diskBegun)); (case hx => rfl); (case he => rfl); (case hle => first | ((repeat constructor); done) | (simp [dk0, st0]; done)); (case hpu => repeat constructor); (case' hK => conv => whnf))
 | ((with_reducible refine callV_id (f := 13) ?_); (with_reducible apply callV_f own13 (h9)); (case hx => rfl); (case he => rfl); (case hle => first | ((repeat constructor); done) | (simp [dk0, st0]; done)); (case hpu => repeat constructor); (case' hK => conv => whnf))
 | ((with_reducible refine callV_id (f := 26) ?_); (with_reducible apply callV_f own26 (i1)); (case hx => rfl); (case he => rfl); (case hle => first | ((repeat constructor); done) | (simp [dk0, st0]; done)); (case hpu => repeat constructor); (case' hK => conv => whnf))
 | ((with_reducible refine callV_id (f := 26) ?_); (with_reducible apply callV_f own26 (i2)); (case hx => rfl); (case he => rfl); (case hle => first | ((repeat constructor); done) | (simp [dk0, st0]; done)); (case hpu => repeat constructor); (case' hK => conv => whnf))
 | ((with_reducible refine callV_id (f := 26) ?_); (with_reducible apply callV_f own26 (i3)); (case hx => rfl); (case he => rfl); (case hle => first | ((repeat constructor); done) | (simp [dk0, st0]; done)); (case hpu => repeat constructor); (case' hK => conv => whnf))
 | ((with_reducible refine callV_id (f := 26) ?_); (with_reducible apply callV_f own26 (i4)); (case hx => rfl); (case he => rfl); (case hle => first | ((repeat constructor); done) | (simp [dk0, st0]; done)); (case hpu => repeat constructor); (case' hK => conv => whnf))
 | ((with_reducible refine callV_id (f := 27) ?_); (with_reducible apply callV_f own27 (i5)); (case hx => rfl); (case he => rfl); (case hle => first | ((repeat constructor); done) | (simp [dk0, st0]; done)); (case hpu => repeat constructor); (case' hK => conv => whnf))
 | ((with_reducible apply go_cond); (case hb => rfl))
 | ((with_reducible first | refine w_ret Try.tab fun K' hL => ?_ | refine w_ret_end Try.tab fun K' hL => ?_); (conv => whnf))
 | ((with_reducible apply And.intro); (case' right => try (conv => whnf)); (case' left => try first | rfl | decide | (simp [dk0, st0]; done) | (simp (disch := omega) only [wrp]; omega) | (simp (disch := omega) [dk0, st0, wrp]; (try omega); done)))
 | ((with_reducible apply Side.mk); (try simp (disch := omega) only [wrp]); (try simp); (try simp (disch := omega) only [wrp]); (try omega))
 | (first | (guard_hyp g6; intro g7; try simp at g7) | (guard_hyp g5; intro g6; try simp at g6) | (guard_hyp g4; intro g5; try simp at g5) | (guard_hyp g3; intro g4; try simp at g4) | (guard_hyp g2; intro g3; try simp at g3) | (guard_hyp g1; intro g2; try simp at g2) | intro g1; try simp at g1))
    · have e := hx g1
      ((refine w_nx (()) ?_ ?_ ?_ ?_ ?_ ?_); (case refine_1 => simp [e]); (case refine_2 => simp [e]); (case refine_3 => simp (disch := omega) [e, wrp]); (case refine_4 => simp [e]); (case refine_5 => first | (simp; omega) | (simp; done) | omega | (simp only; omega)); (case' refine_6 => (try simp only); (try exact trivial)))
    · have e := hy g1
      ((refine w_nx (()) ?_ ?_ ?_ ?_ ?_ ?_); (case refine_1 => simp [e]); (case refine_2 => simp [e]); (case refine_3 => simp (disch := omega) [e, wrp]); (case refine_4 => simp [e]); (case refine_5 => first | (simp; omega) | (simp; done) | omega | (simp only; omega)); (case' refine_6 => (try simp only); (try exact trivial)))
    · exact absurd g3 c
    · exact .refl _
theorem law_diskTells (args : List AV) (h : ReadsArgs [.agg [.str, .int .i64], .int .i64, .agg [.sl 3 40 (.agg [.int .i64, .bool, .sl 1 16 .str])], .int .i64] args) (_ : True) : PSpec Try.prog 4 args (B true) := by
  obtain ⟨_, _, rfl, h1, _, _, rfl, h2, _, _, rfl, h3, _, _, rfl, h4, rfl⟩ := h
  obtain ⟨d, rfl⟩ := reads_dk h1
  obtain ⟨n, hn, _, hn2⟩ := h2
  obtain ⟨_, rfl, h3⟩ := h3
  obtain ⟨g, rfl, hg⟩ := cells_gr h3
  obtain ⟨k, hk, _, _⟩ := h4
  cases hn
  cases hk
  exact c_diskTells d n g k hg
end Go.Proofs.Ytbhcjgobapnajaa

/- PaceTells, walked. No condition. -/
import Derived.Test.YtgndmmbbhfmegaaPaceLaws
namespace Go.Proofs.Ytgndmmbbhfmegaa
open Go Go.Sy
set_option maxRecDepth 4000
set_option linter.unusedSimpArgs false
set_option linter.unusedVariables false
attribute [local irreducible] Reg RegD Later Out CallV Tri Side EqV
/-- What is wrong with a wall, with a media time, with a turn. -/
def errV (w m n d t : Int) : Int := if paceE w m n d = 0 ∧ (t < w ∨ 1000000 < t) then 3 else paceE w m n d
def errX (w m n d u : Int) : Int := if paceE w m n d = 0 ∧ (u < m ∨ 1000000 < u) then 3 else paceE w m n d
def errY (w m n d t a b : Int) : Int := if errV w m n d t = 0 ∧ (a < 1 ∨ 100 < a ∨ b < 1 ∨ 100 < b) then 3 else errV w m n d t
theorem errV_eq {w m n d t : Int} : (mediaS w m n d t).2 = errV w m n d t := by
  unfold errV
  by_cases h : paceOK w m n d
  · have e := paceE_iff.2 h
    by_cases h2 : w ≤ t ∧ t ≤ 1000000
    · rw [media_ok.2 ⟨h, h2⟩, if_neg (by omega), e]
    · have : mediaS w m n d t = (0, 3) := if_neg (fun c => h2 c.2)
      rw [this, if_pos ⟨e, by omega⟩]
  · have e : paceE w m n d = 3 := if_neg h
    have : mediaS w m n d t = (0, 3) := if_neg (fun c => h c.1)
    rw [this, if_neg (by omega), e]
theorem errX_eq {w m n d t : Int} : (wallS w m n d t).2 = errX w m n d t := by
  unfold errX
  by_cases h : paceOK w m n d
  · have e := paceE_iff.2 h
    by_cases h2 : m ≤ t ∧ t ≤ 1000000
    · rw [wall_ok.2 ⟨h, h2⟩, if_neg (by omega), e]
    · have : wallS w m n d t = (0, 3) := if_neg (fun c => h2 c.2)
      rw [this, if_pos ⟨e, by omega⟩]
  · have e : paceE w m n d = 3 := if_neg h
    have : wallS w m n d t = (0, 3) := if_neg (fun c => h c.1)
    rw [this, if_neg (by omega), e]
theorem errY_iff {w m n d t a b : Int} : errY w m n d t a b = 0 ↔ turnOK w m n d t a b := by
  have h := errV_eq (w := w) (m := m) (n := n) (d := d) (t := t)
  have k := media_ok (w := w) (m := m) (n := n) (d := d) (t := t)
  rw [h] at k
  unfold errY turnOK
  split
  · rename_i c
    constructor
    · intro h; cases h
    · rintro ⟨_, _, h1, h2⟩; omega
  · rename_i c
    constructor
    · intro h0; have := k.1 h0; exact ⟨this.1, this.2, by omega, by omega⟩
    · rintro ⟨h1, h2, _⟩; exact k.2 ⟨h1, h2⟩
theorem errY_three {w m n d t a b : Int} (h : ¬ errY w m n d t a b = 0) : errY w m n d t a b = 3 := by
  unfold errY at *
  split
  · rfl
  · rename_i c; rw [if_neg c] at h; unfold errV at *; split
    · rfl
    · rename_i c2; rw [if_neg c2] at h; exact paceE_three h
theorem c_mediaOf' (w m n d t : Int) (h : errV w m n d t = 0) : PSpec Try.prog 25 [.agg [I w, I m, I n, I d], I t] (I (mediaS w m n d t).1) := by
  have k := media_ok.1 (errV_eq.trans h)
  rw [media_val (errV_eq.trans h)]
  exact c_mediaOf _ _ _ _ _ k.1 k.2.1 (by omega)
theorem c_wallOf' (w m n d t : Int) (h : errX w m n d t = 0) : PSpec Try.prog 26 [.agg [I w, I m, I n, I d], I t] (I (wallS w m n d t).1) := by
  have k := wall_ok.1 (errX_eq.trans h)
  rw [wall_val (errX_eq.trans h)]
  exact c_wallOf _ _ _ _ _ k.1 k.2.1 k.2.2
theorem media_no {w m n d t : Int} (h : ¬ errV w m n d t = 0) : (mediaS w m n d t).1 = 0 := by
  have h2 : ¬ (mediaS w m n d t).2 = 0 := by rw [errV_eq]; exact h
  unfold mediaS at *; split
  · rename_i c; rw [if_pos c] at h2; exact absurd rfl h2
  · rfl
theorem wall_no {w m n d t : Int} (h : ¬ errX w m n d t = 0) : (wallS w m n d t).1 = 0 := by
  have h2 : ¬ (wallS w m n d t).2 = 0 := by rw [errX_eq]; exact h
  unfold wallS at *; split
  · rename_i c; rw [if_pos c] at h2; exact absurd rfl h2
  · rfl
theorem turn_full {w m n d t a b a1 a2 a3 a4 : Int} (e : turnA w m n d t a b = [I a1, I a2, I a3, I a4]) :
    (errY w m n d t a b = 0 ∧ 1000000 < (mediaS w m n d t).1 ∧ (turnS w m n d t a b).2 = 2 ∧ a1 = 0 ∧ a2 = 0 ∧ a3 = 0 ∧ a4 = 0) ∨
    (errY w m n d t a b = 0 ∧ (mediaS w m n d t).1 ≤ 1000000 ∧ (turnS w m n d t a b).2 = 0 ∧ a1 = t ∧ a2 = (mediaS w m n d t).1 ∧ a3 = a ∧ a4 = b) ∨
    (errY w m n d t a b = 3 ∧ (turnS w m n d t a b).2 = 3 ∧ a1 = 0 ∧ a2 = 0 ∧ a3 = 0 ∧ a4 = 0) := by
  by_cases h : errY w m n d t a b = 0
  · have k := errY_iff.1 h
    have hv : (mediaS w m n d t).1 = mediaAt w m n d t := media_val (media_ok.2 ⟨k.1, k.2.1⟩)
    rw [hv]
    by_cases h2 : 1000000 < mediaAt w m n d t
    · have ts : turnS w m n d t a b = (false, 2) := by unfold turnS; rw [if_pos k, if_pos h2]
      simp [turnA, ts] at e
      exact .inl ⟨h, h2, by rw [ts], by omega, by omega, by omega, by omega⟩
    · have ts : turnS w m n d t a b = (true, 0) := by unfold turnS; rw [if_pos k, if_neg h2]
      simp [turnA, ts] at e
      exact .inr (.inl ⟨h, by omega, by rw [ts], by omega, by omega, by omega, by omega⟩)
  · have ts : turnS w m n d t a b = (false, 3) := by unfold turnS; rw [if_neg (fun c => h (errY_iff.2 c))]
    simp [turnA, ts] at e
    exact .inr (.inr ⟨errY_three h, by rw [ts], by omega, by omega, by omega, by omega⟩)
set_option maxHeartbeats 2000000 in
theorem c_paceTells (w m n d t u a b : Int) : PSpec Try.prog 7 [.agg [I w, I m, I n, I d], I t, I u, I a, I b] (B true) := by
  refine v_pspec Try.func7 rfl Try.ntmps7 Try.results7 (by simp) (by first | exact .s _ | repeat constructor) ?_
  have hT : ∃ a1 a2 a3 a4 : Int, turnA w m n d t a b = [I a1, I a2, I a3, I a4] := by
    unfold turnA; split
    · exact ⟨_, _, _, _, rfl⟩
    · exact ⟨_, _, _, _, rfl⟩
  obtain ⟨a1, a2, a3, a4, e1⟩ := hT
  have ht := c_turn w m n d t a b
  rw [e1] at ht
  have K := turn_full e1
  have E1 := errV_eq (w := w) (m := m) (n := n) (d := d) (t := t)
  have E2 := errX_eq (w := w) (m := m) (n := n) (d := d) (t := u)
  repeat' (first
    | ((first | with_reducible refine w_cut (x := .cond (.tmp 60) _ _) (X := Unit) [18, 20, 49, 50, 51, 52, 53, 54, 55, 56, 57, 58, 59, 60] (fun _ => [(18, I (errV w m n d t)), (20, I (errV w m n d t))]) (fun _ => []) (fun _ => True) ?_ ?_ | with_reducible refine w_cut (x := .seq (.region _ _ _) (.cond (.tmp 60) _ _)) (X := Unit) [18, 20, 49, 50, 51, 52, 53, 54, 55, 56, 57, 58, 59, 60] (fun _ => [(18, I (errV w m n d t)), (20, I (errV w m n d t))]) (fun _ => []) (fun _ => True) ?_ ?_); (try (rintro z hz; simp only at hz)))
    | ((first | with_reducible refine w_cut (x := .cond (.tmp 72) _ _) (X := Unit) [19, 61, 62, 63, 64, 65, 66, 67, 68, 69, 70, 71, 72] (fun _ => [(19, I (errX w m n d u))]) (fun _ => []) (fun _ => True) ?_ ?_ | with_reducible refine w_cut (x := .seq (.region _ _ _) (.cond (.tmp 72) _ _)) (X := Unit) [19, 61, 62, 63, 64, 65, 66, 67, 68, 69, 70, 71, 72] (fun _ => [(19, I (errX w m n d u))]) (fun _ => []) (fun _ => True) ?_ ?_); (try (rintro z hz; simp only at hz)))
    | ((first | with_reducible refine w_cut (x := .cond (.tmp 90) _ _) (X := Unit) [20, 73, 74, 75, 76, 77, 78, 79, 80, 81, 82, 83, 84, 85, 86, 87, 88, 89, 90] (fun _ => [(20, I (errY w m n d t a b))]) (fun _ => []) (fun _ => True) ?_ ?_ | with_reducible refine w_cut (x := .seq (.region _ _ _) (.cond (.tmp 90) _ _)) (X := Unit) [20, 73, 74, 75, 76, 77, 78, 79, 80, 81, 82, 83, 84, 85, 86, 87, 88, 89, 90] (fun _ => [(20, I (errY w m n d t a b))]) (fun _ => []) (fun _ => True) ?_ ?_); (try (rintro z hz; simp only at hz)))
    | ((first | with_reducible refine w_cut (x := .cond (.tmp 92) _ _) (X := Unit) [21, 91, 92, 93, 94, 95] (fun _ => [(21, I (mediaS w m n d t).1)]) (fun _ => []) (fun _ => True) ?_ ?_ | with_reducible refine w_cut (x := .seq (.region _ _ _) (.cond (.tmp 92) _ _)) (X := Unit) [21, 91, 92, 93, 94, 95] (fun _ => [(21, I (mediaS w m n d t).1)]) (fun _ => []) (fun _ => True) ?_ ?_); (try (rintro z hz; simp only at hz)))
    | ((first | with_reducible refine w_cut (x := .cond (.tmp 97) _ _) (X := Unit) [22, 96, 97, 98, 99, 100] (fun _ => [(22, I (wallS w m n d u).1)]) (fun _ => []) (fun _ => True) ?_ ?_ | with_reducible refine w_cut (x := .seq (.region _ _ _) (.cond (.tmp 97) _ _)) (X := Unit) [22, 96, 97, 98, 99, 100] (fun _ => [(22, I (wallS w m n d u).1)]) (fun _ => []) (fun _ => True) ?_ ?_); (try (rintro z hz; simp only at hz)))
    | with_reducible refine go_later ?_
    | (with_reducible refine w_reg (by decide +kernel) fun K1 hK => ?_)
    | (with_reducible refine w_reg_end (by decide +kernel) fun K1 hK => ?_)
    | ((with_reducible apply d_reg Try.mix (by decide +kernel)); (case hm => simp only [List.length_cons, List.length_nil, Nat.reduceAdd, Nat.reduceMul]; exact rfl); (case' h => intro K1 hK))
    | ((with_reducible apply d_reg_end Try.mix (by decide +kernel)); (case hm => simp only [List.length_cons, List.length_nil, Nat.reduceAdd, Nat.reduceMul]; exact rfl); (case' h => intro K1 hK))
    | ((with_reducible apply v_op Try.tab); (case hnb => (try simp only [Nat.reduceAdd, Nat.reduceMul]); exact rfl); (case hi => (try simp only [Nat.reduceAdd, Nat.reduceMul]); exact rfl); (case' h => intro K' h0 hw; conv => whnf))
    | ((with_reducible apply v_op0 Try.tab); (case hnb => (try simp only [Nat.reduceAdd, Nat.reduceMul]); exact rfl); (case hi => (try simp only [Nat.reduceAdd, Nat.reduceMul]); exact rfl); (case' h => intro K' h0 hw; conv => whnf))
    | ((with_reducible apply d_op Try.tab); (case hnb => (try simp only [Nat.reduceAdd, Nat.reduceMul]); exact rfl); (case hi => (try simp only [Nat.reduceAdd, Nat.reduceMul]); exact rfl); (case' h => intro K' h0 hw; conv => whnf))
    | ((with_reducible apply d_op0 Try.tab); (case hnb => (try simp only [Nat.reduceAdd, Nat.reduceMul]); exact rfl); (case hi => (try simp only [Nat.reduceAdd, Nat.reduceMul]); exact rfl); (case' h => intro K' h0 hw; conv => whnf))
    | ((with_reducible apply v_nil); (case hm => (try simp only [Nat.reduceAdd, Nat.reduceMul]); exact rfl); (case' h => with_reducible refine hK _ ?_; clear hK))
    | (with_reducible refine h0 _ _ ?_; clear h0 hw)
    | (with_reducible refine hw _ _ _ ?_; clear h0 hw)
    | ((with_reducible apply d_nil); (refine hK _ _ _ _ (by decide +kernel) ?_; clear hK))
    | (refine d_grd_yes (by rfl) (by rfl) ?_)
    | ((apply d_grd_no); (case hg => rfl); (case hb => rfl); (case hi => (try simp only [Nat.reduceAdd, Nat.reduceMul]); exact rfl))
    | ((apply d_grd_undef); (case hg => rfl); (case hb => rfl); (case hi => (try simp only [Nat.reduceAdd, Nat.reduceMul]); exact rfl))
    | ((apply d_grd); (case hg => rfl); (case hb => rfl); (case hi => (try simp only [Nat.reduceAdd, Nat.reduceMul]); exact rfl))
    | (refine v_grd_yes (by rfl) (by rfl) ?_)
    | ((apply v_grd_no); (case hg => rfl); (case hb => rfl); (case hi => (try simp only [Nat.reduceAdd, Nat.reduceMul]); exact rfl))
    | ((apply v_grd_undef); (case hg => rfl); (case hb => rfl); (case hi => (try simp only [Nat.reduceAdd, Nat.reduceMul]); exact rfl))
    | ((apply v_grd); (case hg => rfl); (case hb => rfl); (case hi => (try simp only [Nat.reduceAdd, Nat.reduceMul]); exact rfl))
    | ((with_reducible apply callV_f own25 (c_mediaOf' w m n d t (by assumption))); (case hx => rfl); (case he => rfl); (case hle => first | ((repeat constructor); done) | (simp; done)); (case hpu => repeat constructor); (case' hK => conv => whnf))
    | ((with_reducible apply callV_f own26 (c_wallOf' w m n d u (by assumption))); (case hx => rfl); (case he => rfl); (case hle => first | ((repeat constructor); done) | (simp; done)); (case hpu => repeat constructor); (case' hK => conv => whnf))
    | ((with_reducible apply callV_f own27 (c_paceBegun)); (case hx => rfl); (case he => rfl); (case hle => first | ((repeat constructor); done) | (simp; done)); (case hpu => repeat constructor); (case' hK => conv => whnf))
    | ((with_reducible apply callV_f own23 (ht)); (case hx => rfl); (case he => rfl); (case hle => first | ((repeat constructor); done) | (simp; done)); (case hpu => repeat constructor); (case' hK => conv => whnf))
    | ((with_reducible apply callV_f own21 (c_media _ _ _ _ _)); (case hx => rfl); (case he => rfl); (case hle => first | ((repeat constructor); done) | (simp; done)); (case hpu => repeat constructor); (case' hK => conv => whnf))
    | ((with_reducible apply callV_f own22 (c_wall _ _ _ _ _)); (case hx => rfl); (case he => rfl); (case hle => first | ((repeat constructor); done) | (simp; done)); (case hpu => repeat constructor); (case' hK => conv => whnf))
    | ((with_reducible apply callV_f own24 (c_pcheckR _ _ _ _)); (case hx => rfl); (case he => rfl); (case hle => first | ((repeat constructor); done) | (simp; done)); (case hpu => repeat constructor); (case' hK => conv => whnf))
    | with_reducible refine go_ret ?_
    | with_reducible refine go_seq ?_
    | with_reducible refine go_skip ?_
    | with_reducible refine go_block ?_
    | with_reducible refine go_exit ?_
    | ((with_reducible apply go_cond); (case hb => rfl))
    | with_reducible refine out_seq_ret ?_
    | with_reducible refine out_seq_normal ?_
    | with_reducible refine out_seq_exit ?_
    | with_reducible refine out_block_ret ?_
    | with_reducible refine out_block_normal ?_
    | with_reducible refine out_block_here ?_
    | with_reducible refine out_loop_ret ?_
    | with_reducible refine out_loop_exit ?_
    | ((with_reducible apply out_block_there); (case hne => rfl))
    | ((with_reducible refine w_ret Try.tab fun K' hL => ?_); (conv => whnf))
    | ((with_reducible refine w_ret_end Try.tab fun K' hL => ?_); (conv => whnf))
    | (with_reducible refine hL _ ?_; clear hL)
    | ((with_reducible apply And.intro); (case' right => try (conv => whnf)); (case' left => try first | rfl | decide | (simp; done)))
    | ((with_reducible apply Side.mk); (try simp); (try omega))
    | ((with_reducible refine all_row ?_); (first | (have _y := hx5; clear _y; intro x6 hx6) | (have _y := hx4; clear _y; intro x5 hx5) | (have _y := hx3; clear _y; intro x4 hx4) | (have _y := hx2; clear _y; intro x3 hx3) | (have _y := hx1; clear _y; intro x2 hx2) | (intro x1 hx1)); conv => whnf)
    | ((refine ⟨_, eqlT36 (by rfl) (by rfl), ?_⟩); conv => whnf)
    | ((refine ⟨_, neqT36 (by rfl) (by rfl), ?_⟩); conv => whnf)
    | ((refine ⟨_, eqlT45 (by rfl) (by rfl), ?_⟩); conv => whnf)
    | ((refine ⟨_, neqT45 (by rfl) (by rfl), ?_⟩); conv => whnf)
    | ((refine ⟨_, eqlT57 (by rfl) (by rfl), ?_⟩); conv => whnf)
    | ((refine ⟨_, neqT57 (by rfl) (by rfl), ?_⟩); conv => whnf)
    | ((first | (have _y := g35; clear _y; intro g36; try simp at g36) | (have _y := g34; clear _y; intro g35; try simp at g35) | (have _y := g33; clear _y; intro g34; try simp at g34) | (have _y := g32; clear _y; intro g33; try simp at g33) | (have _y := g31; clear _y; intro g32; try simp at g32) | (have _y := g30; clear _y; intro g31; try simp at g31) | (have _y := g29; clear _y; intro g30; try simp at g30) | (have _y := g28; clear _y; intro g29; try simp at g29) | (have _y := g27; clear _y; intro g28; try simp at g28) | (have _y := g26; clear _y; intro g27; try simp at g27) | (have _y := g25; clear _y; intro g26; try simp at g26) | (have _y := g24; clear _y; intro g25; try simp at g25) | (have _y := g23; clear _y; intro g24; try simp at g24) | (have _y := g22; clear _y; intro g23; try simp at g23) | (have _y := g21; clear _y; intro g22; try simp at g22) | (have _y := g20; clear _y; intro g21; try simp at g21) | (have _y := g19; clear _y; intro g20; try simp at g20) | (have _y := g18; clear _y; intro g19; try simp at g19) | (have _y := g17; clear _y; intro g18; try simp at g18) | (have _y := g16; clear _y; intro g17; try simp at g17) | (have _y := g15; clear _y; intro g16; try simp at g16) | (have _y := g14; clear _y; intro g15; try simp at g15) | (have _y := g13; clear _y; intro g14; try simp at g14) | (have _y := g12; clear _y; intro g13; try simp at g13) | (have _y := g11; clear _y; intro g12; try simp at g12) | (have _y := g10; clear _y; intro g11; try simp at g11) | (have _y := g9; clear _y; intro g10; try simp at g10) | (have _y := g8; clear _y; intro g9; try simp at g9) | (have _y := g7; clear _y; intro g8; try simp at g8) | (have _y := g6; clear _y; intro g7; try simp at g7) | (have _y := g5; clear _y; intro g6; try simp at g6) | (have _y := g4; clear _y; intro g5; try simp at g5) | (have _y := g3; clear _y; intro g4; try simp at g4) | (have _y := g2; clear _y; intro g3; try simp at g3) | (have _y := g1; clear _y; intro g2; try simp at g2) | (intro g1; try simp at g1))))
  iterate 4 (first
    | (have hv : errV w m n d t = 3 := by unfold errV; split <;> omega
       ((with_reducible apply w_next (())); (case kt => first | exact kt_refl | (repeat (first | exact kt_refl | refine kt_wr (by rfl) ?_ | refine kt_jnk (by rfl) ?_ | refine kt_wrs (by rfl) ?_))); (case ko => repeat (first | exact ko_refl | refine ko_wo (by first | exact .inl (by rfl) | exact .inr (by simp) | exact .inr (by omega)) ?_ | refine ko_wor (by rfl) ?_ | refine ko_wos (by simp) ?_)); (case hn => first | exact Nat.le_refl _ | (simp; done) | (simp; omega)); (case hs => simp [hv]); (case hb => simp [hv]); (case ls => simp (disch := omega) [hv, wrp]); (case lb => simp [hv]); (case mu => first | (simp; omega) | (simp; done) | omega | (simp only; omega)); (case' rel' => (try simp only); (try exact trivial))))
    | (have hv : errV w m n d t = paceE w m n d := by unfold errV; split <;> omega
       ((with_reducible apply w_next (())); (case kt => first | exact kt_refl | (repeat (first | exact kt_refl | refine kt_wr (by rfl) ?_ | refine kt_jnk (by rfl) ?_ | refine kt_wrs (by rfl) ?_))); (case ko => repeat (first | exact ko_refl | refine ko_wo (by first | exact .inl (by rfl) | exact .inr (by simp) | exact .inr (by omega)) ?_ | refine ko_wor (by rfl) ?_ | refine ko_wos (by simp) ?_)); (case hn => first | exact Nat.le_refl _ | (simp; done) | (simp; omega)); (case hs => simp [hv]); (case hb => simp [hv]); (case ls => simp (disch := omega) [hv, wrp]); (case lb => simp [hv]); (case mu => first | (simp; omega) | (simp; done) | omega | (simp only; omega)); (case' rel' => (try simp only); (try exact trivial)))))
  iterate 4 (first
    | (have hv : errX w m n d u = 3 := by unfold errX; split <;> omega
       ((with_reducible apply w_next (())); (case kt => first | exact kt_refl | (repeat (first | exact kt_refl | refine kt_wr (by rfl) ?_ | refine kt_jnk (by rfl) ?_ | refine kt_wrs (by rfl) ?_))); (case ko => repeat (first | exact ko_refl | refine ko_wo (by first | exact .inl (by rfl) | exact .inr (by simp) | exact .inr (by omega)) ?_ | refine ko_wor (by rfl) ?_ | refine ko_wos (by simp) ?_)); (case hn => first | exact Nat.le_refl _ | (simp; done) | (simp; omega)); (case hs => simp [hv]); (case hb => simp [hv]); (case ls => simp (disch := omega) [hv, wrp]); (case lb => simp [hv]); (case mu => first | (simp; omega) | (simp; done) | omega | (simp only; omega)); (case' rel' => (try simp only); (try exact trivial))))
    | (have hv : errX w m n d u = paceE w m n d := by unfold errX; split <;> omega
       ((with_reducible apply w_next (())); (case kt => first | exact kt_refl | (repeat (first | exact kt_refl | refine kt_wr (by rfl) ?_ | refine kt_jnk (by rfl) ?_ | refine kt_wrs (by rfl) ?_))); (case ko => repeat (first | exact ko_refl | refine ko_wo (by first | exact .inl (by rfl) | exact .inr (by simp) | exact .inr (by omega)) ?_ | refine ko_wor (by rfl) ?_ | refine ko_wos (by simp) ?_)); (case hn => first | exact Nat.le_refl _ | (simp; done) | (simp; omega)); (case hs => simp [hv]); (case hb => simp [hv]); (case ls => simp (disch := omega) [hv, wrp]); (case lb => simp [hv]); (case mu => first | (simp; omega) | (simp; done) | omega | (simp only; omega)); (case' rel' => (try simp only); (try exact trivial)))))
  iterate 6 (first
    | (have hv : errY w m n d t a b = 3 := by unfold errY; split <;> omega
       ((with_reducible apply w_next (())); (case kt => first | exact kt_refl | (repeat (first | exact kt_refl | refine kt_wr (by rfl) ?_ | refine kt_jnk (by rfl) ?_ | refine kt_wrs (by rfl) ?_))); (case ko => repeat (first | exact ko_refl | refine ko_wo (by first | exact .inl (by rfl) | exact .inr (by simp) | exact .inr (by omega)) ?_ | refine ko_wor (by rfl) ?_ | refine ko_wos (by simp) ?_)); (case hn => first | exact Nat.le_refl _ | (simp; done) | (simp; omega)); (case hs => simp [hv]); (case hb => simp [hv]); (case ls => simp (disch := omega) [hv, wrp]); (case lb => simp [hv]); (case mu => first | (simp; omega) | (simp; done) | omega | (simp only; omega)); (case' rel' => (try simp only); (try exact trivial))))
    | (have hv : errY w m n d t a b = errV w m n d t := by unfold errY; split <;> omega
       ((with_reducible apply w_next (())); (case kt => first | exact kt_refl | (repeat (first | exact kt_refl | refine kt_wr (by rfl) ?_ | refine kt_jnk (by rfl) ?_ | refine kt_wrs (by rfl) ?_))); (case ko => repeat (first | exact ko_refl | refine ko_wo (by first | exact .inl (by rfl) | exact .inr (by simp) | exact .inr (by omega)) ?_ | refine ko_wor (by rfl) ?_ | refine ko_wos (by simp) ?_)); (case hn => first | exact Nat.le_refl _ | (simp; done) | (simp; omega)); (case hs => simp [hv]); (case hb => simp [hv]); (case ls => simp (disch := omega) [hv, wrp]); (case lb => simp [hv]); (case mu => first | (simp; omega) | (simp; done) | omega | (simp only; omega)); (case' rel' => (try simp only); (try exact trivial)))))
  iterate 2 (first
    | (((with_reducible apply w_next (())); (case kt => first | exact kt_refl | (repeat (first | exact kt_refl | refine kt_wr (by rfl) ?_ | refine kt_jnk (by rfl) ?_ | refine kt_wrs (by rfl) ?_))); (case ko => repeat (first | exact ko_refl | refine ko_wo (by first | exact .inl (by rfl) | exact .inr (by simp) | exact .inr (by omega)) ?_ | refine ko_wor (by rfl) ?_ | refine ko_wos (by simp) ?_)); (case hn => first | exact Nat.le_refl _ | (simp; done) | (simp; omega)); (case hs => simp); (case hb => simp); (case ls => simp (disch := omega) [wrp]); (case lb => simp); (case mu => first | (simp; omega) | (simp; done) | omega | (simp only; omega)); (case' rel' => (try simp only); (try exact trivial))))
    | (have hv := media_no (w := w) (m := m) (n := n) (d := d) (t := t) (by assumption)
       ((with_reducible apply w_next (())); (case kt => first | exact kt_refl | (repeat (first | exact kt_refl | refine kt_wr (by rfl) ?_ | refine kt_jnk (by rfl) ?_ | refine kt_wrs (by rfl) ?_))); (case ko => repeat (first | exact ko_refl | refine ko_wo (by first | exact .inl (by rfl) | exact .inr (by simp) | exact .inr (by omega)) ?_ | refine ko_wor (by rfl) ?_ | refine ko_wos (by simp) ?_)); (case hn => first | exact Nat.le_refl _ | (simp; done) | (simp; omega)); (case hs => simp [hv]); (case hb => simp [hv]); (case ls => simp (disch := omega) [hv, wrp]); (case lb => simp [hv]); (case mu => first | (simp; omega) | (simp; done) | omega | (simp only; omega)); (case' rel' => (try simp only); (try exact trivial)))))
  iterate 2 (first
    | (((with_reducible apply w_next (())); (case kt => first | exact kt_refl | (repeat (first | exact kt_refl | refine kt_wr (by rfl) ?_ | refine kt_jnk (by rfl) ?_ | refine kt_wrs (by rfl) ?_))); (case ko => repeat (first | exact ko_refl | refine ko_wo (by first | exact .inl (by rfl) | exact .inr (by simp) | exact .inr (by omega)) ?_ | refine ko_wor (by rfl) ?_ | refine ko_wos (by simp) ?_)); (case hn => first | exact Nat.le_refl _ | (simp; done) | (simp; omega)); (case hs => simp); (case hb => simp); (case ls => simp (disch := omega) [wrp]); (case lb => simp); (case mu => first | (simp; omega) | (simp; done) | omega | (simp only; omega)); (case' rel' => (try simp only); (try exact trivial))))
    | (have hv := wall_no (w := w) (m := m) (n := n) (d := d) (t := u) (by assumption)
       ((with_reducible apply w_next (())); (case kt => first | exact kt_refl | (repeat (first | exact kt_refl | refine kt_wr (by rfl) ?_ | refine kt_jnk (by rfl) ?_ | refine kt_wrs (by rfl) ?_))); (case ko => repeat (first | exact ko_refl | refine ko_wo (by first | exact .inl (by rfl) | exact .inr (by simp) | exact .inr (by omega)) ?_ | refine ko_wor (by rfl) ?_ | refine ko_wos (by simp) ?_)); (case hn => first | exact Nat.le_refl _ | (simp; done) | (simp; omega)); (case hs => simp [hv]); (case hb => simp [hv]); (case ls => simp (disch := omega) [hv, wrp]); (case lb => simp [hv]); (case mu => first | (simp; omega) | (simp; done) | omega | (simp only; omega)); (case' rel' => (try simp only); (try exact trivial)))))
  all_goals
    rcases K with ⟨q1, q2, q3, q4, q5, q6, q7⟩ | ⟨q1, q2, q3, q4, q5, q6, q7⟩ | ⟨q1, q3, q4, q5, q6, q7⟩
  all_goals first
    | (exfalso; omega)
    | (refine le_of_eq ?_; simp; omega)
theorem law_paceTells (args : List AV) (h : ReadsArgs [.agg [.int .i64, .int .i64, .int .i64, .int .i64], .int .i64, .int .i64, .int .i64, .int .i64] args) (_ : True) : PSpec Try.prog 7 args (B true) := by
  obtain ⟨_, _, rfl, ⟨_, rfl, _, _, rfl, ⟨w, rfl, _⟩, _, _, rfl, ⟨m, rfl, _⟩, _, _, rfl, ⟨n, rfl, _⟩, _, _, rfl, ⟨d, rfl, _⟩, rfl⟩, _, _, rfl, ⟨t, ht, _⟩, _, _, rfl, ⟨u, hu, _⟩, _, _, rfl, ⟨a, ha, _⟩, _, _, rfl, ⟨b, hb, _⟩, rfl⟩ := h
  cases ht; cases hu; cases ha; cases hb
  exact c_paceTells _ _ _ _ _ _ _ _
end Go.Proofs.Ytgndmmbbhfmegaa

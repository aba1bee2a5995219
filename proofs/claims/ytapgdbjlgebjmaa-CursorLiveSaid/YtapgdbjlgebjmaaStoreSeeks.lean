/- StoreSeeks, walked. No condition. -/
import Derived.Test.YtapgdbjlgebjmaaStoreStays
namespace Go.Proofs.Ytapgdbjlgebjmaa
open Go Go.Sy
set_option maxRecDepth 4000
set_option linter.unusedSimpArgs false
set_option linter.unusedVariables false
attribute [local irreducible] Reg RegD Later Out CallV Tri Side EqV
theorem atUp_lt (l : List (List Fr)) (t : Int) : ∀ n, 0 < n → atUp l t n < n
  | 0, h => absurd h (by omega)
  | n + 1, _ => by
    rw [atUp]; split
    · omega
    · rcases Nat.eq_zero_or_pos n with rfl | hn
      · simp [atUp]
      · have := atUp_lt l t n hn; omega
theorem atUp_max (l : List (List Fr)) (t : Int) : ∀ n j, j < n → headT (l.getD j []) ≤ t → j ≤ atUp l t n ∧ headT (l.getD (atUp l t n) []) ≤ t
  | 0, j, h, _ => absurd h (by omega)
  | n + 1, j, h, hj => by
    rw [atUp]; split
    · rename_i hn; exact ⟨by omega, hn⟩
    · rename_i hn
      have : j ≠ n := fun e => hn (e ▸ hj)
      exact atUp_max l t n j (by omega) hj
theorem atUp_none (l : List (List Fr)) (t : Int) : ∀ n, ¬ headT (l.getD (atUp l t n) []) ≤ t → atUp l t n = 0
  | 0, _ => rfl
  | n + 1, h => by
    rw [atUp] at h ⊢
    split
    · rename_i hn; rw [if_pos hn] at h; exact absurd hn h
    · rename_i hn; rw [if_neg hn] at h; exact atUp_none l t n h
theorem seek_ok {s : Sto} {t : Int} (h : (seekS s t).2 = 0) : RightS s ∧ 0 < (allS s).length ∧ seekS s t = (s.first + atUp (allS s) t (allS s).length, 0) := by
  unfold seekS at h ⊢
  by_cases h1 : wE1 s t = 0
  · rw [if_pos h1] at h ⊢
    unfold seekR at h ⊢
    by_cases h2 : 0 < (allS s).length
    · rw [if_pos h2]; exact ⟨(wE1_ok h1).1, h2, by simp⟩
    · rw [if_neg h2] at h; simp at h
  · rw [if_neg h1] at h; exact absurd h h1
theorem seek_err {s : Sto} {t : Int} (h : ¬ (seekS s t).2 = 0) : (seekS s t).1 = 0 := by
  unfold seekS at h ⊢
  by_cases h1 : wE1 s t = 0
  · rw [if_pos h1] at h ⊢
    unfold seekR at h ⊢
    by_cases h2 : 0 < (allS s).length
    · rw [if_pos h2] at h; simp at h
    · rw [if_neg h2]
  · rw [if_neg h1]
theorem group_head {g : List Fr} (h : groupE g = 0) : ∃ x, g[0]? = some x ∧ x.key = true ∧ headT g = x.time := by
  obtain ⟨h1, _, h3, _⟩ := groupE_ok h
  cases g with
  | nil => exact absurd rfl h1
  | cons x l =>
    refine ⟨x, rfl, ?_, rfl⟩
    rw [goE] at h3
    split at h3
    · rename_i q; exact absurd h3 q
    · split at h3
      · cases h3
      · rename_i q; simpa [badG] using q
set_option maxHeartbeats 4000000 in
theorem c_storeSeeks (s : Sto) (t : Int) (hs : FitsS s) : PSpec Try.prog 12 [.agg (stC s), I t] (B true) := by
  refine v_pspec Try.func12 rfl Try.ntmps12 Try.results12 (by simp) (by first | exact .s _ | repeat constructor) ?_
  have hA := c_storeSeek s t hs
  by_cases hE : (seekS s t).2 = 0
  · obtain ⟨hr, h1, h2⟩ := seek_ok hE
    have hq := hr.1
    have hgl := hr.2.1
    have hal := hr.all.1
    have hlen := all_len s
    have hlt := atUp_lt (allS s) t _ h1
    obtain ⟨g, hg⟩ : ∃ g, (allS s)[atUp (allS s) t (allS s).length]? = some g := ⟨_, List.getElem?_eq_getElem hlt⟩
    obtain ⟨x, hx, hk, hh⟩ := group_head (hr.all.2 g (List.mem_of_getElem? hg))
    have hG := c_storeGet s (s.first + atUp (allS s) t (allS s).length) hs (by omega)
    rw [getS_at hr (by omega) (by rw [show (s.first + (atUp (allS s) t (allS s).length : Int) - s.first).toNat = atUp (allS s) t (allS s).length by omega]; exact hg)] at hG
    rw [h2] at hA
    have hpos := List.length_pos_iff.2 (groupE_ok (hr.all.2 g (List.mem_of_getElem? hg))).1
    repeat' (first
    | (with_reducible first | refine go_later ?_ | (refine h0 _ _ ?_; clear h0 hw) | (refine hw _ _ _ ?_; clear h0 hw) | refine go_ret ?_ | refine go_skip ?_ | refine go_block ?_ | refine go_exit ?_ | refine out_seq_ret ?_ | refine out_seq_normal ?_ | refine out_seq_exit ?_ | refine out_block_ret ?_ | refine out_block_normal ?_ | refine out_block_here ?_ | refine out_loop_ret ?_ | refine out_loop_exit ?_ | refine out_loopR_ret ?_ | refine out_loopR_exit ?_ | (refine hL _ ?_; clear hL))
    | (with_reducible first | refine w_reg (by decide +kernel) fun K1 hK => ?_ | refine w_reg_end (by decide +kernel) fun K1 hK => ?_)
    | ((with_reducible first | apply d_reg Try.mix (by decide +kernel) | apply d_reg_end Try.mix (by decide +kernel)); (case hm => simp only [List.length_cons, List.length_nil, Nat.reduceAdd, Nat.reduceMul]; rfl); (case' h => intro K1 hK))
    | with_reducible refine go_seq ?_
    | ((with_reducible first | apply v_op Try.tab | apply v_op0 Try.tab | apply d_op Try.tab | apply d_op0 Try.tab) <;> first | (intro K' h0 hw; conv => whnf) | (simp only [Nat.reduceAdd, Nat.reduceMul]; rfl))
    | ((with_reducible apply v_nil); (case hm => (simp only [Nat.reduceAdd, Nat.reduceMul]; rfl)); (case' h => with_reducible refine hK _ ?_; clear hK))
    | ((with_reducible apply d_nil); (refine hK _ _ _ _ (by first | decide +kernel | (simp only [List.map_cons, List.map_nil, List.nil_append, List.cons_append]; decide +kernel) | rfl) ?_; clear hK))
    | (first | refine d_grd_yes (by rfl) (by rfl) ?_ | refine v_grd_yes (by rfl) (by rfl) ?_)
    | (apply d_grd_no; (case hg => rfl); (case hb => rfl); (case hi => (simp only [Nat.reduceAdd, Nat.reduceMul]; rfl)))
    | (apply d_grd_undef; (case hg => rfl); (case hb => rfl); (case hi => (simp only [Nat.reduceAdd, Nat.reduceMul]; rfl)))
    | (apply d_grd; (case hg => rfl); (case hb => rfl); (case hi => (simp only [Nat.reduceAdd, Nat.reduceMul]; rfl)))
    | (apply v_grd_no; (case hg => rfl); (case hb => rfl); (case hi => (simp only [Nat.reduceAdd, Nat.reduceMul]; rfl)))
    | (apply v_grd_undef; (case hg => rfl); (case hb => rfl); (case hi => (simp only [Nat.reduceAdd, Nat.reduceMul]; rfl)))
    | (apply v_grd; (case hg => rfl); (case hb => rfl); (case hi => (simp only [Nat.reduceAdd, Nat.reduceMul]; rfl)))
    | ((with_reducible refine callV_id (f := 40) ?_); have hcs_ := hA; (with_reducible apply callV_f own40 (hcs_)); (case hx => rfl); (case he => rfl); (case hle => first | ((repeat constructor); done) | (simp; done)); (case hpu => repeat constructor); (case' hK => (try clear hcs_); conv => whnf))
    | ((with_reducible refine callV_id (f := 46) ?_); have hcs_ := c_storeBegun; (with_reducible apply callV_f own46 (hcs_)); (case hx => rfl); (case he => rfl); (case hle => first | ((repeat constructor); done) | (simp; done)); (case hpu => repeat constructor); (case' hK => (try clear hcs_); conv => whnf))
    | ((with_reducible refine callV_id (f := 41) ?_); have hcs_ := hG; (with_reducible apply callV_f own41 (hcs_)); (case hx => rfl); (case he => rfl); (case hle => first | ((repeat constructor); done) | (simp; done)); (case hpu => repeat constructor); (case' hK => (try clear hcs_); conv => whnf))
    | ((with_reducible apply go_cond); (case hb => rfl))
    | ((with_reducible apply out_block_there); (case hne => rfl))
    | ((with_reducible first | refine w_ret Try.tab fun K' hL => ?_ | refine w_ret_end Try.tab fun K' hL => ?_); (conv => whnf))
    | ((with_reducible apply And.intro); (case' right => try (conv => whnf)); (case' left => try first | rfl | decide | (simp; done)))
    | ((with_reducible apply Side.mk); (try simp (disch := omega) only [wrp]); (try simp); (try omega))
    | ((with_reducible apply all_rk); (case hx => with_reducible assumption); (conv => whnf))
    | ((with_reducible refine all_row ?_); (first | (have _y := hx5; clear _y; intro x6 hx6) | (have _y := hx4; clear _y; intro x5 hx5) | (have _y := hx3; clear _y; intro x4 hx4) | (have _y := hx2; clear _y; intro x3 hx3) | (have _y := hx1; clear _y; intro x2 hx2) | (intro x1 hx1)); conv => whnf)
    | (refine ⟨_, eqAT (by rfl) (by rfl) (by rfl) (by rfl), ?_⟩; conv => whnf)
    | ((first | (have _y := g19; clear _y; intro g20; try simp at g20; try simp (disch := omega) only [wrp] at g20) | (have _y := g18; clear _y; intro g19; try simp at g19; try simp (disch := omega) only [wrp] at g19) | (have _y := g17; clear _y; intro g18; try simp at g18; try simp (disch := omega) only [wrp] at g18) | (have _y := g16; clear _y; intro g17; try simp at g17; try simp (disch := omega) only [wrp] at g17) | (have _y := g15; clear _y; intro g16; try simp at g16; try simp (disch := omega) only [wrp] at g16) | (have _y := g14; clear _y; intro g15; try simp at g15; try simp (disch := omega) only [wrp] at g15) | (have _y := g13; clear _y; intro g14; try simp at g14; try simp (disch := omega) only [wrp] at g14) | (have _y := g12; clear _y; intro g13; try simp at g13; try simp (disch := omega) only [wrp] at g13) | (have _y := g11; clear _y; intro g12; try simp at g12; try simp (disch := omega) only [wrp] at g12) | (have _y := g10; clear _y; intro g11; try simp at g11; try simp (disch := omega) only [wrp] at g11) | (have _y := g9; clear _y; intro g10; try simp at g10; try simp (disch := omega) only [wrp] at g10) | (have _y := g8; clear _y; intro g9; try simp at g9; try simp (disch := omega) only [wrp] at g9) | (have _y := g7; clear _y; intro g8; try simp at g8; try simp (disch := omega) only [wrp] at g8) | (have _y := g6; clear _y; intro g7; try simp at g7; try simp (disch := omega) only [wrp] at g7) | (have _y := g5; clear _y; intro g6; try simp at g6; try simp (disch := omega) only [wrp] at g6) | (have _y := g4; clear _y; intro g5; try simp at g5; try simp (disch := omega) only [wrp] at g5) | (have _y := g3; clear _y; intro g4; try simp at g4; try simp (disch := omega) only [wrp] at g4) | (have _y := g2; clear _y; intro g3; try simp at g3; try simp (disch := omega) only [wrp] at g3) | (have _y := g1; clear _y; intro g2; try simp at g2; try simp (disch := omega) only [wrp] at g2) | (intro g1; try simp at g1; try simp (disch := omega) only [wrp] at g1))))
    · simp [hx] at hx1; subst hx1; rw [hk] at g4; cases g4
    · obtain rfl : x = x1 := by simp [hx] at hx1; exact hx1
      have e0 := wrp (n := s.first + (s.gs.length : Int)) (by omega) (by omega)
      refine w_loop (X := Nat) [4, 9, 10, 11, 55, 56, 57, 58, 59, 60, 61, 62, 63, 64, 65, 66, 67, 68, 69, 70, 71, 72, 73, 74, 75, 76, 77, 78, 79, 80, 81, 82, 83, 84, 85, 86, 87, 88, 89, 90, 91, 92, 93, 94, 95, 96, 97, 98, 99, 100, 101] (fun j => [(9, I (s.first + j))]) (fun _ => []) (fun j => j ≤ s.gs.length + 1) (fun j => s.gs.length + 1 - j) 0 (by simp) ?_ ?_
      · refine ⟨kt_refl, ko_refl, ?_, ?_, ?_, ?_, Nat.le_refl _⟩ <;> simp
      intro j hj
      have hgh : headT ((allS s).getD (atUp (allS s) t (allS s).length) []) = x.time := by rw [List.getD_eq_getElem?_getD, hg]; exact hh
      have e9 := wrp (n := s.first + (j : Int) + 1) (by omega) (by omega)
      have e8 : s.first + (j : Int) + 1 = s.first + ((j + 1 : Nat) : Int) := by omega
      rcases Nat.lt_or_ge j (allS s).length with hjl | hjl
      · obtain ⟨y, hy⟩ : ∃ y, (allS s)[j]? = some y := ⟨_, List.getElem?_eq_getElem hjl⟩
        obtain ⟨z, hz, hzk, hzh⟩ := group_head (hr.all.2 y (List.mem_of_getElem? hy))
        have hyp := List.length_pos_iff.2 (groupE_ok (hr.all.2 y (List.mem_of_getElem? hy))).1
        have hyh : headT ((allS s).getD j []) = z.time := by rw [List.getD_eq_getElem?_getD, hy]; exact hzh
        have hmax := atUp_max (allS s) t _ j hjl
        have hnone := atUp_none (allS s) t (allS s).length
        rw [hyh] at hmax
        rw [hgh] at hmax hnone
        have hGG := c_storeGet s (s.first + j) hs (by omega)
        rw [getS_at hr (by omega) (by rw [show (s.first + (j : Int) - s.first).toNat = j by omega]; exact hy)] at hGG
        repeat' (first
    | (with_reducible first | refine go_later ?_ | (refine h0 _ _ ?_; clear h0 hw) | (refine hw _ _ _ ?_; clear h0 hw) | refine go_ret ?_ | refine go_skip ?_ | refine go_block ?_ | refine go_exit ?_ | refine out_seq_ret ?_ | refine out_seq_normal ?_ | refine out_seq_exit ?_ | refine out_block_ret ?_ | refine out_block_normal ?_ | refine out_block_here ?_ | refine out_loop_ret ?_ | refine out_loop_exit ?_ | refine out_loopR_ret ?_ | refine out_loopR_exit ?_ | (refine hL _ ?_; clear hL))
    | (with_reducible first | refine w_reg (by decide +kernel) fun K1 hK => ?_ | refine w_reg_end (by decide +kernel) fun K1 hK => ?_)
    | ((with_reducible first | apply d_reg Try.mix (by decide +kernel) | apply d_reg_end Try.mix (by decide +kernel)); (case hm => simp only [List.length_cons, List.length_nil, Nat.reduceAdd, Nat.reduceMul]; rfl); (case' h => intro K1 hK))
    | with_reducible refine go_seq ?_
    | ((with_reducible first | apply v_op Try.tab | apply v_op0 Try.tab | apply d_op Try.tab | apply d_op0 Try.tab) <;> first | (intro K' h0 hw; conv => whnf) | (simp only [Nat.reduceAdd, Nat.reduceMul]; rfl))
    | ((with_reducible apply v_nil); (case hm => (simp only [Nat.reduceAdd, Nat.reduceMul]; rfl)); (case' h => with_reducible refine hK _ ?_; clear hK))
    | ((with_reducible apply d_nil); (refine hK _ _ _ _ (by first | decide +kernel | (simp only [List.map_cons, List.map_nil, List.nil_append, List.cons_append]; decide +kernel) | rfl) ?_; clear hK))
    | (first | refine d_grd_yes (by rfl) (by rfl) ?_ | refine v_grd_yes (by rfl) (by rfl) ?_)
    | (apply d_grd_no; (case hg => rfl); (case hb => rfl); (case hi => (simp only [Nat.reduceAdd, Nat.reduceMul]; rfl)))
    | (apply d_grd_undef; (case hg => rfl); (case hb => rfl); (case hi => (simp only [Nat.reduceAdd, Nat.reduceMul]; rfl)))
    | (apply d_grd; (case hg => rfl); (case hb => rfl); (case hi => (simp only [Nat.reduceAdd, Nat.reduceMul]; rfl)))
    | (apply v_grd_no; (case hg => rfl); (case hb => rfl); (case hi => (simp only [Nat.reduceAdd, Nat.reduceMul]; rfl)))
    | (apply v_grd_undef; (case hg => rfl); (case hb => rfl); (case hi => (simp only [Nat.reduceAdd, Nat.reduceMul]; rfl)))
    | (apply v_grd; (case hg => rfl); (case hb => rfl); (case hi => (simp only [Nat.reduceAdd, Nat.reduceMul]; rfl)))
    | ((with_reducible refine callV_id (f := 41) ?_); have hcs_ := hGG; (with_reducible apply callV_f own41 (hcs_)); (case hx => rfl); (case he => rfl); (case hle => first | ((repeat constructor); done) | (simp [e0]; done)); (case hpu => repeat constructor); (case' hK => (try clear hcs_); conv => whnf))
    | ((with_reducible apply go_cond); (case hb => rfl))
    | ((with_reducible apply out_block_there); (case hne => rfl))
    | ((with_reducible first | refine w_ret Try.tab fun K' hL => ?_ | refine w_ret_end Try.tab fun K' hL => ?_); (conv => whnf))
    | ((with_reducible apply And.intro); (case' right => try (conv => whnf)); (case' left => try first | rfl | decide | (simp [e0]; done)))
    | ((with_reducible apply Side.mk); (try simp (disch := omega) only [wrp]); (try simp); (try omega))
    | ((with_reducible apply all_rk); (case hx => with_reducible assumption); (conv => whnf))
    | ((with_reducible refine all_row ?_); (first | (have _y := hx5; clear _y; intro x6 hx6) | (have _y := hx4; clear _y; intro x5 hx5) | (have _y := hx3; clear _y; intro x4 hx4) | (have _y := hx2; clear _y; intro x3 hx3) | (have _y := hx1; clear _y; intro x2 hx2) | (intro x1 hx1)); conv => whnf)
    | (refine ⟨_, eqAT (by rfl) (by rfl) (by rfl) (by rfl), ?_⟩; conv => whnf)
    | ((first | (have _y := g19; clear _y; intro g20; try simp at g20; try simp (disch := omega) only [wrp] at g20) | (have _y := g18; clear _y; intro g19; try simp at g19; try simp (disch := omega) only [wrp] at g19) | (have _y := g17; clear _y; intro g18; try simp at g18; try simp (disch := omega) only [wrp] at g18) | (have _y := g16; clear _y; intro g17; try simp at g17; try simp (disch := omega) only [wrp] at g17) | (have _y := g15; clear _y; intro g16; try simp at g16; try simp (disch := omega) only [wrp] at g16) | (have _y := g14; clear _y; intro g15; try simp at g15; try simp (disch := omega) only [wrp] at g15) | (have _y := g13; clear _y; intro g14; try simp at g14; try simp (disch := omega) only [wrp] at g14) | (have _y := g12; clear _y; intro g13; try simp at g13; try simp (disch := omega) only [wrp] at g13) | (have _y := g11; clear _y; intro g12; try simp at g12; try simp (disch := omega) only [wrp] at g12) | (have _y := g10; clear _y; intro g11; try simp at g11; try simp (disch := omega) only [wrp] at g11) | (have _y := g9; clear _y; intro g10; try simp at g10; try simp (disch := omega) only [wrp] at g10) | (have _y := g8; clear _y; intro g9; try simp at g9; try simp (disch := omega) only [wrp] at g9) | (have _y := g7; clear _y; intro g8; try simp at g8; try simp (disch := omega) only [wrp] at g8) | (have _y := g6; clear _y; intro g7; try simp at g7; try simp (disch := omega) only [wrp] at g7) | (have _y := g5; clear _y; intro g6; try simp at g6; try simp (disch := omega) only [wrp] at g6) | (have _y := g4; clear _y; intro g5; try simp at g5; try simp (disch := omega) only [wrp] at g5) | (have _y := g3; clear _y; intro g4; try simp at g4; try simp (disch := omega) only [wrp] at g4) | (have _y := g2; clear _y; intro g3; try simp at g3; try simp (disch := omega) only [wrp] at g3) | (have _y := g1; clear _y; intro g2; try simp at g2; try simp (disch := omega) only [wrp] at g2) | (intro g1; try simp at g1; try simp (disch := omega) only [wrp] at g1))))
        · subst g7; simp at hyp
        all_goals (try (have _y := hx2; clear _y; obtain rfl : z = x2 := by (simp [hz] at hx2; exact hx2)))
        all_goals (try (exfalso; first | omega | (have := hmax (by omega); omega) | (have := hnone (by omega); omega)))
        all_goals (try (((with_reducible apply w_next ((j + 1))); (case kt => first | exact kt_refl | (repeat (first | exact kt_refl | refine kt_wr (by rfl) ?_ | refine kt_jnk (by rfl) ?_ | refine kt_wrs (by rfl) ?_))); (case ko => repeat (first | exact ko_refl | refine ko_wo (by first | exact .inl (by rfl) | exact .inr (by simp) | exact .inr (by omega)) ?_ | refine ko_wor (by rfl) ?_ | refine ko_wos (by simp) ?_)); (case hn => first | exact Nat.le_refl _ | (simp; done) | (simp; omega)); (case hs => simp [e9, e8]); (case hb => simp [e9, e8]); (case ls => simp (disch := omega) [e9, e8, wrp]); (case lb => simp [e9, e8]); (case mu => first | (simp; omega) | (simp; done) | omega | (simp only; omega)); (case' rel' => (try simp only); (try exact trivial))); omega; done))
        all_goals exact le_of_eq rfl
      · have hGG := c_storeGet s (s.first + j) hs (by omega)
        rw [getS_out hr (.inr (by omega))] at hGG
        repeat' (first
    | (with_reducible first | refine go_later ?_ | (refine h0 _ _ ?_; clear h0 hw) | (refine hw _ _ _ ?_; clear h0 hw) | refine go_ret ?_ | refine go_skip ?_ | refine go_block ?_ | refine go_exit ?_ | refine out_seq_ret ?_ | refine out_seq_normal ?_ | refine out_seq_exit ?_ | refine out_block_ret ?_ | refine out_block_normal ?_ | refine out_block_here ?_ | refine out_loop_ret ?_ | refine out_loop_exit ?_ | refine out_loopR_ret ?_ | refine out_loopR_exit ?_ | (refine hL _ ?_; clear hL))
    | (with_reducible first | refine w_reg (by decide +kernel) fun K1 hK => ?_ | refine w_reg_end (by decide +kernel) fun K1 hK => ?_)
    | ((with_reducible first | apply d_reg Try.mix (by decide +kernel) | apply d_reg_end Try.mix (by decide +kernel)); (case hm => simp only [List.length_cons, List.length_nil, Nat.reduceAdd, Nat.reduceMul]; rfl); (case' h => intro K1 hK))
    | with_reducible refine go_seq ?_
    | ((with_reducible first | apply v_op Try.tab | apply v_op0 Try.tab | apply d_op Try.tab | apply d_op0 Try.tab) <;> first | (intro K' h0 hw; conv => whnf) | (simp only [Nat.reduceAdd, Nat.reduceMul]; rfl))
    | ((with_reducible apply v_nil); (case hm => (simp only [Nat.reduceAdd, Nat.reduceMul]; rfl)); (case' h => with_reducible refine hK _ ?_; clear hK))
    | ((with_reducible apply d_nil); (refine hK _ _ _ _ (by first | decide +kernel | (simp only [List.map_cons, List.map_nil, List.nil_append, List.cons_append]; decide +kernel) | rfl) ?_; clear hK))
    | (first | refine d_grd_yes (by rfl) (by rfl) ?_ | refine v_grd_yes (by rfl) (by rfl) ?_)
    | (apply d_grd_no; (case hg => rfl); (case hb => rfl); (case hi => (simp only [Nat.reduceAdd, Nat.reduceMul]; rfl)))
    | (apply d_grd_undef; (case hg => rfl); (case hb => rfl); (case hi => (simp only [Nat.reduceAdd, Nat.reduceMul]; rfl)))
    | (apply d_grd; (case hg => rfl); (case hb => rfl); (case hi => (simp only [Nat.reduceAdd, Nat.reduceMul]; rfl)))
    | (apply v_grd_no; (case hg => rfl); (case hb => rfl); (case hi => (simp only [Nat.reduceAdd, Nat.reduceMul]; rfl)))
    | (apply v_grd_undef; (case hg => rfl); (case hb => rfl); (case hi => (simp only [Nat.reduceAdd, Nat.reduceMul]; rfl)))
    | (apply v_grd; (case hg => rfl); (case hb => rfl); (case hi => (simp only [Nat.reduceAdd, Nat.reduceMul]; rfl)))
    | ((with_reducible refine callV_id (f := 41) ?_); have hcs_ := hGG; (with_reducible apply callV_f own41 (hcs_)); (case hx => rfl); (case he => rfl); (case hle => first | ((repeat constructor); done) | (simp [e0]; done)); (case hpu => repeat constructor); (case' hK => (try clear hcs_); conv => whnf))
    | ((with_reducible apply go_cond); (case hb => rfl))
    | ((with_reducible apply out_block_there); (case hne => rfl))
    | ((with_reducible first | refine w_ret Try.tab fun K' hL => ?_ | refine w_ret_end Try.tab fun K' hL => ?_); (conv => whnf))
    | ((with_reducible apply And.intro); (case' right => try (conv => whnf)); (case' left => try first | rfl | decide | (simp [e0]; done)))
    | ((with_reducible apply Side.mk); (try simp (disch := omega) only [wrp]); (try simp); (try omega))
    | ((with_reducible apply all_rk); (case hx => with_reducible assumption); (conv => whnf))
    | ((with_reducible refine all_row ?_); (first | (have _y := hx5; clear _y; intro x6 hx6) | (have _y := hx4; clear _y; intro x5 hx5) | (have _y := hx3; clear _y; intro x4 hx4) | (have _y := hx2; clear _y; intro x3 hx3) | (have _y := hx1; clear _y; intro x2 hx2) | (intro x1 hx1)); conv => whnf)
    | (refine ⟨_, eqAT (by rfl) (by rfl) (by rfl) (by rfl), ?_⟩; conv => whnf)
    | ((first | (have _y := g19; clear _y; intro g20; try simp at g20; try simp (disch := omega) only [wrp] at g20) | (have _y := g18; clear _y; intro g19; try simp at g19; try simp (disch := omega) only [wrp] at g19) | (have _y := g17; clear _y; intro g18; try simp at g18; try simp (disch := omega) only [wrp] at g18) | (have _y := g16; clear _y; intro g17; try simp at g17; try simp (disch := omega) only [wrp] at g17) | (have _y := g15; clear _y; intro g16; try simp at g16; try simp (disch := omega) only [wrp] at g16) | (have _y := g14; clear _y; intro g15; try simp at g15; try simp (disch := omega) only [wrp] at g15) | (have _y := g13; clear _y; intro g14; try simp at g14; try simp (disch := omega) only [wrp] at g14) | (have _y := g12; clear _y; intro g13; try simp at g13; try simp (disch := omega) only [wrp] at g13) | (have _y := g11; clear _y; intro g12; try simp at g12; try simp (disch := omega) only [wrp] at g12) | (have _y := g10; clear _y; intro g11; try simp at g11; try simp (disch := omega) only [wrp] at g11) | (have _y := g9; clear _y; intro g10; try simp at g10; try simp (disch := omega) only [wrp] at g10) | (have _y := g8; clear _y; intro g9; try simp at g9; try simp (disch := omega) only [wrp] at g9) | (have _y := g7; clear _y; intro g8; try simp at g8; try simp (disch := omega) only [wrp] at g8) | (have _y := g6; clear _y; intro g7; try simp at g7; try simp (disch := omega) only [wrp] at g7) | (have _y := g5; clear _y; intro g6; try simp at g6; try simp (disch := omega) only [wrp] at g6) | (have _y := g4; clear _y; intro g5; try simp at g5; try simp (disch := omega) only [wrp] at g5) | (have _y := g3; clear _y; intro g4; try simp at g4; try simp (disch := omega) only [wrp] at g4) | (have _y := g2; clear _y; intro g3; try simp at g3; try simp (disch := omega) only [wrp] at g3) | (have _y := g1; clear _y; intro g2; try simp at g2; try simp (disch := omega) only [wrp] at g2) | (intro g1; try simp at g1; try simp (disch := omega) only [wrp] at g1))))
        all_goals (try (((with_reducible apply w_next ((j + 1))); (case kt => first | exact kt_refl | (repeat (first | exact kt_refl | refine kt_wr (by rfl) ?_ | refine kt_jnk (by rfl) ?_ | refine kt_wrs (by rfl) ?_))); (case ko => repeat (first | exact ko_refl | refine ko_wo (by first | exact .inl (by rfl) | exact .inr (by simp) | exact .inr (by omega)) ?_ | refine ko_wor (by rfl) ?_ | refine ko_wos (by simp) ?_)); (case hn => first | exact Nat.le_refl _ | (simp; done) | (simp; omega)); (case hs => simp [e9, e8]); (case hb => simp [e9, e8]); (case ls => simp (disch := omega) [e9, e8, wrp]); (case lb => simp [e9, e8]); (case mu => first | (simp; omega) | (simp; done) | omega | (simp only; omega)); (case' rel' => (try simp only); (try exact trivial))); omega; done))
        all_goals exact le_of_eq rfl
    · subst g3; simp at hpos
  · have e := seek_err hE
    rw [e] at hA
    repeat' (first
    | (with_reducible first | refine go_later ?_ | (refine h0 _ _ ?_; clear h0 hw) | (refine hw _ _ _ ?_; clear h0 hw) | refine go_ret ?_ | refine go_skip ?_ | refine go_block ?_ | refine go_exit ?_ | refine out_seq_ret ?_ | refine out_seq_normal ?_ | refine out_seq_exit ?_ | refine out_block_ret ?_ | refine out_block_normal ?_ | refine out_block_here ?_ | refine out_loop_ret ?_ | refine out_loop_exit ?_ | refine out_loopR_ret ?_ | refine out_loopR_exit ?_ | (refine hL _ ?_; clear hL))
    | (with_reducible first | refine w_reg (by decide +kernel) fun K1 hK => ?_ | refine w_reg_end (by decide +kernel) fun K1 hK => ?_)
    | ((with_reducible first | apply d_reg Try.mix (by decide +kernel) | apply d_reg_end Try.mix (by decide +kernel)); (case hm => simp only [List.length_cons, List.length_nil, Nat.reduceAdd, Nat.reduceMul]; rfl); (case' h => intro K1 hK))
    | with_reducible refine go_seq ?_
    | ((with_reducible first | apply v_op Try.tab | apply v_op0 Try.tab | apply d_op Try.tab | apply d_op0 Try.tab) <;> first | (intro K' h0 hw; conv => whnf) | (simp only [Nat.reduceAdd, Nat.reduceMul]; rfl))
    | ((with_reducible apply v_nil); (case hm => (simp only [Nat.reduceAdd, Nat.reduceMul]; rfl)); (case' h => with_reducible refine hK _ ?_; clear hK))
    | ((with_reducible apply d_nil); (refine hK _ _ _ _ (by first | decide +kernel | (simp only [List.map_cons, List.map_nil, List.nil_append, List.cons_append]; decide +kernel) | rfl) ?_; clear hK))
    | (first | refine d_grd_yes (by rfl) (by rfl) ?_ | refine v_grd_yes (by rfl) (by rfl) ?_)
    | (apply d_grd_no; (case hg => rfl); (case hb => rfl); (case hi => (simp only [Nat.reduceAdd, Nat.reduceMul]; rfl)))
    | (apply d_grd_undef; (case hg => rfl); (case hb => rfl); (case hi => (simp only [Nat.reduceAdd, Nat.reduceMul]; rfl)))
    | (apply d_grd; (case hg => rfl); (case hb => rfl); (case hi => (simp only [Nat.reduceAdd, Nat.reduceMul]; rfl)))
    | (apply v_grd_no; (case hg => rfl); (case hb => rfl); (case hi => (simp only [Nat.reduceAdd, Nat.reduceMul]; rfl)))
    | (apply v_grd_undef; (case hg => rfl); (case hb => rfl); (case hi => (simp only [Nat.reduceAdd, Nat.reduceMul]; rfl)))
    | (apply v_grd; (case hg => rfl); (case hb => rfl); (case hi => (simp only [Nat.reduceAdd, Nat.reduceMul]; rfl)))
    | ((with_reducible refine callV_id (f := 40) ?_); have hcs_ := hA; (with_reducible apply callV_f own40 (hcs_)); (case hx => rfl); (case he => rfl); (case hle => first | ((repeat constructor); done) | (simp; done)); (case hpu => repeat constructor); (case' hK => (try clear hcs_); conv => whnf))
    | ((with_reducible refine callV_id (f := 46) ?_); have hcs_ := c_storeBegun; (with_reducible apply callV_f own46 (hcs_)); (case hx => rfl); (case he => rfl); (case hle => first | ((repeat constructor); done) | (simp; done)); (case hpu => repeat constructor); (case' hK => (try clear hcs_); conv => whnf))
    | ((with_reducible apply go_cond); (case hb => rfl))
    | ((with_reducible apply out_block_there); (case hne => rfl))
    | ((with_reducible first | refine w_ret Try.tab fun K' hL => ?_ | refine w_ret_end Try.tab fun K' hL => ?_); (conv => whnf))
    | ((with_reducible apply And.intro); (case' right => try (conv => whnf)); (case' left => try first | rfl | decide | (simp; done)))
    | ((with_reducible apply Side.mk); (try simp (disch := omega) only [wrp]); (try simp); (try omega))
    | ((with_reducible apply all_rk); (case hx => with_reducible assumption); (conv => whnf))
    | ((with_reducible refine all_row ?_); (first | (have _y := hx5; clear _y; intro x6 hx6) | (have _y := hx4; clear _y; intro x5 hx5) | (have _y := hx3; clear _y; intro x4 hx4) | (have _y := hx2; clear _y; intro x3 hx3) | (have _y := hx1; clear _y; intro x2 hx2) | (intro x1 hx1)); conv => whnf)
    | (refine ⟨_, eqAT (by rfl) (by rfl) (by rfl) (by rfl), ?_⟩; conv => whnf)
    | exact absurd g2 hE
    | ((first | (have _y := g19; clear _y; intro g20; try simp at g20; try simp (disch := omega) only [wrp] at g20) | (have _y := g18; clear _y; intro g19; try simp at g19; try simp (disch := omega) only [wrp] at g19) | (have _y := g17; clear _y; intro g18; try simp at g18; try simp (disch := omega) only [wrp] at g18) | (have _y := g16; clear _y; intro g17; try simp at g17; try simp (disch := omega) only [wrp] at g17) | (have _y := g15; clear _y; intro g16; try simp at g16; try simp (disch := omega) only [wrp] at g16) | (have _y := g14; clear _y; intro g15; try simp at g15; try simp (disch := omega) only [wrp] at g15) | (have _y := g13; clear _y; intro g14; try simp at g14; try simp (disch := omega) only [wrp] at g14) | (have _y := g12; clear _y; intro g13; try simp at g13; try simp (disch := omega) only [wrp] at g13) | (have _y := g11; clear _y; intro g12; try simp at g12; try simp (disch := omega) only [wrp] at g12) | (have _y := g10; clear _y; intro g11; try simp at g11; try simp (disch := omega) only [wrp] at g11) | (have _y := g9; clear _y; intro g10; try simp at g10; try simp (disch := omega) only [wrp] at g10) | (have _y := g8; clear _y; intro g9; try simp at g9; try simp (disch := omega) only [wrp] at g9) | (have _y := g7; clear _y; intro g8; try simp at g8; try simp (disch := omega) only [wrp] at g8) | (have _y := g6; clear _y; intro g7; try simp at g7; try simp (disch := omega) only [wrp] at g7) | (have _y := g5; clear _y; intro g6; try simp at g6; try simp (disch := omega) only [wrp] at g6) | (have _y := g4; clear _y; intro g5; try simp at g5; try simp (disch := omega) only [wrp] at g5) | (have _y := g3; clear _y; intro g4; try simp at g4; try simp (disch := omega) only [wrp] at g4) | (have _y := g2; clear _y; intro g3; try simp at g3; try simp (disch := omega) only [wrp] at g3) | (have _y := g1; clear _y; intro g2; try simp at g2; try simp (disch := omega) only [wrp] at g2) | (intro g1; try simp at g1; try simp (disch := omega) only [wrp] at g1))))
    exact le_of_eq (by simp)
theorem law_storeSeeks (args : List AV) (h : ReadsArgs [.agg [.int .i64, .sl 1 24 (.agg [.sl 3 40 (.agg [.int .i64, .bool, .sl 1 16 .str])]), .agg [.sl 3 40 (.agg [.int .i64, .bool, .sl 1 16 .str])]], .int .i64] args) (_ : True) : PSpec Try.prog 12 args (B true) := by
  obtain ⟨_, _, rfl, h1, _, _, rfl, h2, rfl⟩ := h
  obtain ⟨s, rfl, hs⟩ := reads_sto h1
  obtain ⟨t, ht, _⟩ := h2
  cases ht
  exact c_storeSeeks s t hs
end Go.Proofs.Ytapgdbjlgebjmaa

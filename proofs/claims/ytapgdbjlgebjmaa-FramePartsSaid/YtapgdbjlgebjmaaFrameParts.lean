/- FrameParts, walked. No condition. -/
import Derived.Test.YtapgdbjlgebjmaaFrameTells
namespace Go.Proofs.Ytapgdbjlgebjmaa
open Go Go.Sy
set_option maxRecDepth 4000
set_option linter.unusedSimpArgs false
set_option linter.unusedVariables false
attribute [local irreducible] Reg RegD Later Out CallV Tri Side EqV
theorem eachF_pre : ∀ (l o : List Slt) (a out : List Fr), (eachF o out l).2 = 0 → eachF o (a ++ out) l = (a ++ (eachF o out l).1, 0)
  | [], o, a, out, _ => rfl
  | x :: l, o, a, out, h => by
    rw [eachF] at h ⊢
    by_cases hx : sltE x = 0
    · rw [if_neg (by simp [hx])] at h ⊢
      conv => rhs; rw [eachF, if_neg (by simp [hx])]
      have e : (if (addS o x).2.2 = true then a ++ out ++ [(addS o x).2.1] else a ++ out) = a ++ (if (addS o x).2.2 = true then out ++ [(addS o x).2.1] else out) := by split <;> simp
      rw [e]
      exact eachF_pre l _ a _ h
    · rw [if_pos hx] at h; exact absurd h hx
/-- What is open behind a row. -/
def restO : List Slt → List Slt → List Slt
  | o, [] => o
  | o, x :: l => restO (addS o x).1 l
theorem eachF_app : ∀ (l m o : List Slt) (out : List Fr), (eachF o out l).2 = 0 → eachF o out (l ++ m) = eachF (restO o l) (eachF o out l).1 m
  | [], m, o, out, _ => rfl
  | x :: l, m, o, out, h => by
    rw [eachF] at h
    by_cases hx : sltE x = 0
    · rw [if_neg (by simp [hx])] at h
      simp only [List.cons_append]
      rw [eachF, if_neg (by simp [hx])]
      conv => rhs; rw [eachF, if_neg (by simp [hx])]
      exact eachF_app l m _ _ h
    · rw [if_pos hx] at h; exact absurd h hx
theorem eachF_first {x : Slt} (h : x.p.first = true) (o m : List Slt) (out : List Fr) : eachF o out (x :: m) = eachF [] out (x :: m) := by
  have e : addS o x = addS [] x := by unfold addS openS; simp [h]
  simp only [eachF, e]
theorem allF_zero {l : List Slt} (h : (allF l).2 = 0) (hl : l.length ≤ 100) : (eachF [] [] l).2 = 0 ∧ allF l = eachF [] [] l := by
  have e : allF l = eachF [] [] l := by unfold allF; rw [if_neg (by omega)]
  rw [e] at h
  exact ⟨h, e⟩
theorem allF_parts {l m : List Slt} (h1 : (allF l).2 = 0) (h2 : (allF m).2 = 0) (h3 : l.length + m.length ≤ 100) (h4 : ∀ x, m[0]? = some x → x.p.first = true) : allF (l ++ m) = ((allF l).1 ++ (allF m).1, 0) := by
  obtain ⟨q1, r1⟩ := allF_zero h1 (by omega)
  obtain ⟨q2, r2⟩ := allF_zero h2 (by omega)
  have e : allF (l ++ m) = eachF [] [] (l ++ m) := by unfold allF; rw [if_neg (by rw [List.length_append]; omega)]
  rw [e, r1, r2, eachF_app l m _ _ q1]
  cases m with
  | nil => simp [eachF]
  | cons x m =>
    rw [eachF_first (h4 x rfl)]
    have := eachF_pre (x :: m) [] (eachF [] [] l).1 [] q2
    rwa [List.append_nil] at this
theorem allF_err {l : List Slt} (h : ¬ (allF l).2 = 0) : (allF l).1 = [] := by
  unfold allF at h ⊢
  split
  · rfl
  · rename_i h1
    rw [if_neg h1] at h
    have key : ∀ (l o : List Slt) (out : List Fr), ¬ (eachF o out l).2 = 0 → (eachF o out l).1 = [] := by
      intro l
      induction l with
      | nil => intro o out h; exact absurd rfl h
      | cons x l ih =>
        intro o out h
        rw [eachF] at h ⊢
        split
        · rfl
        · rename_i q; rw [if_neg q] at h; exact ih _ _ h
    exact key _ _ _ h
set_option maxHeartbeats 4000000 in
theorem c_frameParts (l m : List Slt) (hl : l.length ≤ 4000000000000) (hm : m.length ≤ 4000000000000) : PSpec Try.prog 8 [slts l, slts m] (B true) := by
  refine v_pspec Try.func8 rfl Try.ntmps8 Try.results8 (by simp) (by first | exact .s _ | repeat constructor) ?_
  have el := @allF_err l
  have em := @allF_err m
  have hll := allF_len l
  have hml := allF_len m
  have hp := @allF_parts l m
  have hf : ∀ x, m[0]? = some x → x.p.first = true → ∀ x, m[0]? = some x → x.p.first = true := fun x h1 h2 y h3 => by rw [h1] at h3; cases h3; exact h2
  repeat' (first
    | (with_reducible refine w_cut (x := .region 5 _ _) (X := Bool) [22, 23, 24, 25, 26, 27, 28, 29, 30, 31, 32, 33, 34, 35, 36, 37, 38, 39, 40, 41, 42, 43, 44, 45, 46, 47, 48] (fun b => [(48, B b)]) (fun _ => []) (fun b => b = false → (allF l).2 = 0 ∧ (allF m).2 = 0 ∧ l.length + m.length ≤ 100 ∧ ∀ x, m[0]? = some x → x.p.first = true) ?_ ?_; (try (rintro z hz; simp only at hz)))
    | (have q0 := g3 g4; clear g3; obtain ⟨q1, q2, q3, q4⟩ := q0)
    | (with_reducible first | refine go_later ?_ | (refine h0 _ _ ?_; clear h0 hw) | (refine hw _ _ _ ?_; clear h0 hw) | refine go_ret ?_ | refine go_skip ?_ | refine go_block ?_ | refine go_exit ?_ | refine out_seq_ret ?_ | refine out_seq_normal ?_ | refine out_seq_exit ?_ | refine out_block_ret ?_ | refine out_block_normal ?_ | refine out_block_here ?_ | refine out_loop_ret ?_ | refine out_loop_exit ?_ | refine out_loopR_ret ?_ | refine out_loopR_exit ?_ | (refine hL _ ?_; clear hL))
    | (with_reducible first | refine w_reg (by decide +kernel) fun K1 hK => ?_ | refine w_reg_end (by decide +kernel) fun K1 hK => ?_)
    | ((with_reducible first | apply d_reg Try.mix (by decide +kernel) | apply d_reg_end Try.mix (by decide +kernel)); (case hm => simp only [List.length_cons, List.length_nil, Nat.reduceAdd, Nat.reduceMul]; rfl); (case' h => intro K1 hK))
    | with_reducible refine go_seq ?_
    | ((with_reducible first | apply v_op Try.tab | apply v_op0 Try.tab | apply d_op Try.tab | apply d_op0 Try.tab) <;> first | (intro K' h0 hw; conv => whnf) | (simp only [Nat.reduceAdd, Nat.reduceMul]; rfl))
    | ((with_reducible apply v_nil); (case hm => (simp only [Nat.reduceAdd, Nat.reduceMul]; rfl)); (case' h => with_reducible refine hK _ ?_; clear hK))
    | ((with_reducible apply d_nil); (refine hK _ _ _ _ (by first | decide +kernel | (simp only [List.map_cons, List.map_nil, List.nil_append, List.cons_append]; decide +kernel) | rfl) ?_; clear hK))
    | (first | refine d_grd_yes (by rfl) (by rfl) ?_ | refine v_grd_yes (by rfl) (by rfl) ?_)
    | (apply d_grd_no; (case hg => rfl); (case hb => rfl); (case hi => (simp only [Nat.reduceAdd, Nat.reduceMul]; rfl)))
    | (apply d_grd_undef; (case hg => rfl); (case hb => rfl); (case hi => (simp only [Nat.reduceAdd, Nat.reduceMul]; rfl)))
    | (apply d_grd; (case hg => rfl); (case hb => rfl); (case hi => (simp only [Nat.reduceAdd, Nat.reduceMul]; rfl)))
    | (apply v_grd_no; (case hg => rfl); (case hb => rfl); (case hi => (simp only [Nat.reduceAdd, Nat.reduceMul]; rfl)))
    | (apply v_grd_undef; (case hg => rfl); (case hb => rfl); (case hi => (simp only [Nat.reduceAdd, Nat.reduceMul]; rfl)))
    | (apply v_grd; (case hg => rfl); (case hb => rfl); (case hi => (simp only [Nat.reduceAdd, Nat.reduceMul]; rfl)))
    | ((with_reducible refine callV_id (f := 26) ?_); have hcs_ := c_frameAll l hl; (with_reducible apply callV_f own26 (hcs_)); (case hx => rfl); (case he => rfl); (case hle => first | ((repeat constructor); done) | (simp [framesT]; done)); (case hpu => repeat constructor); (case' hK => (try clear hcs_); conv => whnf))
    | ((with_reducible refine callV_id (f := 26) ?_); have hcs_ := c_frameAll m hm; (with_reducible apply callV_f own26 (hcs_)); (case hx => rfl); (case he => rfl); (case hle => first | ((repeat constructor); done) | (simp [framesT]; done)); (case hpu => repeat constructor); (case' hK => (try clear hcs_); conv => whnf))
    | ((with_reducible refine callV_id (f := 26) ?_); have hcs_ := c_frameAll (l ++ m) (by rw [List.length_append]; omega); (with_reducible apply callV_f own26 (hcs_)); (case hx => rfl); (case he => rfl); (case hle => first | ((repeat constructor); done) | (simp [framesT]; done)); (case hpu => repeat constructor); (case' hK => (try clear hcs_); conv => whnf))
    | ((with_reducible refine callV_id (f := 23) ?_); (with_reducible apply callV_f own23 (c_sameFrames (allF (l ++ m)).1 ((allF l).1 ++ (allF m).1) (allF_fits _).1 (allF_fits _).2)); (case hx => rfl); (case he => rfl); (case hle => first | ((repeat constructor); done) | (simp [framesT]; done)); (case hpu => repeat constructor); (case' hK => (try clear hcs_); conv => whnf))
    | ((with_reducible refine callV_id (f := 31) ?_); have hcs_ := c_frameBegun; (with_reducible apply callV_f own31 (hcs_)); (case hx => rfl); (case he => rfl); (case hle => first | ((repeat constructor); done) | (simp [framesT]; done)); (case hpu => repeat constructor); (case' hK => (try clear hcs_); conv => whnf))
    | ((with_reducible apply go_cond); (case hb => rfl))
    | ((with_reducible apply out_block_there); (case hne => rfl))
    | ((with_reducible first | refine w_ret Try.tab fun K' hL => ?_ | refine w_ret_end Try.tab fun K' hL => ?_); (conv => whnf))
    | ((with_reducible apply And.intro); (case' right => try (conv => whnf)); (case' left => try first | rfl | decide | (simp [framesT]; done)))
    | ((with_reducible apply Side.mk); (try simp (disch := omega) only [wrp]); (try simp); (try omega))
    | ((with_reducible apply all_rk); (case hx => with_reducible assumption); (conv => whnf))
    | ((with_reducible refine all_row ?_); (first | (have _y := hx5; clear _y; intro x6 hx6) | (have _y := hx4; clear _y; intro x5 hx5) | (have _y := hx3; clear _y; intro x4 hx4) | (have _y := hx2; clear _y; intro x3 hx3) | (have _y := hx1; clear _y; intro x2 hx2) | (intro x1 hx1)); conv => whnf)
    | (refine ⟨_, eqAT (by rfl) (by rfl) (by rfl) (by rfl), ?_⟩; conv => whnf)
    | ((first | (have _y := g15; clear _y; intro g16; try simp at g16; try simp (disch := omega) only [wrp] at g16) | (have _y := g14; clear _y; intro g15; try simp at g15; try simp (disch := omega) only [wrp] at g15) | (have _y := g13; clear _y; intro g14; try simp at g14; try simp (disch := omega) only [wrp] at g14) | (have _y := g12; clear _y; intro g13; try simp at g13; try simp (disch := omega) only [wrp] at g13) | (have _y := g11; clear _y; intro g12; try simp at g12; try simp (disch := omega) only [wrp] at g12) | (have _y := g10; clear _y; intro g11; try simp at g11; try simp (disch := omega) only [wrp] at g11) | (have _y := g9; clear _y; intro g10; try simp at g10; try simp (disch := omega) only [wrp] at g10) | (have _y := g8; clear _y; intro g9; try simp at g9; try simp (disch := omega) only [wrp] at g9) | (have _y := g7; clear _y; intro g8; try simp at g8; try simp (disch := omega) only [wrp] at g8) | (have _y := g6; clear _y; intro g7; try simp at g7; try simp (disch := omega) only [wrp] at g7) | (have _y := g5; clear _y; intro g6; try simp at g6; try simp (disch := omega) only [wrp] at g6) | (have _y := g4; clear _y; intro g5; try simp at g5; try simp (disch := omega) only [wrp] at g5) | (have _y := g3; clear _y; intro g4; try simp at g4; try simp (disch := omega) only [wrp] at g4) | (have _y := g2; clear _y; intro g3; try simp at g3; try simp (disch := omega) only [wrp] at g3) | (have _y := g1; clear _y; intro g2; try simp at g2; try simp (disch := omega) only [wrp] at g2) | (intro g1; try simp at g1; try simp (disch := omega) only [wrp] at g1))))
  · cases hk : x1.p.first
    · ((with_reducible apply w_next (true)); (case kt => first | exact kt_refl | (repeat (first | exact kt_refl | refine kt_wr (by rfl) ?_ | refine kt_jnk (by rfl) ?_ | refine kt_wrs (by rfl) ?_))); (case ko => repeat (first | exact ko_refl | refine ko_wo (by first | exact .inl (by rfl) | exact .inr (by simp) | exact .inr (by omega)) ?_ | refine ko_wor (by rfl) ?_ | refine ko_wos (by simp) ?_)); (case hn => first | exact Nat.le_refl _ | (simp; done) | (simp; omega)); (case hs => simp [hk]); (case hb => simp [hk]); (case ls => simp (disch := omega) [hk, wrp]); (case lb => simp [hk]); (case mu => first | (simp; omega) | (simp; done) | omega | (simp only; omega)); (case' rel' => (try simp only); (try exact trivial)))
      intro h; cases h
    · ((with_reducible apply w_next (false)); (case kt => first | exact kt_refl | (repeat (first | exact kt_refl | refine kt_wr (by rfl) ?_ | refine kt_jnk (by rfl) ?_ | refine kt_wrs (by rfl) ?_))); (case ko => repeat (first | exact ko_refl | refine ko_wo (by first | exact .inl (by rfl) | exact .inr (by simp) | exact .inr (by omega)) ?_ | refine ko_wor (by rfl) ?_ | refine ko_wos (by simp) ?_)); (case hn => first | exact Nat.le_refl _ | (simp; done) | (simp; omega)); (case hs => simp [hk]); (case hb => simp [hk]); (case ls => simp (disch := omega) [hk, wrp]); (case lb => simp [hk]); (case mu => first | (simp; omega) | (simp; done) | omega | (simp only; omega)); (case' rel' => (try simp only); (try exact trivial)))
      intro _; exact ⟨g2, g3, by omega, hf x1 hx1 hk⟩
  · ((with_reducible apply w_next (false)); (case kt => first | exact kt_refl | (repeat (first | exact kt_refl | refine kt_wr (by rfl) ?_ | refine kt_jnk (by rfl) ?_ | refine kt_wrs (by rfl) ?_))); (case ko => repeat (first | exact ko_refl | refine ko_wo (by first | exact .inl (by rfl) | exact .inr (by simp) | exact .inr (by omega)) ?_ | refine ko_wor (by rfl) ?_ | refine ko_wos (by simp) ?_)); (case hn => first | exact Nat.le_refl _ | (simp; done) | (simp; omega)); (case hs => simp); (case hb => simp); (case ls => simp (disch := omega) [wrp]); (case lb => simp); (case mu => first | (simp; omega) | (simp; done) | omega | (simp only; omega)); (case' rel' => (try simp only); (try exact trivial)))
    intro _; exact ⟨g2, g3, by omega, fun x hx => by rw [g5] at hx; cases hx⟩
  · ((with_reducible apply w_next (true)); (case kt => first | exact kt_refl | (repeat (first | exact kt_refl | refine kt_wr (by rfl) ?_ | refine kt_jnk (by rfl) ?_ | refine kt_wrs (by rfl) ?_))); (case ko => repeat (first | exact ko_refl | refine ko_wo (by first | exact .inl (by rfl) | exact .inr (by simp) | exact .inr (by omega)) ?_ | refine ko_wor (by rfl) ?_ | refine ko_wos (by simp) ?_)); (case hn => first | exact Nat.le_refl _ | (simp; done) | (simp; omega)); (case hs => simp); (case hb => simp); (case ls => simp (disch := omega) [wrp]); (case lb => simp); (case mu => first | (simp; omega) | (simp; done) | omega | (simp only; omega)); (case' rel' => (try simp only); (try exact trivial)))
    intro h; cases h
  · ((with_reducible apply w_next (true)); (case kt => first | exact kt_refl | (repeat (first | exact kt_refl | refine kt_wr (by rfl) ?_ | refine kt_jnk (by rfl) ?_ | refine kt_wrs (by rfl) ?_))); (case ko => repeat (first | exact ko_refl | refine ko_wo (by first | exact .inl (by rfl) | exact .inr (by simp) | exact .inr (by omega)) ?_ | refine ko_wor (by rfl) ?_ | refine ko_wos (by simp) ?_)); (case hn => first | exact Nat.le_refl _ | (simp; done) | (simp; omega)); (case hs => simp); (case hb => simp); (case ls => simp (disch := omega) [wrp]); (case lb => simp); (case mu => first | (simp; omega) | (simp; done) | omega | (simp only; omega)); (case' rel' => (try simp only); (try exact trivial)))
    intro h; cases h
  · ((with_reducible apply w_next (true)); (case kt => first | exact kt_refl | (repeat (first | exact kt_refl | refine kt_wr (by rfl) ?_ | refine kt_jnk (by rfl) ?_ | refine kt_wrs (by rfl) ?_))); (case ko => repeat (first | exact ko_refl | refine ko_wo (by first | exact .inl (by rfl) | exact .inr (by simp) | exact .inr (by omega)) ?_ | refine ko_wor (by rfl) ?_ | refine ko_wos (by simp) ?_)); (case hn => first | exact Nat.le_refl _ | (simp; done) | (simp; omega)); (case hs => simp); (case hb => simp); (case ls => simp (disch := omega) [wrp]); (case lb => simp); (case mu => first | (simp; omega) | (simp; done) | omega | (simp only; omega)); (case' rel' => (try simp only); (try exact trivial)))
    intro h; cases h
  all_goals first
    | exact .refl _
    | exact absurd (allF_err (by assumption)) (by assumption)
    | (refine le_of_eq ?_; rw [allF_err (l := m) (by assumption)]; simp; done)
    | (rw [hp q1 q2 q3 q4]; refine le_of_eq ?_; simp; done)
    | (have e : (allF (l ++ m)).2 = 0 := by rw [hp q1 q2 q3 q4]
       exact absurd e (by assumption))
theorem law_frameParts (args : List AV) (h : ReadsArgs [.sl 7 48 (.agg [.int .i64, .agg [.int .i64, .int .i64, .bool, .bool, .bool, .str]]), .sl 7 48 (.agg [.int .i64, .agg [.int .i64, .int .i64, .bool, .bool, .bool, .str]])] args) (_ : True) : PSpec Try.prog 8 args (B true) := by
  obtain ⟨_, _, rfl, h2, _, _, rfl, h3, rfl⟩ := h
  obtain ⟨l, rfl, hl, _⟩ := reads_slts h2
  obtain ⟨m, rfl, hm, _⟩ := reads_slts h3
  exact c_frameParts l m (by omega) (by omega)
end Go.Proofs.Ytapgdbjlgebjmaa

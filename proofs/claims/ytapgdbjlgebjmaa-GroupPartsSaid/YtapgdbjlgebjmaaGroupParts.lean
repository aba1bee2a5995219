/- GroupParts, walked. No condition. -/
import Derived.Test.YtapgdbjlgebjmaaGroupLaw
namespace Go.Proofs.Ytapgdbjlgebjmaa
open Go Go.Sy
set_option maxRecDepth 4000
set_option linter.unusedSimpArgs false
set_option linter.unusedVariables false
attribute [local irreducible] Reg RegD Later Out CallV Tri Side EqV
theorem eachG_app : ∀ (l m : List Fr) (g : List Fr) (done : List (List Fr)), (eachG g done l).2.2 = 0 → eachG g done (l ++ m) = eachG (eachG g done l).1 (eachG g done l).2.1 m
  | [], m, g, done, _ => rfl
  | x :: l, m, g, done, h => by
    rw [eachG] at h
    by_cases hx : frameE x = 0
    · rw [if_pos hx] at h
      simp only [List.cons_append, eachG, if_pos hx]
      exact eachG_app l m _ _ h
    · rw [if_neg hx] at h; exact absurd h hx
theorem doneS_pre (g : List Fr) (d done : List (List Fr)) (f : Fr) : doneS g (d ++ done) f = d ++ doneS g done f := by
  unfold doneS; split <;> simp
theorem eachG_pre : ∀ (l : List Fr) (g : List Fr) (d done : List (List Fr)), eachG g (d ++ done) l = ((eachG g done l).1, d ++ (eachG g done l).2.1, (eachG g done l).2.2)
  | [], _, _, _ => rfl
  | x :: l, g, d, done => by
    simp only [eachG]
    split
    · rw [doneS_pre]; exact eachG_pre l _ _ _
    · rfl
theorem eachG_key {x : Fr} {m : List Fr} (hk : x.key = true) (g : List Fr) (done : List (List Fr)) : eachG g done (x :: m) = ((eachG [] [] (x :: m)).1, (if frameE x = 0 then withOpen done g else done) ++ (eachG [] [] (x :: m)).2.1, (eachG [] [] (x :: m)).2.2) ∨ ¬ frameE x = 0 := by
  by_cases hx : frameE x = 0
  · left
    have e1 : ∀ g, growS g x = [x] := fun g => if_pos hk
    have e2 : doneS g done x = withOpen done g := by unfold doneS withOpen; simp [hk]
    have e3 : doneS [] [] x = [] := by simp [doneS]
    simp only [eachG, if_pos hx, e1, e2, e3]
    have := eachG_pre m [x] (withOpen done g) []
    rwa [List.append_nil] at this
  · exact .inr hx
theorem allG_le {l : List Fr} (h : l.length ≤ 100) : allG l = if (eachG [] [] l).2.2 = 0 then ((eachG [] [] l).2.1, (eachG [] [] l).1, 0) else ([], [], (eachG [] [] l).2.2) := by
  unfold allG; rw [if_neg (by omega)]
theorem allG_zero {l : List Fr} (h : l.length ≤ 100) (h2 : (allG l).2.2 = 0) : (eachG [] [] l).2.2 = 0 ∧ allG l = ((eachG [] [] l).2.1, (eachG [] [] l).1, 0) := by
  rw [allG_le h] at h2 ⊢
  by_cases q : (eachG [] [] l).2.2 = 0
  · rw [if_pos q]; exact ⟨q, rfl⟩
  · rw [if_neg q] at h2; exact absurd h2 q
theorem allG_parts {l m : List Fr} {x : Fr} (h1 : (allG l).2.2 = 0) (h2 : (allG m).2.2 = 0) (h3 : l.length + m.length ≤ 100) (hx : m[0]? = some x) (hk : x.key = true) : allG (l ++ m) = (withOpen (allG l).1 (allG l).2.1 ++ (allG m).1, (allG m).2.1, 0) := by
  obtain ⟨q1, r1⟩ := allG_zero (by omega) h1
  obtain ⟨q2, r2⟩ := allG_zero (by omega) h2
  rw [r1, r2, allG_le (by rw [List.length_append]; omega), eachG_app _ _ _ _ q1]
  cases m with
  | nil => simp at hx
  | cons y m =>
    simp at hx; subst hx
    rcases eachG_key (m := m) hk (eachG [] [] l).1 (eachG [] [] l).2.1 with e | e
    · have hy : frameE y = 0 := by
        by_cases hy : frameE y = 0
        · exact hy
        · rw [eachG, if_neg hy] at q2; exact absurd q2 hy
      rw [if_pos hy] at e
      rw [e]
      simp only [q2, if_true]
    · exfalso; rw [eachG, if_neg e] at q2; exact e q2
theorem Fits.app {l m : List Fr} (h1 : Fits l) (h2 : Fits m) (h : l.length + m.length ≤ 100) : Fits (l ++ m) := ⟨by rw [List.length_append]; omega, fun f hf => by rcases List.mem_append.1 hf with h | h; exact h1.2 f h; exact h2.2 f h⟩
set_option maxHeartbeats 4000000 in
theorem c_groupParts (l m : List Fr) (hl : Fits l) (hm : Fits m) : PSpec Try.prog 5 [frs l, frs m] (B true) := by
  refine v_pspec Try.func5 rfl Try.ntmps5 Try.results5 (by simp) (by first | exact .s _ | repeat constructor) ?_
  have hl1 := hl.1
  have hm1 := hm.1
  have e1 : 0 < (allG l).2.1.length → withOpen (allG l).1 (allG l).2.1 = (allG l).1 ++ [(allG l).2.1] := fun h => if_pos h
  have e2 : (allG l).2.1 = [] → withOpen (allG l).1 (allG l).2.1 = (allG l).1 := fun h => if_neg (by simp [h])
  have hp : ∀ x, m[0]? = some x → x.key = true → l.length + m.length ≤ 100 → (allG l).2.2 = 0 → (allG m).2.2 = 0 → allG (l ++ m) = (withOpen (allG l).1 (allG l).2.1 ++ (allG m).1, (allG m).2.1, 0) := fun x h1 h2 h3 h4 h5 => allG_parts h4 h5 h3 h1 h2
  obtain ⟨hml, hml2⟩ := allG_made l
  obtain ⟨hmm, hmm2⟩ := allG_made m
  have hn : (withOpen (allG l).1 (allG l).2.1).length ≤ 101 := by unfold withOpen; split <;> (try simp only [List.length_append, List.length_cons, List.length_nil]) <;> omega
  generalize withOpen (allG l).1 (allG l).2.1 = W at e1 e2 hp hn
  repeat' (first
    | ((first | with_reducible refine w_cut (x := .cond (.tmp 70) _ _) (X := Unit) [13, 67, 68, 69, 70, 71, 72, 73, 74] (fun _ => [(13, .osl 1008 1 (rowG W))]) (fun _ => [(1008, .perm 24 1 W.length)]) (fun _ => True) ?_ ?_ | with_reducible refine w_cut (x := .seq (.region _ _ _) (.cond (.tmp 70) _ _)) (X := Unit) [13, 67, 68, 69, 70, 71, 72, 73, 74] (fun _ => [(13, .osl 1008 1 (rowG W))]) (fun _ => [(1008, .perm 24 1 W.length)]) (fun _ => True) ?_ ?_); (try (rintro z hz; simp only at hz)))
    | (with_reducible first | refine go_later ?_ | (refine h0 _ _ ?_; clear h0 hw) | (refine hw _ _ _ ?_; clear h0 hw) | refine go_ret ?_ | refine go_skip ?_ | refine go_block ?_ | refine go_exit ?_ | refine out_seq_ret ?_ | refine out_seq_normal ?_ | refine out_seq_exit ?_ | refine out_block_ret ?_ | refine out_block_normal ?_ | refine out_block_here ?_ | refine out_loop_ret ?_ | refine out_loop_exit ?_ | refine out_loopR_ret ?_ | refine out_loopR_exit ?_ | (refine hL _ ?_; clear hL))
    | (with_reducible first | refine w_reg (by decide +kernel) fun K1 hK => ?_ | refine w_reg_end (by decide +kernel) fun K1 hK => ?_)
    | ((with_reducible first | apply d_reg Try.mix (by decide +kernel) | apply d_reg_end Try.mix (by decide +kernel)); (case hm => simp only [List.length_cons, List.length_nil, Nat.reduceAdd, Nat.reduceMul]; rfl); (case' h => intro K1 hK))
    | with_reducible refine go_seq ?_
    | ((with_reducible first | apply v_op Try.tab | apply v_op0 Try.tab | apply d_op Try.tab | apply d_op0 Try.tab) <;> first | (intro K' h0 hw; conv => whnf) | (simp only [Nat.reduceAdd, Nat.reduceMul]; rfl))
    | ((with_reducible apply v_nil); (case hm => (simp only [Nat.reduceAdd, Nat.reduceMul]; rfl)); (case' h => with_reducible refine hK _ ?_; clear hK))
    | ((with_reducible apply d_nil); (refine hK _ _ _ _ (by first | decide +kernel | (simp only [List.map_cons, List.map_nil, List.nil_append, List.cons_append]; decide +kernel) | rfl) ?_; clear hK))
    | (first | refine d_grd_yes (by rfl) (by rfl) ?_ | refine v_grd_yes (by rfl) (by rfl) ?_)
    | (apply d_grd_no; (case hg => rfl); (case hb => rfl); (case hi => (simp only [Nat.reduceAdd, Nat.reduceMul]; rfl)))
    | (apply d_grd_undef; (case hg => rfl); (case hb => rfl); (case hi => (simp only [Nat.reduceAdd, Nat.reduceMul]; rfl)))
    | (apply d_grd; (case hg => rfl); (case hb => rfl); (case hi => (simp only [Nat.reduceAdd, Nat.reduceMul]; rfl)))
    | (apply v_grd_no; (case hg => rfl); (case hb => rfl); (case hi => (simp only [Nat.reduceAdd, Nat.reduceMul]; rfl)))
    | (apply v_grd_undef; (case hg => rfl); (case hb => rfl); (case hi => (simp only [Nat.reduceAdd, Nat.reduceMul]; rfl)))
    | (apply v_grd; (case hg => rfl); (case hb => rfl); (case hi => (simp only [Nat.reduceAdd, Nat.reduceMul]; rfl)))
    | ((with_reducible refine callV_id (f := 16) ?_); have hcs_ := c_allG l hl; (with_reducible apply callV_f own16 (hcs_)); (case hx => rfl); (case he => rfl); (case hle => first | ((repeat constructor); done) | (simp [allT]; done)); (case hpu => repeat constructor); (case' hK => (try clear hcs_); conv => whnf))
    | ((with_reducible refine callV_id (f := 16) ?_); have hcs_ := c_allG m hm; (with_reducible apply callV_f own16 (hcs_)); (case hx => rfl); (case he => rfl); (case hle => first | ((repeat constructor); done) | (simp [allT]; done)); (case hpu => repeat constructor); (case' hK => (try clear hcs_); conv => whnf))
    | ((with_reducible refine callV_id (f := 16) ?_); have hcs_ := c_allG (l ++ m) (hl.app hm (by omega)); (with_reducible apply callV_f own16 (hcs_)); (case hx => rfl); (case he => rfl); (case hle => first | ((repeat constructor); done) | (simp [allT]; done)); (case hpu => repeat constructor); (case' hK => (try clear hcs_); conv => whnf))
    | ((with_reducible refine callV_id (f := 20) ?_); have hcs_ := c_groupBegun; (with_reducible apply callV_f own20 (hcs_)); (case hx => rfl); (case he => rfl); (case hle => first | ((repeat constructor); done) | (simp [allT]; done)); (case hpu => repeat constructor); (case' hK => (try clear hcs_); conv => whnf))
    | ((with_reducible refine callV_id (f := 22) ?_); have hcs_ := c_sameGroups (allG (l ++ m)).1 (W ++ (allG m).1) (allG_fits (hl.app hm (by omega))).1.1 (allG_fits (hl.app hm (by omega))).1.2; (with_reducible apply callV_f own22 (hcs_)); (case hx => rfl); (case he => rfl); (case hle => first | ((repeat constructor); done) | (simp [allT]; done)); (case hpu => repeat constructor); (case' hK => (try clear hcs_); conv => whnf))
    | ((with_reducible refine callV_id (f := 23) ?_); have hcs_ := c_sameFrames (allG m).2.1 (allG (l ++ m)).2.1 (allG_fits hm).2.1 (allG_fits hm).2.2; (with_reducible apply callV_f own23 (hcs_)); (case hx => rfl); (case he => rfl); (case hle => first | ((repeat constructor); done) | (simp [allT]; done)); (case hpu => repeat constructor); (case' hK => (try clear hcs_); conv => whnf))
    | ((with_reducible apply go_cond); (case hb => rfl))
    | ((with_reducible apply out_block_there); (case hne => rfl))
    | ((with_reducible first | refine w_ret Try.tab fun K' hL => ?_ | refine w_ret_end Try.tab fun K' hL => ?_); (conv => whnf))
    | ((with_reducible apply And.intro); (case' right => try (conv => whnf)); (case' left => try first | rfl | decide | (simp [allT]; done)))
    | ((with_reducible apply Side.mk); (try simp (disch := omega) only [wrp]); (try simp); (try omega))
    | ((with_reducible apply all_rk); (case hx => with_reducible assumption); (conv => whnf))
    | ((with_reducible refine all_row ?_); (first | (have _y := hx5; clear _y; intro x6 hx6) | (have _y := hx4; clear _y; intro x5 hx5) | (have _y := hx3; clear _y; intro x4 hx4) | (have _y := hx2; clear _y; intro x3 hx3) | (have _y := hx1; clear _y; intro x2 hx2) | (intro x1 hx1)); conv => whnf)
    | (refine ⟨_, eqAT (by rfl) (by rfl) (by rfl) (by rfl), ?_⟩; conv => whnf)
    | ((first | (have _y := g15; clear _y; intro g16; try simp at g16; try simp (disch := omega) only [wrp] at g16) | (have _y := g14; clear _y; intro g15; try simp at g15; try simp (disch := omega) only [wrp] at g15) | (have _y := g13; clear _y; intro g14; try simp at g14; try simp (disch := omega) only [wrp] at g14) | (have _y := g12; clear _y; intro g13; try simp at g13; try simp (disch := omega) only [wrp] at g13) | (have _y := g11; clear _y; intro g12; try simp at g12; try simp (disch := omega) only [wrp] at g12) | (have _y := g10; clear _y; intro g11; try simp at g11; try simp (disch := omega) only [wrp] at g11) | (have _y := g9; clear _y; intro g10; try simp at g10; try simp (disch := omega) only [wrp] at g10) | (have _y := g8; clear _y; intro g9; try simp at g9; try simp (disch := omega) only [wrp] at g9) | (have _y := g7; clear _y; intro g8; try simp at g8; try simp (disch := omega) only [wrp] at g8) | (have _y := g6; clear _y; intro g7; try simp at g7; try simp (disch := omega) only [wrp] at g7) | (have _y := g5; clear _y; intro g6; try simp at g6; try simp (disch := omega) only [wrp] at g6) | (have _y := g4; clear _y; intro g5; try simp at g5; try simp (disch := omega) only [wrp] at g5) | (have _y := g3; clear _y; intro g4; try simp at g4; try simp (disch := omega) only [wrp] at g4) | (have _y := g2; clear _y; intro g3; try simp at g3; try simp (disch := omega) only [wrp] at g3) | (have _y := g1; clear _y; intro g2; try simp at g2; try simp (disch := omega) only [wrp] at g2) | (intro g1; try simp at g1; try simp (disch := omega) only [wrp] at g1))))
  · exact List.length_pos_iff.2 (by assumption)
  · simp
  · have e := e1 g7
    ((with_reducible apply w_next (())); (case kt => first | exact kt_refl | (repeat (first | exact kt_refl | refine kt_wr (by rfl) ?_ | refine kt_jnk (by rfl) ?_ | refine kt_wrs (by rfl) ?_))); (case ko => repeat (first | exact ko_refl | refine ko_wo (by first | exact .inl (by rfl) | exact .inr (by simp) | exact .inr (by omega)) ?_ | refine ko_wor (by rfl) ?_ | refine ko_wos (by simp) ?_)); (case hn => first | exact Nat.le_refl _ | (simp; done) | (simp; omega)); (case hs => simp [e]); (case hb => simp [e]); (case ls => simp (disch := omega) [e, wrp]); (case lb => simp [e]); (case mu => first | (simp; omega) | (simp; done) | omega | (simp only; omega)); (case' rel' => (try simp only); (try exact trivial)))
  · have e := e2 g7
    ((with_reducible apply w_next (())); (case kt => first | exact kt_refl | (repeat (first | exact kt_refl | refine kt_wr (by rfl) ?_ | refine kt_jnk (by rfl) ?_ | refine kt_wrs (by rfl) ?_))); (case ko => repeat (first | exact ko_refl | refine ko_wo (by first | exact .inl (by rfl) | exact .inr (by simp) | exact .inr (by omega)) ?_ | refine ko_wor (by rfl) ?_ | refine ko_wos (by simp) ?_)); (case hn => first | exact Nat.le_refl _ | (simp; done) | (simp; omega)); (case hs => simp [e]); (case hb => simp [e]); (case ls => simp (disch := omega) [e, wrp]); (case lb => simp [e]); (case mu => first | (simp; omega) | (simp; done) | omega | (simp only; omega)); (case' rel' => (try simp only); (try exact trivial)))
  all_goals first | exact le_of_eq rfl | skip
  all_goals (have hpp := hp x1 (by simpa using hx1) g6 (by omega) (by assumption) (by assumption))
  · rw [hpp]; simp
  · exact absurd (by rw [hpp]) g10
  · exact absurd (by rw [hpp]) g9
theorem law_groupParts (args : List AV) (h : ReadsArgs [.sl 3 40 (.agg [.int .i64, .bool, .sl 1 16 .str]), .sl 3 40 (.agg [.int .i64, .bool, .sl 1 16 .str])] args) (_ : True) : PSpec Try.prog 5 args (B true) := by
  obtain ⟨_, _, rfl, h1, _, _, rfl, h2, rfl⟩ := h
  obtain ⟨l, rfl, hl⟩ := reads_frs h1
  obtain ⟨m, rfl, hm⟩ := reads_frs h2
  exact c_groupParts l m hl hm
end Go.Proofs.Ytapgdbjlgebjmaa

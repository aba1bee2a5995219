/- CountTells, walked. No condition. -/
import Derived.Test.YtgndmmbbhfmegaaCounter
import Derived.Test.YtgndmmbbhfmegaaSyX
namespace Go.Proofs.Ytgndmmbbhfmegaa
open Go Go.Sy
set_option maxRecDepth 4000
set_option linter.unusedSimpArgs false
set_option linter.unusedVariables false
attribute [local irreducible] Reg RegD Later Out CallV Tri Side
def tellsRel (last : Int) (l : List Int) (i : Nat) (a w : Int) (all : List Int) : Prop := if w = 0 then eachS a all (l.drop i) = eachS last [] l else (eachS last [] l).2.2 = w
theorem eachS_len : ∀ (l : List Int) (a : Int) (es : List Int), (eachS a es l).2.1.length ≤ es.length + l.length
  | [], _, _ => by simp [eachS]
  | n :: l, a, es => by
    have h := nextS_len a es n
    have h2 := eachS_len l (nextS a es n).1 (nextS a es n).2.1
    simp only [eachS, List.length_cons]
    split <;> omega
theorem allS_len (a : Int) (l : List Int) : (allS a l).1.length ≤ l.length := by
  have := eachS_len l a []
  simp at this
  unfold allS; split
  · exact this
  · simp
theorem tells_step {last : Int} {l : List Int} {i : Nat} {a : Int} {all : List Int} {x : Int} (hx : l[i]? = some x) (h : tellsRel last l i a 0 all) : tellsRel last l (i + 1) (unwrapS a x).1 (unwrapS a x).2 (all ++ [(unwrapS a x).1]) := by
  simp only [tellsRel, if_true] at h
  rw [drop_at hx, eachS] at h
  unfold tellsRel
  by_cases h0 : (unwrapS a x).2 = 0
  · simp [nextS, h0] at h; simp [h0, h]
  · simp [nextS, h0] at h; simp [h0, ← h]
theorem tells_end {last : Int} {l : List Int} {i : Nat} {a w : Int} {all : List Int} (h : tellsRel last l i a w all) (hi : l.length ≤ i ∨ w ≠ 0) : intsAreS (allS last l).1 (allS last l).2 w all = true := by
  unfold tellsRel at h
  by_cases h0 : w = 0
  · have hi : l.length ≤ i := by rcases hi with h | h; exact h; exact absurd h0 h
    rw [if_pos h0, List.drop_eq_nil_of_le hi, eachS] at h
    simp [intsAreS, allS, ← h, h0]
  · rw [if_neg h0] at h
    simp [intsAreS, allS, h, h0]
theorem right_tmod {n : Int} (h : rightB n = true) : n.tmod 65536 = n % 65536 := tmp (by simp [rightB] at h; omega)
set_option maxHeartbeats 400000 in
theorem c_countTells (n last seq : Int) (l : List Int) (hl : l.length ≤ 17592186043904) : PSpec Try.prog 3 [I n, I last, I seq, ints l] (B true) := by
  refine v_pspec Try.func3 rfl Try.ntmps3 Try.results3 (by simp) (by first | exact .s _ | repeat constructor) ?_
  repeat' (first
    | ((first | with_reducible refine w_cut (x := .cond (.tmp 43) _ _) (X := Unit) [15, 16, 42, 43, 44, 45] (fun _ => [(15, I (wrapS n).2), (16, I (wrapS n).1)]) (fun _ => []) (fun _ => True) ?_ ?_ | with_reducible refine w_cut (x := .seq (.region _ _ _) (.cond (.tmp 43) _ _)) (X := Unit) [15, 16, 42, 43, 44, 45] (fun _ => [(15, I (wrapS n).2), (16, I (wrapS n).1)]) (fun _ => []) (fun _ => True) ?_ ?_); (try (rintro z hz; simp only at hz)))
    | ((with_reducible apply w_ownNil 19 3 1); (case hs => rfl); (case hsz => decide); (case hm => (try simp only [Nat.reduceAdd, Nat.reduceMul]); exact rfl))
    | with_reducible refine go_later ?_
    | (with_reducible refine w_reg (by decide +kernel) fun K1 hK => ?_)
    | (with_reducible refine w_reg_end (by decide +kernel) fun K1 hK => ?_)
    | ((with_reducible apply d_reg Try.mix (by decide +kernel)); (case hm => simp only [List.length_cons, List.length_nil, Nat.reduceAdd, Nat.reduceMul]; exact rfl); (case' h => intro K1 hK))
    | ((with_reducible apply d_reg_end Try.mix (by decide +kernel)); (case hm => simp only [List.length_cons, List.length_nil, Nat.reduceAdd, Nat.reduceMul]; exact rfl); (case' h => intro K1 hK))
    | ((with_reducible apply v_op Try.tab); (case hnb => (try simp only [Nat.reduceAdd, Nat.reduceMul]); exact rfl); (case hi => (try simp only [Nat.reduceAdd, Nat.reduceMul]); exact rfl); (case' h => intro K' h0 hw; conv => whnf))
    | ((with_reducible apply v_op0 Try.tab); (case hnb => (try simp only [Nat.reduceAdd, Nat.reduceMul]); exact rfl); (case hi => (try simp only [Nat.reduceAdd, Nat.reduceMul]); exact rfl); (case' h => intro K' h0 hw; conv => whnf))
    | ((with_reducible apply d_op Try.tab); (case hnb => (try simp only [Nat.reduceAdd, Nat.reduceMul]); exact rfl); (case hi => (try simp only [Nat.reduceAdd, Nat.reduceMul]); exact rfl); (case' h => intro K' h0 hw; conv => whnf))
    | ((with_reducible apply d_op0 Try.tab); (case hnb => (try simp only [Nat.reduceAdd, Nat.reduceMul]); exact rfl); (case hi => (try simp only [Nat.reduceAdd, Nat.reduceMul]); exact rfl); (case' h => intro K' h0 hw; conv => whnf))
    | ((with_reducible apply v_nil); (case hm => (try simp only [Nat.reduceAdd, Nat.reduceMul]); exact rfl); (case' h => with_reducible refine hK _ ?_; clear hK))
    | (with_reducible refine h0 _ _ ?_; clear h0 hw)
    | (with_reducible refine hw _ _ _ ?_; clear h0 hw)
    | ((with_reducible apply d_nil); (refine hK _ _ _ _ (by decide +kernel) ?_; clear hK))
    | (refine d_grd_yes (by rfl) (by rfl) ?_)
    | ((apply d_grd_no); (case hg => rfl); (case hb => rfl); (case hi => (try simp only [Nat.reduceAdd, Nat.reduceMul]); exact rfl))
    | ((apply d_grd_undef); (case hg => rfl); (case hb => rfl); (case hi => (try simp only [Nat.reduceAdd, Nat.reduceMul]); exact rfl))
    | ((apply d_grd); (case hg => rfl); (case hb => rfl); (case hi => (try simp only [Nat.reduceAdd, Nat.reduceMul]); exact rfl))
    | (refine v_grd_yes (by rfl) (by rfl) ?_)
    | ((apply v_grd_no); (case hg => rfl); (case hb => rfl); (case hi => (try simp only [Nat.reduceAdd, Nat.reduceMul]); exact rfl))
    | ((apply v_grd_undef); (case hg => rfl); (case hb => rfl); (case hi => (try simp only [Nat.reduceAdd, Nat.reduceMul]); exact rfl))
    | ((apply v_grd); (case hg => rfl); (case hb => rfl); (case hi => (try simp only [Nat.reduceAdd, Nat.reduceMul]); exact rfl))
    | ((with_reducible apply callV_f own14 (c_wrap _)); (case hx => rfl); (case he => rfl); (case hle => first | ((repeat constructor); done) | (simp; done)); (case hpu => repeat constructor); (case' hK => conv => whnf))
    | ((with_reducible apply callV_f own15 (c_unwrap _ _)); (case hx => rfl); (case he => rfl); (case hle => first | ((repeat constructor); done) | (simp; done)); (case hpu => repeat constructor); (case' hK => conv => whnf))
    | ((with_reducible apply callV_f own16 (c_all last l hl)); (case hx => rfl); (case he => rfl); (case hle => first | ((repeat constructor); done) | (simp; done)); (case hpu => repeat constructor); (case' hK => conv => whnf))
    | ((with_reducible apply callV_f own17 (c_isN _)); (case hx => rfl); (case he => rfl); (case hle => first | ((repeat constructor); done) | (simp; done)); (case hpu => repeat constructor); (case' hK => conv => whnf))
    | ((with_reducible apply callV_f own18 (c_unwrapOf _ _)); (case hx => rfl); (case he => rfl); (case hle => first | ((repeat constructor); done) | (simp; done)); (case hpu => repeat constructor); (case' hK => conv => whnf))
    | ((with_reducible apply callV_f own19 (c_countBegun)); (case hx => rfl); (case he => rfl); (case hle => first | ((repeat constructor); done) | (simp; done)); (case hpu => repeat constructor); (case' hK => conv => whnf))
    | with_reducible refine go_ret ?_
    | with_reducible refine go_seq ?_
    | with_reducible refine go_skip ?_
    | with_reducible refine go_block ?_
    | with_reducible refine go_exit ?_
    | ((with_reducible apply go_cond); (case hb => rfl))
    | with_reducible refine out_seq_ret ?_
    | with_reducible refine out_seq_normal ?_
    | with_reducible refine out_seq_exit ?_
    | with_reducible refine out_block_ret ?_
    | with_reducible refine out_block_normal ?_
    | with_reducible refine out_block_here ?_
    | with_reducible refine out_loop_ret ?_
    | with_reducible refine out_loop_exit ?_
    | ((with_reducible apply out_block_there); (case hne => rfl))
    | ((with_reducible refine w_ret Try.tab fun K' hL => ?_); (conv => whnf))
    | ((with_reducible refine w_ret_end Try.tab fun K' hL => ?_); (conv => whnf))
    | (with_reducible refine hL _ ?_; clear hL)
    | ((with_reducible apply And.intro); (case' right => try (conv => whnf)); (case' left => try first | rfl | decide | (simp; done)))
    | ((with_reducible apply Side.mk); (try simp); (try omega))
    | ((with_reducible refine all_row ?_); (first | (have _y := hx5; clear _y; intro x6 hx6) | (have _y := hx4; clear _y; intro x5 hx5) | (have _y := hx3; clear _y; intro x4 hx4) | (have _y := hx2; clear _y; intro x3 hx3) | (have _y := hx1; clear _y; intro x2 hx2) | (intro x1 hx1)); conv => whnf)
    | ((first | (have _y := g11; clear _y; intro g12; try simp at g12) | (have _y := g10; clear _y; intro g11; try simp at g11) | (have _y := g9; clear _y; intro g10; try simp at g10) | (have _y := g8; clear _y; intro g9; try simp at g9) | (have _y := g7; clear _y; intro g8; try simp at g8) | (have _y := g6; clear _y; intro g7; try simp at g7) | (have _y := g5; clear _y; intro g6; try simp at g6) | (have _y := g4; clear _y; intro g5; try simp at g5) | (have _y := g3; clear _y; intro g4; try simp at g4) | (have _y := g2; clear _y; intro g3; try simp at g3) | (have _y := g1; clear _y; intro g2; try simp at g2) | (intro g1; try simp at g1))))
  · have h := right_tmod g1
    ((with_reducible apply w_next (())); (case kt => first | exact kt_refl | (repeat (first | exact kt_refl | refine kt_wr (by rfl) ?_ | refine kt_jnk (by rfl) ?_ | refine kt_wrs (by rfl) ?_))); (case ko => repeat (first | exact ko_refl | refine ko_wo (by first | exact .inl (by rfl) | exact .inr (by simp) | exact .inr (by omega)) ?_ | refine ko_wor (by rfl) ?_ | refine ko_wos (by simp) ?_)); (case hn => first | exact Nat.le_refl _ | (simp; done) | (simp; omega)); (case hs => simp [wrapS, g1, h]); (case hb => simp [wrapS, g1, h]); (case ls => simp (disch := omega) [wrapS, g1, h, wrp]); (case lb => simp [wrapS, g1, h]); (case mu => first | (simp; omega) | (simp; done) | omega | (simp only; omega)); (case' rel' => (try simp only); (try exact trivial)))
  · ((with_reducible apply w_next (())); (case kt => first | exact kt_refl | (repeat (first | exact kt_refl | refine kt_wr (by rfl) ?_ | refine kt_jnk (by rfl) ?_ | refine kt_wrs (by rfl) ?_))); (case ko => repeat (first | exact ko_refl | refine ko_wo (by first | exact .inl (by rfl) | exact .inr (by simp) | exact .inr (by omega)) ?_ | refine ko_wor (by rfl) ?_ | refine ko_wos (by simp) ?_)); (case hn => first | exact Nat.le_refl _ | (simp; done) | (simp; omega)); (case hs => simp [wrapS, g1]); (case hb => simp [wrapS, g1]); (case ls => simp (disch := omega) [wrapS, g1, wrp]); (case lb => simp [wrapS, g1]); (case mu => first | (simp; omega) | (simp; done) | omega | (simp only; omega)); (case' rel' => (try simp only); (try exact trivial)))
  refine w_loop (X := Nat × Int × Int × List Int) [19, 20, 21, 22, 23, 24, 53, 54, 55, 56, 57, 58, 59, 60, 61, 62, 63, 64, 65, 66, 67, 68, 69, 70, 71, 72, 73, 74, 75, 76, 77] (fun x => [(22, I x.1), (21, I x.2.1), (20, I x.2.2.1), (19, .osl 560 1 (rowI x.2.2.2))]) (fun x => [(560, .perm 3 1 x.2.2.2.length)]) (fun x => x.1 ≤ l.length ∧ x.2.2.2.length ≤ x.1 ∧ tellsRel last l x.1 x.2.1 x.2.2.1 x.2.2.2) (fun x => l.length - x.1) (0, last, 0, []) ?_ ?_ ?_
  · simp [tellsRel]
  · refine ⟨kt_refl, ko_refl, ?_, ?_, ?_, ?_, Nat.le_refl _⟩ <;> simp
  rintro ⟨i, a, w, all⟩ ⟨h1, h2, h3⟩
  simp only at h1 h2 h3
  have hal : (allS last l).1.length ≤ 17592186043904 := Nat.le_trans (allS_len _ _) hl
  repeat' (first
    | with_reducible refine go_later ?_
    | (with_reducible refine w_reg (by decide +kernel) fun K1 hK => ?_)
    | (with_reducible refine w_reg_end (by decide +kernel) fun K1 hK => ?_)
    | ((with_reducible apply d_reg Try.mix (by decide +kernel)); (case hm => simp only [List.length_cons, List.length_nil, Nat.reduceAdd, Nat.reduceMul]; exact rfl); (case' h => intro K1 hK))
    | ((with_reducible apply d_reg_end Try.mix (by decide +kernel)); (case hm => simp only [List.length_cons, List.length_nil, Nat.reduceAdd, Nat.reduceMul]; exact rfl); (case' h => intro K1 hK))
    | ((with_reducible apply v_op Try.tab); (case hnb => (try simp only [Nat.reduceAdd, Nat.reduceMul]); exact rfl); (case hi => (try simp only [Nat.reduceAdd, Nat.reduceMul]); exact rfl); (case' h => intro K' h0 hw; conv => whnf))
    | ((with_reducible apply v_op0 Try.tab); (case hnb => (try simp only [Nat.reduceAdd, Nat.reduceMul]); exact rfl); (case hi => (try simp only [Nat.reduceAdd, Nat.reduceMul]); exact rfl); (case' h => intro K' h0 hw; conv => whnf))
    | ((with_reducible apply d_op Try.tab); (case hnb => (try simp only [Nat.reduceAdd, Nat.reduceMul]); exact rfl); (case hi => (try simp only [Nat.reduceAdd, Nat.reduceMul]); exact rfl); (case' h => intro K' h0 hw; conv => whnf))
    | ((with_reducible apply d_op0 Try.tab); (case hnb => (try simp only [Nat.reduceAdd, Nat.reduceMul]); exact rfl); (case hi => (try simp only [Nat.reduceAdd, Nat.reduceMul]); exact rfl); (case' h => intro K' h0 hw; conv => whnf))
    | ((with_reducible apply v_nil); (case hm => (try simp only [Nat.reduceAdd, Nat.reduceMul]); exact rfl); (case' h => with_reducible refine hK _ ?_; clear hK))
    | (with_reducible refine h0 _ _ ?_; clear h0 hw)
    | (with_reducible refine hw _ _ _ ?_; clear h0 hw)
    | ((with_reducible apply d_nil); (refine hK _ _ _ _ (by decide +kernel) ?_; clear hK))
    | (refine d_grd_yes (by rfl) (by rfl) ?_)
    | ((apply d_grd_no); (case hg => rfl); (case hb => rfl); (case hi => (try simp only [Nat.reduceAdd, Nat.reduceMul]); exact rfl))
    | ((apply d_grd_undef); (case hg => rfl); (case hb => rfl); (case hi => (try simp only [Nat.reduceAdd, Nat.reduceMul]); exact rfl))
    | ((apply d_grd); (case hg => rfl); (case hb => rfl); (case hi => (try simp only [Nat.reduceAdd, Nat.reduceMul]); exact rfl))
    | (refine v_grd_yes (by rfl) (by rfl) ?_)
    | ((apply v_grd_no); (case hg => rfl); (case hb => rfl); (case hi => (try simp only [Nat.reduceAdd, Nat.reduceMul]); exact rfl))
    | ((apply v_grd_undef); (case hg => rfl); (case hb => rfl); (case hi => (try simp only [Nat.reduceAdd, Nat.reduceMul]); exact rfl))
    | ((apply v_grd); (case hg => rfl); (case hb => rfl); (case hi => (try simp only [Nat.reduceAdd, Nat.reduceMul]); exact rfl))
    | ((with_reducible apply callV_f own18 (c_unwrapOf _ _)); (case hx => rfl); (case he => rfl); (case hle => first | ((repeat constructor); done) | (simp; done)); (case hpu => repeat constructor); (case' hK => conv => whnf))
    | ((with_reducible apply callV_f own19 (c_countBegun)); (case hx => rfl); (case he => rfl); (case hle => first | ((repeat constructor); done) | (simp; done)); (case hpu => repeat constructor); (case' hK => conv => whnf))
    | ((with_reducible apply callV_f own20 (c_intsAre (allS last l).1 _ _ _ hal)); (case hx => rfl); (case he => rfl); (case hle => first | ((repeat constructor); done) | (simp; done)); (case hpu => repeat constructor); (case' hK => conv => whnf))
    | with_reducible refine go_ret ?_
    | with_reducible refine go_seq ?_
    | with_reducible refine go_skip ?_
    | with_reducible refine go_block ?_
    | with_reducible refine go_exit ?_
    | ((with_reducible apply go_cond); (case hb => rfl))
    | with_reducible refine out_seq_ret ?_
    | with_reducible refine out_seq_normal ?_
    | with_reducible refine out_seq_exit ?_
    | with_reducible refine out_block_ret ?_
    | with_reducible refine out_block_normal ?_
    | with_reducible refine out_block_here ?_
    | with_reducible refine out_loop_ret ?_
    | with_reducible refine out_loop_exit ?_
    | ((with_reducible apply out_block_there); (case hne => rfl))
    | ((with_reducible refine w_ret Try.tab fun K' hL => ?_); (conv => whnf))
    | ((with_reducible refine w_ret_end Try.tab fun K' hL => ?_); (conv => whnf))
    | (with_reducible refine hL _ ?_; clear hL)
    | ((with_reducible apply And.intro); (case' right => try (conv => whnf)); (case' left => try first | rfl | decide | (simp; done)))
    | ((with_reducible apply Side.mk); (try simp); (try omega))
    | ((with_reducible refine all_row ?_); (first | (have _y := hx5; clear _y; intro x6 hx6) | (have _y := hx4; clear _y; intro x5 hx5) | (have _y := hx3; clear _y; intro x4 hx4) | (have _y := hx2; clear _y; intro x3 hx3) | (have _y := hx1; clear _y; intro x2 hx2) | (intro x1 hx1)); conv => whnf)
    | ((first | (have _y := g11; clear _y; intro g12; try simp at g12) | (have _y := g10; clear _y; intro g11; try simp at g11) | (have _y := g9; clear _y; intro g10; try simp at g10) | (have _y := g8; clear _y; intro g9; try simp at g9) | (have _y := g7; clear _y; intro g8; try simp at g8) | (have _y := g6; clear _y; intro g7; try simp at g7) | (have _y := g5; clear _y; intro g6; try simp at g6) | (have _y := g4; clear _y; intro g5; try simp at g5) | (have _y := g3; clear _y; intro g4; try simp at g4) | (have _y := g2; clear _y; intro g3; try simp at g3) | (have _y := g1; clear _y; intro g2; try simp at g2) | (intro g1; try simp at g1))))
  · simp at hx1
    obtain rfl : w = 0 := by assumption
    ((with_reducible apply w_next ((i + 1, (unwrapS a x1).1, (unwrapS a x1).2, all ++ [(unwrapS a x1).1]))); (case kt => first | exact kt_refl | (repeat (first | exact kt_refl | refine kt_wr (by rfl) ?_ | refine kt_jnk (by rfl) ?_ | refine kt_wrs (by rfl) ?_))); (case ko => repeat (first | exact ko_refl | refine ko_wo (by first | exact .inl (by rfl) | exact .inr (by simp) | exact .inr (by omega)) ?_ | refine ko_wor (by rfl) ?_ | refine ko_wos (by simp) ?_)); (case hn => first | exact Nat.le_refl _ | (simp; done) | (simp; omega)); (case hs => simp); (case hb => simp); (case ls => simp (disch := omega) [wrp]); (case lb => simp); (case mu => first | (simp; omega) | (simp; done) | omega | (simp only; omega)); (case' rel' => (try simp only); (try exact trivial)))
    exact ⟨by omega, by simp; omega, tells_step hx1 h3⟩
  all_goals (rw [tells_end h3 (by omega)]; exact .refl _)
theorem law_countTells (args : List AV) (h : ReadsArgs [.int .i64, .int .i64, .int .i64, .sl 1 8 (.int .i64)] args) (_ : True) : PSpec Try.prog 3 args (B true) := by
  obtain ⟨_, _, rfl, ⟨n, ha, _⟩, _, _, rfl, ⟨last, hb, _⟩, _, _, rfl, ⟨seq, hc, _⟩, _, _, rfl, hd, rfl⟩ := h
  obtain ⟨l, hd, hl⟩ := reads_ints hd
  cases ha; cases hb; cases hc; subst hd
  exact c_countTells n last seq l (by omega)
end Go.Proofs.Ytgndmmbbhfmegaa

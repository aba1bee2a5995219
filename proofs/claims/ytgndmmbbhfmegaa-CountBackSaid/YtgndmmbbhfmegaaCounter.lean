/- The counter of package count, All, and what the laws on them call. No condition. -/
import Derived.Test.YtgndmmbbhfmegaaCount
import Derived.Test.YtgndmmbbhfmegaaSyU
namespace Go.Proofs.Ytgndmmbbhfmegaa
open Go Go.Sy
set_option maxRecDepth 4000
set_option linter.unusedSimpArgs false
set_option linter.unusedVariables false
attribute [local irreducible] Reg RegD Later Out CallV Tri Side
abbrev rowI (l : List Int) : List (List AV) := l.map fun n => [I n]
abbrev ints (l : List Int) : AV := .sl 1 (rowI l)
def nextS (last : Int) (es : List Int) (seq : Int) : Int × List Int × Int := if (unwrapS last seq).2 = 0 then ((unwrapS last seq).1, es ++ [(unwrapS last seq).1], 0) else (last, es, (unwrapS last seq).2)
def countObs (last : Int) (es : List Int) : List Ob := [.box [I last, .osl 1 1 (rowI es)], .perm 3 1 es.length]
set_option maxHeartbeats 400000 in
theorem c_next (last seq : Int) (es : List Int) (hes : es.length ≤ 17592186043904) : CSpec Try.prog 44 [.ptr 0 0, I seq] (countObs last es) (I (nextS last es seq).2.2) (countObs (nextS last es seq).1 (nextS last es seq).2.1) := by
  refine v_cspec Try.func44 rfl Try.ntmps44 Try.results44 (by simp) (k := 2) rfl ?_
  repeat' (first
    | with_reducible refine go_later ?_
    | (with_reducible refine w_reg (by decide +kernel) fun K1 hK => ?_)
    | (with_reducible refine w_reg_end (by decide +kernel) fun K1 hK => ?_)
    | ((with_reducible apply d_reg Try.mix (by decide +kernel)); (case hm => simp only [List.length_cons, List.length_nil, Nat.reduceAdd, Nat.reduceMul]; exact rfl); (case' h => intro K1 hK))
    | ((with_reducible apply d_reg_end Try.mix (by decide +kernel)); (case hm => simp only [List.length_cons, List.length_nil, Nat.reduceAdd, Nat.reduceMul]; exact rfl); (case' h => intro K1 hK))
    | ((with_reducible apply v_op Try.tab); (case hnb => (try simp only [Nat.reduceAdd, Nat.reduceMul]); exact rfl); (case hi => (try simp only [Nat.reduceAdd, Nat.reduceMul]); exact rfl); (case' h => intro K' h0 hw; conv => whnf))
    | ((with_reducible apply v_op0 Try.tab); (case hnb => (try simp only [Nat.reduceAdd, Nat.reduceMul]); exact rfl); (case hi => (try simp only [Nat.reduceAdd, Nat.reduceMul]); exact rfl); (case' h => intro K' h0 hw; conv => whnf))
    | ((with_reducible apply d_op Try.tab); (case hnb => (try simp only [Nat.reduceAdd, Nat.reduceMul]); exact rfl); (case hi => (try simp only [Nat.reduceAdd, Nat.reduceMul]); exact rfl); (case' h => intro K' h0 hw; conv => whnf))
    | ((with_reducible apply d_op0 Try.tab); (case hnb => (try simp only [Nat.reduceAdd, Nat.reduceMul]); exact rfl); (case hi => (try simp only [Nat.reduceAdd, Nat.reduceMul]); exact rfl); (case' h => intro K' h0 hw; conv => whnf))
    | ((with_reducible apply v_nil); (case hm => (try simp only [Nat.reduceAdd, Nat.reduceMul]); exact rfl); (case' h => with_reducible refine hK _ ?_; clear hK))
    | (with_reducible refine h0 _ _ ?_; clear h0 hw)
    | (with_reducible refine hw _ _ _ ?_; clear h0 hw)
    | ((with_reducible apply d_nil); (refine hK _ _ _ _ (by decide +kernel) ?_; clear hK))
    | (refine d_grd_yes (by rfl) (by rfl) ?_)
    | ((apply d_grd_no); (case hg => rfl); (case hb => rfl); (case hi => (try simp only [Nat.reduceAdd, Nat.reduceMul]); exact rfl))
    | ((apply d_grd_undef); (case hg => rfl); (case hb => rfl); (case hi => (try simp only [Nat.reduceAdd, Nat.reduceMul]); exact rfl))
    | ((apply d_grd); (case hg => rfl); (case hb => rfl); (case hi => (try simp only [Nat.reduceAdd, Nat.reduceMul]); exact rfl))
    | (refine v_grd_yes (by rfl) (by rfl) ?_)
    | ((apply v_grd_no); (case hg => rfl); (case hb => rfl); (case hi => (try simp only [Nat.reduceAdd, Nat.reduceMul]); exact rfl))
    | ((apply v_grd_undef); (case hg => rfl); (case hb => rfl); (case hi => (try simp only [Nat.reduceAdd, Nat.reduceMul]); exact rfl))
    | ((apply v_grd); (case hg => rfl); (case hb => rfl); (case hi => (try simp only [Nat.reduceAdd, Nat.reduceMul]); exact rfl))
    | ((with_reducible apply callV_f own15 (c_unwrap _ _)); (case hx => rfl); (case he => rfl); (case hle => first | ((repeat constructor); done) | (simp; done)); (case hpu => repeat constructor); (case' hK => conv => whnf))
    | with_reducible refine go_ret ?_
    | with_reducible refine go_seq ?_
    | with_reducible refine go_skip ?_
    | with_reducible refine go_block ?_
    | with_reducible refine go_exit ?_
    | ((with_reducible apply go_cond); (case hb => rfl))
    | with_reducible refine out_seq_ret ?_
    | with_reducible refine out_seq_normal ?_
    | with_reducible refine out_seq_exit ?_
    | with_reducible refine out_block_ret ?_
    | with_reducible refine out_block_normal ?_
    | with_reducible refine out_block_here ?_
    | with_reducible refine out_loop_ret ?_
    | with_reducible refine out_loop_exit ?_
    | ((with_reducible apply out_block_there); (case hne => rfl))
    | ((with_reducible refine w_ret Try.tab fun K' hL => ?_); (conv => whnf))
    | ((with_reducible refine w_ret_end Try.tab fun K' hL => ?_); (conv => whnf))
    | (with_reducible refine hL _ ?_; clear hL)
    | ((with_reducible apply And.intro); (case' right => try (conv => whnf)); (case' left => try first | rfl | decide | (simp [countObs]; done)))
    | ((with_reducible apply Side.mk); (try simp); (try omega))
    | ((with_reducible refine all_row ?_); (first | (have _y := hx5; clear _y; intro x6 hx6) | (have _y := hx4; clear _y; intro x5 hx5) | (have _y := hx3; clear _y; intro x4 hx4) | (have _y := hx2; clear _y; intro x3 hx3) | (have _y := hx1; clear _y; intro x2 hx2) | (intro x1 hx1)); conv => whnf)
    | ((first | (have _y := g11; clear _y; intro g12; try simp at g12) | (have _y := g10; clear _y; intro g11; try simp at g11) | (have _y := g9; clear _y; intro g10; try simp at g10) | (have _y := g8; clear _y; intro g9; try simp at g9) | (have _y := g7; clear _y; intro g8; try simp at g8) | (have _y := g6; clear _y; intro g7; try simp at g7) | (have _y := g5; clear _y; intro g6; try simp at g6) | (have _y := g4; clear _y; intro g5; try simp at g5) | (have _y := g3; clear _y; intro g4; try simp at g4) | (have _y := g2; clear _y; intro g3; try simp at g3) | (have _y := g1; clear _y; intro g2; try simp at g2) | (intro g1; try simp at g1))))
  all_goals (refine w_retO Try.tab [] rfl (by simp) (by simp) (fun K' hL => ?_) ?_ ?_ ?_; (conv => whnf); (refine hL _ ?_; clear hL); all_goals simp [nextS, countObs, *])
def countB (last : Int) (es : List Int) : List (Nat × Ob) := [(0, .box [I last, .osl 1 1 (rowI es)]), (1, .perm 3 1 es.length)]
def eachS : Int → List Int → List Int → Int × List Int × Int
  | last, es, [] => (last, es, 0)
  | last, es, n :: l => if (nextS last es n).2.2 = 0 then eachS (nextS last es n).1 (nextS last es n).2.1 l else nextS last es n
theorem nextS_len (last : Int) (es : List Int) (seq : Int) : (nextS last es seq).2.1.length ≤ es.length + 1 := by
  unfold nextS; split <;> simp
set_option maxHeartbeats 400000 in
theorem c_each (last : Int) (l : List Int) (es : List Int) (hes : es.length + l.length ≤ 17592186043904) : CSpec Try.prog 43 [ints l, .fn (.func 44) [.ptr 0 0] []] (countObs last es) (I (eachS last es l).2.2) (countObs (eachS last es l).1 (eachS last es l).2.1) := by
  refine v_cspec Try.func43 rfl Try.ntmps43 Try.results43 (by simp) (k := 2) rfl ?_
  repeat' (first
    | with_reducible refine go_later ?_
    | (with_reducible refine w_reg (by decide +kernel) fun K1 hK => ?_)
    | (with_reducible refine w_reg_end (by decide +kernel) fun K1 hK => ?_)
    | ((with_reducible apply d_reg Try.mix (by decide +kernel)); (case hm => simp only [List.length_cons, List.length_nil, Nat.reduceAdd, Nat.reduceMul]; exact rfl); (case' h => intro K1 hK))
    | ((with_reducible apply d_reg_end Try.mix (by decide +kernel)); (case hm => simp only [List.length_cons, List.length_nil, Nat.reduceAdd, Nat.reduceMul]; exact rfl); (case' h => intro K1 hK))
    | ((with_reducible apply v_op Try.tab); (case hnb => (try simp only [Nat.reduceAdd, Nat.reduceMul]); exact rfl); (case hi => (try simp only [Nat.reduceAdd, Nat.reduceMul]); exact rfl); (case' h => intro K' h0 hw; conv => whnf))
    | ((with_reducible apply v_op0 Try.tab); (case hnb => (try simp only [Nat.reduceAdd, Nat.reduceMul]); exact rfl); (case hi => (try simp only [Nat.reduceAdd, Nat.reduceMul]); exact rfl); (case' h => intro K' h0 hw; conv => whnf))
    | ((with_reducible apply d_op Try.tab); (case hnb => (try simp only [Nat.reduceAdd, Nat.reduceMul]); exact rfl); (case hi => (try simp only [Nat.reduceAdd, Nat.reduceMul]); exact rfl); (case' h => intro K' h0 hw; conv => whnf))
    | ((with_reducible apply d_op0 Try.tab); (case hnb => (try simp only [Nat.reduceAdd, Nat.reduceMul]); exact rfl); (case hi => (try simp only [Nat.reduceAdd, Nat.reduceMul]); exact rfl); (case' h => intro K' h0 hw; conv => whnf))
    | ((with_reducible apply v_nil); (case hm => (try simp only [Nat.reduceAdd, Nat.reduceMul]); exact rfl); (case' h => with_reducible refine hK _ ?_; clear hK))
    | (with_reducible refine h0 _ _ ?_; clear h0 hw)
    | (with_reducible refine hw _ _ _ ?_; clear h0 hw)
    | ((with_reducible apply d_nil); (refine hK _ _ _ _ (by decide +kernel) ?_; clear hK))
    | (refine d_grd_yes (by rfl) (by rfl) ?_)
    | ((apply d_grd_no); (case hg => rfl); (case hb => rfl); (case hi => (try simp only [Nat.reduceAdd, Nat.reduceMul]); exact rfl))
    | ((apply d_grd_undef); (case hg => rfl); (case hb => rfl); (case hi => (try simp only [Nat.reduceAdd, Nat.reduceMul]); exact rfl))
    | ((apply d_grd); (case hg => rfl); (case hb => rfl); (case hi => (try simp only [Nat.reduceAdd, Nat.reduceMul]); exact rfl))
    | (refine v_grd_yes (by rfl) (by rfl) ?_)
    | ((apply v_grd_no); (case hg => rfl); (case hb => rfl); (case hi => (try simp only [Nat.reduceAdd, Nat.reduceMul]); exact rfl))
    | ((apply v_grd_undef); (case hg => rfl); (case hb => rfl); (case hi => (try simp only [Nat.reduceAdd, Nat.reduceMul]); exact rfl))
    | ((apply v_grd); (case hg => rfl); (case hb => rfl); (case hi => (try simp only [Nat.reduceAdd, Nat.reduceMul]); exact rfl))
    | with_reducible refine go_ret ?_
    | with_reducible refine go_seq ?_
    | with_reducible refine go_skip ?_
    | with_reducible refine go_block ?_
    | with_reducible refine go_exit ?_
    | ((with_reducible apply go_cond); (case hb => rfl))
    | with_reducible refine out_seq_ret ?_
    | with_reducible refine out_seq_normal ?_
    | with_reducible refine out_seq_exit ?_
    | with_reducible refine out_block_ret ?_
    | with_reducible refine out_block_normal ?_
    | with_reducible refine out_block_here ?_
    | with_reducible refine out_loop_ret ?_
    | with_reducible refine out_loop_exit ?_
    | ((with_reducible apply out_block_there); (case hne => rfl))
    | ((with_reducible refine w_ret Try.tab fun K' hL => ?_); (conv => whnf))
    | ((with_reducible refine w_ret_end Try.tab fun K' hL => ?_); (conv => whnf))
    | (with_reducible refine hL _ ?_; clear hL)
    | ((with_reducible apply And.intro); (case' right => try (conv => whnf)); (case' left => try first | rfl | decide | (simp; done)))
    | ((with_reducible apply Side.mk); (try simp); (try omega))
    | ((with_reducible refine all_row ?_); (first | (have _y := hx5; clear _y; intro x6 hx6) | (have _y := hx4; clear _y; intro x5 hx5) | (have _y := hx3; clear _y; intro x4 hx4) | (have _y := hx2; clear _y; intro x3 hx3) | (have _y := hx1; clear _y; intro x2 hx2) | (intro x1 hx1)); conv => whnf)
    | ((first | (have _y := g11; clear _y; intro g12; try simp at g12) | (have _y := g10; clear _y; intro g11; try simp at g11) | (have _y := g9; clear _y; intro g10; try simp at g10) | (have _y := g8; clear _y; intro g9; try simp at g9) | (have _y := g7; clear _y; intro g8; try simp at g8) | (have _y := g6; clear _y; intro g7; try simp at g7) | (have _y := g5; clear _y; intro g6; try simp at g6) | (have _y := g4; clear _y; intro g5; try simp at g5) | (have _y := g3; clear _y; intro g4; try simp at g4) | (have _y := g2; clear _y; intro g3; try simp at g3) | (have _y := g1; clear _y; intro g2; try simp at g2) | (intro g1; try simp at g1))))
  refine w_loop (X := Nat × Int × List Int) [4, 6, 7, 10, 11, 12, 13, 14, 15, 16, 17, 18, 19, 20] (fun x => [(10, I x.1)]) (fun x => countB x.2.1 x.2.2) (fun x => x.1 ≤ l.length ∧ eachS x.2.1 x.2.2 (l.drop x.1) = eachS last es l ∧ x.2.2.length + (l.length - x.1) ≤ 17592186043904) (fun x => l.length - x.1) (0, last, es) ?_ ?_ ?_
  · simp; omega
  · refine ⟨kt_refl, ko_refl, ?_, ?_, ?_, ?_, Nat.le_refl _⟩ <;> simp [countB, countObs]
  rintro ⟨i, la, es'⟩ ⟨h1, h2, h3⟩
  have h4 : es'.length ≤ 17592186043904 := by simp at h3; omega
  simp only at h1 h2 h3
  repeat' (first
    | with_reducible refine go_later ?_
    | (with_reducible refine w_reg (by decide +kernel) fun K1 hK => ?_)
    | (with_reducible refine w_reg_end (by decide +kernel) fun K1 hK => ?_)
    | ((with_reducible apply d_reg Try.mix (by decide +kernel)); (case hm => simp only [List.length_cons, List.length_nil, Nat.reduceAdd, Nat.reduceMul]; exact rfl); (case' h => intro K1 hK))
    | ((with_reducible apply d_reg_end Try.mix (by decide +kernel)); (case hm => simp only [List.length_cons, List.length_nil, Nat.reduceAdd, Nat.reduceMul]; exact rfl); (case' h => intro K1 hK))
    | ((with_reducible apply v_op Try.tab); (case hnb => (try simp only [Nat.reduceAdd, Nat.reduceMul]); exact rfl); (case hi => (try simp only [Nat.reduceAdd, Nat.reduceMul]); exact rfl); (case' h => intro K' h0 hw; conv => whnf))
    | ((with_reducible apply v_op0 Try.tab); (case hnb => (try simp only [Nat.reduceAdd, Nat.reduceMul]); exact rfl); (case hi => (try simp only [Nat.reduceAdd, Nat.reduceMul]); exact rfl); (case' h => intro K' h0 hw; conv => whnf))
    | ((with_reducible apply d_op Try.tab); (case hnb => (try simp only [Nat.reduceAdd, Nat.reduceMul]); exact rfl); (case hi => (try simp only [Nat.reduceAdd, Nat.reduceMul]); exact rfl); (case' h => intro K' h0 hw; conv => whnf))
    | ((with_reducible apply d_op0 Try.tab); (case hnb => (try simp only [Nat.reduceAdd, Nat.reduceMul]); exact rfl); (case hi => (try simp only [Nat.reduceAdd, Nat.reduceMul]); exact rfl); (case' h => intro K' h0 hw; conv => whnf))
    | ((with_reducible apply v_nil); (case hm => (try simp only [Nat.reduceAdd, Nat.reduceMul]); exact rfl); (case' h => with_reducible refine hK _ ?_; clear hK))
    | (with_reducible refine h0 _ _ ?_; clear h0 hw)
    | (with_reducible refine hw _ _ _ ?_; clear h0 hw)
    | ((with_reducible apply d_nil); (refine hK _ _ _ _ (by decide +kernel) ?_; clear hK))
    | (refine d_grd_yes (by rfl) (by rfl) ?_)
    | ((apply d_grd_no); (case hg => rfl); (case hb => rfl); (case hi => (try simp only [Nat.reduceAdd, Nat.reduceMul]); exact rfl))
    | ((apply d_grd_undef); (case hg => rfl); (case hb => rfl); (case hi => (try simp only [Nat.reduceAdd, Nat.reduceMul]); exact rfl))
    | ((apply d_grd); (case hg => rfl); (case hb => rfl); (case hi => (try simp only [Nat.reduceAdd, Nat.reduceMul]); exact rfl))
    | (refine v_grd_yes (by rfl) (by rfl) ?_)
    | ((apply v_grd_no); (case hg => rfl); (case hb => rfl); (case hi => (try simp only [Nat.reduceAdd, Nat.reduceMul]); exact rfl))
    | ((apply v_grd_undef); (case hg => rfl); (case hb => rfl); (case hi => (try simp only [Nat.reduceAdd, Nat.reduceMul]); exact rfl))
    | ((apply v_grd); (case hg => rfl); (case hb => rfl); (case hi => (try simp only [Nat.reduceAdd, Nat.reduceMul]); exact rfl))
    | ((with_reducible apply w_callO [0, 1] own44 (c_next la _ _ h4)); (case hx => rfl); (case he => rfl); (case hle => first | ((repeat constructor); done) | (simp [countObs, countB]; done)); (case hm => rfl); (case hnd => decide); (case hm1 => simp [countObs, countB]); (case hm2 => simp [countObs, countB]); (case hlt => simp [countObs, countB]); (case hobs => simp [countObs, countB]); (case hobl => simp [countObs, countB]); (case' hK => conv => whnf))
    | with_reducible refine go_ret ?_
    | with_reducible refine go_seq ?_
    | with_reducible refine go_skip ?_
    | with_reducible refine go_block ?_
    | with_reducible refine go_exit ?_
    | ((with_reducible apply go_cond); (case hb => rfl))
    | with_reducible refine out_seq_ret ?_
    | with_reducible refine out_seq_normal ?_
    | with_reducible refine out_seq_exit ?_
    | with_reducible refine out_block_ret ?_
    | with_reducible refine out_block_normal ?_
    | with_reducible refine out_block_here ?_
    | with_reducible refine out_loop_ret ?_
    | with_reducible refine out_loop_exit ?_
    | ((with_reducible apply out_block_there); (case hne => rfl))
    | ((with_reducible refine w_ret Try.tab fun K' hL => ?_); (conv => whnf))
    | ((with_reducible refine w_ret_end Try.tab fun K' hL => ?_); (conv => whnf))
    | (with_reducible refine hL _ ?_; clear hL)
    | ((with_reducible apply And.intro); (case' right => try (conv => whnf)); (case' left => try first | rfl | decide | (simp [countObs, countB]; done)))
    | ((with_reducible apply Side.mk); (try simp); (try omega))
    | ((with_reducible refine all_row ?_); (first | (have _y := hx5; clear _y; intro x6 hx6) | (have _y := hx4; clear _y; intro x5 hx5) | (have _y := hx3; clear _y; intro x4 hx4) | (have _y := hx2; clear _y; intro x3 hx3) | (have _y := hx1; clear _y; intro x2 hx2) | (intro x1 hx1)); conv => whnf)
    | ((first | (have _y := g11; clear _y; intro g12; try simp at g12) | (have _y := g10; clear _y; intro g11; try simp at g11) | (have _y := g9; clear _y; intro g10; try simp at g10) | (have _y := g8; clear _y; intro g9; try simp at g9) | (have _y := g7; clear _y; intro g8; try simp at g8) | (have _y := g6; clear _y; intro g7; try simp at g7) | (have _y := g5; clear _y; intro g6; try simp at g6) | (have _y := g4; clear _y; intro g5; try simp at g5) | (have _y := g3; clear _y; intro g4; try simp at g4) | (have _y := g2; clear _y; intro g3; try simp at g3) | (have _y := g1; clear _y; intro g2; try simp at g2) | (intro g1; try simp at g1))))
  · have hd := drop_at (by simpa using hx1 : l[i]? = some x1)
    have he : eachS last es l = nextS la es' x1 := by rw [← h2, hd, eachS, if_neg g2]
    rw [he]
    (refine w_retO Try.tab [] rfl (by simp) (by simp) (fun K' hL => ?_) ?_ ?_ ?_; (conv => whnf); (refine hL _ ?_; clear hL); all_goals simp [countObs, countB])
  · have hd := drop_at (by simpa using hx1 : l[i]? = some x1)
    have he : eachS (nextS la es' x1).1 (nextS la es' x1).2.1 (l.drop (i + 1)) = eachS last es l := by rw [← h2, hd, eachS, if_pos g2]
    have hi : i < l.length := by rcases Nat.lt_or_ge i l.length with h | h; exact h; rw [List.drop_eq_nil_of_le h] at hd; cases hd
    have hl := nextS_len la es' x1
    ((with_reducible apply w_next ((i + 1, (nextS la es' x1).1, (nextS la es' x1).2.1))); (case kt => first | exact kt_refl | (repeat (first | exact kt_refl | refine kt_wr (by rfl) ?_ | refine kt_jnk (by rfl) ?_ | refine kt_wrs (by rfl) ?_))); (case ko => repeat (first | exact ko_refl | refine ko_wo (by first | exact .inl (by rfl) | exact .inr (by simp) | exact .inr (by omega)) ?_ | refine ko_wor (by rfl) ?_ | refine ko_wos (by simp) ?_)); (case hn => first | exact Nat.le_refl _ | (simp; done) | (simp; omega)); (case hs => simp [countObs, countB]); (case hb => simp [countObs, countB]); (case ls => simp (disch := omega) [countObs, countB, wrp]); (case lb => simp [countObs, countB]); (case mu => first | (simp; omega) | (simp; done) | omega | (simp only; omega)); (case' rel' => (try simp only); (try exact trivial)))
    exact ⟨hi, he, by omega⟩
  · have he : eachS last es l = (la, es', 0) := by rw [← h2, List.drop_eq_nil_of_le g1, eachS]
    rw [he]
    (refine w_retO Try.tab [] rfl (by simp) (by simp) (fun K' hL => ?_) ?_ ?_ ?_; (conv => whnf); (refine hL _ ?_; clear hL); all_goals simp [countObs, countB])
def allS (first : Int) (l : List Int) : List Int × Int := if (eachS first [] l).2.2 = 0 then ((eachS first [] l).2.1, 0) else ([], (eachS first [] l).2.2)
set_option maxHeartbeats 400000 in
theorem c_all (first : Int) (l : List Int) (hl : l.length ≤ 17592186043904) : PSpec Try.prog 16 [I first, ints l] (.tup [ints (allS first l).1, I (allS first l).2]) := by
  refine v_pspec Try.func16 rfl Try.ntmps16 Try.results16 (by simp) (by first | exact .s _ | repeat constructor) ?_
  repeat' (first
    | ((with_reducible apply w_ownCell 64 1 3 1); (case hb => rfl); (case hj => rfl); (case hsz => decide); (case hm => (try simp only [Nat.reduceAdd, Nat.reduceMul]); exact rfl))
    | with_reducible refine go_later ?_
    | (with_reducible refine w_reg (by decide +kernel) fun K1 hK => ?_)
    | (with_reducible refine w_reg_end (by decide +kernel) fun K1 hK => ?_)
    | ((with_reducible apply d_reg Try.mix (by decide +kernel)); (case hm => simp only [List.length_cons, List.length_nil, Nat.reduceAdd, Nat.reduceMul]; exact rfl); (case' h => intro K1 hK))
    | ((with_reducible apply d_reg_end Try.mix (by decide +kernel)); (case hm => simp only [List.length_cons, List.length_nil, Nat.reduceAdd, Nat.reduceMul]; exact rfl); (case' h => intro K1 hK))
    | ((with_reducible apply v_op Try.tab); (case hnb => (try simp only [Nat.reduceAdd, Nat.reduceMul]); exact rfl); (case hi => (try simp only [Nat.reduceAdd, Nat.reduceMul]); exact rfl); (case' h => intro K' h0 hw; conv => whnf))
    | ((with_reducible apply v_op0 Try.tab); (case hnb => (try simp only [Nat.reduceAdd, Nat.reduceMul]); exact rfl); (case hi => (try simp only [Nat.reduceAdd, Nat.reduceMul]); exact rfl); (case' h => intro K' h0 hw; conv => whnf))
    | ((with_reducible apply d_op Try.tab); (case hnb => (try simp only [Nat.reduceAdd, Nat.reduceMul]); exact rfl); (case hi => (try simp only [Nat.reduceAdd, Nat.reduceMul]); exact rfl); (case' h => intro K' h0 hw; conv => whnf))
    | ((with_reducible apply d_op0 Try.tab); (case hnb => (try simp only [Nat.reduceAdd, Nat.reduceMul]); exact rfl); (case hi => (try simp only [Nat.reduceAdd, Nat.reduceMul]); exact rfl); (case' h => intro K' h0 hw; conv => whnf))
    | ((with_reducible apply v_nil); (case hm => (try simp only [Nat.reduceAdd, Nat.reduceMul]); exact rfl); (case' h => with_reducible refine hK _ ?_; clear hK))
    | (with_reducible refine h0 _ _ ?_; clear h0 hw)
    | (with_reducible refine hw _ _ _ ?_; clear h0 hw)
    | ((with_reducible apply d_nil); (refine hK _ _ _ _ (by decide +kernel) ?_; clear hK))
    | (refine d_grd_yes (by rfl) (by rfl) ?_)
    | ((apply d_grd_no); (case hg => rfl); (case hb => rfl); (case hi => (try simp only [Nat.reduceAdd, Nat.reduceMul]); exact rfl))
    | ((apply d_grd_undef); (case hg => rfl); (case hb => rfl); (case hi => (try simp only [Nat.reduceAdd, Nat.reduceMul]); exact rfl))
    | ((apply d_grd); (case hg => rfl); (case hb => rfl); (case hi => (try simp only [Nat.reduceAdd, Nat.reduceMul]); exact rfl))
    | (refine v_grd_yes (by rfl) (by rfl) ?_)
    | ((apply v_grd_no); (case hg => rfl); (case hb => rfl); (case hi => (try simp only [Nat.reduceAdd, Nat.reduceMul]); exact rfl))
    | ((apply v_grd_undef); (case hg => rfl); (case hb => rfl); (case hi => (try simp only [Nat.reduceAdd, Nat.reduceMul]); exact rfl))
    | ((apply v_grd); (case hg => rfl); (case hb => rfl); (case hi => (try simp only [Nat.reduceAdd, Nat.reduceMul]); exact rfl))
    | ((with_reducible apply w_callO [64, 96] own43 (c_each first l [] (by simpa using hl))); (case hx => rfl); (case he => rfl); (case hle => first | ((repeat constructor); done) | (simp [countObs, countB]; done)); (case hm => rfl); (case hnd => decide); (case hm1 => simp [countObs, countB]); (case hm2 => simp [countObs, countB]); (case hlt => simp [countObs, countB]); (case hobs => simp [countObs, countB]); (case hobl => simp [countObs, countB]); (case' hK => conv => whnf))
    | with_reducible refine go_ret ?_
    | with_reducible refine go_seq ?_
    | with_reducible refine go_skip ?_
    | with_reducible refine go_block ?_
    | with_reducible refine go_exit ?_
    | ((with_reducible apply go_cond); (case hb => rfl))
    | with_reducible refine out_seq_ret ?_
    | with_reducible refine out_seq_normal ?_
    | with_reducible refine out_seq_exit ?_
    | with_reducible refine out_block_ret ?_
    | with_reducible refine out_block_normal ?_
    | with_reducible refine out_block_here ?_
    | with_reducible refine out_loop_ret ?_
    | with_reducible refine out_loop_exit ?_
    | ((with_reducible apply out_block_there); (case hne => rfl))
    | ((with_reducible refine w_ret Try.tab fun K' hL => ?_); (conv => whnf))
    | ((with_reducible refine w_ret_end Try.tab fun K' hL => ?_); (conv => whnf))
    | (with_reducible refine hL _ ?_; clear hL)
    | ((with_reducible apply And.intro); (case' right => try (conv => whnf)); (case' left => try first | rfl | decide | (simp [countObs, countB]; done)))
    | ((with_reducible apply Side.mk); (try simp); (try omega))
    | ((with_reducible refine all_row ?_); (first | (have _y := hx5; clear _y; intro x6 hx6) | (have _y := hx4; clear _y; intro x5 hx5) | (have _y := hx3; clear _y; intro x4 hx4) | (have _y := hx2; clear _y; intro x3 hx3) | (have _y := hx1; clear _y; intro x2 hx2) | (intro x1 hx1)); conv => whnf)
    | ((first | (have _y := g11; clear _y; intro g12; try simp at g12) | (have _y := g10; clear _y; intro g11; try simp at g11) | (have _y := g9; clear _y; intro g10; try simp at g10) | (have _y := g8; clear _y; intro g9; try simp at g9) | (have _y := g7; clear _y; intro g8; try simp at g8) | (have _y := g6; clear _y; intro g7; try simp at g7) | (have _y := g5; clear _y; intro g6; try simp at g6) | (have _y := g4; clear _y; intro g5; try simp at g5) | (have _y := g3; clear _y; intro g4; try simp at g4) | (have _y := g2; clear _y; intro g3; try simp at g3) | (have _y := g1; clear _y; intro g2; try simp at g2) | (intro g1; try simp at g1))))
  all_goals simp [allS, g1]
theorem u1 : PSpec Try.prog 15 [I 131071, I 3] (.tup [I 131075, I 0]) := by
  have h := c_unwrap 131071 3
  rwa [show unwrapS 131071 3 = (131075, 0) by decide +kernel] at h
theorem u2 : PSpec Try.prog 15 [I 131072, I 65535] (.tup [I 131071, I 0]) := by
  have h := c_unwrap 131072 65535
  rwa [show unwrapS 131072 65535 = (131071, 0) by decide +kernel] at h
theorem u3 : PSpec Try.prog 14 [I 131075] (.tup [I 3, I 0]) := by
  have h := c_wrap 131075
  rwa [show wrapS 131075 = (3, 0) by decide +kernel] at h
theorem u4 : PSpec Try.prog 16 [I 65536, ints [5, 65535, 1]] (.tup [ints [], I 3]) := by
  have h := c_all 65536 [5, 65535, 1] (by decide)
  rwa [show allS 65536 [5, 65535, 1] = ([], 3) by decide +kernel] at h
set_option maxHeartbeats 400000 in
theorem c_countBegun : PSpec Try.prog 19 [] (B true) := by
  refine v_pspec Try.func19 rfl Try.ntmps19 Try.results19 (by simp) (by first | exact .s _ | repeat constructor) ?_
  repeat' (first
    | with_reducible refine go_later ?_
    | (with_reducible refine w_reg (by decide +kernel) fun K1 hK => ?_)
    | (with_reducible refine w_reg_end (by decide +kernel) fun K1 hK => ?_)
    | ((with_reducible apply d_reg Try.mix (by decide +kernel)); (case hm => simp only [List.length_cons, List.length_nil, Nat.reduceAdd, Nat.reduceMul]; exact rfl); (case' h => intro K1 hK))
    | ((with_reducible apply d_reg_end Try.mix (by decide +kernel)); (case hm => simp only [List.length_cons, List.length_nil, Nat.reduceAdd, Nat.reduceMul]; exact rfl); (case' h => intro K1 hK))
    | ((with_reducible apply v_op Try.tab); (case hnb => (try simp only [Nat.reduceAdd, Nat.reduceMul]); exact rfl); (case hi => (try simp only [Nat.reduceAdd, Nat.reduceMul]); exact rfl); (case' h => intro K' h0 hw; conv => whnf))
    | ((with_reducible apply v_op0 Try.tab); (case hnb => (try simp only [Nat.reduceAdd, Nat.reduceMul]); exact rfl); (case hi => (try simp only [Nat.reduceAdd, Nat.reduceMul]); exact rfl); (case' h => intro K' h0 hw; conv => whnf))
    | ((with_reducible apply d_op Try.tab); (case hnb => (try simp only [Nat.reduceAdd, Nat.reduceMul]); exact rfl); (case hi => (try simp only [Nat.reduceAdd, Nat.reduceMul]); exact rfl); (case' h => intro K' h0 hw; conv => whnf))
    | ((with_reducible apply d_op0 Try.tab); (case hnb => (try simp only [Nat.reduceAdd, Nat.reduceMul]); exact rfl); (case hi => (try simp only [Nat.reduceAdd, Nat.reduceMul]); exact rfl); (case' h => intro K' h0 hw; conv => whnf))
    | ((with_reducible apply v_nil); (case hm => (try simp only [Nat.reduceAdd, Nat.reduceMul]); exact rfl); (case' h => with_reducible refine hK _ ?_; clear hK))
    | (with_reducible refine h0 _ _ ?_; clear h0 hw)
    | (with_reducible refine hw _ _ _ ?_; clear h0 hw)
    | ((with_reducible apply d_nil); (refine hK _ _ _ _ (by decide +kernel) ?_; clear hK))
    | (refine d_grd_yes (by rfl) (by rfl) ?_)
    | ((apply d_grd_no); (case hg => rfl); (case hb => rfl); (case hi => (try simp only [Nat.reduceAdd, Nat.reduceMul]); exact rfl))
    | ((apply d_grd_undef); (case hg => rfl); (case hb => rfl); (case hi => (try simp only [Nat.reduceAdd, Nat.reduceMul]); exact rfl))
    | ((apply d_grd); (case hg => rfl); (case hb => rfl); (case hi => (try simp only [Nat.reduceAdd, Nat.reduceMul]); exact rfl))
    | (refine v_grd_yes (by rfl) (by rfl) ?_)
    | ((apply v_grd_no); (case hg => rfl); (case hb => rfl); (case hi => (try simp only [Nat.reduceAdd, Nat.reduceMul]); exact rfl))
    | ((apply v_grd_undef); (case hg => rfl); (case hb => rfl); (case hi => (try simp only [Nat.reduceAdd, Nat.reduceMul]); exact rfl))
    | ((apply v_grd); (case hg => rfl); (case hb => rfl); (case hi => (try simp only [Nat.reduceAdd, Nat.reduceMul]); exact rfl))
    | ((with_reducible apply callV_f own15 (u1)); (case hx => rfl); (case he => rfl); (case hle => first | ((repeat constructor); done) | (simp; done)); (case hpu => repeat constructor); (case' hK => conv => whnf))
    | ((with_reducible apply callV_f own15 (u2)); (case hx => rfl); (case he => rfl); (case hle => first | ((repeat constructor); done) | (simp; done)); (case hpu => repeat constructor); (case' hK => conv => whnf))
    | ((with_reducible apply callV_f own14 (u3)); (case hx => rfl); (case he => rfl); (case hle => first | ((repeat constructor); done) | (simp; done)); (case hpu => repeat constructor); (case' hK => conv => whnf))
    | ((with_reducible apply callV_f own16 (u4)); (case hx => rfl); (case he => rfl); (case hle => first | ((repeat constructor); done) | (simp; done)); (case hpu => repeat constructor); (case' hK => conv => whnf))
    | with_reducible refine go_ret ?_
    | with_reducible refine go_seq ?_
    | with_reducible refine go_skip ?_
    | with_reducible refine go_block ?_
    | with_reducible refine go_exit ?_
    | ((with_reducible apply go_cond); (case hb => rfl))
    | with_reducible refine out_seq_ret ?_
    | with_reducible refine out_seq_normal ?_
    | with_reducible refine out_seq_exit ?_
    | with_reducible refine out_block_ret ?_
    | with_reducible refine out_block_normal ?_
    | with_reducible refine out_block_here ?_
    | with_reducible refine out_loop_ret ?_
    | with_reducible refine out_loop_exit ?_
    | ((with_reducible apply out_block_there); (case hne => rfl))
    | ((with_reducible refine w_ret Try.tab fun K' hL => ?_); (conv => whnf))
    | ((with_reducible refine w_ret_end Try.tab fun K' hL => ?_); (conv => whnf))
    | (with_reducible refine hL _ ?_; clear hL)
    | ((with_reducible apply And.intro); (case' right => try (conv => whnf)); (case' left => try first | rfl | decide | (simp; done)))
    | ((with_reducible apply Side.mk); (try simp); (try omega))
    | ((with_reducible refine all_row ?_); (first | (have _y := hx5; clear _y; intro x6 hx6) | (have _y := hx4; clear _y; intro x5 hx5) | (have _y := hx3; clear _y; intro x4 hx4) | (have _y := hx2; clear _y; intro x3 hx3) | (have _y := hx1; clear _y; intro x2 hx2) | (intro x1 hx1)); conv => whnf)
    | ((first | (have _y := g11; clear _y; intro g12; try simp at g12) | (have _y := g10; clear _y; intro g11; try simp at g11) | (have _y := g9; clear _y; intro g10; try simp at g10) | (have _y := g8; clear _y; intro g9; try simp at g9) | (have _y := g7; clear _y; intro g8; try simp at g8) | (have _y := g6; clear _y; intro g7; try simp at g7) | (have _y := g5; clear _y; intro g6; try simp at g6) | (have _y := g4; clear _y; intro g5; try simp at g5) | (have _y := g3; clear _y; intro g4; try simp at g4) | (have _y := g2; clear _y; intro g3; try simp at g3) | (have _y := g1; clear _y; intro g2; try simp at g2) | (intro g1; try simp at g1))))
  all_goals exact .refl _
def intsAreS (l : List Int) (e w : Int) (want : List Int) : Bool := decide (e = w ∧ l = if w = 0 then want else [])
set_option maxHeartbeats 400000 in
theorem c_intsAre (l : List Int) (e w : Int) (want : List Int) (hl : l.length ≤ 17592186043904) : PSpec Try.prog 20 [ints l, I e, I w, ints want] (B (intsAreS l e w want)) := by
  refine v_pspec Try.func20 rfl Try.ntmps20 Try.results20 (by simp) (by first | exact .s _ | repeat constructor) ?_
  generalize hu : (if w = 0 then want else []) = want'
  repeat' (first
    | ((first | with_reducible refine w_cut (x := .cond (.tmp 11) _ _) (X := Unit) [3, 10, 11] (fun _ => [(3, ints want')]) (fun _ => []) (fun _ => True) ?_ ?_ | with_reducible refine w_cut (x := .seq (.region _ _ _) (.cond (.tmp 11) _ _)) (X := Unit) [3, 10, 11] (fun _ => [(3, ints want')]) (fun _ => []) (fun _ => True) ?_ ?_); (try (rintro z hz; simp only at hz)))
    | with_reducible refine go_later ?_
    | (with_reducible refine w_reg (by decide +kernel) fun K1 hK => ?_)
    | (with_reducible refine w_reg_end (by decide +kernel) fun K1 hK => ?_)
    | ((with_reducible apply d_reg Try.mix (by decide +kernel)); (case hm => simp only [List.length_cons, List.length_nil, Nat.reduceAdd, Nat.reduceMul]; exact rfl); (case' h => intro K1 hK))
    | ((with_reducible apply d_reg_end Try.mix (by decide +kernel)); (case hm => simp only [List.length_cons, List.length_nil, Nat.reduceAdd, Nat.reduceMul]; exact rfl); (case' h => intro K1 hK))
    | ((with_reducible apply v_op Try.tab); (case hnb => (try simp only [Nat.reduceAdd, Nat.reduceMul]); exact rfl); (case hi => (try simp only [Nat.reduceAdd, Nat.reduceMul]); exact rfl); (case' h => intro K' h0 hw; conv => whnf))
    | ((with_reducible apply v_op0 Try.tab); (case hnb => (try simp only [Nat.reduceAdd, Nat.reduceMul]); exact rfl); (case hi => (try simp only [Nat.reduceAdd, Nat.reduceMul]); exact rfl); (case' h => intro K' h0 hw; conv => whnf))
    | ((with_reducible apply d_op Try.tab); (case hnb => (try simp only [Nat.reduceAdd, Nat.reduceMul]); exact rfl); (case hi => (try simp only [Nat.reduceAdd, Nat.reduceMul]); exact rfl); (case' h => intro K' h0 hw; conv => whnf))
    | ((with_reducible apply d_op0 Try.tab); (case hnb => (try simp only [Nat.reduceAdd, Nat.reduceMul]); exact rfl); (case hi => (try simp only [Nat.reduceAdd, Nat.reduceMul]); exact rfl); (case' h => intro K' h0 hw; conv => whnf))
    | ((with_reducible apply v_nil); (case hm => (try simp only [Nat.reduceAdd, Nat.reduceMul]); exact rfl); (case' h => with_reducible refine hK _ ?_; clear hK))
    | (with_reducible refine h0 _ _ ?_; clear h0 hw)
    | (with_reducible refine hw _ _ _ ?_; clear h0 hw)
    | ((with_reducible apply d_nil); (refine hK _ _ _ _ (by decide +kernel) ?_; clear hK))
    | (refine d_grd_yes (by rfl) (by rfl) ?_)
    | ((apply d_grd_no); (case hg => rfl); (case hb => rfl); (case hi => (try simp only [Nat.reduceAdd, Nat.reduceMul]); exact rfl))
    | ((apply d_grd_undef); (case hg => rfl); (case hb => rfl); (case hi => (try simp only [Nat.reduceAdd, Nat.reduceMul]); exact rfl))
    | ((apply d_grd); (case hg => rfl); (case hb => rfl); (case hi => (try simp only [Nat.reduceAdd, Nat.reduceMul]); exact rfl))
    | (refine v_grd_yes (by rfl) (by rfl) ?_)
    | ((apply v_grd_no); (case hg => rfl); (case hb => rfl); (case hi => (try simp only [Nat.reduceAdd, Nat.reduceMul]); exact rfl))
    | ((apply v_grd_undef); (case hg => rfl); (case hb => rfl); (case hi => (try simp only [Nat.reduceAdd, Nat.reduceMul]); exact rfl))
    | ((apply v_grd); (case hg => rfl); (case hb => rfl); (case hi => (try simp only [Nat.reduceAdd, Nat.reduceMul]); exact rfl))
    | with_reducible refine go_ret ?_
    | with_reducible refine go_seq ?_
    | with_reducible refine go_skip ?_
    | with_reducible refine go_block ?_
    | with_reducible refine go_exit ?_
    | ((with_reducible apply go_cond); (case hb => rfl))
    | with_reducible refine out_seq_ret ?_
    | with_reducible refine out_seq_normal ?_
    | with_reducible refine out_seq_exit ?_
    | with_reducible refine out_block_ret ?_
    | with_reducible refine out_block_normal ?_
    | with_reducible refine out_block_here ?_
    | with_reducible refine out_loop_ret ?_
    | with_reducible refine out_loop_exit ?_
    | ((with_reducible apply out_block_there); (case hne => rfl))
    | ((with_reducible refine w_ret Try.tab fun K' hL => ?_); (conv => whnf))
    | ((with_reducible refine w_ret_end Try.tab fun K' hL => ?_); (conv => whnf))
    | (with_reducible refine hL _ ?_; clear hL)
    | ((with_reducible apply And.intro); (case' right => try (conv => whnf)); (case' left => try first | rfl | decide | (simp; done)))
    | ((with_reducible apply Side.mk); (try simp); (try omega))
    | ((with_reducible refine all_row ?_); (first | (have _y := hx5; clear _y; intro x6 hx6) | (have _y := hx4; clear _y; intro x5 hx5) | (have _y := hx3; clear _y; intro x4 hx4) | (have _y := hx2; clear _y; intro x3 hx3) | (have _y := hx1; clear _y; intro x2 hx2) | (intro x1 hx1)); conv => whnf)
    | ((first | (have _y := g11; clear _y; intro g12; try simp at g12) | (have _y := g10; clear _y; intro g11; try simp at g11) | (have _y := g9; clear _y; intro g10; try simp at g10) | (have _y := g8; clear _y; intro g9; try simp at g9) | (have _y := g7; clear _y; intro g8; try simp at g8) | (have _y := g6; clear _y; intro g7; try simp at g7) | (have _y := g5; clear _y; intro g6; try simp at g6) | (have _y := g4; clear _y; intro g5; try simp at g5) | (have _y := g3; clear _y; intro g4; try simp at g4) | (have _y := g2; clear _y; intro g3; try simp at g3) | (have _y := g1; clear _y; intro g2; try simp at g2) | (intro g1; try simp at g1))))
  · ((with_reducible apply w_next (())); (case kt => first | exact kt_refl | (repeat (first | exact kt_refl | refine kt_wr (by rfl) ?_ | refine kt_jnk (by rfl) ?_ | refine kt_wrs (by rfl) ?_))); (case ko => repeat (first | exact ko_refl | refine ko_wo (by first | exact .inl (by rfl) | exact .inr (by simp) | exact .inr (by omega)) ?_ | refine ko_wor (by rfl) ?_ | refine ko_wos (by simp) ?_)); (case hn => first | exact Nat.le_refl _ | (simp; done) | (simp; omega)); (case hs => simp [← hu, g1]); (case hb => simp [← hu, g1]); (case ls => simp (disch := omega) [← hu, g1, wrp]); (case lb => simp [← hu, g1]); (case mu => first | (simp; omega) | (simp; done) | omega | (simp only; omega)); (case' rel' => (try simp only); (try exact trivial)))
  · ((with_reducible apply w_next (())); (case kt => first | exact kt_refl | (repeat (first | exact kt_refl | refine kt_wr (by rfl) ?_ | refine kt_jnk (by rfl) ?_ | refine kt_wrs (by rfl) ?_))); (case ko => repeat (first | exact ko_refl | refine ko_wo (by first | exact .inl (by rfl) | exact .inr (by simp) | exact .inr (by omega)) ?_ | refine ko_wor (by rfl) ?_ | refine ko_wos (by simp) ?_)); (case hn => first | exact Nat.le_refl _ | (simp; done) | (simp; omega)); (case hs => simp [← hu, g1]); (case hb => simp [← hu, g1]); (case ls => simp (disch := omega) [← hu, g1, wrp]); (case lb => simp [← hu, g1]); (case mu => first | (simp; omega) | (simp; done) | omega | (simp only; omega)); (case' rel' => (try simp only); (try exact trivial)))
  · refine le_of_eq ?_; simp [intsAreS, hu]; intro _ e'; subst e'; simp_all
  · refine w_loop (X := Nat) [8, 9, 22, 23, 24, 25, 26, 27, 28, 29, 30, 31, 32, 33, 34, 35, 36] (fun i => [(9, I i)]) (fun _ => []) (fun i => i ≤ l.length ∧ l.take i = want'.take i) (fun i => l.length - i) 0 (by simp) ?_ ?_
    · refine ⟨kt_refl, ko_refl, ?_, ?_, ?_, ?_, Nat.le_refl _⟩ <;> simp
    rintro i ⟨h1, h2⟩
    repeat' (first
    | with_reducible refine go_later ?_
    | (with_reducible refine w_reg (by decide +kernel) fun K1 hK => ?_)
    | (with_reducible refine w_reg_end (by decide +kernel) fun K1 hK => ?_)
    | ((with_reducible apply d_reg Try.mix (by decide +kernel)); (case hm => simp only [List.length_cons, List.length_nil, Nat.reduceAdd, Nat.reduceMul]; exact rfl); (case' h => intro K1 hK))
    | ((with_reducible apply d_reg_end Try.mix (by decide +kernel)); (case hm => simp only [List.length_cons, List.length_nil, Nat.reduceAdd, Nat.reduceMul]; exact rfl); (case' h => intro K1 hK))
    | ((with_reducible apply v_op Try.tab); (case hnb => (try simp only [Nat.reduceAdd, Nat.reduceMul]); exact rfl); (case hi => (try simp only [Nat.reduceAdd, Nat.reduceMul]); exact rfl); (case' h => intro K' h0 hw; conv => whnf))
    | ((with_reducible apply v_op0 Try.tab); (case hnb => (try simp only [Nat.reduceAdd, Nat.reduceMul]); exact rfl); (case hi => (try simp only [Nat.reduceAdd, Nat.reduceMul]); exact rfl); (case' h => intro K' h0 hw; conv => whnf))
    | ((with_reducible apply d_op Try.tab); (case hnb => (try simp only [Nat.reduceAdd, Nat.reduceMul]); exact rfl); (case hi => (try simp only [Nat.reduceAdd, Nat.reduceMul]); exact rfl); (case' h => intro K' h0 hw; conv => whnf))
    | ((with_reducible apply d_op0 Try.tab); (case hnb => (try simp only [Nat.reduceAdd, Nat.reduceMul]); exact rfl); (case hi => (try simp only [Nat.reduceAdd, Nat.reduceMul]); exact rfl); (case' h => intro K' h0 hw; conv => whnf))
    | ((with_reducible apply v_nil); (case hm => (try simp only [Nat.reduceAdd, Nat.reduceMul]); exact rfl); (case' h => with_reducible refine hK _ ?_; clear hK))
    | (with_reducible refine h0 _ _ ?_; clear h0 hw)
    | (with_reducible refine hw _ _ _ ?_; clear h0 hw)
    | ((with_reducible apply d_nil); (refine hK _ _ _ _ (by decide +kernel) ?_; clear hK))
    | (refine d_grd_yes (by rfl) (by rfl) ?_)
    | ((apply d_grd_no); (case hg => rfl); (case hb => rfl); (case hi => (try simp only [Nat.reduceAdd, Nat.reduceMul]); exact rfl))
    | ((apply d_grd_undef); (case hg => rfl); (case hb => rfl); (case hi => (try simp only [Nat.reduceAdd, Nat.reduceMul]); exact rfl))
    | ((apply d_grd); (case hg => rfl); (case hb => rfl); (case hi => (try simp only [Nat.reduceAdd, Nat.reduceMul]); exact rfl))
    | (refine v_grd_yes (by rfl) (by rfl) ?_)
    | ((apply v_grd_no); (case hg => rfl); (case hb => rfl); (case hi => (try simp only [Nat.reduceAdd, Nat.reduceMul]); exact rfl))
    | ((apply v_grd_undef); (case hg => rfl); (case hb => rfl); (case hi => (try simp only [Nat.reduceAdd, Nat.reduceMul]); exact rfl))
    | ((apply v_grd); (case hg => rfl); (case hb => rfl); (case hi => (try simp only [Nat.reduceAdd, Nat.reduceMul]); exact rfl))
    | with_reducible refine go_ret ?_
    | with_reducible refine go_seq ?_
    | with_reducible refine go_skip ?_
    | with_reducible refine go_block ?_
    | with_reducible refine go_exit ?_
    | ((with_reducible apply go_cond); (case hb => rfl))
    | with_reducible refine out_seq_ret ?_
    | with_reducible refine out_seq_normal ?_
    | with_reducible refine out_seq_exit ?_
    | with_reducible refine out_block_ret ?_
    | with_reducible refine out_block_normal ?_
    | with_reducible refine out_block_here ?_
    | with_reducible refine out_loop_ret ?_
    | with_reducible refine out_loop_exit ?_
    | ((with_reducible apply out_block_there); (case hne => rfl))
    | ((with_reducible refine w_ret Try.tab fun K' hL => ?_); (conv => whnf))
    | ((with_reducible refine w_ret_end Try.tab fun K' hL => ?_); (conv => whnf))
    | (with_reducible refine hL _ ?_; clear hL)
    | ((with_reducible apply And.intro); (case' right => try (conv => whnf)); (case' left => try first | rfl | decide | (simp; done)))
    | ((with_reducible apply Side.mk); (try simp); (try omega))
    | ((with_reducible refine all_row ?_); (first | (have _y := hx5; clear _y; intro x6 hx6) | (have _y := hx4; clear _y; intro x5 hx5) | (have _y := hx3; clear _y; intro x4 hx4) | (have _y := hx2; clear _y; intro x3 hx3) | (have _y := hx1; clear _y; intro x2 hx2) | (intro x1 hx1)); conv => whnf)
    | ((first | (have _y := g11; clear _y; intro g12; try simp at g12) | (have _y := g10; clear _y; intro g11; try simp at g11) | (have _y := g9; clear _y; intro g10; try simp at g10) | (have _y := g8; clear _y; intro g9; try simp at g9) | (have _y := g7; clear _y; intro g8; try simp at g8) | (have _y := g6; clear _y; intro g7; try simp at g7) | (have _y := g5; clear _y; intro g6; try simp at g6) | (have _y := g4; clear _y; intro g5; try simp at g5) | (have _y := g3; clear _y; intro g4; try simp at g4) | (have _y := g2; clear _y; intro g3; try simp at g3) | (have _y := g1; clear _y; intro g2; try simp at g2) | (intro g1; try simp at g1))))
    · simp at hx1 hx2
      refine le_of_eq ?_; simp [intsAreS, hu]; intro _ hl'; subst hl'; simp_all
    · simp at hx1 hx2
      ((with_reducible apply w_next ((i + 1))); (case kt => first | exact kt_refl | (repeat (first | exact kt_refl | refine kt_wr (by rfl) ?_ | refine kt_jnk (by rfl) ?_ | refine kt_wrs (by rfl) ?_))); (case ko => repeat (first | exact ko_refl | refine ko_wo (by first | exact .inl (by rfl) | exact .inr (by simp) | exact .inr (by omega)) ?_ | refine ko_wor (by rfl) ?_ | refine ko_wos (by simp) ?_)); (case hn => first | exact Nat.le_refl _ | (simp; done) | (simp; omega)); (case hs => simp); (case hb => simp); (case ls => simp (disch := omega) [wrp]); (case lb => simp); (case mu => first | (simp; omega) | (simp; done) | omega | (simp only; omega)); (case' rel' => (try simp only); (try exact trivial)))
      refine ⟨by omega, ?_⟩
      rw [take_at hx1, take_at hx2, h2]; simp_all
    · refine le_of_eq ?_
      have : l = want' := by rw [← List.take_of_length_le (l := l) (i := i) (by omega), h2]; exact List.take_of_length_le (by omega)
      simp [intsAreS, hu]; simp_all
  · refine le_of_eq ?_; simp [intsAreS]; intro e'; simp_all
end Go.Proofs.Ytgndmmbbhfmegaa

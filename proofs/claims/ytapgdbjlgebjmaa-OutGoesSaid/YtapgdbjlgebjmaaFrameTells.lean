/- FrameTells, walked. No condition. -/
import Derived.Test.YtapgdbjlgebjmaaFrame2
import Derived.Test.YtapgdbjlgebjmaaPic
namespace Go.Proofs.Ytapgdbjlgebjmaa
open Go Go.Sy
set_option maxRecDepth 4000
set_option linter.unusedSimpArgs false
set_option linter.unusedVariables false
attribute [local irreducible] Reg RegD Later Out CallV Tri Side EqV
theorem goB_ok : ∀ {l : List Slt} {p : Option Slt}, goB p l = 0 → ∀ f ∈ l, sltE f = 0
  | [], _, _ => by simp
  | f :: l, p, h => by
    rw [goB] at h
    by_cases h1 : sltE f = 0
    · rw [if_neg (by simp [h1])] at h
      split at h
      · cases h
      · intro x hx
        rcases List.mem_cons.1 hx with rfl | hx
        · exact h1
        · exact goB_ok h x hx
    · rw [if_pos h1] at h; exact absurd h h1
theorem buildE_ok {o : List Slt} (h : buildE o = 0) : OkO o := by
  unfold buildE at h
  split at h
  · cases h
  · exact ⟨by omega, goB_ok h⟩
def addE (o : List Slt) (x : Slt) : Int := if buildE o = 0 then sltE x else buildE o
def addR (o : List Slt) (x : Slt) : List Slt × Fr × Bool := if addE o x = 0 then addS o x else ([], fr0, false)
def addFT (o : List Slt) (x : Slt) : AV := .tup [.agg [slts (addR o x).1], .agg (frC (addR o x).2.1), B (addR o x).2.2, I (addE o x)]
theorem addE_ok {o : List Slt} {x : Slt} (h : addE o x = 0) : OkO o ∧ sltE x = 0 ∧ buildE o = 0 := by
  unfold addE at h
  by_cases h1 : buildE o = 0
  · rw [if_pos h1] at h; exact ⟨buildE_ok h1, h, h1⟩
  · rw [if_neg h1] at h; exact absurd h h1
set_option maxHeartbeats 1000000 in
theorem c_frameAdd (o : List Slt) (x : Slt) (ho : o.length ≤ 4000000000000) : PSpec Try.prog 25 [.agg [slts o], .agg (sltC x)] (addFT o x) := by
  refine v_pspec Try.func25 rfl Try.ntmps25 Try.results25 (by simp) (by repeat constructor) ?_
  repeat' (first
    | ((first | with_reducible refine w_cut (x := .cond (.tmp 15) _ _) (X := Unit) [8, 14, 15, 16, 17] (fun _ => [(8, I (addE o x))]) (fun _ => []) (fun _ => True) ?_ ?_ | with_reducible refine w_cut (x := .seq (.region _ _ _) (.cond (.tmp 15) _ _)) (X := Unit) [8, 14, 15, 16, 17] (fun _ => [(8, I (addE o x))]) (fun _ => []) (fun _ => True) ?_ ?_); (try (rintro z hz; simp only at hz)))
    | (with_reducible first | refine go_later ?_ | (refine h0 _ _ ?_; clear h0 hw) | (refine hw _ _ _ ?_; clear h0 hw) | refine go_ret ?_ | refine go_skip ?_ | refine go_block ?_ | refine go_exit ?_ | refine out_seq_ret ?_ | refine out_seq_normal ?_ | refine out_seq_exit ?_ | refine out_block_ret ?_ | refine out_block_normal ?_ | refine out_block_here ?_ | refine out_loop_ret ?_ | refine out_loop_exit ?_ | refine out_loopR_ret ?_ | refine out_loopR_exit ?_ | (refine hL _ ?_; clear hL))
    | (with_reducible first | refine w_reg (by decide +kernel) fun K1 hK => ?_ | refine w_reg_end (by decide +kernel) fun K1 hK => ?_)
    | ((with_reducible first | apply d_reg Try.mix (by decide +kernel) | apply d_reg_end Try.mix (by decide +kernel)); (case hm => simp only [List.length_cons, List.length_nil, Nat.reduceAdd, Nat.reduceMul]; rfl); (case' h => intro K1 hK))
    | with_reducible refine go_seq ?_
    | ((with_reducible first | apply v_op Try.tab | apply v_op0 Try.tab | apply d_op Try.tab | apply d_op0 Try.tab) <;> first | (intro K' h0 hw; conv => whnf) | (simp only [Nat.reduceAdd, Nat.reduceMul]; rfl))
    | ((with_reducible apply v_nil); (case hm => (simp only [Nat.reduceAdd, Nat.reduceMul]; rfl)); (case' h => with_reducible refine hK _ ?_; clear hK))
    | ((with_reducible apply d_nil); (refine hK _ _ _ _ (by first | decide +kernel | (simp only [List.map_cons, List.map_nil, List.nil_append, List.cons_append]; decide +kernel) | rfl) ?_; clear hK))
    | (first | refine d_grd_yes (by rfl) (by rfl) ?_ | refine v_grd_yes (by rfl) (by rfl) ?_)
    | (apply d_grd_no; (case hg => rfl); (case hb => rfl); (case hi => (simp only [Nat.reduceAdd, Nat.reduceMul]; rfl)))
    | (apply d_grd_undef; (case hg => rfl); (case hb => rfl); (case hi => (simp only [Nat.reduceAdd, Nat.reduceMul]; rfl)))
    | (apply d_grd; (case hg => rfl); (case hb => rfl); (case hi => (simp only [Nat.reduceAdd, Nat.reduceMul]; rfl)))
    | (apply v_grd_no; (case hg => rfl); (case hb => rfl); (case hi => (simp only [Nat.reduceAdd, Nat.reduceMul]; rfl)))
    | (apply v_grd_undef; (case hg => rfl); (case hb => rfl); (case hi => (simp only [Nat.reduceAdd, Nat.reduceMul]; rfl)))
    | (apply v_grd; (case hg => rfl); (case hb => rfl); (case hi => (simp only [Nat.reduceAdd, Nat.reduceMul]; rfl)))
    | ((with_reducible refine callV_id (f := 62) ?_); have hcs_ := c_frameRight o ho; (with_reducible apply callV_f own62 (hcs_)); (case hx => rfl); (case he => rfl); (case hle => first | ((repeat constructor); done) | (simp [rawT]; done)); (case hpu => repeat constructor); (case' hK => (try clear hcs_); conv => whnf))
    | ((with_reducible refine callV_id (f := 63) ?_); have hcs_ := c_slot x; (with_reducible apply callV_f own63 (hcs_)); (case hx => rfl); (case he => rfl); (case hle => first | ((repeat constructor); done) | (simp [rawT]; done)); (case hpu => repeat constructor); (case' hK => (try clear hcs_); conv => whnf))
    | ((with_reducible refine callV_id (f := 64) ?_); have hcs_ := c_frameRaw o x (addE_ok g3).1.right; (with_reducible apply callV_f own64 (hcs_)); (case hx => rfl); (case he => rfl); (case hle => first | ((repeat constructor); done) | (simp [rawT]; done)); (case hpu => repeat constructor); (case' hK => (try clear hcs_); conv => whnf))
    | ((with_reducible apply go_cond); (case hb => rfl))
    | ((with_reducible apply out_block_there); (case hne => rfl))
    | ((with_reducible first | refine w_ret Try.tab fun K' hL => ?_ | refine w_ret_end Try.tab fun K' hL => ?_); (conv => whnf))
    | ((with_reducible apply And.intro); (case' right => try (conv => whnf)); (case' left => try first | rfl | decide | (simp [rawT]; done)))
    | ((with_reducible apply Side.mk); (try simp (disch := omega) only [wrp]); (try simp); (try omega))
    | ((with_reducible apply all_rk); (case hx => with_reducible assumption); (conv => whnf))
    | ((with_reducible refine all_row ?_); (first | (have _y := hx5; clear _y; intro x6 hx6) | (have _y := hx4; clear _y; intro x5 hx5) | (have _y := hx3; clear _y; intro x4 hx4) | (have _y := hx2; clear _y; intro x3 hx3) | (have _y := hx1; clear _y; intro x2 hx2) | (intro x1 hx1)); conv => whnf)
    | (refine ⟨_, eqAT (by rfl) (by rfl) (by rfl) (by rfl), ?_⟩; conv => whnf)
    | ((first | (have _y := g9; clear _y; intro g10; try simp at g10) | (have _y := g8; clear _y; intro g9; try simp at g9) | (have _y := g7; clear _y; intro g8; try simp at g8) | (have _y := g6; clear _y; intro g7; try simp at g7) | (have _y := g5; clear _y; intro g6; try simp at g6) | (have _y := g4; clear _y; intro g5; try simp at g5) | (have _y := g3; clear _y; intro g4; try simp at g4) | (have _y := g2; clear _y; intro g3; try simp at g3) | (have _y := g1; clear _y; intro g2; try simp at g2) | (intro g1; try simp at g1))))
  · have e : addE o x = sltE x := if_pos g1
    ((with_reducible apply w_next (())); (case kt => first | exact kt_refl | (repeat (first | exact kt_refl | refine kt_wr (by rfl) ?_ | refine kt_jnk (by rfl) ?_ | refine kt_wrs (by rfl) ?_))); (case ko => repeat (first | exact ko_refl | refine ko_wo (by first | exact .inl (by rfl) | exact .inr (by simp) | exact .inr (by omega)) ?_ | refine ko_wor (by rfl) ?_ | refine ko_wos (by simp) ?_)); (case hn => first | exact Nat.le_refl _ | (simp; done) | (simp; omega)); (case hs => simp [e]); (case hb => simp [e]); (case ls => simp (disch := omega) [e, wrp]); (case lb => simp [e]); (case mu => first | (simp; omega) | (simp; done) | omega | (simp only; omega)); (case' rel' => (try simp only); (try exact trivial)))
  · have e : addE o x = buildE o := if_neg g1
    ((with_reducible apply w_next (())); (case kt => first | exact kt_refl | (repeat (first | exact kt_refl | refine kt_wr (by rfl) ?_ | refine kt_jnk (by rfl) ?_ | refine kt_wrs (by rfl) ?_))); (case ko => repeat (first | exact ko_refl | refine ko_wo (by first | exact .inl (by rfl) | exact .inr (by simp) | exact .inr (by omega)) ?_ | refine ko_wor (by rfl) ?_ | refine ko_wos (by simp) ?_)); (case hn => first | exact Nat.le_refl _ | (simp; done) | (simp; omega)); (case hs => simp [e]); (case hb => simp [e]); (case ls => simp (disch := omega) [e, wrp]); (case lb => simp [e]); (case mu => first | (simp; omega) | (simp; done) | omega | (simp only; omega)); (case' rel' => (try simp only); (try exact trivial)))
  · have e : addR o x = ([], fr0, false) := if_neg g3
    simp [addFT, e, fr0]
  · have e : addR o x = addS o x := if_pos g3
    simp [addFT, e, g3]
abbrev tt : ByteArray := ⟨#[116]⟩
set_option maxHeartbeats 400000 in
theorem c_mkSlot (n t : Int) (a b c : Bool) (hn : 0 ≤ n) : PSpec Try.prog 69 [I n, I t, B a, B b, B c] (.agg (sltC ⟨n, ⟨n % 65536, t, a, b, c, tt⟩⟩)) := by
  refine v_pspec Try.func69 rfl Try.ntmps69 Try.results69 (by simp) (by first | exact .s _ | repeat constructor) ?_
  have e := tmp (a := n) (b := 65536) hn
  repeat' (first
    | (with_reducible first | refine go_later ?_ | (refine h0 _ _ ?_; clear h0 hw) | (refine hw _ _ _ ?_; clear h0 hw) | refine go_ret ?_ | refine go_skip ?_ | refine go_block ?_ | refine go_exit ?_ | refine out_seq_ret ?_ | refine out_seq_normal ?_ | refine out_seq_exit ?_ | refine out_block_ret ?_ | refine out_block_normal ?_ | refine out_block_here ?_ | refine out_loop_ret ?_ | refine out_loop_exit ?_ | refine out_loopR_ret ?_ | refine out_loopR_exit ?_ | (refine hL _ ?_; clear hL))
    | (with_reducible first | refine w_reg (by decide +kernel) fun K1 hK => ?_ | refine w_reg_end (by decide +kernel) fun K1 hK => ?_)
    | ((with_reducible first | apply d_reg Try.mix (by decide +kernel) | apply d_reg_end Try.mix (by decide +kernel)); (case hm => simp only [List.length_cons, List.length_nil, Nat.reduceAdd, Nat.reduceMul]; rfl); (case' h => intro K1 hK))
    | with_reducible refine go_seq ?_
    | ((with_reducible first | apply v_op Try.tab | apply v_op0 Try.tab | apply d_op Try.tab | apply d_op0 Try.tab) <;> first | (intro K' h0 hw; conv => whnf) | (simp only [Nat.reduceAdd, Nat.reduceMul]; rfl))
    | ((with_reducible apply v_nil); (case hm => (simp only [Nat.reduceAdd, Nat.reduceMul]; rfl)); (case' h => with_reducible refine hK _ ?_; clear hK))
    | ((with_reducible apply d_nil); (refine hK _ _ _ _ (by first | decide +kernel | (simp only [List.map_cons, List.map_nil, List.nil_append, List.cons_append]; decide +kernel) | rfl) ?_; clear hK))
    | (first | refine d_grd_yes (by rfl) (by rfl) ?_ | refine v_grd_yes (by rfl) (by rfl) ?_)
    | (apply d_grd_no; (case hg => rfl); (case hb => rfl); (case hi => (simp only [Nat.reduceAdd, Nat.reduceMul]; rfl)))
    | (apply d_grd_undef; (case hg => rfl); (case hb => rfl); (case hi => (simp only [Nat.reduceAdd, Nat.reduceMul]; rfl)))
    | (apply d_grd; (case hg => rfl); (case hb => rfl); (case hi => (simp only [Nat.reduceAdd, Nat.reduceMul]; rfl)))
    | (apply v_grd_no; (case hg => rfl); (case hb => rfl); (case hi => (simp only [Nat.reduceAdd, Nat.reduceMul]; rfl)))
    | (apply v_grd_undef; (case hg => rfl); (case hb => rfl); (case hi => (simp only [Nat.reduceAdd, Nat.reduceMul]; rfl)))
    | (apply v_grd; (case hg => rfl); (case hb => rfl); (case hi => (simp only [Nat.reduceAdd, Nat.reduceMul]; rfl)))
    | ((with_reducible apply go_cond); (case hb => rfl))
    | ((with_reducible apply out_block_there); (case hne => rfl))
    | ((with_reducible first | refine w_ret Try.tab fun K' hL => ?_ | refine w_ret_end Try.tab fun K' hL => ?_); (conv => whnf))
    | ((with_reducible apply And.intro); (case' right => try (conv => whnf)); (case' left => try first | rfl | decide | (simp; done)))
    | ((with_reducible apply Side.mk); (try simp (disch := omega) only [wrp]); (try simp); (try omega))
    | ((with_reducible apply all_rk); (case hx => with_reducible assumption); (conv => whnf))
    | ((with_reducible refine all_row ?_); (first | (have _y := hx5; clear _y; intro x6 hx6) | (have _y := hx4; clear _y; intro x5 hx5) | (have _y := hx3; clear _y; intro x4 hx4) | (have _y := hx2; clear _y; intro x3 hx3) | (have _y := hx1; clear _y; intro x2 hx2) | (intro x1 hx1)); conv => whnf)
    | (refine ⟨_, eqAT (by rfl) (by rfl) (by rfl) (by rfl), ?_⟩; conv => whnf)
    | ((first | (have _y := g9; clear _y; intro g10; try simp at g10) | (have _y := g8; clear _y; intro g9; try simp at g9) | (have _y := g7; clear _y; intro g8; try simp at g8) | (have _y := g6; clear _y; intro g7; try simp at g7) | (have _y := g5; clear _y; intro g6; try simp at g6) | (have _y := g4; clear _y; intro g5; try simp at g5) | (have _y := g3; clear _y; intro g4; try simp at g4) | (have _y := g2; clear _y; intro g3; try simp at g3) | (have _y := g1; clear _y; intro g2; try simp at g2) | (intro g1; try simp at g1))))
  all_goals simp [tt, e]
abbrev mk (n t : Int) (a b c : Bool) : Slt := ⟨n, ⟨n % 65536, t, a, b, c, tt⟩⟩
set_option maxHeartbeats 1000000 in
theorem c_frameBegun : PSpec Try.prog 31 [] (B true) := by
  refine v_pspec Try.func31 rfl Try.ntmps31 Try.results31 (by simp) (by first | exact .s _ | repeat constructor) ?_
  have h1 := c_frameAdd [] (mk 70000 5 true false true) (by decide)
  rw [show addFT [] (mk 70000 5 true false true) = .tup [.agg [slts [mk 70000 5 true false true]], .agg (frC fr0), B false, I 0] by unfold addFT; rw [show addR [] (mk 70000 5 true false true) = ([mk 70000 5 true false true], fr0, false) by decide +kernel, show addE [] (mk 70000 5 true false true) = 0 by decide +kernel]] at h1
  have h2 := c_frameAdd [mk 70000 5 true false true] (mk 70001 5 false true false) (by decide)
  rw [show addFT [mk 70000 5 true false true] (mk 70001 5 false true false) = .tup [.agg [slts []], .agg (frC ⟨5, true, [tt, tt]⟩), B true, I 0] by unfold addFT; rw [show addR [mk 70000 5 true false true] (mk 70001 5 false true false) = ([], ⟨5, true, [tt, tt]⟩, true) by decide +kernel, show addE [mk 70000 5 true false true] (mk 70001 5 false true false) = 0 by decide +kernel]] at h2
  have h3 := c_frameAll [mk 70000 5 true false true, mk 70002 5 false true false, mk 70003 6 true true false] (by decide)
  rw [show allF [mk 70000 5 true false true, mk 70002 5 false true false, mk 70003 6 true true false] = ([⟨6, false, [tt]⟩], 0) by decide +kernel] at h3
  have h4 := c_frameCheck ⟨5, true, [tt, tt]⟩ (by decide)
  rw [show frameE ⟨5, true, [tt, tt]⟩ = 0 by decide +kernel] at h4
  repeat' (first
    | (with_reducible first | refine go_later ?_ | (refine h0 _ _ ?_; clear h0 hw) | (refine hw _ _ _ ?_; clear h0 hw) | refine go_ret ?_ | refine go_skip ?_ | refine go_block ?_ | refine go_exit ?_ | refine out_seq_ret ?_ | refine out_seq_normal ?_ | refine out_seq_exit ?_ | refine out_block_ret ?_ | refine out_block_normal ?_ | refine out_block_here ?_ | refine out_loop_ret ?_ | refine out_loop_exit ?_ | refine out_loopR_ret ?_ | refine out_loopR_exit ?_ | (refine hL _ ?_; clear hL))
    | (with_reducible first | refine w_reg (by decide +kernel) fun K1 hK => ?_ | refine w_reg_end (by decide +kernel) fun K1 hK => ?_)
    | ((with_reducible first | apply d_reg Try.mix (by decide +kernel) | apply d_reg_end Try.mix (by decide +kernel)); (case hm => simp only [List.length_cons, List.length_nil, Nat.reduceAdd, Nat.reduceMul]; rfl); (case' h => intro K1 hK))
    | with_reducible refine go_seq ?_
    | ((with_reducible first | apply v_op Try.tab | apply v_op0 Try.tab | apply d_op Try.tab | apply d_op0 Try.tab) <;> first | (intro K' h0 hw; conv => whnf) | (simp only [Nat.reduceAdd, Nat.reduceMul]; rfl))
    | ((with_reducible apply v_nil); (case hm => (simp only [Nat.reduceAdd, Nat.reduceMul]; rfl)); (case' h => with_reducible refine hK _ ?_; clear hK))
    | ((with_reducible apply d_nil); (refine hK _ _ _ _ (by first | decide +kernel | (simp only [List.map_cons, List.map_nil, List.nil_append, List.cons_append]; decide +kernel) | rfl) ?_; clear hK))
    | (first | refine d_grd_yes (by rfl) (by rfl) ?_ | refine v_grd_yes (by rfl) (by rfl) ?_)
    | (apply d_grd_no; (case hg => rfl); (case hb => rfl); (case hi => (simp only [Nat.reduceAdd, Nat.reduceMul]; rfl)))
    | (apply d_grd_undef; (case hg => rfl); (case hb => rfl); (case hi => (simp only [Nat.reduceAdd, Nat.reduceMul]; rfl)))
    | (apply d_grd; (case hg => rfl); (case hb => rfl); (case hi => (simp only [Nat.reduceAdd, Nat.reduceMul]; rfl)))
    | (apply v_grd_no; (case hg => rfl); (case hb => rfl); (case hi => (simp only [Nat.reduceAdd, Nat.reduceMul]; rfl)))
    | (apply v_grd_undef; (case hg => rfl); (case hb => rfl); (case hi => (simp only [Nat.reduceAdd, Nat.reduceMul]; rfl)))
    | (apply v_grd; (case hg => rfl); (case hb => rfl); (case hi => (simp only [Nat.reduceAdd, Nat.reduceMul]; rfl)))
    | ((with_reducible refine callV_id (f := 69) ?_); have hcs_ := c_mkSlot 70000 5 true false true (by decide); (with_reducible apply callV_f own69 (hcs_)); (case hx => rfl); (case he => rfl); (case hle => first | ((repeat constructor); done) | (simp [framesT]; done)); (case hpu => repeat constructor); (case' hK => (try clear hcs_); conv => whnf))
    | ((with_reducible refine callV_id (f := 69) ?_); have hcs_ := c_mkSlot 70001 5 false true false (by decide); (with_reducible apply callV_f own69 (hcs_)); (case hx => rfl); (case he => rfl); (case hle => first | ((repeat constructor); done) | (simp [framesT]; done)); (case hpu => repeat constructor); (case' hK => (try clear hcs_); conv => whnf))
    | ((with_reducible refine callV_id (f := 69) ?_); have hcs_ := c_mkSlot 70002 5 false true false (by decide); (with_reducible apply callV_f own69 (hcs_)); (case hx => rfl); (case he => rfl); (case hle => first | ((repeat constructor); done) | (simp [framesT]; done)); (case hpu => repeat constructor); (case' hK => (try clear hcs_); conv => whnf))
    | ((with_reducible refine callV_id (f := 69) ?_); have hcs_ := c_mkSlot 70003 6 true true false (by decide); (with_reducible apply callV_f own69 (hcs_)); (case hx => rfl); (case he => rfl); (case hle => first | ((repeat constructor); done) | (simp [framesT]; done)); (case hpu => repeat constructor); (case' hK => (try clear hcs_); conv => whnf))
    | ((with_reducible refine callV_id (f := 25) ?_); have hcs_ := h1; (with_reducible apply callV_f own25 (hcs_)); (case hx => rfl); (case he => rfl); (case hle => first | ((repeat constructor); done) | (simp [framesT]; done)); (case hpu => repeat constructor); (case' hK => (try clear hcs_); conv => whnf))
    | ((with_reducible refine callV_id (f := 25) ?_); have hcs_ := h2; (with_reducible apply callV_f own25 (hcs_)); (case hx => rfl); (case he => rfl); (case hle => first | ((repeat constructor); done) | (simp [framesT]; done)); (case hpu => repeat constructor); (case' hK => (try clear hcs_); conv => whnf))
    | ((with_reducible refine callV_id (f := 26) ?_); have hcs_ := h3; (with_reducible apply callV_f own26 (hcs_)); (case hx => rfl); (case he => rfl); (case hle => first | ((repeat constructor); done) | (simp [framesT]; done)); (case hpu => repeat constructor); (case' hK => (try clear hcs_); conv => whnf))
    | ((with_reducible refine callV_id (f := 32) ?_); have hcs_ := h4; (with_reducible apply callV_f own32 (hcs_)); (case hx => rfl); (case he => rfl); (case hle => first | ((repeat constructor); done) | (simp [framesT]; done)); (case hpu => repeat constructor); (case' hK => (try clear hcs_); conv => whnf))
    | ((with_reducible apply go_cond); (case hb => rfl))
    | ((with_reducible apply out_block_there); (case hne => rfl))
    | ((with_reducible first | refine w_ret Try.tab fun K' hL => ?_ | refine w_ret_end Try.tab fun K' hL => ?_); (conv => whnf))
    | ((with_reducible apply And.intro); (case' right => try (conv => whnf)); (case' left => try first | rfl | decide | (simp [framesT]; done)))
    | ((with_reducible apply Side.mk); (try simp (disch := omega) only [wrp]); (try simp); (try omega))
    | ((with_reducible apply all_rk); (case hx => with_reducible assumption); (conv => whnf))
    | ((with_reducible refine all_row ?_); (first | (have _y := hx5; clear _y; intro x6 hx6) | (have _y := hx4; clear _y; intro x5 hx5) | (have _y := hx3; clear _y; intro x4 hx4) | (have _y := hx2; clear _y; intro x3 hx3) | (have _y := hx1; clear _y; intro x2 hx2) | (intro x1 hx1)); conv => whnf)
    | (refine ⟨_, eqAT (by rfl) (by rfl) (by rfl) (by rfl), ?_⟩; conv => whnf)
    | ((first | (have _y := g9; clear _y; intro g10; try simp at g10) | (have _y := g8; clear _y; intro g9; try simp at g9) | (have _y := g7; clear _y; intro g8; try simp at g8) | (have _y := g6; clear _y; intro g7; try simp at g7) | (have _y := g5; clear _y; intro g6; try simp at g6) | (have _y := g4; clear _y; intro g5; try simp at g5) | (have _y := g3; clear _y; intro g4; try simp at g4) | (have _y := g2; clear _y; intro g3; try simp at g3) | (have _y := g1; clear _y; intro g2; try simp at g2) | (intro g1; try simp at g1))))
  simp at hx1; subst hx1; simp
theorem addR_len (o : List Slt) (x : Slt) : (addR o x).1.length ≤ 17592186043904 ∧ (addR o x).2.1.parts.length ≤ 1000000000000000 := by
  unfold addR
  split
  · rename_i h
    have := addS_len o x (addE_ok h).1.1
    omega
  · simp [fr0]
theorem eachF_len : ∀ (l : List Slt) (o : List Slt) (out : List Fr), o.length ≤ 3 → (∀ f ∈ out, f.parts.length ≤ 4) → (eachF o out l).1.length ≤ out.length + l.length ∧ ∀ f ∈ (eachF o out l).1, f.parts.length ≤ 4
  | [], o, out, _, h => ⟨by simp [eachF], h⟩
  | x :: l, o, out, ho, h => by
    have ha := addS_len o x ho
    rw [eachF]
    split
    · simp
    · have hh : ∀ f ∈ (if (addS o x).2.2 = true then out ++ [(addS o x).2.1] else out), f.parts.length ≤ 4 := by
        intro f hf
        split at hf
        · rcases List.mem_append.1 hf with hf | hf
          · exact h f hf
          · simp at hf; subst hf; exact ha.2.2
        · exact h f hf
      have := eachF_len l _ _ ha.1 hh
      refine ⟨?_, this.2⟩
      have h1 := this.1
      have : (if (addS o x).2.2 = true then out ++ [(addS o x).2.1] else out).length ≤ out.length + 1 := by split <;> simp
      simp only [List.length_cons]; omega
theorem allF_len (l : List Slt) : (allF l).1.length ≤ 100 ∧ ∀ f ∈ (allF l).1, f.parts.length ≤ 4 := by
  unfold allF
  split
  · simp
  · have := eachF_len l [] [] (by simp) (by simp)
    refine ⟨?_, this.2⟩
    have h := this.1; simp at h; omega
theorem allF_fits (l : List Slt) : (allF l).1.length ≤ 4000000000000 ∧ ∀ f ∈ (allF l).1, f.parts.length ≤ 1000000000000000 := by
  have := allF_len l
  exact ⟨by omega, fun f hf => by have := this.2 f hf; omega⟩
set_option maxHeartbeats 4000000 in
theorem c_frameTells (f : Fr) (o : List Slt) (x : Slt) (l : List Slt) (hf : f.parts.length ≤ 17592186043904) (ho : o.length ≤ 4000000000000) (hl : l.length ≤ 4000000000000) :
    PSpec Try.prog 6 [.agg (frC f), .agg [slts o], .agg (sltC x), slts l] (B true) := by
  refine v_pspec Try.func6 rfl Try.ntmps6 Try.results6 (by simp) (by first | exact .s _ | repeat constructor) ?_
  repeat' (first
    | ((first | with_reducible refine w_cut (x := .cond (.tmp 37) _ _) (X := Unit) [15, 36, 37, 38, 39] (fun _ => [(15, I (addE o x))]) (fun _ => []) (fun _ => True) ?_ ?_ | with_reducible refine w_cut (x := .seq (.region _ _ _) (.cond (.tmp 37) _ _)) (X := Unit) [15, 36, 37, 38, 39] (fun _ => [(15, I (addE o x))]) (fun _ => []) (fun _ => True) ?_ ?_); (try (rintro z hz; simp only at hz)))
    | (with_reducible first | refine go_later ?_ | (refine h0 _ _ ?_; clear h0 hw) | (refine hw _ _ _ ?_; clear h0 hw) | refine go_ret ?_ | refine go_skip ?_ | refine go_block ?_ | refine go_exit ?_ | refine out_seq_ret ?_ | refine out_seq_normal ?_ | refine out_seq_exit ?_ | refine out_block_ret ?_ | refine out_block_normal ?_ | refine out_block_here ?_ | refine out_loop_ret ?_ | refine out_loop_exit ?_ | refine out_loopR_ret ?_ | refine out_loopR_exit ?_ | (refine hL _ ?_; clear hL))
    | (with_reducible first | refine w_reg (by decide +kernel) fun K1 hK => ?_ | refine w_reg_end (by decide +kernel) fun K1 hK => ?_)
    | ((with_reducible first | apply d_reg Try.mix (by decide +kernel) | apply d_reg_end Try.mix (by decide +kernel)); (case hm => simp only [List.length_cons, List.length_nil, Nat.reduceAdd, Nat.reduceMul]; rfl); (case' h => intro K1 hK))
    | with_reducible refine go_seq ?_
    | ((with_reducible first | apply v_op Try.tab | apply v_op0 Try.tab | apply d_op Try.tab | apply d_op0 Try.tab) <;> first | (intro K' h0 hw; conv => whnf) | (simp only [Nat.reduceAdd, Nat.reduceMul]; rfl))
    | ((with_reducible apply v_nil); (case hm => (simp only [Nat.reduceAdd, Nat.reduceMul]; rfl)); (case' h => with_reducible refine hK _ ?_; clear hK))
    | ((with_reducible apply d_nil); (refine hK _ _ _ _ (by first | decide +kernel | (simp only [List.map_cons, List.map_nil, List.nil_append, List.cons_append]; decide +kernel) | rfl) ?_; clear hK))
    | (first | refine d_grd_yes (by rfl) (by rfl) ?_ | refine v_grd_yes (by rfl) (by rfl) ?_)
    | (apply d_grd_no; (case hg => rfl); (case hb => rfl); (case hi => (simp only [Nat.reduceAdd, Nat.reduceMul]; rfl)))
    | (apply d_grd_undef; (case hg => rfl); (case hb => rfl); (case hi => (simp only [Nat.reduceAdd, Nat.reduceMul]; rfl)))
    | (apply d_grd; (case hg => rfl); (case hb => rfl); (case hi => (simp only [Nat.reduceAdd, Nat.reduceMul]; rfl)))
    | (apply v_grd_no; (case hg => rfl); (case hb => rfl); (case hi => (simp only [Nat.reduceAdd, Nat.reduceMul]; rfl)))
    | (apply v_grd_undef; (case hg => rfl); (case hb => rfl); (case hi => (simp only [Nat.reduceAdd, Nat.reduceMul]; rfl)))
    | (apply v_grd; (case hg => rfl); (case hb => rfl); (case hi => (simp only [Nat.reduceAdd, Nat.reduceMul]; rfl)))
    | ((with_reducible refine callV_id (f := 25) ?_); have hcs_ := c_frameAdd o x ho; (with_reducible apply callV_f own25 (hcs_)); (case hx => rfl); (case he => rfl); (case hle => first | ((repeat constructor); done) | (simp [addFT, framesT, rawT]; done)); (case hpu => repeat constructor); (case' hK => (try clear hcs_); conv => whnf))
    | ((with_reducible refine callV_id (f := 26) ?_); have hcs_ := c_frameAll l hl; (with_reducible apply callV_f own26 (hcs_)); (case hx => rfl); (case he => rfl); (case hle => first | ((repeat constructor); done) | (simp [addFT, framesT, rawT]; done)); (case hpu => repeat constructor); (case' hK => (try clear hcs_); conv => whnf))
    | ((with_reducible refine callV_id (f := 27) ?_); have hcs_ := c_checkBuilder o ho; (with_reducible apply callV_f own27 (hcs_)); (case hx => rfl); (case he => rfl); (case hle => first | ((repeat constructor); done) | (simp [addFT, framesT, rawT]; done)); (case hpu => repeat constructor); (case' hK => (try clear hcs_); conv => whnf))
    | ((with_reducible refine callV_id (f := 28) ?_); have hcs_ := c_checkSlot x; (with_reducible apply callV_f own28 (hcs_)); (case hx => rfl); (case he => rfl); (case hle => first | ((repeat constructor); done) | (simp [addFT, framesT, rawT]; done)); (case hpu => repeat constructor); (case' hK => (try clear hcs_); conv => whnf))
    | ((with_reducible refine callV_id (f := 29) ?_); have hcs_ := c_addOf o x (addE_ok g3).1.right; (with_reducible apply callV_f own29 (hcs_)); (case hx => rfl); (case he => rfl); (case hle => first | ((repeat constructor); done) | (simp [addFT, framesT, rawT]; done)); (case hpu => repeat constructor); (case' hK => (try clear hcs_); conv => whnf))
    | ((with_reducible refine callV_id (f := 30) ?_); have hcs_ := c_framesOf l hl; (with_reducible apply callV_f own30 (hcs_)); (case hx => rfl); (case he => rfl); (case hle => first | ((repeat constructor); done) | (simp [addFT, framesT, rawT]; done)); (case hpu => repeat constructor); (case' hK => (try clear hcs_); conv => whnf))
    | ((with_reducible refine callV_id (f := 31) ?_); have hcs_ := c_frameBegun; (with_reducible apply callV_f own31 (hcs_)); (case hx => rfl); (case he => rfl); (case hle => first | ((repeat constructor); done) | (simp [addFT, framesT, rawT]; done)); (case hpu => repeat constructor); (case' hK => (try clear hcs_); conv => whnf))
    | ((with_reducible refine callV_id (f := 32) ?_); have hcs_ := c_frameCheck f hf; (with_reducible apply callV_f own32 (hcs_)); (case hx => rfl); (case he => rfl); (case hle => first | ((repeat constructor); done) | (simp [addFT, framesT, rawT]; done)); (case hpu => repeat constructor); (case' hK => (try clear hcs_); conv => whnf))
    | ((with_reducible refine callV_id (f := 33) ?_); have hcs_ := c_checkFrame f hf; (with_reducible apply callV_f own33 (hcs_)); (case hx => rfl); (case he => rfl); (case hle => first | ((repeat constructor); done) | (simp [addFT, framesT, rawT]; done)); (case hpu => repeat constructor); (case' hK => (try clear hcs_); conv => whnf))
    | ((with_reducible refine callV_id (f := 34) ?_); (with_reducible apply callV_f own34 (c_sameSlots (addR o x).1 _ (addR_len o x).1)); (case hx => rfl); (case he => rfl); (case hle => first | ((repeat constructor); done) | (simp [addFT, framesT, rawT]; done)); (case hpu => repeat constructor); (case' hK => (try clear hcs_); conv => whnf))
    | ((with_reducible refine callV_id (f := 34) ?_); have hcs_ := c_sameSlots (addR o x).1 [] (addR_len o x).1; (with_reducible apply callV_f own34 (hcs_)); (case hx => rfl); (case he => rfl); (case hle => first | ((repeat constructor); done) | (simp [addFT, framesT, rawT]; done)); (case hpu => repeat constructor); (case' hK => (try clear hcs_); conv => whnf))
    | ((with_reducible refine callV_id (f := 24) ?_); have hcs_ := c_sameFrame (addR o x).2.1 fr0 (addR_len o x).2; (with_reducible apply callV_f own24 (hcs_)); (case hx => rfl); (case he => rfl); (case hle => first | ((repeat constructor); done) | (simp [addFT, framesT, rawT]; done)); (case hpu => repeat constructor); (case' hK => (try clear hcs_); conv => whnf))
    | ((with_reducible refine callV_id (f := 24) ?_); (with_reducible apply callV_f own24 (c_sameFrame (addR o x).2.1 _ (addR_len o x).2)); (case hx => rfl); (case he => rfl); (case hle => first | ((repeat constructor); done) | (simp [addFT, framesT, rawT]; done)); (case hpu => repeat constructor); (case' hK => (try clear hcs_); conv => whnf))
    | ((with_reducible refine callV_id (f := 23) ?_); (with_reducible apply callV_f own23 (c_sameFrames (allF l).1 _ (allF_fits l).1 (allF_fits l).2)); (case hx => rfl); (case he => rfl); (case hle => first | ((repeat constructor); done) | (simp [addFT, framesT, rawT]; done)); (case hpu => repeat constructor); (case' hK => (try clear hcs_); conv => whnf))
    | ((with_reducible apply go_cond); (case hb => rfl))
    | ((with_reducible apply out_block_there); (case hne => rfl))
    | ((with_reducible first | refine w_ret Try.tab fun K' hL => ?_ | refine w_ret_end Try.tab fun K' hL => ?_); (conv => whnf))
    | ((with_reducible apply And.intro); (case' right => try (conv => whnf)); (case' left => try first | rfl | decide | (simp [addFT, framesT, rawT]; done)))
    | ((with_reducible apply Side.mk); (try simp (disch := omega) only [wrp]); (try simp); (try omega))
    | ((with_reducible apply all_rk); (case hx => with_reducible assumption); (conv => whnf))
    | ((with_reducible refine all_row ?_); (first | (have _y := hx5; clear _y; intro x6 hx6) | (have _y := hx4; clear _y; intro x5 hx5) | (have _y := hx3; clear _y; intro x4 hx4) | (have _y := hx2; clear _y; intro x3 hx3) | (have _y := hx1; clear _y; intro x2 hx2) | (intro x1 hx1)); conv => whnf)
    | (refine ⟨_, eqAT (by rfl) (by rfl) (by rfl) (by rfl), ?_⟩; conv => whnf)
    | ((first | (have _y := g15; clear _y; intro g16; try simp at g16) | (have _y := g14; clear _y; intro g15; try simp at g15) | (have _y := g13; clear _y; intro g14; try simp at g14) | (have _y := g12; clear _y; intro g13; try simp at g13) | (have _y := g11; clear _y; intro g12; try simp at g12) | (have _y := g10; clear _y; intro g11; try simp at g11) | (have _y := g9; clear _y; intro g10; try simp at g10) | (have _y := g8; clear _y; intro g9; try simp at g9) | (have _y := g7; clear _y; intro g8; try simp at g8) | (have _y := g6; clear _y; intro g7; try simp at g7) | (have _y := g5; clear _y; intro g6; try simp at g6) | (have _y := g4; clear _y; intro g5; try simp at g5) | (have _y := g3; clear _y; intro g4; try simp at g4) | (have _y := g2; clear _y; intro g3; try simp at g3) | (have _y := g1; clear _y; intro g2; try simp at g2) | (intro g1; try simp at g1))))
  · have e : addE o x = sltE x := if_pos g1
    ((with_reducible apply w_next (())); (case kt => first | exact kt_refl | (repeat (first | exact kt_refl | refine kt_wr (by rfl) ?_ | refine kt_jnk (by rfl) ?_ | refine kt_wrs (by rfl) ?_))); (case ko => repeat (first | exact ko_refl | refine ko_wo (by first | exact .inl (by rfl) | exact .inr (by simp) | exact .inr (by omega)) ?_ | refine ko_wor (by rfl) ?_ | refine ko_wos (by simp) ?_)); (case hn => first | exact Nat.le_refl _ | (simp; done) | (simp; omega)); (case hs => simp [e]); (case hb => simp [e]); (case ls => simp (disch := omega) [e, wrp]); (case lb => simp [e]); (case mu => first | (simp; omega) | (simp; done) | omega | (simp only; omega)); (case' rel' => (try simp only); (try exact trivial)))
  · have e : addE o x = buildE o := if_neg g1
    ((with_reducible apply w_next (())); (case kt => first | exact kt_refl | (repeat (first | exact kt_refl | refine kt_wr (by rfl) ?_ | refine kt_jnk (by rfl) ?_ | refine kt_wrs (by rfl) ?_))); (case ko => repeat (first | exact ko_refl | refine ko_wo (by first | exact .inl (by rfl) | exact .inr (by simp) | exact .inr (by omega)) ?_ | refine ko_wor (by rfl) ?_ | refine ko_wos (by simp) ?_)); (case hn => first | exact Nat.le_refl _ | (simp; done) | (simp; omega)); (case hs => simp [e]); (case hb => simp [e]); (case ls => simp (disch := omega) [e, wrp]); (case lb => simp [e]); (case mu => first | (simp; omega) | (simp; done) | omega | (simp only; omega)); (case' rel' => (try simp only); (try exact trivial)))
  all_goals first
    | (refine le_of_eq ?_; simp; done)
    | exact absurd (congrArg (·.1) (if_pos (by assumption) : addR o x = addS o x)) (by assumption)
    | exact absurd (congrArg (·.2.1) (if_pos (by assumption) : addR o x = addS o x)) (by assumption)
    | exact absurd (congrArg (·.2.2) (if_pos (by assumption) : addR o x = addS o x)) (by assumption)
    | exact absurd (congrArg (·.1) (if_neg (by assumption) : addR o x = ([], fr0, false))) (by assumption)
    | exact absurd (congrArg (·.2.1) (if_neg (by assumption) : addR o x = ([], fr0, false))) (by assumption)
    | exact absurd (congrArg (·.2.2) (if_neg (by assumption) : addR o x = ([], fr0, false))) (by simpa using (by assumption))
    | (have e : addR o x = ([], fr0, false) := if_neg (by assumption)
       rw [e] at g7; cases g7)
theorem reads_slt {a : AV} (h : ReadsArg (.agg [.int .i64, .agg [.int .i64, .int .i64, .bool, .bool, .bool, .str]]) a) : ∃ s : Slt, a = .agg (sltC s) ∧ s.p.text.size ≤ reachBytes := by
  obtain ⟨_, rfl, h⟩ := h
  obtain ⟨s, rfl, hs⟩ := cells_slt h
  exact ⟨s, rfl, hs⟩
theorem law_frameTells (args : List AV) (h : ReadsArgs [.agg [.int .i64, .bool, .sl 1 16 .str], .agg [.sl 7 48 (.agg [.int .i64, .agg [.int .i64, .int .i64, .bool, .bool, .bool, .str]])], .agg [.int .i64, .agg [.int .i64, .int .i64, .bool, .bool, .bool, .str]], .sl 7 48 (.agg [.int .i64, .agg [.int .i64, .int .i64, .bool, .bool, .bool, .str]])] args) (_ : True) : PSpec Try.prog 6 args (B true) := by
  obtain ⟨_, _, rfl, h1, _, _, rfl, h2, _, _, rfl, h3, _, _, rfl, h4, rfl⟩ := h
  obtain ⟨f, rfl, hf, _⟩ := reads_fr h1
  obtain ⟨o, rfl, ho, _⟩ := reads_bld h2
  obtain ⟨x, rfl, _⟩ := reads_slt h3
  obtain ⟨l, rfl, hl, _⟩ := reads_slts h4
  exact c_frameTells f o x l hf (by omega) (by omega)
end Go.Proofs.Ytapgdbjlgebjmaa

/- What laws of stores call; a store that grows stays right. No condition. -/
import Derived.Test.YtlehonipilpfdaaStore3
import Derived.Test.YtlehonipilpfdaaGroupTells
namespace Go.Proofs.Ytlehonipilpfdaa
open Go Go.Sy
set_option maxRecDepth 4000
set_option linter.unusedSimpArgs false
set_option linter.unusedVariables false
attribute [local irreducible] Reg RegD Later Out CallV Tri Side EqV
theorem Sto.ext' {p q : Sto} (h1 : p.first = q.first) (h2 : p.gs = q.gs) (h3 : p.op = q.op) : p = q := by cases p; cases q; simp_all
instance : DecidableEq Sto := fun p q => decidable_of_iff (p.first = q.first ∧ p.gs = q.gs ∧ p.op = q.op) ⟨fun ⟨h1, h2, h3⟩ => Sto.ext' h1 h2 h3, fun h => by subst h; simp⟩
theorem trimS_drop : ∀ (n : Nat) (first : Int) (l : List (List Fr)), l.length = n → ∃ k : Nat, k ≤ l.length ∧ trimS first l = (first + k, l.drop k) ∧ full (l.drop k) = false ∧ (0 < l.length → k < l.length) ∧ (full l = false → k = 0) := by
  intro n
  induction n with
  | zero => 
    intro first l h
    have : l = [] := List.eq_nil_of_length_eq_zero h
    subst this
    have hf : full [] = false := by decide
    exact ⟨0, by simp, by rw [trimS, dif_neg (by simp [hf])]; simp, by simpa using hf, by simp, fun _ => rfl⟩
  | succ n ih =>
    intro first l h
    by_cases hf : full l = true
    · have hp := full_pos hf
      obtain ⟨k, h1, h2, h3, h4, _⟩ := ih (first + 1) l.tail (by simp; omega)
      refine ⟨k + 1, by simp at h1; omega, ?_, by rw [List.drop_tail] at h3; exact h3, fun _ => by simp at h4; omega, fun h => by rw [hf] at h; cases h⟩
      rw [trimS, dif_pos hf, h2]
      simp; omega
    · refine ⟨0, by omega, by rw [trimS, dif_neg hf]; simp, by simpa using hf, fun _ => by omega, fun _ => rfl⟩
theorem raw_right {s : Sto} {f : Fr} (hs : RightS s) (hf : frameE f = 0) (h : (storeRaw s f).2.2 = 0) : ∃ k : Nat, k ≤ (doneS s.op s.gs f).length ∧ storeRaw s f = (⟨s.first + k, (doneS s.op s.gs f).drop k, growS s.op f⟩, decide (s.gs.length < (doneS s.op s.gs f).length), 0) ∧
    RightS ⟨s.first + k, (doneS s.op s.gs f).drop k, growS s.op f⟩ ∧ (0 < (doneS s.op s.gs f).length → k < (doneS s.op s.gs f).length) ∧ (full (doneS s.op s.gs f) = false → k = 0) := by
  obtain ⟨k, h1, h2, h3, h4, h5⟩ := trimS_drop _ s.first (doneS s.op s.gs f) rfl
  unfold storeRaw at h ⊢
  rw [h2] at h ⊢
  by_cases q : 100000 < s.first + k
  · rw [if_pos q] at h; cases h
  · rw [if_neg q]
    have hrg := hs.rg hf
    obtain ⟨q1, q2, q3, q4, q5⟩ := hs
    refine ⟨k, h1, rfl, ⟨⟨by simp only; omega, by simp only; omega⟩, ?_, fun g hg => hrg.2 g (List.mem_of_mem_drop hg), okG_grow q4 hf, h3⟩, h4, h5⟩
    simp only
    have : ¬ 5 < ((doneS s.op s.gs f).drop k).length := fun hq => by unfold full at h3; simp at h3 hq; omega
    omega
theorem st0_small : Small st0 := ⟨by simp [st0], by simp [st0], by simp [st0], by simp [st0]⟩
theorem raw_small {s : Sto} {f : Fr} (hs : RightS s) (hf : frameE f = 0) : Small (storeRaw s f).1 := by
  by_cases h : (storeRaw s f).2.2 = 0
  · obtain ⟨k, _, h2, h3, _⟩ := raw_right hs hf h
    rw [h2]; exact h3.small
  · unfold storeRaw at h ⊢
    split
    · exact st0_small
    · rename_i q; rw [if_neg q] at h; exact absurd rfl h
theorem add_small (s : Sto) (f : Fr) : Small (addS' s f).1 := by
  unfold addS'
  split
  · rename_i h; exact raw_small (vE1_ok h).1 (vE1_ok h).2
  · exact st0_small
set_option maxHeartbeats 1000000 in
theorem c_storeAdd (s : Sto) (f : Fr) (hs : FitsS s) (hf : f.parts.length ≤ 8796093022208) : PSpec Try.prog 40 [.agg (stC s), .agg (frC f)] (stT (addS' s f)) := by
  refine v_pspec Try.func40 rfl Try.ntmps40 Try.results40 (by simp) (by repeat constructor) ?_
  repeat' (first
    | (with_reducible first | refine go_later ?_ | (refine h0 _ _ ?_; clear h0 hw) | (refine hw _ _ _ ?_; clear h0 hw) | refine go_ret ?_ | refine go_skip ?_ | refine go_block ?_ | refine go_exit ?_ | refine out_seq_ret ?_ | refine out_seq_normal ?_ | refine out_seq_exit ?_ | refine out_block_ret ?_ | refine out_block_normal ?_ | refine out_block_here ?_ | refine out_loop_ret ?_ | refine out_loop_exit ?_ | refine out_loopR_ret ?_ | refine out_loopR_exit ?_ | (refine hL _ ?_; clear hL))
    | (with_reducible first | refine w_reg (by decide +kernel) fun K1 hK => ?_ | refine w_reg_end (by decide +kernel) fun K1 hK => ?_)
    | ((with_reducible first | apply d_reg Try.mix (by decide +kernel) | apply d_reg_end Try.mix (by decide +kernel)); (case hm => simp only [List.length_cons, List.length_nil, Nat.reduceAdd, Nat.reduceMul]; rfl); (case' h => intro K1 hK))
    | with_reducible refine go_seq ?_
    | ((with_reducible first | apply v_op Try.tab | apply v_op0 Try.tab | apply d_op Try.tab | apply d_op0 Try.tab) <;> first | (intro K' h0 hw; conv => whnf) | (simp only [Nat.reduceAdd, Nat.reduceMul]; rfl))
    | ((with_reducible apply v_nil); (case hm => (simp only [Nat.reduceAdd, Nat.reduceMul]; rfl)); (case' h => with_reducible refine hK _ ?_; clear hK))
    | ((with_reducible apply d_nil); (refine hK _ _ _ _ (by first | decide +kernel | (simp only [List.map_cons, List.map_nil, List.nil_append, List.cons_append]; decide +kernel) | rfl) ?_; clear hK))
    | (first | refine d_grd_yes (by rfl) (by rfl) ?_ | refine v_grd_yes (by rfl) (by rfl) ?_)
    | (apply d_grd_no; (case hg => rfl); (case hb => rfl); (case hi => (simp only [Nat.reduceAdd, Nat.reduceMul]; rfl)))
    | (apply d_grd_undef; (case hg => rfl); (case hb => rfl); (case hi => (simp only [Nat.reduceAdd, Nat.reduceMul]; rfl)))
    | (apply d_grd; (case hg => rfl); (case hb => rfl); (case hi => (simp only [Nat.reduceAdd, Nat.reduceMul]; rfl)))
    | (apply v_grd_no; (case hg => rfl); (case hb => rfl); (case hi => (simp only [Nat.reduceAdd, Nat.reduceMul]; rfl)))
    | (apply v_grd_undef; (case hg => rfl); (case hb => rfl); (case hi => (simp only [Nat.reduceAdd, Nat.reduceMul]; rfl)))
    | (apply v_grd; (case hg => rfl); (case hb => rfl); (case hi => (simp only [Nat.reduceAdd, Nat.reduceMul]; rfl)))
    | ((with_reducible refine callV_id (f := 69) ?_); have hcs_ := c_storeCheck s hs; (with_reducible apply callV_f own69 (hcs_)); (case hx => rfl); (case he => rfl); (case hle => first | ((repeat constructor); done) | (simp; done)); (case hpu => repeat constructor); (case' hK => (try clear hcs_); conv => whnf))
    | ((with_reducible refine callV_id (f := 46) ?_); have hcs_ := c_frameCheck f (by omega); (with_reducible apply callV_f own46 (hcs_)); (case hx => rfl); (case he => rfl); (case hle => first | ((repeat constructor); done) | (simp; done)); (case hpu => repeat constructor); (case' hK => (try clear hcs_); conv => whnf))
    | ((with_reducible refine callV_id (f := 74) ?_); have hcs_ := c_storeRaw s f (storeE_ok g1) (by assumption); (with_reducible apply callV_f own74 (hcs_)); (case hx => rfl); (case he => rfl); (case hle => first | ((repeat constructor); done) | (simp; done)); (case hpu => repeat constructor); (case' hK => (try clear hcs_); conv => whnf))
    | ((with_reducible apply go_cond); (case hb => rfl))
    | ((with_reducible apply out_block_there); (case hne => rfl))
    | ((with_reducible first | refine w_ret Try.tab fun K' hL => ?_ | refine w_ret_end Try.tab fun K' hL => ?_); (conv => whnf))
    | ((with_reducible apply And.intro); (case' right => try (conv => whnf)); (case' left => try first | rfl | decide | (simp; done)))
    | ((with_reducible apply Side.mk); (try simp (disch := omega) only [wrp]); (try simp); (try omega))
    | ((with_reducible apply all_rk); (case hx => with_reducible assumption); (conv => whnf))
    | ((with_reducible refine all_row ?_); (first | (have _y := hx5; clear _y; intro x6 hx6) | (have _y := hx4; clear _y; intro x5 hx5) | (have _y := hx3; clear _y; intro x4 hx4) | (have _y := hx2; clear _y; intro x3 hx3) | (have _y := hx1; clear _y; intro x2 hx2) | (intro x1 hx1)); conv => whnf)
    | (refine ⟨_, eqAT (by rfl) (by rfl) (by rfl) (by rfl), ?_⟩; conv => whnf)
    | exact absurd g2 g1
    | ((first | (have _y := g9; clear _y; intro g10; try simp at g10) | (have _y := g8; clear _y; intro g9; try simp at g9) | (have _y := g7; clear _y; intro g8; try simp at g8) | (have _y := g6; clear _y; intro g7; try simp at g7) | (have _y := g5; clear _y; intro g6; try simp at g6) | (have _y := g4; clear _y; intro g5; try simp at g5) | (have _y := g3; clear _y; intro g4; try simp at g4) | (have _y := g2; clear _y; intro g3; try simp at g3) | (have _y := g1; clear _y; intro g2; try simp at g2) | (intro g1; try simp at g1))))
  · have e : vE1 s f = frameE f := if_pos g1
    have e2 : addS' s f = (st0, false, frameE f) := by rw [addS', e, if_neg g2]
    rw [e2]; simp [stT, st0]
  · have e : vE1 s f = frameE f := if_pos g1
    have e2 : addS' s f = storeRaw s f := by rw [addS', e, if_pos g2]
    rw [e2]; simp [stT]
  · have e : vE1 s f = storeE s := if_neg g1
    have e2 : addS' s f = (st0, false, storeE s) := by rw [addS', e, if_neg g1]
    rw [e2]; simp [stT, st0]
def shelf : Sto := ⟨3, [[pic 10 true, pic 12 false], [pic 20 true]], [pic 30 true]⟩
set_option maxHeartbeats 1000000 in
theorem c_shelf : PSpec Try.prog 65 [] (.agg (stC shelf)) := by
  refine v_pspec Try.func65 rfl Try.ntmps65 Try.results65 (by simp) (by first | exact .s _ | repeat constructor) ?_
  repeat' (first
    | (with_reducible first | refine go_later ?_ | (refine h0 _ _ ?_; clear h0 hw) | (refine hw _ _ _ ?_; clear h0 hw) | refine go_ret ?_ | refine go_skip ?_ | refine go_block ?_ | refine go_exit ?_ | refine out_seq_ret ?_ | refine out_seq_normal ?_ | refine out_seq_exit ?_ | refine out_block_ret ?_ | refine out_block_normal ?_ | refine out_block_here ?_ | refine out_loop_ret ?_ | refine out_loop_exit ?_ | refine out_loopR_ret ?_ | refine out_loopR_exit ?_ | (refine hL _ ?_; clear hL))
    | (with_reducible first | refine w_reg (by decide +kernel) fun K1 hK => ?_ | refine w_reg_end (by decide +kernel) fun K1 hK => ?_)
    | ((with_reducible first | apply d_reg Try.mix (by decide +kernel) | apply d_reg_end Try.mix (by decide +kernel)); (case hm => simp only [List.length_cons, List.length_nil, Nat.reduceAdd, Nat.reduceMul]; rfl); (case' h => intro K1 hK))
    | with_reducible refine go_seq ?_
    | ((with_reducible first | apply v_op Try.tab | apply v_op0 Try.tab | apply d_op Try.tab | apply d_op0 Try.tab) <;> first | (intro K' h0 hw; conv => whnf) | (simp only [Nat.reduceAdd, Nat.reduceMul]; rfl))
    | ((with_reducible apply v_nil); (case hm => (simp only [Nat.reduceAdd, Nat.reduceMul]; rfl)); (case' h => with_reducible refine hK _ ?_; clear hK))
    | ((with_reducible apply d_nil); (refine hK _ _ _ _ (by first | decide +kernel | (simp only [List.map_cons, List.map_nil, List.nil_append, List.cons_append]; decide +kernel) | rfl) ?_; clear hK))
    | (first | refine d_grd_yes (by rfl) (by rfl) ?_ | refine v_grd_yes (by rfl) (by rfl) ?_)
    | (apply d_grd_no; (case hg => rfl); (case hb => rfl); (case hi => (simp only [Nat.reduceAdd, Nat.reduceMul]; rfl)))
    | (apply d_grd_undef; (case hg => rfl); (case hb => rfl); (case hi => (simp only [Nat.reduceAdd, Nat.reduceMul]; rfl)))
    | (apply d_grd; (case hg => rfl); (case hb => rfl); (case hi => (simp only [Nat.reduceAdd, Nat.reduceMul]; rfl)))
    | (apply v_grd_no; (case hg => rfl); (case hb => rfl); (case hi => (simp only [Nat.reduceAdd, Nat.reduceMul]; rfl)))
    | (apply v_grd_undef; (case hg => rfl); (case hb => rfl); (case hi => (simp only [Nat.reduceAdd, Nat.reduceMul]; rfl)))
    | (apply v_grd; (case hg => rfl); (case hb => rfl); (case hi => (simp only [Nat.reduceAdd, Nat.reduceMul]; rfl)))
    | ((with_reducible refine callV_id (f := 44) ?_); (with_reducible apply callV_f own44 (c_pic _ _)); (case hx => rfl); (case he => rfl); (case hle => first | ((repeat constructor); done) | (simp; done)); (case hpu => repeat constructor); (case' hK => (try clear hcs_); conv => whnf))
    | ((with_reducible apply go_cond); (case hb => rfl))
    | ((with_reducible apply out_block_there); (case hne => rfl))
    | ((with_reducible first | refine w_ret Try.tab fun K' hL => ?_ | refine w_ret_end Try.tab fun K' hL => ?_); (conv => whnf))
    | ((with_reducible apply And.intro); (case' right => try (conv => whnf)); (case' left => try first | rfl | decide | (simp; done)))
    | ((with_reducible apply Side.mk); (try simp (disch := omega) only [wrp]); (try simp); (try omega))
    | ((with_reducible apply all_rk); (case hx => with_reducible assumption); (conv => whnf))
    | ((with_reducible refine all_row ?_); (first | (have _y := hx5; clear _y; intro x6 hx6) | (have _y := hx4; clear _y; intro x5 hx5) | (have _y := hx3; clear _y; intro x4 hx4) | (have _y := hx2; clear _y; intro x3 hx3) | (have _y := hx1; clear _y; intro x2 hx2) | (intro x1 hx1)); conv => whnf)
    | (refine ⟨_, eqAT (by rfl) (by rfl) (by rfl) (by rfl), ?_⟩; conv => whnf)
    | ((first | (have _y := g9; clear _y; intro g10; try simp at g10) | (have _y := g8; clear _y; intro g9; try simp at g9) | (have _y := g7; clear _y; intro g8; try simp at g8) | (have _y := g6; clear _y; intro g7; try simp at g7) | (have _y := g5; clear _y; intro g6; try simp at g6) | (have _y := g4; clear _y; intro g5; try simp at g5) | (have _y := g3; clear _y; intro g4; try simp at g4) | (have _y := g2; clear _y; intro g3; try simp at g3) | (have _y := g1; clear _y; intro g2; try simp at g2) | (intro g1; try simp at g1))))
  simp [shelf, pic]
theorem shelf_small : Small shelf := ⟨by decide, by decide, by decide, by decide⟩
theorem Small.fits {s : Sto} (h : Small s) : FitsS s := by
  obtain ⟨h1, h2, h3, h4⟩ := h
  exact ⟨by omega, fun g hg => ⟨by have := (h2 g hg).1; omega, (h2 g hg).2⟩, ⟨by omega, h4⟩⟩
theorem sb1 : PSpec Try.prog 40 [.agg (stC shelf), .agg (frC (pic 40 true))] (stT (⟨3, [[pic 10 true, pic 12 false], [pic 20 true], [pic 30 true]], [pic 40 true]⟩, true, 0)) := by
  have h := c_storeAdd shelf (pic 40 true) shelf_small.fits (by decide)
  rwa [show addS' shelf (pic 40 true) = (⟨3, [[pic 10 true, pic 12 false], [pic 20 true], [pic 30 true]], [pic 40 true]⟩, true, 0) by decide +kernel] at h
theorem sb2 : PSpec Try.prog 68 [.agg (stC shelf), I 25] (.tup [I 4, I 0]) := by
  have h := c_storeSeek shelf 25 shelf_small.fits
  rwa [show seekS shelf 25 = (4, 0) by decide +kernel] at h
theorem sb3 : PSpec Try.prog 36 [.agg (stC shelf), I 5] (.tup [.agg (grC [pic 30 true]), I 0]) := by
  have h := c_storeGet shelf 5 shelf_small.fits (by decide)
  rwa [show getS shelf 5 = ([pic 30 true], 0) by decide +kernel] at h
theorem sb4 : PSpec Try.prog 36 [.agg (stC shelf), I 6] (.tup [.agg (grC []), I 5]) := by
  have h := c_storeGet shelf 6 shelf_small.fits (by decide)
  rwa [show getS shelf 6 = ([], 5) by decide +kernel] at h
theorem sb5 : PSpec Try.prog 69 [.agg (stC shelf)] (I 0) := by
  have h := c_storeCheck shelf shelf_small.fits
  rwa [show storeE shelf = 0 by decide +kernel] at h
theorem sb6 : PSpec Try.prog 38 [frs [pic 30 true], frs [pic 30 true]] (B true) := by
  have h := c_sameFrames [pic 30 true] [pic 30 true] (by decide) (by decide)
  rwa [show decide ([pic 30 true] = [pic 30 true]) = true by simp] at h
set_option maxHeartbeats 2000000 in
theorem c_storeBegun : PSpec Try.prog 34 [] (B true) := by
  refine v_pspec Try.func34 rfl Try.ntmps34 Try.results34 (by simp) (by first | exact .s _ | repeat constructor) ?_
  repeat' (first
    | (with_reducible first | refine go_later ?_ | (refine h0 _ _ ?_; clear h0 hw) | (refine hw _ _ _ ?_; clear h0 hw) | refine go_ret ?_ | refine go_skip ?_ | refine go_block ?_ | refine go_exit ?_ | refine out_seq_ret ?_ | refine out_seq_normal ?_ | refine out_seq_exit ?_ | refine out_block_ret ?_ | refine out_block_normal ?_ | refine out_block_here ?_ | refine out_loop_ret ?_ | refine out_loop_exit ?_ | refine out_loopR_ret ?_ | refine out_loopR_exit ?_ | (refine hL _ ?_; clear hL))
    | (with_reducible first | refine w_reg (by decide +kernel) fun K1 hK => ?_ | refine w_reg_end (by decide +kernel) fun K1 hK => ?_)
    | ((with_reducible first | apply d_reg Try.mix (by decide +kernel) | apply d_reg_end Try.mix (by decide +kernel)); (case hm => simp only [List.length_cons, List.length_nil, Nat.reduceAdd, Nat.reduceMul]; rfl); (case' h => intro K1 hK))
    | with_reducible refine go_seq ?_
    | ((with_reducible first | apply v_op Try.tab | apply v_op0 Try.tab | apply d_op Try.tab | apply d_op0 Try.tab) <;> first | (intro K' h0 hw; conv => whnf) | (simp only [Nat.reduceAdd, Nat.reduceMul]; rfl))
    | ((with_reducible apply v_nil); (case hm => (simp only [Nat.reduceAdd, Nat.reduceMul]; rfl)); (case' h => with_reducible refine hK _ ?_; clear hK))
    | ((with_reducible apply d_nil); (refine hK _ _ _ _ (by first | decide +kernel | (simp only [List.map_cons, List.map_nil, List.nil_append, List.cons_append]; decide +kernel) | rfl) ?_; clear hK))
    | (first | refine d_grd_yes (by rfl) (by rfl) ?_ | refine v_grd_yes (by rfl) (by rfl) ?_)
    | (apply d_grd_no; (case hg => rfl); (case hb => rfl); (case hi => (simp only [Nat.reduceAdd, Nat.reduceMul]; rfl)))
    | (apply d_grd_undef; (case hg => rfl); (case hb => rfl); (case hi => (simp only [Nat.reduceAdd, Nat.reduceMul]; rfl)))
    | (apply d_grd; (case hg => rfl); (case hb => rfl); (case hi => (simp only [Nat.reduceAdd, Nat.reduceMul]; rfl)))
    | (apply v_grd_no; (case hg => rfl); (case hb => rfl); (case hi => (simp only [Nat.reduceAdd, Nat.reduceMul]; rfl)))
    | (apply v_grd_undef; (case hg => rfl); (case hb => rfl); (case hi => (simp only [Nat.reduceAdd, Nat.reduceMul]; rfl)))
    | (apply v_grd; (case hg => rfl); (case hb => rfl); (case hi => (simp only [Nat.reduceAdd, Nat.reduceMul]; rfl)))
    | ((with_reducible refine callV_id (f := 65) ?_); have hcs_ := c_shelf; (with_reducible apply callV_f own65 (hcs_)); (case hx => rfl); (case he => rfl); (case hle => first | ((repeat constructor); done) | (simp [stT, shelf]; done)); (case hpu => repeat constructor); (case' hK => (try clear hcs_); conv => whnf))
    | ((with_reducible refine callV_id (f := 44) ?_); (with_reducible apply callV_f own44 (c_pic _ _)); (case hx => rfl); (case he => rfl); (case hle => first | ((repeat constructor); done) | (simp [stT, shelf]; done)); (case hpu => repeat constructor); (case' hK => (try clear hcs_); conv => whnf))
    | ((with_reducible refine callV_id (f := 40) ?_); have hcs_ := sb1; (with_reducible apply callV_f own40 (hcs_)); (case hx => rfl); (case he => rfl); (case hle => first | ((repeat constructor); done) | (simp [stT, shelf]; done)); (case hpu => repeat constructor); (case' hK => (try clear hcs_); conv => whnf))
    | ((with_reducible refine callV_id (f := 68) ?_); have hcs_ := sb2; (with_reducible apply callV_f own68 (hcs_)); (case hx => rfl); (case he => rfl); (case hle => first | ((repeat constructor); done) | (simp [stT, shelf]; done)); (case hpu => repeat constructor); (case' hK => (try clear hcs_); conv => whnf))
    | ((with_reducible refine callV_id (f := 36) ?_); have hcs_ := sb3; (with_reducible apply callV_f own36 (hcs_)); (case hx => rfl); (case he => rfl); (case hle => first | ((repeat constructor); done) | (simp [stT, shelf]; done)); (case hpu => repeat constructor); (case' hK => (try clear hcs_); conv => whnf))
    | ((with_reducible refine callV_id (f := 36) ?_); have hcs_ := sb4; (with_reducible apply callV_f own36 (hcs_)); (case hx => rfl); (case he => rfl); (case hle => first | ((repeat constructor); done) | (simp [stT, shelf]; done)); (case hpu => repeat constructor); (case' hK => (try clear hcs_); conv => whnf))
    | ((with_reducible refine callV_id (f := 69) ?_); have hcs_ := sb5; (with_reducible apply callV_f own69 (hcs_)); (case hx => rfl); (case he => rfl); (case hle => first | ((repeat constructor); done) | (simp [stT, shelf]; done)); (case hpu => repeat constructor); (case' hK => (try clear hcs_); conv => whnf))
    | ((with_reducible refine callV_id (f := 38) ?_); have hcs_ := sb6; (with_reducible apply callV_f own38 (hcs_)); (case hx => rfl); (case he => rfl); (case hle => first | ((repeat constructor); done) | (simp [stT, shelf]; done)); (case hpu => repeat constructor); (case' hK => (try clear hcs_); conv => whnf))
    | ((with_reducible apply go_cond); (case hb => rfl))
    | ((with_reducible apply out_block_there); (case hne => rfl))
    | ((with_reducible first | refine w_ret Try.tab fun K' hL => ?_ | refine w_ret_end Try.tab fun K' hL => ?_); (conv => whnf))
    | ((with_reducible apply And.intro); (case' right => try (conv => whnf)); (case' left => try first | rfl | decide | (simp [stT, shelf]; done)))
    | ((with_reducible apply Side.mk); (try simp (disch := omega) only [wrp]); (try simp); (try omega))
    | ((with_reducible apply all_rk); (case hx => with_reducible assumption); (conv => whnf))
    | ((with_reducible refine all_row ?_); (first | (have _y := hx5; clear _y; intro x6 hx6) | (have _y := hx4; clear _y; intro x5 hx5) | (have _y := hx3; clear _y; intro x4 hx4) | (have _y := hx2; clear _y; intro x3 hx3) | (have _y := hx1; clear _y; intro x2 hx2) | (intro x1 hx1)); conv => whnf)
    | (refine ⟨_, eqAT (by rfl) (by rfl) (by rfl) (by rfl), ?_⟩; conv => whnf)
    | ((first | (have _y := g9; clear _y; intro g10; try simp at g10) | (have _y := g8; clear _y; intro g9; try simp at g9) | (have _y := g7; clear _y; intro g8; try simp at g8) | (have _y := g6; clear _y; intro g7; try simp at g7) | (have _y := g5; clear _y; intro g6; try simp at g6) | (have _y := g4; clear _y; intro g5; try simp at g5) | (have _y := g3; clear _y; intro g4; try simp at g4) | (have _y := g2; clear _y; intro g3; try simp at g3) | (have _y := g1; clear _y; intro g2; try simp at g2) | (intro g1; try simp at g1))))
  exact le_of_eq rfl
theorem addS_err {s : Sto} {f : Fr} (h : ¬ (addS' s f).2.2 = 0) : (addS' s f).1 = st0 ∧ (addS' s f).2.1 = false := by
  unfold addS' at h ⊢
  split
  · rename_i q
    rw [if_pos q] at h
    unfold storeRaw at h ⊢
    split
    · simp
    · rename_i q2; rw [if_neg q2] at h; exact absurd rfl h
  · simp
theorem fits_len {s : Sto} (hs : FitsS s) : True := trivial
theorem getS_small (s : Sto) (n : Int) : (getS s n).1.length ≤ 6 ∧ ∀ f ∈ (getS s n).1, f.parts.length ≤ 8796093022208 := by
  unfold getS
  split
  · rename_i h
    split
    · simp
    · have hr := (storeE_ok h).all.2
      have hin : ∀ i, (allS s).getD i [] ∈ allS s ∨ (allS s).getD i [] = [] := fun i => by
        rw [List.getD_eq_getElem?_getD]
        cases hq : (allS s)[i]? with
        | none => right; rfl
        | some x => left; exact List.mem_of_getElem? hq
      rcases hin (n - s.first).toNat with h1 | h1
      · have h2 := groupE_ok (hr _ h1)
        exact ⟨h2.2.1, (right_fits (hr _ h1)).2⟩
      · simp only [h1]; simp
  · simp
end Go.Proofs.Ytlehonipilpfdaa

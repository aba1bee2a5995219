/- CursorKey, walked. No condition. -/
import Derived.Test.YtlehonipilpfdaaCursorLive
namespace Go.Proofs.Ytlehonipilpfdaa
open Go Go.Sy
set_option maxRecDepth 4000
set_option linter.unusedSimpArgs false
set_option linter.unusedVariables false
attribute [local irreducible] Reg RegD Later Out CallV Tri Side EqV
theorem group_fits_at {s : Sto} {c : Cu} (hr : RightS s) (h : 0 < (grpAt (allS s) s.first c).length) : groupE (grpAt (allS s) s.first c) = 0 := hr.all.2 _ (grpAt_mem h)
/-- What comes, or nothing: case by case. -/
theorem nextR_cases {s : Sto} {c : Cu} {upto : Int} (hr : RightS s) (hc : cuE c = 0) :
    (nextR s c upto = (c, fr0, false, false) ∧ (c.mode = 1 → allS s ≠ [] → ∃ g j, c.group = s.first + (j : Nat) ∧ (allS s)[j]? = some g ∧ c.frame = g.length ∧ j + 1 = (allS s).length)) ∨
    ∃ d x t, nextR s c upto = (d, x, true, t) ∧ c.mode ≠ 2 ∧ cuE d = 0 ∧ 1 ≤ d.frame ∧ x.key = decide (d.frame = 1) ∧ (t = true → d.frame = 1) ∧ (c.mode = 3 → x.time ≤ upto) ∧ d.mode = c.mode := by
  have hsc := right_smallC hr hc
  have hco := cuE_ok hc
  have hne : ∀ g ∈ allS s, 0 < g.length := fun g hg => List.length_pos_iff.2 (groupE_ok (hr.all.2 g hg)).1
  by_cases h1 : c.mode = 2 ∨ allS s = [] ∨ ¬ setG (allS s) s.first c < s.first + (allS s).length
  · refine .inl ⟨if_pos h1, fun hm hl => ?_⟩
    have h2 : ¬ setG (allS s) s.first c < s.first + (allS s).length := by
      rcases h1 with h | h | h
      · omega
      · exact absurd h hl
      · exact h
    have hlp := List.length_pos_iff.2 hl
    by_cases hb : lostB (allS s) s.first c = true
    · have e4 : setG (allS s) s.first c = s.first + (allS s).length - 1 := by simp [setG, hb, hm]
      omega
    · have hb' : lostB (allS s) s.first c = false := by simpa using hb
      obtain ⟨q1, q2⟩ := lost_in hb'
      simp only [inB, decide_eq_true_eq] at q1
      by_cases hfr : c.frame = (grpAt (allS s) s.first c).length
      · have e4 : setG (allS s) s.first c = c.group + 1 := by simp [setG, hb', ← hfr]
        have hjl : (c.group - s.first).toNat < (allS s).length := by omega
        refine ⟨grpAt (allS s) s.first c, (c.group - s.first).toNat, by omega, ?_, hfr, by omega⟩
        rw [grpAt, List.getD_eq_getElem?_getD, List.getElem?_eq_getElem hjl]; rfl
      · have e4 : setG (allS s) s.first c = c.group := by simp [setG, hb', hfr]
        omega
  · have h2 : setG (allS s) s.first c < s.first + (allS s).length := by
      rcases Classical.em (setG (allS s) s.first c < s.first + (allS s).length) with h | h
      · exact h
      · exact absurd (.inr (.inr h)) h1
    have hl : allS s ≠ [] := fun h => h1 (.inr (.inl h))
    have hm : c.mode ≠ 2 := fun h => h1 (.inl h)
    obtain ⟨q1, q2, q3, q4⟩ := settle_in hsc hne hl h2
    have hgr := group_fits_at hr (c := setC (allS s) s.first c) (by omega)
    have hg6 := (groupE_ok hgr).2.1
    obtain ⟨x, hx⟩ : ∃ x, (grpAt (allS s) s.first (setC (allS s) s.first c))[(setF (allS s) s.first c).toNat]? = some x := ⟨_, List.getElem?_eq_getElem (by omega)⟩
    have hgx : (grpAt (allS s) s.first (setC (allS s) s.first c)).getD (setF (allS s) s.first c).toNat fr0 = x := by rw [List.getD_eq_getElem?_getD, hx]; rfl
    have hkey := key_at hgr hx
    by_cases h3 : c.mode = 3 ∧ upto < x.time
    · refine .inl ⟨by rw [nextR, if_neg h1, hgx, if_pos h3], fun hm1 => by omega⟩
    · refine .inr ⟨⟨c.mode, setG (allS s) s.first c, setF (allS s) s.first c + 1⟩, x, lostB (allS s) s.first c, by rw [nextR, if_neg h1, hgx, if_neg h3], hm, ?_, by simp only; omega, ?_, ?_, fun h => by omega, rfl⟩
      · unfold cuOK at hco
        have := hsc.1
        have := hsc.2.1
        unfold cuE; rw [if_neg (by simp only; omega), if_neg (by simp only; omega)]
      · rw [hkey]; simp only; congr 1; simp; omega
      · intro hb
        simp only [setF, hb, if_true]; rfl
theorem grow_fits {s : Sto} {f : Fr} (hr : RightS s) (hf : frameE f = 0) : Fits (growS s.op f) ∧ groupB (growS s.op f) ≤ 192 := by
  rcases okG_grow hr.2.2.2.1 hf with h | h
  · rw [h]; exact ⟨⟨by simp, by simp⟩, by simp [groupB]⟩
  · exact ⟨right_fits h, groupE_bytes h⟩
theorem op_fits {s : Sto} (hr : RightS s) : Fits s.op ∧ groupB s.op ≤ 192 := by
  rcases hr.2.2.2.1 with h | h
  · rw [h]; exact ⟨⟨by simp, by simp⟩, by simp [groupB]⟩
  · exact ⟨right_fits h, groupE_bytes h⟩
set_option maxHeartbeats 4000000 in
theorem c_cursorKey (s : Sto) (c : Cu) (upto : Int) (f : Fr) (hs : FitsS s) (hf : f.parts.length ≤ 8796093022208) : PSpec Try.prog 11 [.agg (stC s), .agg (cuC c), I upto, .agg (frC f)] (B true) := by
  refine v_pspec Try.func11 rfl Try.ntmps11 Try.results11 (by simp) (by first | exact .s _ | repeat constructor) ?_
  have hN := c_cursorNext s c upto hs
  by_cases hE : nextE s c upto = 0
  · obtain ⟨hr, hc, hu⟩ := nextE_ok hE
    have e : nextS s c upto = (nextR s c upto, 0) := if_pos hE
    rw [e] at hN
    have hA := c_storeAdd s f hs hf
    have hAll := c_allOf s (by have := hr.2.1; omega)
    rcases nextR_cases (upto := upto) hr hc with ⟨hn, hlive⟩ | ⟨d, x, t, hn, q1, q2, q3, q4, q5, q6, q7⟩
    · rw [hn] at hN
      by_cases hA2 : (addS' s f).2.2 = 0
      · obtain ⟨_, hfe, hraw⟩ := addS_ok hA2
        rw [hraw] at hA2
        rw [hraw] at hA
        by_cases hl : c.mode = 1 ∧ allS s ≠ []
        · obtain ⟨g, j, k1, k2, k3, k4⟩ := hlive hl.1 hl.2
          have hcc : c = ⟨1, s.first + j, g.length⟩ := Cu.ext' hl.1 k1 k3
          obtain ⟨k, b1, b2, b3, b4, b5⟩ := raw_right hr hfe hA2
          have hcur := c_cursorNext (storeRaw s f).1 c upto (raw_small hr hfe).fits
          rw [nextS_of (by rw [b2]; exact b3) (cuE_ok hc) hu] at hcur
          have hop : (storeRaw s f).1.op = growS s.op f := by rw [b2]
          have hz1 := c_sizeOf (storeRaw s f).1.op (by rw [hop]; exact (grow_fits hr hfe).1) (by rw [hop]; have := (grow_fits hr hfe).2; omega)
          have hz2 := c_sizeOf s.op (op_fits hr).1 (by have := (op_fits hr).2; omega)
          rcases live_next (m := 1) (upto := upto) hr hfe hA2 (by simp) k4 k2 (by simp) with ⟨⟨c', hx⟩, hd⟩ | ⟨w1, w2, hx⟩
          · rw [← hcc] at hx
            rw [hx] at hcur
            repeat' (first
    | (with_reducible first | refine go_later ?_ | (refine h0 _ _ ?_; clear h0 hw) | (refine hw _ _ _ ?_; clear h0 hw) | refine go_ret ?_ | refine go_skip ?_ | refine go_block ?_ | refine go_exit ?_ | refine out_seq_ret ?_ | refine out_seq_normal ?_ | refine out_seq_exit ?_ | refine out_block_ret ?_ | refine out_block_normal ?_ | refine out_block_here ?_ | refine out_loop_ret ?_ | refine out_loop_exit ?_ | refine out_loopR_ret ?_ | refine out_loopR_exit ?_ | (refine hL _ ?_; clear hL))
    | (with_reducible first | refine w_reg (by decide +kernel) fun K1 hK => ?_ | refine w_reg_end (by decide +kernel) fun K1 hK => ?_)
    | ((with_reducible first | apply d_reg Try.mix (by decide +kernel) | apply d_reg_end Try.mix (by decide +kernel)); (case hm => simp only [List.length_cons, List.length_nil, Nat.reduceAdd, Nat.reduceMul]; rfl); (case' h => intro K1 hK))
    | with_reducible refine go_seq ?_
    | ((with_reducible first | apply v_op Try.tab | apply v_op0 Try.tab | apply d_op Try.tab | apply d_op0 Try.tab) <;> first | (intro K' h0 hw; conv => whnf) | (simp only [Nat.reduceAdd, Nat.reduceMul]; rfl))
    | ((with_reducible apply v_nil); (case hm => (simp only [Nat.reduceAdd, Nat.reduceMul]; rfl)); (case' h => with_reducible refine hK _ ?_; clear hK))
    | ((with_reducible apply d_nil); (refine hK _ _ _ _ (by first | decide +kernel | (simp only [List.map_cons, List.map_nil, List.nil_append, List.cons_append]; decide +kernel) | rfl) ?_; clear hK))
    | (first | refine d_grd_yes (by rfl) (by rfl) ?_ | refine v_grd_yes (by rfl) (by rfl) ?_)
    | (apply d_grd_no; (case hg => rfl); (case hb => rfl); (case hi => (simp only [Nat.reduceAdd, Nat.reduceMul]; rfl)))
    | (apply d_grd_undef; (case hg => rfl); (case hb => rfl); (case hi => (simp only [Nat.reduceAdd, Nat.reduceMul]; rfl)))
    | (apply d_grd; (case hg => rfl); (case hb => rfl); (case hi => (simp only [Nat.reduceAdd, Nat.reduceMul]; rfl)))
    | (apply v_grd_no; (case hg => rfl); (case hb => rfl); (case hi => (simp only [Nat.reduceAdd, Nat.reduceMul]; rfl)))
    | (apply v_grd_undef; (case hg => rfl); (case hb => rfl); (case hi => (simp only [Nat.reduceAdd, Nat.reduceMul]; rfl)))
    | (apply v_grd; (case hg => rfl); (case hb => rfl); (case hi => (simp only [Nat.reduceAdd, Nat.reduceMul]; rfl)))
    | ((with_reducible refine callV_id (f := 37) ?_); have hcs_ := hN; (with_reducible apply callV_f own37 (hcs_)); (case hx => rfl); (case he => rfl); (case hle => first | ((repeat constructor); done) | (simp [nxT', stT]; done)); (case hpu => repeat constructor); (case' hK => (try clear hcs_); conv => whnf))
    | ((with_reducible refine callV_id (f := 37) ?_); have hcs_ := hcur; (with_reducible apply callV_f own37 (hcs_)); (case hx => rfl); (case he => rfl); (case hle => first | ((repeat constructor); done) | (simp [nxT', stT]; done)); (case hpu => repeat constructor); (case' hK => (try clear hcs_); conv => whnf))
    | ((with_reducible refine callV_id (f := 33) ?_); have hcs_ := c_cursorBegun; (with_reducible apply callV_f own33 (hcs_)); (case hx => rfl); (case he => rfl); (case hle => first | ((repeat constructor); done) | (simp [nxT', stT]; done)); (case hpu => repeat constructor); (case' hK => (try clear hcs_); conv => whnf))
    | ((with_reducible refine callV_id (f := 34) ?_); have hcs_ := c_storeBegun; (with_reducible apply callV_f own34 (hcs_)); (case hx => rfl); (case he => rfl); (case hle => first | ((repeat constructor); done) | (simp [nxT', stT]; done)); (case hpu => repeat constructor); (case' hK => (try clear hcs_); conv => whnf))
    | ((with_reducible refine callV_id (f := 40) ?_); have hcs_ := hA; (with_reducible apply callV_f own40 (hcs_)); (case hx => rfl); (case he => rfl); (case hle => first | ((repeat constructor); done) | (simp [nxT', stT]; done)); (case hpu => repeat constructor); (case' hK => (try clear hcs_); conv => whnf))
    | ((with_reducible refine callV_id (f := 41) ?_); have hcs_ := hAll; (with_reducible apply callV_f own41 (hcs_)); (case hx => rfl); (case he => rfl); (case hle => first | ((repeat constructor); done) | (simp [nxT', stT]; done)); (case hpu => repeat constructor); (case' hK => (try clear hcs_); conv => whnf))
    | ((with_reducible refine callV_id (f := 42) ?_); have hcs_ := hz1; (with_reducible apply callV_f own42 (hcs_)); (case hx => rfl); (case he => rfl); (case hle => first | ((repeat constructor); done) | (simp [nxT', stT]; done)); (case hpu => repeat constructor); (case' hK => (try clear hcs_); conv => whnf))
    | ((with_reducible refine callV_id (f := 42) ?_); have hcs_ := hz2; (with_reducible apply callV_f own42 (hcs_)); (case hx => rfl); (case he => rfl); (case hle => first | ((repeat constructor); done) | (simp [nxT', stT]; done)); (case hpu => repeat constructor); (case' hK => (try clear hcs_); conv => whnf))
    | ((with_reducible refine callV_id (f := 43) ?_); have hcs_ := c_sameFrame f f (by omega); (with_reducible apply callV_f own43 (hcs_)); (case hx => rfl); (case he => rfl); (case hle => first | ((repeat constructor); done) | (simp [nxT', stT]; done)); (case hpu => repeat constructor); (case' hK => (try clear hcs_); conv => whnf))
    | ((with_reducible apply go_cond); (case hb => rfl))
    | ((with_reducible apply out_block_there); (case hne => rfl))
    | ((with_reducible first | refine w_ret Try.tab fun K' hL => ?_ | refine w_ret_end Try.tab fun K' hL => ?_); (conv => whnf))
    | ((with_reducible apply And.intro); (case' right => try (conv => whnf)); (case' left => try first | rfl | decide | (simp [nxT', stT]; done)))
    | ((with_reducible apply Side.mk); (try simp (disch := omega) only [wrp]); (try simp); (try omega))
    | ((with_reducible apply all_rk); (case hx => with_reducible assumption); (conv => whnf))
    | ((with_reducible refine all_row ?_); (first | (have _y := hx5; clear _y; intro x6 hx6) | (have _y := hx4; clear _y; intro x5 hx5) | (have _y := hx3; clear _y; intro x4 hx4) | (have _y := hx2; clear _y; intro x3 hx3) | (have _y := hx1; clear _y; intro x2 hx2) | (intro x1 hx1)); conv => whnf)
    | (refine ⟨_, eqAT (by rfl) (by rfl) (by rfl) (by rfl), ?_⟩; conv => whnf)
    | ((first | (have _y := g23; clear _y; intro g24; try simp at g24; try simp (disch := omega) only [wrp] at g24) | (have _y := g22; clear _y; intro g23; try simp at g23; try simp (disch := omega) only [wrp] at g23) | (have _y := g21; clear _y; intro g22; try simp at g22; try simp (disch := omega) only [wrp] at g22) | (have _y := g20; clear _y; intro g21; try simp at g21; try simp (disch := omega) only [wrp] at g21) | (have _y := g19; clear _y; intro g20; try simp at g20; try simp (disch := omega) only [wrp] at g20) | (have _y := g18; clear _y; intro g19; try simp at g19; try simp (disch := omega) only [wrp] at g19) | (have _y := g17; clear _y; intro g18; try simp at g18; try simp (disch := omega) only [wrp] at g18) | (have _y := g16; clear _y; intro g17; try simp at g17; try simp (disch := omega) only [wrp] at g17) | (have _y := g15; clear _y; intro g16; try simp at g16; try simp (disch := omega) only [wrp] at g16) | (have _y := g14; clear _y; intro g15; try simp at g15; try simp (disch := omega) only [wrp] at g15) | (have _y := g13; clear _y; intro g14; try simp at g14; try simp (disch := omega) only [wrp] at g14) | (have _y := g12; clear _y; intro g13; try simp at g13; try simp (disch := omega) only [wrp] at g13) | (have _y := g11; clear _y; intro g12; try simp at g12; try simp (disch := omega) only [wrp] at g12) | (have _y := g10; clear _y; intro g11; try simp at g11; try simp (disch := omega) only [wrp] at g11) | (have _y := g9; clear _y; intro g10; try simp at g10; try simp (disch := omega) only [wrp] at g10) | (have _y := g8; clear _y; intro g9; try simp at g9; try simp (disch := omega) only [wrp] at g9) | (have _y := g7; clear _y; intro g8; try simp at g8; try simp (disch := omega) only [wrp] at g8) | (have _y := g6; clear _y; intro g7; try simp at g7; try simp (disch := omega) only [wrp] at g7) | (have _y := g5; clear _y; intro g6; try simp at g6; try simp (disch := omega) only [wrp] at g6) | (have _y := g4; clear _y; intro g5; try simp at g5; try simp (disch := omega) only [wrp] at g5) | (have _y := g3; clear _y; intro g4; try simp at g4; try simp (disch := omega) only [wrp] at g4) | (have _y := g2; clear _y; intro g3; try simp at g3; try simp (disch := omega) only [wrp] at g3) | (have _y := g1; clear _y; intro g2; try simp at g2; try simp (disch := omega) only [wrp] at g2) | (intro g1; try simp at g1; try simp (disch := omega) only [wrp] at g1))))
            all_goals first
              | exact le_of_eq rfl
              | (refine le_of_eq ?_; simp [cu0, fr0, eqC]; done)
              | (simp [fr0] at g5; done)
              | (simp only [g11] at hd; simp at hd; omega)
              | (rw [w1] at g11; cases g11)
              | (rw [w2] at g10; exact absurd rfl g10)
              | exact absurd ⟨by assumption, by assumption⟩ hl
              | exact absurd (by assumption) hA2
              | exact absurd q4 (by assumption)
              | (exfalso; omega)
              | (exfalso; have h9 := q6 (by assumption); omega)
              | (exfalso; have h9 := q5 (by assumption); rw [h9] at q4; simp [q4] at g6; done)
          · rw [← hcc] at hx
            rw [hx] at hcur
            rw [w2] at hz1
            repeat' (first
    | (with_reducible first | refine go_later ?_ | (refine h0 _ _ ?_; clear h0 hw) | (refine hw _ _ _ ?_; clear h0 hw) | refine go_ret ?_ | refine go_skip ?_ | refine go_block ?_ | refine go_exit ?_ | refine out_seq_ret ?_ | refine out_seq_normal ?_ | refine out_seq_exit ?_ | refine out_block_ret ?_ | refine out_block_normal ?_ | refine out_block_here ?_ | refine out_loop_ret ?_ | refine out_loop_exit ?_ | refine out_loopR_ret ?_ | refine out_loopR_exit ?_ | (refine hL _ ?_; clear hL))
    | (with_reducible first | refine w_reg (by decide +kernel) fun K1 hK => ?_ | refine w_reg_end (by decide +kernel) fun K1 hK => ?_)
    | ((with_reducible first | apply d_reg Try.mix (by decide +kernel) | apply d_reg_end Try.mix (by decide +kernel)); (case hm => simp only [List.length_cons, List.length_nil, Nat.reduceAdd, Nat.reduceMul]; rfl); (case' h => intro K1 hK))
    | with_reducible refine go_seq ?_
    | ((with_reducible first | apply v_op Try.tab | apply v_op0 Try.tab | apply d_op Try.tab | apply d_op0 Try.tab) <;> first | (intro K' h0 hw; conv => whnf) | (simp only [Nat.reduceAdd, Nat.reduceMul]; rfl))
    | ((with_reducible apply v_nil); (case hm => (simp only [Nat.reduceAdd, Nat.reduceMul]; rfl)); (case' h => with_reducible refine hK _ ?_; clear hK))
    | ((with_reducible apply d_nil); (refine hK _ _ _ _ (by first | decide +kernel | (simp only [List.map_cons, List.map_nil, List.nil_append, List.cons_append]; decide +kernel) | rfl) ?_; clear hK))
    | (first | refine d_grd_yes (by rfl) (by rfl) ?_ | refine v_grd_yes (by rfl) (by rfl) ?_)
    | (apply d_grd_no; (case hg => rfl); (case hb => rfl); (case hi => (simp only [Nat.reduceAdd, Nat.reduceMul]; rfl)))
    | (apply d_grd_undef; (case hg => rfl); (case hb => rfl); (case hi => (simp only [Nat.reduceAdd, Nat.reduceMul]; rfl)))
    | (apply d_grd; (case hg => rfl); (case hb => rfl); (case hi => (simp only [Nat.reduceAdd, Nat.reduceMul]; rfl)))
    | (apply v_grd_no; (case hg => rfl); (case hb => rfl); (case hi => (simp only [Nat.reduceAdd, Nat.reduceMul]; rfl)))
    | (apply v_grd_undef; (case hg => rfl); (case hb => rfl); (case hi => (simp only [Nat.reduceAdd, Nat.reduceMul]; rfl)))
    | (apply v_grd; (case hg => rfl); (case hb => rfl); (case hi => (simp only [Nat.reduceAdd, Nat.reduceMul]; rfl)))
    | ((with_reducible refine callV_id (f := 37) ?_); have hcs_ := hN; (with_reducible apply callV_f own37 (hcs_)); (case hx => rfl); (case he => rfl); (case hle => first | ((repeat constructor); done) | (simp [nxT', stT, w2]; done)); (case hpu => repeat constructor); (case' hK => (try clear hcs_); conv => whnf))
    | ((with_reducible refine callV_id (f := 37) ?_); have hcs_ := hcur; (with_reducible apply callV_f own37 (hcs_)); (case hx => rfl); (case he => rfl); (case hle => first | ((repeat constructor); done) | (simp [nxT', stT, w2]; done)); (case hpu => repeat constructor); (case' hK => (try clear hcs_); conv => whnf))
    | ((with_reducible refine callV_id (f := 33) ?_); have hcs_ := c_cursorBegun; (with_reducible apply callV_f own33 (hcs_)); (case hx => rfl); (case he => rfl); (case hle => first | ((repeat constructor); done) | (simp [nxT', stT, w2]; done)); (case hpu => repeat constructor); (case' hK => (try clear hcs_); conv => whnf))
    | ((with_reducible refine callV_id (f := 34) ?_); have hcs_ := c_storeBegun; (with_reducible apply callV_f own34 (hcs_)); (case hx => rfl); (case he => rfl); (case hle => first | ((repeat constructor); done) | (simp [nxT', stT, w2]; done)); (case hpu => repeat constructor); (case' hK => (try clear hcs_); conv => whnf))
    | ((with_reducible refine callV_id (f := 40) ?_); have hcs_ := hA; (with_reducible apply callV_f own40 (hcs_)); (case hx => rfl); (case he => rfl); (case hle => first | ((repeat constructor); done) | (simp [nxT', stT, w2]; done)); (case hpu => repeat constructor); (case' hK => (try clear hcs_); conv => whnf))
    | ((with_reducible refine callV_id (f := 41) ?_); have hcs_ := hAll; (with_reducible apply callV_f own41 (hcs_)); (case hx => rfl); (case he => rfl); (case hle => first | ((repeat constructor); done) | (simp [nxT', stT, w2]; done)); (case hpu => repeat constructor); (case' hK => (try clear hcs_); conv => whnf))
    | ((with_reducible refine callV_id (f := 42) ?_); have hcs_ := hz1; (with_reducible apply callV_f own42 (hcs_)); (case hx => rfl); (case he => rfl); (case hle => first | ((repeat constructor); done) | (simp [nxT', stT, w2]; done)); (case hpu => repeat constructor); (case' hK => (try clear hcs_); conv => whnf))
    | ((with_reducible refine callV_id (f := 42) ?_); have hcs_ := hz2; (with_reducible apply callV_f own42 (hcs_)); (case hx => rfl); (case he => rfl); (case hle => first | ((repeat constructor); done) | (simp [nxT', stT, w2]; done)); (case hpu => repeat constructor); (case' hK => (try clear hcs_); conv => whnf))
    | ((with_reducible apply go_cond); (case hb => rfl))
    | ((with_reducible apply out_block_there); (case hne => rfl))
    | ((with_reducible first | refine w_ret Try.tab fun K' hL => ?_ | refine w_ret_end Try.tab fun K' hL => ?_); (conv => whnf))
    | ((with_reducible apply And.intro); (case' right => try (conv => whnf)); (case' left => try first | rfl | decide | (simp [nxT', stT, w2]; done)))
    | ((with_reducible apply Side.mk); (try simp (disch := omega) only [wrp]); (try simp); (try omega))
    | ((with_reducible apply all_rk); (case hx => with_reducible assumption); (conv => whnf))
    | ((with_reducible refine all_row ?_); (first | (have _y := hx5; clear _y; intro x6 hx6) | (have _y := hx4; clear _y; intro x5 hx5) | (have _y := hx3; clear _y; intro x4 hx4) | (have _y := hx2; clear _y; intro x3 hx3) | (have _y := hx1; clear _y; intro x2 hx2) | (intro x1 hx1)); conv => whnf)
    | (refine ⟨_, eqAT (by rfl) (by rfl) (by rfl) (by rfl), ?_⟩; conv => whnf)
    | ((first | (have _y := g23; clear _y; intro g24; try simp at g24; try simp (disch := omega) only [wrp] at g24) | (have _y := g22; clear _y; intro g23; try simp at g23; try simp (disch := omega) only [wrp] at g23) | (have _y := g21; clear _y; intro g22; try simp at g22; try simp (disch := omega) only [wrp] at g22) | (have _y := g20; clear _y; intro g21; try simp at g21; try simp (disch := omega) only [wrp] at g21) | (have _y := g19; clear _y; intro g20; try simp at g20; try simp (disch := omega) only [wrp] at g20) | (have _y := g18; clear _y; intro g19; try simp at g19; try simp (disch := omega) only [wrp] at g19) | (have _y := g17; clear _y; intro g18; try simp at g18; try simp (disch := omega) only [wrp] at g18) | (have _y := g16; clear _y; intro g17; try simp at g17; try simp (disch := omega) only [wrp] at g17) | (have _y := g15; clear _y; intro g16; try simp at g16; try simp (disch := omega) only [wrp] at g16) | (have _y := g14; clear _y; intro g15; try simp at g15; try simp (disch := omega) only [wrp] at g15) | (have _y := g13; clear _y; intro g14; try simp at g14; try simp (disch := omega) only [wrp] at g14) | (have _y := g12; clear _y; intro g13; try simp at g13; try simp (disch := omega) only [wrp] at g13) | (have _y := g11; clear _y; intro g12; try simp at g12; try simp (disch := omega) only [wrp] at g12) | (have _y := g10; clear _y; intro g11; try simp at g11; try simp (disch := omega) only [wrp] at g11) | (have _y := g9; clear _y; intro g10; try simp at g10; try simp (disch := omega) only [wrp] at g10) | (have _y := g8; clear _y; intro g9; try simp at g9; try simp (disch := omega) only [wrp] at g9) | (have _y := g7; clear _y; intro g8; try simp at g8; try simp (disch := omega) only [wrp] at g8) | (have _y := g6; clear _y; intro g7; try simp at g7; try simp (disch := omega) only [wrp] at g7) | (have _y := g5; clear _y; intro g6; try simp at g6; try simp (disch := omega) only [wrp] at g6) | (have _y := g4; clear _y; intro g5; try simp at g5; try simp (disch := omega) only [wrp] at g5) | (have _y := g3; clear _y; intro g4; try simp at g4; try simp (disch := omega) only [wrp] at g4) | (have _y := g2; clear _y; intro g3; try simp at g3; try simp (disch := omega) only [wrp] at g3) | (have _y := g1; clear _y; intro g2; try simp at g2; try simp (disch := omega) only [wrp] at g2) | (intro g1; try simp at g1; try simp (disch := omega) only [wrp] at g1))))
            all_goals first
              | exact le_of_eq rfl
              | (refine le_of_eq ?_; simp [cu0, fr0, eqC]; done)
              | (simp [fr0] at g5; done)
              | (simp only [g11] at hd; simp at hd; omega)
              | (rw [w1] at g11; cases g11)
              | (rw [w2] at g10; exact absurd rfl g10)
              | exact absurd ⟨by assumption, by assumption⟩ hl
              | exact absurd (by assumption) hA2
              | exact absurd q4 (by assumption)
              | (exfalso; omega)
              | (exfalso; have h9 := q6 (by assumption); omega)
              | (exfalso; have h9 := q5 (by assumption); rw [h9] at q4; simp [q4] at g6; done)
        · repeat' (first
    | (with_reducible first | refine go_later ?_ | (refine h0 _ _ ?_; clear h0 hw) | (refine hw _ _ _ ?_; clear h0 hw) | refine go_ret ?_ | refine go_skip ?_ | refine go_block ?_ | refine go_exit ?_ | refine out_seq_ret ?_ | refine out_seq_normal ?_ | refine out_seq_exit ?_ | refine out_block_ret ?_ | refine out_block_normal ?_ | refine out_block_here ?_ | refine out_loop_ret ?_ | refine out_loop_exit ?_ | refine out_loopR_ret ?_ | refine out_loopR_exit ?_ | (refine hL _ ?_; clear hL))
    | (with_reducible first | refine w_reg (by decide +kernel) fun K1 hK => ?_ | refine w_reg_end (by decide +kernel) fun K1 hK => ?_)
    | ((with_reducible first | apply d_reg Try.mix (by decide +kernel) | apply d_reg_end Try.mix (by decide +kernel)); (case hm => simp only [List.length_cons, List.length_nil, Nat.reduceAdd, Nat.reduceMul]; rfl); (case' h => intro K1 hK))
    | with_reducible refine go_seq ?_
    | ((with_reducible first | apply v_op Try.tab | apply v_op0 Try.tab | apply d_op Try.tab | apply d_op0 Try.tab) <;> first | (intro K' h0 hw; conv => whnf) | (simp only [Nat.reduceAdd, Nat.reduceMul]; rfl))
    | ((with_reducible apply v_nil); (case hm => (simp only [Nat.reduceAdd, Nat.reduceMul]; rfl)); (case' h => with_reducible refine hK _ ?_; clear hK))
    | ((with_reducible apply d_nil); (refine hK _ _ _ _ (by first | decide +kernel | (simp only [List.map_cons, List.map_nil, List.nil_append, List.cons_append]; decide +kernel) | rfl) ?_; clear hK))
    | (first | refine d_grd_yes (by rfl) (by rfl) ?_ | refine v_grd_yes (by rfl) (by rfl) ?_)
    | (apply d_grd_no; (case hg => rfl); (case hb => rfl); (case hi => (simp only [Nat.reduceAdd, Nat.reduceMul]; rfl)))
    | (apply d_grd_undef; (case hg => rfl); (case hb => rfl); (case hi => (simp only [Nat.reduceAdd, Nat.reduceMul]; rfl)))
    | (apply d_grd; (case hg => rfl); (case hb => rfl); (case hi => (simp only [Nat.reduceAdd, Nat.reduceMul]; rfl)))
    | (apply v_grd_no; (case hg => rfl); (case hb => rfl); (case hi => (simp only [Nat.reduceAdd, Nat.reduceMul]; rfl)))
    | (apply v_grd_undef; (case hg => rfl); (case hb => rfl); (case hi => (simp only [Nat.reduceAdd, Nat.reduceMul]; rfl)))
    | (apply v_grd; (case hg => rfl); (case hb => rfl); (case hi => (simp only [Nat.reduceAdd, Nat.reduceMul]; rfl)))
    | ((with_reducible refine callV_id (f := 37) ?_); have hcs_ := hN; (with_reducible apply callV_f own37 (hcs_)); (case hx => rfl); (case he => rfl); (case hle => first | ((repeat constructor); done) | (simp [nxT', stT]; done)); (case hpu => repeat constructor); (case' hK => (try clear hcs_); conv => whnf))
    | ((with_reducible refine callV_id (f := 33) ?_); have hcs_ := c_cursorBegun; (with_reducible apply callV_f own33 (hcs_)); (case hx => rfl); (case he => rfl); (case hle => first | ((repeat constructor); done) | (simp [nxT', stT]; done)); (case hpu => repeat constructor); (case' hK => (try clear hcs_); conv => whnf))
    | ((with_reducible refine callV_id (f := 34) ?_); have hcs_ := c_storeBegun; (with_reducible apply callV_f own34 (hcs_)); (case hx => rfl); (case he => rfl); (case hle => first | ((repeat constructor); done) | (simp [nxT', stT]; done)); (case hpu => repeat constructor); (case' hK => (try clear hcs_); conv => whnf))
    | ((with_reducible refine callV_id (f := 40) ?_); have hcs_ := hA; (with_reducible apply callV_f own40 (hcs_)); (case hx => rfl); (case he => rfl); (case hle => first | ((repeat constructor); done) | (simp [nxT', stT]; done)); (case hpu => repeat constructor); (case' hK => (try clear hcs_); conv => whnf))
    | ((with_reducible refine callV_id (f := 41) ?_); have hcs_ := hAll; (with_reducible apply callV_f own41 (hcs_)); (case hx => rfl); (case he => rfl); (case hle => first | ((repeat constructor); done) | (simp [nxT', stT]; done)); (case hpu => repeat constructor); (case' hK => (try clear hcs_); conv => whnf))
    | ((with_reducible apply go_cond); (case hb => rfl))
    | ((with_reducible apply out_block_there); (case hne => rfl))
    | ((with_reducible first | refine w_ret Try.tab fun K' hL => ?_ | refine w_ret_end Try.tab fun K' hL => ?_); (conv => whnf))
    | ((with_reducible apply And.intro); (case' right => try (conv => whnf)); (case' left => try first | rfl | decide | (simp [nxT', stT]; done)))
    | ((with_reducible apply Side.mk); (try simp (disch := omega) only [wrp]); (try simp); (try omega))
    | ((with_reducible apply all_rk); (case hx => with_reducible assumption); (conv => whnf))
    | ((with_reducible refine all_row ?_); (first | (have _y := hx5; clear _y; intro x6 hx6) | (have _y := hx4; clear _y; intro x5 hx5) | (have _y := hx3; clear _y; intro x4 hx4) | (have _y := hx2; clear _y; intro x3 hx3) | (have _y := hx1; clear _y; intro x2 hx2) | (intro x1 hx1)); conv => whnf)
    | (refine ⟨_, eqAT (by rfl) (by rfl) (by rfl) (by rfl), ?_⟩; conv => whnf)
    | ((first | (have _y := g23; clear _y; intro g24; try simp at g24; try simp (disch := omega) only [wrp] at g24) | (have _y := g22; clear _y; intro g23; try simp at g23; try simp (disch := omega) only [wrp] at g23) | (have _y := g21; clear _y; intro g22; try simp at g22; try simp (disch := omega) only [wrp] at g22) | (have _y := g20; clear _y; intro g21; try simp at g21; try simp (disch := omega) only [wrp] at g21) | (have _y := g19; clear _y; intro g20; try simp at g20; try simp (disch := omega) only [wrp] at g20) | (have _y := g18; clear _y; intro g19; try simp at g19; try simp (disch := omega) only [wrp] at g19) | (have _y := g17; clear _y; intro g18; try simp at g18; try simp (disch := omega) only [wrp] at g18) | (have _y := g16; clear _y; intro g17; try simp at g17; try simp (disch := omega) only [wrp] at g17) | (have _y := g15; clear _y; intro g16; try simp at g16; try simp (disch := omega) only [wrp] at g16) | (have _y := g14; clear _y; intro g15; try simp at g15; try simp (disch := omega) only [wrp] at g15) | (have _y := g13; clear _y; intro g14; try simp at g14; try simp (disch := omega) only [wrp] at g14) | (have _y := g12; clear _y; intro g13; try simp at g13; try simp (disch := omega) only [wrp] at g13) | (have _y := g11; clear _y; intro g12; try simp at g12; try simp (disch := omega) only [wrp] at g12) | (have _y := g10; clear _y; intro g11; try simp at g11; try simp (disch := omega) only [wrp] at g11) | (have _y := g9; clear _y; intro g10; try simp at g10; try simp (disch := omega) only [wrp] at g10) | (have _y := g8; clear _y; intro g9; try simp at g9; try simp (disch := omega) only [wrp] at g9) | (have _y := g7; clear _y; intro g8; try simp at g8; try simp (disch := omega) only [wrp] at g8) | (have _y := g6; clear _y; intro g7; try simp at g7; try simp (disch := omega) only [wrp] at g7) | (have _y := g5; clear _y; intro g6; try simp at g6; try simp (disch := omega) only [wrp] at g6) | (have _y := g4; clear _y; intro g5; try simp at g5; try simp (disch := omega) only [wrp] at g5) | (have _y := g3; clear _y; intro g4; try simp at g4; try simp (disch := omega) only [wrp] at g4) | (have _y := g2; clear _y; intro g3; try simp at g3; try simp (disch := omega) only [wrp] at g3) | (have _y := g1; clear _y; intro g2; try simp at g2; try simp (disch := omega) only [wrp] at g2) | (intro g1; try simp at g1; try simp (disch := omega) only [wrp] at g1))))
          all_goals first
            | exact le_of_eq rfl
            | (refine le_of_eq ?_; simp [cu0, fr0, eqC]; done)
            | (simp [fr0] at g5; done)
            | (simp only [g11] at hd; simp at hd; omega)
            | (rw [w1] at g11; cases g11)
            | (rw [w2] at g10; exact absurd rfl g10)
            | exact absurd ⟨by assumption, by assumption⟩ hl
            | exact absurd (by assumption) hA2
            | exact absurd q4 (by assumption)
            | (exfalso; omega)
            | (exfalso; have h9 := q6 (by assumption); omega)
            | (exfalso; have h9 := q5 (by assumption); rw [h9] at q4; simp [q4] at g6; done)
      · repeat' (first
    | (with_reducible first | refine go_later ?_ | (refine h0 _ _ ?_; clear h0 hw) | (refine hw _ _ _ ?_; clear h0 hw) | refine go_ret ?_ | refine go_skip ?_ | refine go_block ?_ | refine go_exit ?_ | refine out_seq_ret ?_ | refine out_seq_normal ?_ | refine out_seq_exit ?_ | refine out_block_ret ?_ | refine out_block_normal ?_ | refine out_block_here ?_ | refine out_loop_ret ?_ | refine out_loop_exit ?_ | refine out_loopR_ret ?_ | refine out_loopR_exit ?_ | (refine hL _ ?_; clear hL))
    | (with_reducible first | refine w_reg (by decide +kernel) fun K1 hK => ?_ | refine w_reg_end (by decide +kernel) fun K1 hK => ?_)
    | ((with_reducible first | apply d_reg Try.mix (by decide +kernel) | apply d_reg_end Try.mix (by decide +kernel)); (case hm => simp only [List.length_cons, List.length_nil, Nat.reduceAdd, Nat.reduceMul]; rfl); (case' h => intro K1 hK))
    | with_reducible refine go_seq ?_
    | ((with_reducible first | apply v_op Try.tab | apply v_op0 Try.tab | apply d_op Try.tab | apply d_op0 Try.tab) <;> first | (intro K' h0 hw; conv => whnf) | (simp only [Nat.reduceAdd, Nat.reduceMul]; rfl))
    | ((with_reducible apply v_nil); (case hm => (simp only [Nat.reduceAdd, Nat.reduceMul]; rfl)); (case' h => with_reducible refine hK _ ?_; clear hK))
    | ((with_reducible apply d_nil); (refine hK _ _ _ _ (by first | decide +kernel | (simp only [List.map_cons, List.map_nil, List.nil_append, List.cons_append]; decide +kernel) | rfl) ?_; clear hK))
    | (first | refine d_grd_yes (by rfl) (by rfl) ?_ | refine v_grd_yes (by rfl) (by rfl) ?_)
    | (apply d_grd_no; (case hg => rfl); (case hb => rfl); (case hi => (simp only [Nat.reduceAdd, Nat.reduceMul]; rfl)))
    | (apply d_grd_undef; (case hg => rfl); (case hb => rfl); (case hi => (simp only [Nat.reduceAdd, Nat.reduceMul]; rfl)))
    | (apply d_grd; (case hg => rfl); (case hb => rfl); (case hi => (simp only [Nat.reduceAdd, Nat.reduceMul]; rfl)))
    | (apply v_grd_no; (case hg => rfl); (case hb => rfl); (case hi => (simp only [Nat.reduceAdd, Nat.reduceMul]; rfl)))
    | (apply v_grd_undef; (case hg => rfl); (case hb => rfl); (case hi => (simp only [Nat.reduceAdd, Nat.reduceMul]; rfl)))
    | (apply v_grd; (case hg => rfl); (case hb => rfl); (case hi => (simp only [Nat.reduceAdd, Nat.reduceMul]; rfl)))
    | ((with_reducible refine callV_id (f := 37) ?_); have hcs_ := hN; (with_reducible apply callV_f own37 (hcs_)); (case hx => rfl); (case he => rfl); (case hle => first | ((repeat constructor); done) | (simp [nxT', stT]; done)); (case hpu => repeat constructor); (case' hK => (try clear hcs_); conv => whnf))
    | ((with_reducible refine callV_id (f := 33) ?_); have hcs_ := c_cursorBegun; (with_reducible apply callV_f own33 (hcs_)); (case hx => rfl); (case he => rfl); (case hle => first | ((repeat constructor); done) | (simp [nxT', stT]; done)); (case hpu => repeat constructor); (case' hK => (try clear hcs_); conv => whnf))
    | ((with_reducible refine callV_id (f := 34) ?_); have hcs_ := c_storeBegun; (with_reducible apply callV_f own34 (hcs_)); (case hx => rfl); (case he => rfl); (case hle => first | ((repeat constructor); done) | (simp [nxT', stT]; done)); (case hpu => repeat constructor); (case' hK => (try clear hcs_); conv => whnf))
    | ((with_reducible refine callV_id (f := 40) ?_); have hcs_ := hA; (with_reducible apply callV_f own40 (hcs_)); (case hx => rfl); (case he => rfl); (case hle => first | ((repeat constructor); done) | (simp [nxT', stT]; done)); (case hpu => repeat constructor); (case' hK => (try clear hcs_); conv => whnf))
    | ((with_reducible apply go_cond); (case hb => rfl))
    | ((with_reducible apply out_block_there); (case hne => rfl))
    | ((with_reducible first | refine w_ret Try.tab fun K' hL => ?_ | refine w_ret_end Try.tab fun K' hL => ?_); (conv => whnf))
    | ((with_reducible apply And.intro); (case' right => try (conv => whnf)); (case' left => try first | rfl | decide | (simp [nxT', stT]; done)))
    | ((with_reducible apply Side.mk); (try simp (disch := omega) only [wrp]); (try simp); (try omega))
    | ((with_reducible apply all_rk); (case hx => with_reducible assumption); (conv => whnf))
    | ((with_reducible refine all_row ?_); (first | (have _y := hx5; clear _y; intro x6 hx6) | (have _y := hx4; clear _y; intro x5 hx5) | (have _y := hx3; clear _y; intro x4 hx4) | (have _y := hx2; clear _y; intro x3 hx3) | (have _y := hx1; clear _y; intro x2 hx2) | (intro x1 hx1)); conv => whnf)
    | (refine ⟨_, eqAT (by rfl) (by rfl) (by rfl) (by rfl), ?_⟩; conv => whnf)
    | ((first | (have _y := g23; clear _y; intro g24; try simp at g24; try simp (disch := omega) only [wrp] at g24) | (have _y := g22; clear _y; intro g23; try simp at g23; try simp (disch := omega) only [wrp] at g23) | (have _y := g21; clear _y; intro g22; try simp at g22; try simp (disch := omega) only [wrp] at g22) | (have _y := g20; clear _y; intro g21; try simp at g21; try simp (disch := omega) only [wrp] at g21) | (have _y := g19; clear _y; intro g20; try simp at g20; try simp (disch := omega) only [wrp] at g20) | (have _y := g18; clear _y; intro g19; try simp at g19; try simp (disch := omega) only [wrp] at g19) | (have _y := g17; clear _y; intro g18; try simp at g18; try simp (disch := omega) only [wrp] at g18) | (have _y := g16; clear _y; intro g17; try simp at g17; try simp (disch := omega) only [wrp] at g17) | (have _y := g15; clear _y; intro g16; try simp at g16; try simp (disch := omega) only [wrp] at g16) | (have _y := g14; clear _y; intro g15; try simp at g15; try simp (disch := omega) only [wrp] at g15) | (have _y := g13; clear _y; intro g14; try simp at g14; try simp (disch := omega) only [wrp] at g14) | (have _y := g12; clear _y; intro g13; try simp at g13; try simp (disch := omega) only [wrp] at g13) | (have _y := g11; clear _y; intro g12; try simp at g12; try simp (disch := omega) only [wrp] at g12) | (have _y := g10; clear _y; intro g11; try simp at g11; try simp (disch := omega) only [wrp] at g11) | (have _y := g9; clear _y; intro g10; try simp at g10; try simp (disch := omega) only [wrp] at g10) | (have _y := g8; clear _y; intro g9; try simp at g9; try simp (disch := omega) only [wrp] at g9) | (have _y := g7; clear _y; intro g8; try simp at g8; try simp (disch := omega) only [wrp] at g8) | (have _y := g6; clear _y; intro g7; try simp at g7; try simp (disch := omega) only [wrp] at g7) | (have _y := g5; clear _y; intro g6; try simp at g6; try simp (disch := omega) only [wrp] at g6) | (have _y := g4; clear _y; intro g5; try simp at g5; try simp (disch := omega) only [wrp] at g5) | (have _y := g3; clear _y; intro g4; try simp at g4; try simp (disch := omega) only [wrp] at g4) | (have _y := g2; clear _y; intro g3; try simp at g3; try simp (disch := omega) only [wrp] at g3) | (have _y := g1; clear _y; intro g2; try simp at g2; try simp (disch := omega) only [wrp] at g2) | (intro g1; try simp at g1; try simp (disch := omega) only [wrp] at g1))))
        all_goals first
          | exact le_of_eq rfl
          | (refine le_of_eq ?_; simp [cu0, fr0, eqC]; done)
          | (simp [fr0] at g5; done)
          | (simp only [g11] at hd; simp at hd; omega)
          | (rw [w1] at g11; cases g11)
          | (rw [w2] at g10; exact absurd rfl g10)
          | exact absurd ⟨by assumption, by assumption⟩ hl
          | exact absurd (by assumption) hA2
          | exact absurd q4 (by assumption)
          | (exfalso; omega)
          | (exfalso; have h9 := q6 (by assumption); omega)
          | (exfalso; have h9 := q5 (by assumption); rw [h9] at q4; simp [q4] at g6; done)
    · rw [hn] at hN
      have hD := c_cursorCheck d
      rw [q2] at hD
      repeat' (first
    | (with_reducible first | refine go_later ?_ | (refine h0 _ _ ?_; clear h0 hw) | (refine hw _ _ _ ?_; clear h0 hw) | refine go_ret ?_ | refine go_skip ?_ | refine go_block ?_ | refine go_exit ?_ | refine out_seq_ret ?_ | refine out_seq_normal ?_ | refine out_seq_exit ?_ | refine out_block_ret ?_ | refine out_block_normal ?_ | refine out_block_here ?_ | refine out_loop_ret ?_ | refine out_loop_exit ?_ | refine out_loopR_ret ?_ | refine out_loopR_exit ?_ | (refine hL _ ?_; clear hL))
    | (with_reducible first | refine w_reg (by decide +kernel) fun K1 hK => ?_ | refine w_reg_end (by decide +kernel) fun K1 hK => ?_)
    | ((with_reducible first | apply d_reg Try.mix (by decide +kernel) | apply d_reg_end Try.mix (by decide +kernel)); (case hm => simp only [List.length_cons, List.length_nil, Nat.reduceAdd, Nat.reduceMul]; rfl); (case' h => intro K1 hK))
    | with_reducible refine go_seq ?_
    | ((with_reducible first | apply v_op Try.tab | apply v_op0 Try.tab | apply d_op Try.tab | apply d_op0 Try.tab) <;> first | (intro K' h0 hw; conv => whnf) | (simp only [Nat.reduceAdd, Nat.reduceMul]; rfl))
    | ((with_reducible apply v_nil); (case hm => (simp only [Nat.reduceAdd, Nat.reduceMul]; rfl)); (case' h => with_reducible refine hK _ ?_; clear hK))
    | ((with_reducible apply d_nil); (refine hK _ _ _ _ (by first | decide +kernel | (simp only [List.map_cons, List.map_nil, List.nil_append, List.cons_append]; decide +kernel) | rfl) ?_; clear hK))
    | (first | refine d_grd_yes (by rfl) (by rfl) ?_ | refine v_grd_yes (by rfl) (by rfl) ?_)
    | (apply d_grd_no; (case hg => rfl); (case hb => rfl); (case hi => (simp only [Nat.reduceAdd, Nat.reduceMul]; rfl)))
    | (apply d_grd_undef; (case hg => rfl); (case hb => rfl); (case hi => (simp only [Nat.reduceAdd, Nat.reduceMul]; rfl)))
    | (apply d_grd; (case hg => rfl); (case hb => rfl); (case hi => (simp only [Nat.reduceAdd, Nat.reduceMul]; rfl)))
    | (apply v_grd_no; (case hg => rfl); (case hb => rfl); (case hi => (simp only [Nat.reduceAdd, Nat.reduceMul]; rfl)))
    | (apply v_grd_undef; (case hg => rfl); (case hb => rfl); (case hi => (simp only [Nat.reduceAdd, Nat.reduceMul]; rfl)))
    | (apply v_grd; (case hg => rfl); (case hb => rfl); (case hi => (simp only [Nat.reduceAdd, Nat.reduceMul]; rfl)))
    | ((with_reducible refine callV_id (f := 37) ?_); have hcs_ := hN; (with_reducible apply callV_f own37 (hcs_)); (case hx => rfl); (case he => rfl); (case hle => first | ((repeat constructor); done) | (simp [nxT', stT]; done)); (case hpu => repeat constructor); (case' hK => (try clear hcs_); conv => whnf))
    | ((with_reducible refine callV_id (f := 33) ?_); have hcs_ := c_cursorBegun; (with_reducible apply callV_f own33 (hcs_)); (case hx => rfl); (case he => rfl); (case hle => first | ((repeat constructor); done) | (simp [nxT', stT]; done)); (case hpu => repeat constructor); (case' hK => (try clear hcs_); conv => whnf))
    | ((with_reducible refine callV_id (f := 34) ?_); have hcs_ := c_storeBegun; (with_reducible apply callV_f own34 (hcs_)); (case hx => rfl); (case he => rfl); (case hle => first | ((repeat constructor); done) | (simp [nxT', stT]; done)); (case hpu => repeat constructor); (case' hK => (try clear hcs_); conv => whnf))
    | ((with_reducible refine callV_id (f := 40) ?_); have hcs_ := hA; (with_reducible apply callV_f own40 (hcs_)); (case hx => rfl); (case he => rfl); (case hle => first | ((repeat constructor); done) | (simp [nxT', stT]; done)); (case hpu => repeat constructor); (case' hK => (try clear hcs_); conv => whnf))
    | ((with_reducible refine callV_id (f := 39) ?_); have hcs_ := hD; (with_reducible apply callV_f own39 (hcs_)); (case hx => rfl); (case he => rfl); (case hle => first | ((repeat constructor); done) | (simp [nxT', stT]; done)); (case hpu => repeat constructor); (case' hK => (try clear hcs_); conv => whnf))
    | ((with_reducible apply go_cond); (case hb => rfl))
    | ((with_reducible apply out_block_there); (case hne => rfl))
    | ((with_reducible first | refine w_ret Try.tab fun K' hL => ?_ | refine w_ret_end Try.tab fun K' hL => ?_); (conv => whnf))
    | ((with_reducible apply And.intro); (case' right => try (conv => whnf)); (case' left => try first | rfl | decide | (simp [nxT', stT]; done)))
    | ((with_reducible apply Side.mk); (try simp (disch := omega) only [wrp]); (try simp); (try omega))
    | ((with_reducible apply all_rk); (case hx => with_reducible assumption); (conv => whnf))
    | ((with_reducible refine all_row ?_); (first | (have _y := hx5; clear _y; intro x6 hx6) | (have _y := hx4; clear _y; intro x5 hx5) | (have _y := hx3; clear _y; intro x4 hx4) | (have _y := hx2; clear _y; intro x3 hx3) | (have _y := hx1; clear _y; intro x2 hx2) | (intro x1 hx1)); conv => whnf)
    | (refine ⟨_, eqAT (by rfl) (by rfl) (by rfl) (by rfl), ?_⟩; conv => whnf)
    | ((first | (have _y := g23; clear _y; intro g24; try simp at g24; try simp (disch := omega) only [wrp] at g24) | (have _y := g22; clear _y; intro g23; try simp at g23; try simp (disch := omega) only [wrp] at g23) | (have _y := g21; clear _y; intro g22; try simp at g22; try simp (disch := omega) only [wrp] at g22) | (have _y := g20; clear _y; intro g21; try simp at g21; try simp (disch := omega) only [wrp] at g21) | (have _y := g19; clear _y; intro g20; try simp at g20; try simp (disch := omega) only [wrp] at g20) | (have _y := g18; clear _y; intro g19; try simp at g19; try simp (disch := omega) only [wrp] at g19) | (have _y := g17; clear _y; intro g18; try simp at g18; try simp (disch := omega) only [wrp] at g18) | (have _y := g16; clear _y; intro g17; try simp at g17; try simp (disch := omega) only [wrp] at g17) | (have _y := g15; clear _y; intro g16; try simp at g16; try simp (disch := omega) only [wrp] at g16) | (have _y := g14; clear _y; intro g15; try simp at g15; try simp (disch := omega) only [wrp] at g15) | (have _y := g13; clear _y; intro g14; try simp at g14; try simp (disch := omega) only [wrp] at g14) | (have _y := g12; clear _y; intro g13; try simp at g13; try simp (disch := omega) only [wrp] at g13) | (have _y := g11; clear _y; intro g12; try simp at g12; try simp (disch := omega) only [wrp] at g12) | (have _y := g10; clear _y; intro g11; try simp at g11; try simp (disch := omega) only [wrp] at g11) | (have _y := g9; clear _y; intro g10; try simp at g10; try simp (disch := omega) only [wrp] at g10) | (have _y := g8; clear _y; intro g9; try simp at g9; try simp (disch := omega) only [wrp] at g9) | (have _y := g7; clear _y; intro g8; try simp at g8; try simp (disch := omega) only [wrp] at g8) | (have _y := g6; clear _y; intro g7; try simp at g7; try simp (disch := omega) only [wrp] at g7) | (have _y := g5; clear _y; intro g6; try simp at g6; try simp (disch := omega) only [wrp] at g6) | (have _y := g4; clear _y; intro g5; try simp at g5; try simp (disch := omega) only [wrp] at g5) | (have _y := g3; clear _y; intro g4; try simp at g4; try simp (disch := omega) only [wrp] at g4) | (have _y := g2; clear _y; intro g3; try simp at g3; try simp (disch := omega) only [wrp] at g3) | (have _y := g1; clear _y; intro g2; try simp at g2; try simp (disch := omega) only [wrp] at g2) | (intro g1; try simp at g1; try simp (disch := omega) only [wrp] at g1))))
      all_goals first
        | exact le_of_eq rfl
        | (refine le_of_eq ?_; simp [cu0, fr0, eqC]; done)
        | (simp [fr0] at g5; done)
        | (simp only [g11] at hd; simp at hd; omega)
        | (rw [w1] at g11; cases g11)
        | (rw [w2] at g10; exact absurd rfl g10)
        | exact absurd ⟨by assumption, by assumption⟩ hl
        | exact absurd (by assumption) hA2
        | exact absurd q4 (by assumption)
        | (exfalso; omega)
        | (exfalso; have h9 := q6 (by assumption); omega)
        | (exfalso; have h9 := q5 (by assumption); rw [h9] at q4; simp [q4] at g6; done)
  · have e : nextS s c upto = ((cu0, fr0, false, false), nextE s c upto) := if_neg hE
    rw [e] at hN
    repeat' (first
    | (with_reducible first | refine go_later ?_ | (refine h0 _ _ ?_; clear h0 hw) | (refine hw _ _ _ ?_; clear h0 hw) | refine go_ret ?_ | refine go_skip ?_ | refine go_block ?_ | refine go_exit ?_ | refine out_seq_ret ?_ | refine out_seq_normal ?_ | refine out_seq_exit ?_ | refine out_block_ret ?_ | refine out_block_normal ?_ | refine out_block_here ?_ | refine out_loop_ret ?_ | refine out_loop_exit ?_ | refine out_loopR_ret ?_ | refine out_loopR_exit ?_ | (refine hL _ ?_; clear hL))
    | (with_reducible first | refine w_reg (by decide +kernel) fun K1 hK => ?_ | refine w_reg_end (by decide +kernel) fun K1 hK => ?_)
    | ((with_reducible first | apply d_reg Try.mix (by decide +kernel) | apply d_reg_end Try.mix (by decide +kernel)); (case hm => simp only [List.length_cons, List.length_nil, Nat.reduceAdd, Nat.reduceMul]; rfl); (case' h => intro K1 hK))
    | with_reducible refine go_seq ?_
    | ((with_reducible first | apply v_op Try.tab | apply v_op0 Try.tab | apply d_op Try.tab | apply d_op0 Try.tab) <;> first | (intro K' h0 hw; conv => whnf) | (simp only [Nat.reduceAdd, Nat.reduceMul]; rfl))
    | ((with_reducible apply v_nil); (case hm => (simp only [Nat.reduceAdd, Nat.reduceMul]; rfl)); (case' h => with_reducible refine hK _ ?_; clear hK))
    | ((with_reducible apply d_nil); (refine hK _ _ _ _ (by first | decide +kernel | (simp only [List.map_cons, List.map_nil, List.nil_append, List.cons_append]; decide +kernel) | rfl) ?_; clear hK))
    | (first | refine d_grd_yes (by rfl) (by rfl) ?_ | refine v_grd_yes (by rfl) (by rfl) ?_)
    | (apply d_grd_no; (case hg => rfl); (case hb => rfl); (case hi => (simp only [Nat.reduceAdd, Nat.reduceMul]; rfl)))
    | (apply d_grd_undef; (case hg => rfl); (case hb => rfl); (case hi => (simp only [Nat.reduceAdd, Nat.reduceMul]; rfl)))
    | (apply d_grd; (case hg => rfl); (case hb => rfl); (case hi => (simp only [Nat.reduceAdd, Nat.reduceMul]; rfl)))
    | (apply v_grd_no; (case hg => rfl); (case hb => rfl); (case hi => (simp only [Nat.reduceAdd, Nat.reduceMul]; rfl)))
    | (apply v_grd_undef; (case hg => rfl); (case hb => rfl); (case hi => (simp only [Nat.reduceAdd, Nat.reduceMul]; rfl)))
    | (apply v_grd; (case hg => rfl); (case hb => rfl); (case hi => (simp only [Nat.reduceAdd, Nat.reduceMul]; rfl)))
    | ((with_reducible refine callV_id (f := 37) ?_); have hcs_ := hN; (with_reducible apply callV_f own37 (hcs_)); (case hx => rfl); (case he => rfl); (case hle => first | ((repeat constructor); done) | (simp [nxT', cu0, fr0]; done)); (case hpu => repeat constructor); (case' hK => (try clear hcs_); conv => whnf))
    | ((with_reducible refine callV_id (f := 33) ?_); have hcs_ := c_cursorBegun; (with_reducible apply callV_f own33 (hcs_)); (case hx => rfl); (case he => rfl); (case hle => first | ((repeat constructor); done) | (simp [nxT', cu0, fr0]; done)); (case hpu => repeat constructor); (case' hK => (try clear hcs_); conv => whnf))
    | ((with_reducible refine callV_id (f := 34) ?_); have hcs_ := c_storeBegun; (with_reducible apply callV_f own34 (hcs_)); (case hx => rfl); (case he => rfl); (case hle => first | ((repeat constructor); done) | (simp [nxT', cu0, fr0]; done)); (case hpu => repeat constructor); (case' hK => (try clear hcs_); conv => whnf))
    | ((with_reducible apply go_cond); (case hb => rfl))
    | ((with_reducible apply out_block_there); (case hne => rfl))
    | ((with_reducible first | refine w_ret Try.tab fun K' hL => ?_ | refine w_ret_end Try.tab fun K' hL => ?_); (conv => whnf))
    | ((with_reducible apply And.intro); (case' right => try (conv => whnf)); (case' left => try first | rfl | decide | (simp [nxT', cu0, fr0]; done)))
    | ((with_reducible apply Side.mk); (try simp (disch := omega) only [wrp]); (try simp); (try omega))
    | ((with_reducible apply all_rk); (case hx => with_reducible assumption); (conv => whnf))
    | ((with_reducible refine all_row ?_); (first | (have _y := hx5; clear _y; intro x6 hx6) | (have _y := hx4; clear _y; intro x5 hx5) | (have _y := hx3; clear _y; intro x4 hx4) | (have _y := hx2; clear _y; intro x3 hx3) | (have _y := hx1; clear _y; intro x2 hx2) | (intro x1 hx1)); conv => whnf)
    | (refine ⟨_, eqAT (by rfl) (by rfl) (by rfl) (by rfl), ?_⟩; conv => whnf)
    | exact absurd (by assumption) hE
    | ((first | (have _y := g23; clear _y; intro g24; try simp at g24; try simp (disch := omega) only [wrp] at g24) | (have _y := g22; clear _y; intro g23; try simp at g23; try simp (disch := omega) only [wrp] at g23) | (have _y := g21; clear _y; intro g22; try simp at g22; try simp (disch := omega) only [wrp] at g22) | (have _y := g20; clear _y; intro g21; try simp at g21; try simp (disch := omega) only [wrp] at g21) | (have _y := g19; clear _y; intro g20; try simp at g20; try simp (disch := omega) only [wrp] at g20) | (have _y := g18; clear _y; intro g19; try simp at g19; try simp (disch := omega) only [wrp] at g19) | (have _y := g17; clear _y; intro g18; try simp at g18; try simp (disch := omega) only [wrp] at g18) | (have _y := g16; clear _y; intro g17; try simp at g17; try simp (disch := omega) only [wrp] at g17) | (have _y := g15; clear _y; intro g16; try simp at g16; try simp (disch := omega) only [wrp] at g16) | (have _y := g14; clear _y; intro g15; try simp at g15; try simp (disch := omega) only [wrp] at g15) | (have _y := g13; clear _y; intro g14; try simp at g14; try simp (disch := omega) only [wrp] at g14) | (have _y := g12; clear _y; intro g13; try simp at g13; try simp (disch := omega) only [wrp] at g13) | (have _y := g11; clear _y; intro g12; try simp at g12; try simp (disch := omega) only [wrp] at g12) | (have _y := g10; clear _y; intro g11; try simp at g11; try simp (disch := omega) only [wrp] at g11) | (have _y := g9; clear _y; intro g10; try simp at g10; try simp (disch := omega) only [wrp] at g10) | (have _y := g8; clear _y; intro g9; try simp at g9; try simp (disch := omega) only [wrp] at g9) | (have _y := g7; clear _y; intro g8; try simp at g8; try simp (disch := omega) only [wrp] at g8) | (have _y := g6; clear _y; intro g7; try simp at g7; try simp (disch := omega) only [wrp] at g7) | (have _y := g5; clear _y; intro g6; try simp at g6; try simp (disch := omega) only [wrp] at g6) | (have _y := g4; clear _y; intro g5; try simp at g5; try simp (disch := omega) only [wrp] at g5) | (have _y := g3; clear _y; intro g4; try simp at g4; try simp (disch := omega) only [wrp] at g4) | (have _y := g2; clear _y; intro g3; try simp at g3; try simp (disch := omega) only [wrp] at g3) | (have _y := g1; clear _y; intro g2; try simp at g2; try simp (disch := omega) only [wrp] at g2) | (intro g1; try simp at g1; try simp (disch := omega) only [wrp] at g1))))
    all_goals first
      | exact le_of_eq rfl
      | (refine le_of_eq ?_; simp [cu0, fr0, eqC]; done)
      | (simp [fr0] at g5; done)
      | (simp only [g11] at hd; simp at hd; omega)
      | (rw [w1] at g11; cases g11)
      | (rw [w2] at g10; exact absurd rfl g10)
      | exact absurd ⟨by assumption, by assumption⟩ hl
      | exact absurd (by assumption) hA2
      | exact absurd q4 (by assumption)
      | (exfalso; omega)
      | (exfalso; have h9 := q6 (by assumption); omega)
      | (exfalso; have h9 := q5 (by assumption); rw [h9] at q4; simp [q4] at g6; done)
theorem law_cursorKey (args : List AV) (h : ReadsArgs [.agg [.int .i64, .sl 1 24 (.agg [.sl 3 40 (.agg [.int .i64, .bool, .sl 1 16 .str])]), .agg [.sl 3 40 (.agg [.int .i64, .bool, .sl 1 16 .str])]], .agg [.int .i64, .int .i64, .int .i64], .int .i64, .agg [.int .i64, .bool, .sl 1 16 .str]] args) (_ : True) : PSpec Try.prog 11 args (B true) := by
  obtain ⟨_, _, rfl, h1, _, _, rfl, h2, _, _, rfl, h3, _, _, rfl, h4, rfl⟩ := h
  obtain ⟨s, rfl, hs⟩ := reads_sto h1
  obtain ⟨c, rfl⟩ := reads_cu h2
  obtain ⟨t, ht, _⟩ := h3
  obtain ⟨_, rfl, h4⟩ := h4
  obtain ⟨f, rfl, hf, _⟩ := cells_fr h4
  cases ht
  exact c_cursorKey s c t f hs hf
end Go.Proofs.Ytlehonipilpfdaa

/- DiskCrash, walked. No condition. -/
import Derived.Test.YtbhcjgobapnajaaDisk13
import Derived.Test.YtbhcjgobapnajaaDiskPlain
namespace Go.Proofs.Ytbhcjgobapnajaa
open Go Go.Sy
set_option maxRecDepth 4000
set_option linter.unusedSimpArgs false
set_option linter.unusedVariables false
attribute [local irreducible] Reg RegD Later Out CallV YieldV Tri Side EqV
theorem reads_dk' {a : AV} (h : ReadsArg (.agg [.str, .int .i64]) a) : ∃ d : Dk, a = .agg (dkC d) := by
  obtain ⟨_, rfl, _, _, rfl, ⟨s, rfl, _⟩, _, _, rfl, ⟨n, rfl, _⟩, rfl⟩ := h
  exact ⟨⟨s, n⟩, rfl⟩
set_option maxHeartbeats 8000000 in
theorem c_diskCrash (d : Dk) (n : Int) (g : List Fr) (keep more : Int) (hf : Fits g) : PSpec Try.prog 5 [.agg (dkC d), I n, .agg (grC g), I keep, I more] (B true) := by
  have h1 := c_dkOpen d
  by_cases c : dkE d = 0
  · obtain ⟨l, hl, hs, hF, hsy, he⟩ := opened c
    obtain ⟨o, ho⟩ : ∃ o, (openS d).1.2 = o := ⟨_, rfl⟩
    rw [ho] at hF hsy
    have hO : PSpec Try.prog 14 [.agg (dkC d)] (.tup [.agg (stC (stOf l)), .agg (dkC o), I 0]) := by
      rw [show openT (openS d) = .tup [.agg (stC (stOf l)), .agg (dkC o), I 0] by rw [← hs, ← ho, ← he]] at h1
      exact h1
    by_cases hk : keep < 0 ∨ more < 0
    · refine v_pspec Try.func5 rfl Try.ntmps5 Try.results5 (by simp) (by first | exact .s _ | repeat constructor) ?_
      repeat' (first
 | (with_reducible first | apply qz0 | (refine h0 _ _ ?_; clear h0 hw) | (refine hw _ _ _ ?_; clear h0 hw) | apply qz1 | apply qz2 | apply qz5 | apply qz6 | (refine hL _ ?_; clear hL))
 | (with_reducible first | refine w_reg (by decide +kernel) fun K1 hK => ?_ | refine w_reg_end (by decide +kernel) fun K1 hK => ?_)
 | with_reducible refine go_seq ?_
 | ((with_reducible first | apply v_op Try.tab | apply v_op0 Try.tab) <;> first | (intro K' h0 hw; conv => whnf) | (simp only [Nat.reduceAdd, Nat.reduceMul]; rfl))
 | ((with_reducible apply v_nil); (case hm => (simp only [Nat.reduceAdd, Nat.reduceMul]; rfl)); (case' h => with_reducible refine hK _ ?_; clear hK))
 | (first | refine v_grd_yes (by rfl) (by rfl) ?_)
 | ((first | (apply v_grd_no; (case hg => rfl); (case hb => rfl)) | (apply v_grd_undef; (case hg => rfl); (case hb => rfl)) | (apply v_grd; (case hg => rfl); (case hb => rfl))); (case hi => (simp only [Nat.reduceAdd, Nat.reduceMul]; rfl)))
 | ((with_reducible refine callV_id (f := 12) ?_); (with_reducible apply callV_f own12 (c_diskBegun)); (case hx => rfl); (case he => rfl); (case hle => first | ((repeat constructor); done) | (simp; done)); (case hpu => repeat constructor); (case' hK => conv => whnf))
 | ((with_reducible refine callV_id (f := 14) ?_); (with_reducible apply callV_f own14 (hO)); (case hx => rfl); (case he => rfl); (case hle => first | ((repeat constructor); done) | (simp; done)); (case hpu => repeat constructor); (case' hK => conv => whnf))
 | ((with_reducible apply go_cond); (case hb => rfl))
 | ((with_reducible first | refine w_ret Try.tab fun K' hL => ?_ | refine w_ret_end Try.tab fun K' hL => ?_); (conv => whnf))
 | ((with_reducible apply And.intro); (case' right => try (conv => whnf)); (case' left => try first | rfl | decide | (simp; done) | (simp (disch := omega) only [wrp]; omega) | (simp (disch := omega) [wrp]; (try omega); done)))
 | ((with_reducible apply Side.mk); (try simp (disch := omega) only [wrp]); (try simp); (try simp (disch := omega) only [wrp]); (try omega))
 | (refine ⟨_, eqAT (by rfl) (by rfl) (by rfl) (by rfl), ?_⟩; conv => whnf)
 | (first  | intro g1; try simp at g1))
      all_goals first | (exfalso; omega) | (exfalso; exact absurd (by assumption) c) | exact .refl _ | (simp [dk0, st0]; done)
    · have h2 := c_dkAppend o n g hf
      by_cases ca : appE o n g = 0
      · rw [app_ok ca] at h2
        obtain ⟨r, hr1, hr2, hFa⟩ := grown hF ca
        have hcr := crashed hF hsy hFa (keep := keep) (by omega)
        obtain ⟨a, ha⟩ : ∃ a : Dk, ⟨o.data ++ recB n g, o.sync⟩ = a := ⟨_, rfl⟩
        rw [ha] at h2 hFa hcr
        obtain ⟨hc0, L, hL, hR⟩ := hcr
        obtain ⟨x, hx⟩ : ∃ x, (crashR a keep).1 = x := ⟨_, rfl⟩
        have h3 := c_dkCrash a keep
        rw [show crashR a keep = (x, 0) by rw [← hx, ← hc0]] at h3
        rw [hx] at hR
        have hdx := dkE_of hR
        obtain ⟨L', hL1, hL2, hL3, hL4, hL5⟩ := opened hdx
        have hLL : L' = L := by
          have := (readR_ok hdx).2
          obtain ⟨l2, q1, q2, q3⟩ := this
          rw [q1] at hL1
          rw [hR] at q3
          have e1 : L = l2 := congrArg (fun z => z.1.1) q3
          exact (Option.some.inj hL1).symm.trans e1.symm
        subst hLL
        obtain ⟨p, hp⟩ : ∃ p, (openS x).1.2 = p := ⟨_, rfl⟩
        rw [hp] at hL3 hL4
        have h4 := c_dkOpen x
        rw [show openT (openS x) = .tup [.agg (stC (stOf L')), .agg (dkC p), I 0] by rw [← hL2, ← hp, ← hL5]] at h4
        have h5 := c_dkCrash p more
        rw [crash_whole hL3.ok hL4 (by omega)] at h5
        have h6 := c_dkCheck x
        rw [hdx] at h6
        have h7 := c_dkOpen a
        rw [hFa.open] at h7
        have h8 := c_dkSync a
        obtain ⟨hy1, hy2⟩ := sync_full hFa
        rw [hy1] at h8
        have h9 := c_dkCrash ⟨a.data, a.data.size⟩ keep
        rw [crash_whole hy2.ok rfl (by omega)] at h9
        have s1 := c_sameStore (stOf L') (stOf l) hL3.right.small
        have s2 := c_sameStore (stOf L') (stOf (l ++ [r])) hL3.right.small
        have hk0 : 0 ≤ keep := by omega
        have hm0 : 0 ≤ more := by omega
        rcases hL with rfl | rfl
        · rw [decide_eq_true rfl] at s1
          refine v_pspec Try.func5 rfl Try.ntmps5 Try.results5 (by simp) (by first | exact .s _ | repeat constructor) ?_
          repeat' (first
 | (with_reducible first | apply qz0 | (refine h0 _ _ ?_; clear h0 hw) | (refine hw _ _ _ ?_; clear h0 hw) | apply qz1 | apply qz2 | apply qz5 | apply qz6 | (refine hL _ ?_; clear hL))
 | (with_reducible first | refine w_reg (by decide +kernel) fun K1 hK => ?_ | refine w_reg_end (by decide +kernel) fun K1 hK => ?_)
 | with_reducible refine go_seq ?_
 | ((with_reducible first | apply v_op Try.tab | apply v_op0 Try.tab) <;> first | (intro K' h0 hw; conv => whnf) | (simp only [Nat.reduceAdd, Nat.reduceMul]; rfl))
 | ((with_reducible apply v_nil); (case hm => (simp only [Nat.reduceAdd, Nat.reduceMul]; rfl)); (case' h => with_reducible refine hK _ ?_; clear hK))
 | (first | refine v_grd_yes (by rfl) (by rfl) ?_)
 | ((first | (apply v_grd_no; (case hg => rfl); (case hb => rfl)) | (apply v_grd_undef; (case hg => rfl); (case hb => rfl)) | (apply v_grd; (case hg => rfl); (case hb => rfl))); (case hi => (simp only [Nat.reduceAdd, Nat.reduceMul]; rfl)))
 | ((with_reducible refine callV_id (f := 12) ?_); (with_reducible apply callV_f own12 (c_diskBegun)); (case hx => rfl); (case he => rfl); (case hle => first | ((repeat constructor); done) | (simp; done)); (case hpu => repeat constructor); (case' hK => conv => whnf))
 | ((with_reducible refine callV_id (f := 14) ?_); (with_reducible apply callV_f own14 (hO)); (case hx => rfl); (case he => rfl); (case hle => first | ((repeat constructor); done) | (simp; done)); (case hpu => repeat constructor); (case' hK => conv => whnf))
 | ((with_reducible refine callV_id (f := 17) ?_); (with_reducible apply callV_f own17 (h2)); (case hx => rfl); (case he => rfl); (case hle => first | ((repeat constructor); done) | (simp; done)); (case hpu => repeat constructor); (case' hK => conv => whnf))
 | ((with_reducible refine callV_id (f := 19) ?_); (with_reducible apply callV_f own19 (h3)); (case hx => rfl); (case he => rfl); (case hle => first | ((repeat constructor); done) | (simp; done)); (case hpu => repeat constructor); (case' hK => conv => whnf))
 | ((with_reducible refine callV_id (f := 14) ?_); (with_reducible apply callV_f own14 (h4)); (case hx => rfl); (case he => rfl); (case hle => first | ((repeat constructor); done) | (simp; done)); (case hpu => repeat constructor); (case' hK => conv => whnf))
 | ((with_reducible refine callV_id (f := 19) ?_); (with_reducible apply callV_f own19 (h5)); (case hx => rfl); (case he => rfl); (case hle => first | ((repeat constructor); done) | (simp; done)); (case hpu => repeat constructor); (case' hK => conv => whnf))
 | ((with_reducible refine callV_id (f := 13) ?_); (with_reducible apply callV_f own13 (h6)); (case hx => rfl); (case he => rfl); (case hle => first | ((repeat constructor); done) | (simp; done)); (case hpu => repeat constructor); (case' hK => conv => whnf))
 | ((with_reducible refine callV_id (f := 14) ?_); (with_reducible apply callV_f own14 (h7)); (case hx => rfl); (case he => rfl); (case hle => first | ((repeat constructor); done) | (simp; done)); (case hpu => repeat constructor); (case' hK => conv => whnf))
 | ((with_reducible refine callV_id (f := 18) ?_); (with_reducible apply callV_f own18 (h8)); (case hx => rfl); (case he => rfl); (case hle => first | ((repeat constructor); done) | (simp; done)); (case hpu => repeat constructor); (case' hK => conv => whnf))
 | ((with_reducible refine callV_id (f := 19) ?_); (with_reducible apply callV_f own19 (h9)); (case hx => rfl); (case he => rfl); (case hle => first | ((repeat constructor); done) | (simp; done)); (case hpu => repeat constructor); (case' hK => conv => whnf))
 | ((with_reducible refine callV_id (f := 28) ?_); (with_reducible apply callV_f own28 (s1)); (case hx => rfl); (case he => rfl); (case hle => first | ((repeat constructor); done) | (simp; done)); (case hpu => repeat constructor); (case' hK => conv => whnf))
 | ((with_reducible apply go_cond); (case hb => rfl))
 | ((with_reducible first | refine w_ret Try.tab fun K' hL => ?_ | refine w_ret_end Try.tab fun K' hL => ?_); (conv => whnf))
 | ((with_reducible apply And.intro); (case' right => try (conv => whnf)); (case' left => try first | rfl | decide | (simp; done) | (simp (disch := omega) only [wrp]; omega) | (simp (disch := omega) [wrp]; (try omega); done)))
 | ((with_reducible apply Side.mk); (try simp (disch := omega) only [wrp]); (try simp); (try simp (disch := omega) only [wrp]); (try omega))
 | (refine ⟨_, eqAT (by rfl) (by rfl) (by rfl) (by rfl), ?_⟩; conv => whnf)
 | (first  | intro g1; try simp at g1))
          all_goals first | (exfalso; omega) | (exfalso; exact absurd (by assumption) c) | exact .refl _ | (simp [dk0, st0]; done)
        · rw [decide_eq_true rfl] at s2
          refine v_pspec Try.func5 rfl Try.ntmps5 Try.results5 (by simp) (by first | exact .s _ | repeat constructor) ?_
          repeat' (first
 | (with_reducible first | apply qz0 | (refine h0 _ _ ?_; clear h0 hw) | (refine hw _ _ _ ?_; clear h0 hw) | apply qz1 | apply qz2 | apply qz5 | apply qz6 | (refine hL _ ?_; clear hL))
 | (with_reducible first | refine w_reg (by decide +kernel) fun K1 hK => ?_ | refine w_reg_end (by decide +kernel) fun K1 hK => ?_)
 | with_reducible refine go_seq ?_
 | ((with_reducible first | apply v_op Try.tab | apply v_op0 Try.tab) <;> first | (intro K' h0 hw; conv => whnf) | (simp only [Nat.reduceAdd, Nat.reduceMul]; rfl))
 | ((with_reducible apply v_nil); (case hm => (simp only [Nat.reduceAdd, Nat.reduceMul]; rfl)); (case' h => with_reducible refine hK _ ?_; clear hK))
 | (first | refine v_grd_yes (by rfl) (by rfl) ?_)
 | ((first | (apply v_grd_no; (case hg => rfl); (case hb => rfl)) | (apply v_grd_undef; (case hg => rfl); (case hb => rfl)) | (apply v_grd; (case hg => rfl); (case hb => rfl))); (case hi => (simp only [Nat.reduceAdd, Nat.reduceMul]; rfl)))
 | ((with_reducible refine callV_id (f := 12) ?_); (with_reducible apply callV_f own12 (c_diskBegun)); (case hx => rfl); (case he => rfl); (case hle => first | ((repeat constructor); done) | (simp; done)); (case hpu => repeat constructor); (case' hK => conv => whnf))
 | ((with_reducible refine callV_id (f := 14) ?_); (with_reducible apply callV_f own14 (hO)); (case hx => rfl); (case he => rfl); (case hle => first | ((repeat constructor); done) | (simp; done)); (case hpu => repeat constructor); (case' hK => conv => whnf))
 | ((with_reducible refine callV_id (f := 17) ?_); (with_reducible apply callV_f own17 (h2)); (case hx => rfl); (case he => rfl); (case hle => first | ((repeat constructor); done) | (simp; done)); (case hpu => repeat constructor); (case' hK => conv => whnf))
 | ((with_reducible refine callV_id (f := 19) ?_); (with_reducible apply callV_f own19 (h3)); (case hx => rfl); (case he => rfl); (case hle => first | ((repeat constructor); done) | (simp; done)); (case hpu => repeat constructor); (case' hK => conv => whnf))
 | ((with_reducible refine callV_id (f := 14) ?_); (with_reducible apply callV_f own14 (h4)); (case hx => rfl); (case he => rfl); (case hle => first | ((repeat constructor); done) | (simp; done)); (case hpu => repeat constructor); (case' hK => conv => whnf))
 | ((with_reducible refine callV_id (f := 19) ?_); (with_reducible apply callV_f own19 (h5)); (case hx => rfl); (case he => rfl); (case hle => first | ((repeat constructor); done) | (simp; done)); (case hpu => repeat constructor); (case' hK => conv => whnf))
 | ((with_reducible refine callV_id (f := 13) ?_); (with_reducible apply callV_f own13 (h6)); (case hx => rfl); (case he => rfl); (case hle => first | ((repeat constructor); done) | (simp; done)); (case hpu => repeat constructor); (case' hK => conv => whnf))
 | ((with_reducible refine callV_id (f := 14) ?_); (with_reducible apply callV_f own14 (h7)); (case hx => rfl); (case he => rfl); (case hle => first | ((repeat constructor); done) | (simp; done)); (case hpu => repeat constructor); (case' hK => conv => whnf))
 | ((with_reducible refine callV_id (f := 18) ?_); (with_reducible apply callV_f own18 (h8)); (case hx => rfl); (case he => rfl); (case hle => first | ((repeat constructor); done) | (simp; done)); (case hpu => repeat constructor); (case' hK => conv => whnf))
 | ((with_reducible refine callV_id (f := 19) ?_); (with_reducible apply callV_f own19 (h9)); (case hx => rfl); (case he => rfl); (case hle => first | ((repeat constructor); done) | (simp; done)); (case hpu => repeat constructor); (case' hK => conv => whnf))
 | ((with_reducible refine callV_id (f := 28) ?_); (with_reducible apply callV_f own28 (s1)); (case hx => rfl); (case he => rfl); (case hle => first | ((repeat constructor); done) | (simp; done)); (case hpu => repeat constructor); (case' hK => conv => whnf))
 | ((with_reducible refine callV_id (f := 28) ?_); (with_reducible apply callV_f own28 (s2)); (case hx => rfl); (case he => rfl); (case hle => first | ((repeat constructor); done) | (simp; done)); (case hpu => repeat constructor); (case' hK => conv => whnf))
 | ((with_reducible apply go_cond); (case hb => rfl))
 | ((with_reducible first | refine w_ret Try.tab fun K' hL => ?_ | refine w_ret_end Try.tab fun K' hL => ?_); (conv => whnf))
 | ((with_reducible apply And.intro); (case' right => try (conv => whnf)); (case' left => try first | rfl | decide | (simp; done) | (simp (disch := omega) only [wrp]; omega) | (simp (disch := omega) [wrp]; (try omega); done)))
 | ((with_reducible apply Side.mk); (try simp (disch := omega) only [wrp]); (try simp); (try simp (disch := omega) only [wrp]); (try omega))
 | (refine ⟨_, eqAT (by rfl) (by rfl) (by rfl) (by rfl), ?_⟩; conv => whnf)
 | (first  | intro g1; try simp at g1))
          all_goals first | (exfalso; omega) | (exfalso; exact absurd (by assumption) c) | exact .refl _ | (simp [dk0, st0]; done)
      · rw [app_no ca] at h2
        have hk0 : 0 ≤ keep := by omega
        have hm0 : 0 ≤ more := by omega
        refine v_pspec Try.func5 rfl Try.ntmps5 Try.results5 (by simp) (by first | exact .s _ | repeat constructor) ?_
        repeat' (first
 | (with_reducible first | apply qz0 | (refine h0 _ _ ?_; clear h0 hw) | (refine hw _ _ _ ?_; clear h0 hw) | apply qz1 | apply qz2 | apply qz5 | apply qz6 | (refine hL _ ?_; clear hL))
 | (with_reducible first | refine w_reg (by decide +kernel) fun K1 hK => ?_ | refine w_reg_end (by decide +kernel) fun K1 hK => ?_)
 | with_reducible refine go_seq ?_
 | ((with_reducible first | apply v_op Try.tab | apply v_op0 Try.tab) <;> first | (intro K' h0 hw; conv => whnf) | (simp only [Nat.reduceAdd, Nat.reduceMul]; rfl))
 | ((with_reducible apply v_nil); (case hm => (simp only [Nat.reduceAdd, Nat.reduceMul]; rfl)); (case' h => with_reducible refine hK _ ?_; clear hK))
 | (first | refine v_grd_yes (by rfl) (by rfl) ?_)
 | ((first | (apply v_grd_no; (case hg => rfl); (case hb => rfl)) | (apply v_grd_undef; (case hg => rfl); (case hb => rfl)) | (apply v_grd; (case hg => rfl); (case hb => rfl))); (case hi => (simp only [Nat.reduceAdd, Nat.reduceMul]; rfl)))
 | ((with_reducible refine callV_id (f := 12) ?_); (with_reducible apply callV_f own12 (c_diskBegun)); (case hx => rfl); (case he => rfl); (case hle => first | ((repeat constructor); done) | (simp; done)); (case hpu => repeat constructor); (case' hK => conv => whnf))
 | ((with_reducible refine callV_id (f := 14) ?_); (with_reducible apply callV_f own14 (hO)); (case hx => rfl); (case he => rfl); (case hle => first | ((repeat constructor); done) | (simp; done)); (case hpu => repeat constructor); (case' hK => conv => whnf))
 | ((with_reducible refine callV_id (f := 17) ?_); (with_reducible apply callV_f own17 (h2)); (case hx => rfl); (case he => rfl); (case hle => first | ((repeat constructor); done) | (simp; done)); (case hpu => repeat constructor); (case' hK => conv => whnf))
 | ((with_reducible apply go_cond); (case hb => rfl))
 | ((with_reducible first | refine w_ret Try.tab fun K' hL => ?_ | refine w_ret_end Try.tab fun K' hL => ?_); (conv => whnf))
 | ((with_reducible apply And.intro); (case' right => try (conv => whnf)); (case' left => try first | rfl | decide | (simp; done) | (simp (disch := omega) only [wrp]; omega) | (simp (disch := omega) [wrp]; (try omega); done)))
 | ((with_reducible apply Side.mk); (try simp (disch := omega) only [wrp]); (try simp); (try simp (disch := omega) only [wrp]); (try omega))
 | (refine ⟨_, eqAT (by rfl) (by rfl) (by rfl) (by rfl), ?_⟩; conv => whnf)
 | (first  | intro g1; try simp at g1))
        all_goals first | (exfalso; omega) | (exfalso; exact absurd (by assumption) c) | exact .refl _ | (simp [dk0, st0]; done)
  · have ho : openS d = ((st0, dk0), dkE d) := by rw [openS, if_neg c]
    rw [ho] at h1
    refine v_pspec Try.func5 rfl Try.ntmps5 Try.results5 (by simp) (by first | exact .s _ | repeat constructor) ?_
    repeat' (first
 | (with_reducible first | apply qz0 | (refine h0 _ _ ?_; clear h0 hw) | (refine hw _ _ _ ?_; clear h0 hw) | apply qz1 | apply qz2 | apply qz5 | apply qz6 | (refine hL _ ?_; clear hL))
 | (with_reducible first | refine w_reg (by decide +kernel) fun K1 hK => ?_ | refine w_reg_end (by decide +kernel) fun K1 hK => ?_)
 | with_reducible refine go_seq ?_
 | ((with_reducible first | apply v_op Try.tab | apply v_op0 Try.tab) <;> first | (intro K' h0 hw; conv => whnf) | (simp only [Nat.reduceAdd, Nat.reduceMul]; rfl))
 | ((with_reducible apply v_nil); (case hm => (simp only [Nat.reduceAdd, Nat.reduceMul]; rfl)); (case' h => with_reducible refine hK _ ?_; clear hK))
 | (first | refine v_grd_yes (by rfl) (by rfl) ?_)
 | ((first | (apply v_grd_no; (case hg => rfl); (case hb => rfl)) | (apply v_grd_undef; (case hg => rfl); (case hb => rfl)) | (apply v_grd; (case hg => rfl); (case hb => rfl))); (case hi => (simp only [Nat.reduceAdd, Nat.reduceMul]; rfl)))
 | ((with_reducible refine callV_id (f := 12) ?_); (with_reducible apply callV_f own12 (c_diskBegun)); (case hx => rfl); (case he => rfl); (case hle => first | ((repeat constructor); done) | (simp; done)); (case hpu => repeat constructor); (case' hK => conv => whnf))
 | ((with_reducible refine callV_id (f := 14) ?_); (with_reducible apply callV_f own14 (h1)); (case hx => rfl); (case he => rfl); (case hle => first | ((repeat constructor); done) | (simp; done)); (case hpu => repeat constructor); (case' hK => conv => whnf))
 | ((with_reducible apply go_cond); (case hb => rfl))
 | ((with_reducible first | refine w_ret Try.tab fun K' hL => ?_ | refine w_ret_end Try.tab fun K' hL => ?_); (conv => whnf))
 | ((with_reducible apply And.intro); (case' right => try (conv => whnf)); (case' left => try first | rfl | decide | (simp; done) | (simp (disch := omega) only [wrp]; omega) | (simp (disch := omega) [wrp]; (try omega); done)))
 | ((with_reducible apply Side.mk); (try simp (disch := omega) only [wrp]); (try simp); (try simp (disch := omega) only [wrp]); (try omega))
 | (refine ⟨_, eqAT (by rfl) (by rfl) (by rfl) (by rfl), ?_⟩; conv => whnf)
 | (first  | intro g1; try simp at g1))
    all_goals first | (exfalso; omega) | (exfalso; exact absurd (by assumption) c) | exact .refl _ | (simp [dk0, st0]; done)
theorem law_diskCrash (args : List AV) (h : ReadsArgs [.agg [.str, .int .i64], .int .i64, .agg [.sl 3 40 (.agg [.int .i64, .bool, .sl 1 16 .str])], .int .i64, .int .i64] args) (_ : True) : PSpec Try.prog 5 args (B true) := by
  obtain ⟨_, _, rfl, h1, _, _, rfl, h2, _, _, rfl, h3, _, _, rfl, h4, _, _, rfl, h5, rfl⟩ := h
  obtain ⟨d, rfl⟩ := reads_dk' h1
  obtain ⟨n, hn, _, hn2⟩ := h2
  obtain ⟨_, rfl, h3⟩ := h3
  obtain ⟨g, rfl, hg⟩ := cells_gr h3
  obtain ⟨k, hk, _, _⟩ := h4
  obtain ⟨m, hm, _, _⟩ := h5
  cases hn
  cases hk
  cases hm
  exact c_diskCrash d n g k m hg
end Go.Proofs.Ytbhcjgobapnajaa

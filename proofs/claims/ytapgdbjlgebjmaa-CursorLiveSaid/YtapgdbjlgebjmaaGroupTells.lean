/- GroupTells, walked. No condition. -/
import Derived.Test.YtapgdbjlgebjmaaGroup3
import Derived.Test.YtapgdbjlgebjmaaPic
namespace Go.Proofs.Ytapgdbjlgebjmaa
open Go Go.Sy
set_option maxRecDepth 4000
set_option linter.unusedSimpArgs false
set_option linter.unusedVariables false
attribute [local irreducible] Reg RegD Later Out CallV Tri Side EqV
abbrev pic (t : Int) (k : Bool) : Fr := ⟨t, k, [abc]⟩
theorem fits_pics {l : List Fr} (h : l.length ≤ 1000) (hp : ∀ f ∈ l, f.parts.length ≤ 1000) : Fits l := ⟨by omega, fun f hf => by have := hp f hf; omega⟩
theorem gb1 : PSpec Try.prog 16 [frs [pic 1 false, pic 2 true, pic 3 false, pic 4 true]] (allT ([[pic 2 true, pic 3 false]], [pic 4 true], 0)) := by
  have h := c_allG [pic 1 false, pic 2 true, pic 3 false, pic 4 true] (fits_pics (by decide) (by simp [pic]))
  rwa [show allG [pic 1 false, pic 2 true, pic 3 false, pic 4 true] = ([[pic 2 true, pic 3 false]], [pic 4 true], 0) by decide +kernel] at h
theorem gb2 : PSpec Try.prog 15 [.agg (grC [pic 4 true])] (.tup [I 3, I 0]) := by
  have h := c_size [pic 4 true] (fits_pics (by decide) (by simp [pic])) (fun _ => by decide)
  rwa [show sizeG [pic 4 true] = (3, 0) by decide +kernel] at h
theorem gb3 : PSpec Try.prog 21 [.agg (grC [pic 4 true])] (I 0) := by
  have h := c_groupCheck [pic 4 true] (fits_pics (by decide) (by simp [pic]))
  rwa [show groupE [pic 4 true] = 0 by decide +kernel] at h
set_option maxHeartbeats 1000000 in
theorem c_groupBegun : PSpec Try.prog 20 [] (B true) := by
  refine v_pspec Try.func20 rfl Try.ntmps20 Try.results20 (by simp) (by first | exact .s _ | repeat constructor) ?_
  repeat' (first
    | (with_reducible first | refine go_later ?_ | (refine h0 _ _ ?_; clear h0 hw) | (refine hw _ _ _ ?_; clear h0 hw) | refine go_ret ?_ | refine go_skip ?_ | refine go_block ?_ | refine go_exit ?_ | refine out_seq_ret ?_ | refine out_seq_normal ?_ | refine out_seq_exit ?_ | refine out_block_ret ?_ | refine out_block_normal ?_ | refine out_block_here ?_ | refine out_loop_ret ?_ | refine out_loop_exit ?_ | refine out_loopR_ret ?_ | refine out_loopR_exit ?_ | (refine hL _ ?_; clear hL))
    | (with_reducible first | refine w_reg (by decide +kernel) fun K1 hK => ?_ | refine w_reg_end (by decide +kernel) fun K1 hK => ?_)
    | ((with_reducible first | apply d_reg Try.mix (by decide +kernel) | apply d_reg_end Try.mix (by decide +kernel)); (case hm => simp only [List.length_cons, List.length_nil, Nat.reduceAdd, Nat.reduceMul]; rfl); (case' h => intro K1 hK))
    | with_reducible refine go_seq ?_
    | ((with_reducible first | apply v_op Try.tab | apply v_op0 Try.tab | apply d_op Try.tab | apply d_op0 Try.tab) <;> first | (intro K' h0 hw; conv => whnf) | (simp only [Nat.reduceAdd, Nat.reduceMul]; rfl))
    | ((with_reducible apply v_nil); (case hm => (simp only [Nat.reduceAdd, Nat.reduceMul]; rfl)); (case' h => with_reducible refine hK _ ?_; clear hK))
    | ((with_reducible apply d_nil); (refine hK _ _ _ _ (by first | decide +kernel | (simp only [List.map_cons, List.map_nil, List.nil_append, List.cons_append]; decide +kernel) | rfl) ?_; clear hK))
    | (first | refine d_grd_yes (by rfl) (by rfl) ?_ | refine v_grd_yes (by rfl) (by rfl) ?_)
    | (apply d_grd_no; (case hg => rfl); (case hb => rfl); (case hi => (simp only [Nat.reduceAdd, Nat.reduceMul]; rfl)))
    | (apply d_grd_undef; (case hg => rfl); (case hb => rfl); (case hi => (simp only [Nat.reduceAdd, Nat.reduceMul]; rfl)))
    | (apply d_grd; (case hg => rfl); (case hb => rfl); (case hi => (simp only [Nat.reduceAdd, Nat.reduceMul]; rfl)))
    | (apply v_grd_no; (case hg => rfl); (case hb => rfl); (case hi => (simp only [Nat.reduceAdd, Nat.reduceMul]; rfl)))
    | (apply v_grd_undef; (case hg => rfl); (case hb => rfl); (case hi => (simp only [Nat.reduceAdd, Nat.reduceMul]; rfl)))
    | (apply v_grd; (case hg => rfl); (case hb => rfl); (case hi => (simp only [Nat.reduceAdd, Nat.reduceMul]; rfl)))
    | ((with_reducible refine callV_id (f := 61) ?_); (with_reducible apply callV_f own61 (c_pic _ _)); (case hx => rfl); (case he => rfl); (case hle => first | ((repeat constructor); done) | (simp [allT]; done)); (case hpu => repeat constructor); (case' hK => (try clear hcs_); conv => whnf))
    | ((with_reducible refine callV_id (f := 16) ?_); have hcs_ := gb1; (with_reducible apply callV_f own16 (hcs_)); (case hx => rfl); (case he => rfl); (case hle => first | ((repeat constructor); done) | (simp [allT]; done)); (case hpu => repeat constructor); (case' hK => (try clear hcs_); conv => whnf))
    | ((with_reducible refine callV_id (f := 15) ?_); have hcs_ := gb2; (with_reducible apply callV_f own15 (hcs_)); (case hx => rfl); (case he => rfl); (case hle => first | ((repeat constructor); done) | (simp [allT]; done)); (case hpu => repeat constructor); (case' hK => (try clear hcs_); conv => whnf))
    | ((with_reducible refine callV_id (f := 21) ?_); have hcs_ := gb3; (with_reducible apply callV_f own21 (hcs_)); (case hx => rfl); (case he => rfl); (case hle => first | ((repeat constructor); done) | (simp [allT]; done)); (case hpu => repeat constructor); (case' hK => (try clear hcs_); conv => whnf))
    | ((with_reducible apply go_cond); (case hb => rfl))
    | ((with_reducible apply out_block_there); (case hne => rfl))
    | ((with_reducible first | refine w_ret Try.tab fun K' hL => ?_ | refine w_ret_end Try.tab fun K' hL => ?_); (conv => whnf))
    | ((with_reducible apply And.intro); (case' right => try (conv => whnf)); (case' left => try first | rfl | decide | (simp [allT]; done)))
    | ((with_reducible apply Side.mk); (try simp (disch := omega) only [wrp]); (try simp); (try omega))
    | ((with_reducible apply all_rk); (case hx => with_reducible assumption); (conv => whnf))
    | ((with_reducible refine all_row ?_); (first | (have _y := hx5; clear _y; intro x6 hx6) | (have _y := hx4; clear _y; intro x5 hx5) | (have _y := hx3; clear _y; intro x4 hx4) | (have _y := hx2; clear _y; intro x3 hx3) | (have _y := hx1; clear _y; intro x2 hx2) | (intro x1 hx1)); conv => whnf)
    | (refine ⟨_, eqAT (by rfl) (by rfl) (by rfl) (by rfl), ?_⟩; conv => whnf)
    | ((first | (have _y := g9; clear _y; intro g10; try simp at g10) | (have _y := g8; clear _y; intro g9; try simp at g9) | (have _y := g7; clear _y; intro g8; try simp at g8) | (have _y := g6; clear _y; intro g7; try simp at g7) | (have _y := g5; clear _y; intro g6; try simp at g6) | (have _y := g4; clear _y; intro g5; try simp at g5) | (have _y := g3; clear _y; intro g4; try simp at g4) | (have _y := g2; clear _y; intro g3; try simp at g3) | (have _y := g1; clear _y; intro g2; try simp at g2) | (intro g1; try simp at g1))))
  all_goals (simp at hx1; subst hx1; first | exact absurd rfl g1 | exact le_of_eq (by simp))
/-- A right group's bytes are few. -/
theorem partsB_big {l : List ByteArray} (h : l.any big = false) : partsB l ≤ 8 * l.length := by
  induction l with
  | nil => simp [partsB]
  | cons s l ih =>
    simp only [List.any_cons, Bool.or_eq_false_iff] at h
    have h1 : s.size ≤ 8 := by have := h.1; simp [big] at this; exact this
    have := ih h.2
    simp only [partsB, List.length_cons]; omega
theorem goE_ok : ∀ {l : List Fr} {p : Option Fr}, goE p l = 0 → ∀ f ∈ l, frameE f = 0
  | [], _, _ => by simp
  | f :: l, p, h => by
    rw [goE] at h
    by_cases h1 : frameE f = 0
    · rw [if_neg (by simp [h1])] at h
      split at h
      · cases h
      · intro x hx
        rcases List.mem_cons.1 hx with rfl | hx
        · exact h1
        · exact goE_ok h x hx
    · rw [if_pos h1] at h; exact absurd h h1
theorem groupB_ok {l : List Fr} (h : ∀ f ∈ l, frameE f = 0) : groupB l ≤ 32 * l.length := by
  induction l with
  | nil => simp [groupB]
  | cons f l ih =>
    have h1 := frameE_ok (h f (by simp))
    have h2 := partsB_big h1.2.2.2.2
    have := ih fun x hx => h x (by simp [hx])
    simp only [groupB, List.length_cons]; omega
theorem groupE_ok {g : List Fr} (h : groupE g = 0) : g ≠ [] ∧ g.length ≤ 6 ∧ goE none g = 0 ∧ ∀ f ∈ g, frameE f = 0 := by
  unfold groupE at h
  split at h
  · cases h
  · rename_i h1
    split at h
    · cases h
    · rename_i h2; exact ⟨h1, by omega, h, goE_ok h⟩
theorem groupE_bytes {g : List Fr} (h : groupE g = 0) : groupB g ≤ 192 := by
  have h1 := groupE_ok h
  have := groupB_ok h1.2.2.2
  omega
theorem growS_mem {g : List Fr} {f x : Fr} (h : x ∈ growS g f) : x ∈ g ∨ x = f := by
  unfold growS at h
  split at h
  · simp at h; exact .inr h
  · split at h
    · simp at h; exact h
    · exact .inl h
/-- What came of a row of frames is of it. -/
def Made (L : List Fr) (done : List (List Fr)) (g : List Fr) : Prop := (∀ f ∈ g, f ∈ L) ∧ g.length ≤ 6 ∧ ∀ x ∈ done, x.length ≤ 6 ∧ ∀ f ∈ x, f ∈ L
theorem eachG_made {L : List Fr} : ∀ (l : List Fr) (g : List Fr) (done : List (List Fr)), (∀ f ∈ l, f ∈ L) → Made L done g → Made L (eachG g done l).2.1 (eachG g done l).1
  | [], _, _, _, h => h
  | f :: l, g, done, hl, h => by
    rw [eachG]
    split
    · refine eachG_made l _ _ (fun x hx => hl x (by simp [hx])) ⟨fun x hx => ?_, ?_, fun x hx => ?_⟩
      · rcases growS_mem hx with h1 | rfl
        · exact h.1 x h1
        · exact hl x (by simp)
      · have := growS_len g f; have := h.2.1; omega
      · unfold doneS at hx
        split at hx
        · rcases List.mem_append.1 hx with h1 | h1
          · exact h.2.2 x h1
          · simp at h1; subst h1; exact ⟨h.2.1, h.1⟩
        · exact h.2.2 x hx
    · exact h
theorem eachG_len : ∀ (l : List Fr) (g : List Fr) (done : List (List Fr)), (eachG g done l).2.1.length ≤ done.length + l.length
  | [], _, _ => by simp [eachG]
  | f :: l, g, done => by
    rw [eachG]
    split
    · have := eachG_len l (growS g f) (doneS g done f); have := doneS_len g done f; simp only [List.length_cons]; omega
    · simp
theorem allG_made (l : List Fr) : Made l (allG l).1 (allG l).2.1 ∧ (allG l).1.length ≤ 100 := by
  have h := eachG_made (L := l) l [] [] (fun _ h => h) ⟨by simp, by simp, by simp⟩
  have h2 := eachG_len l [] []
  unfold allG
  split
  · exact ⟨⟨by simp, by simp, by simp⟩, by simp⟩
  · split
    · refine ⟨h, ?_⟩; simp at h2 ⊢; omega
    · exact ⟨⟨by simp, by simp, by simp⟩, by simp⟩
theorem allG_fits {l : List Fr} (hl : Fits l) : ((allG l).1.length ≤ 4000000000000 ∧ ∀ g ∈ (allG l).1, g.length ≤ 4000000000000 ∧ ∀ f ∈ g, f.parts.length ≤ 1000000000000000) ∧ (allG l).2.1.length ≤ 4000000000000 ∧ ∀ f ∈ (allG l).2.1, f.parts.length ≤ 1000000000000000 := by
  obtain ⟨⟨h1, h2, h3⟩, h4⟩ := allG_made l
  refine ⟨⟨by omega, fun g hg => ⟨by have := (h3 g hg).1; omega, fun f hf => by have := hl.2 f ((h3 g hg).2 f hf); omega⟩⟩, by omega, fun f hf => by have := hl.2 f (h1 f hf); omega⟩
theorem sizeG_e (g : List Fr) : (sizeG g).2 = groupE g := by
  unfold sizeG; split
  · rename_i h; rw [h]
  · rfl
set_option maxHeartbeats 2000000 in
theorem c_groupTells (g l : List Fr) (hg : Fits g) (hl : Fits l) : PSpec Try.prog 3 [.agg (grC g), frs l] (B true) := by
  refine v_pspec Try.func3 rfl Try.ntmps3 Try.results3 (by simp) (by first | exact .s _ | repeat constructor) ?_
  repeat' (first
    | ((first | with_reducible refine w_cut (x := .cond (.tmp 29) _ _) (X := Unit) [11, 28, 29, 30, 31] (fun _ => [(11, I (sizeG g).1)]) (fun _ => []) (fun _ => True) ?_ ?_ | with_reducible refine w_cut (x := .seq (.region _ _ _) (.cond (.tmp 29) _ _)) (X := Unit) [11, 28, 29, 30, 31] (fun _ => [(11, I (sizeG g).1)]) (fun _ => []) (fun _ => True) ?_ ?_); (try (rintro z hz; simp only at hz)))
    | (with_reducible first | refine go_later ?_ | (refine h0 _ _ ?_; clear h0 hw) | (refine hw _ _ _ ?_; clear h0 hw) | refine go_ret ?_ | refine go_skip ?_ | refine go_block ?_ | refine go_exit ?_ | refine out_seq_ret ?_ | refine out_seq_normal ?_ | refine out_seq_exit ?_ | refine out_block_ret ?_ | refine out_block_normal ?_ | refine out_block_here ?_ | refine out_loop_ret ?_ | refine out_loop_exit ?_ | refine out_loopR_ret ?_ | refine out_loopR_exit ?_ | (refine hL _ ?_; clear hL))
    | (with_reducible first | refine w_reg (by decide +kernel) fun K1 hK => ?_ | refine w_reg_end (by decide +kernel) fun K1 hK => ?_)
    | ((with_reducible first | apply d_reg Try.mix (by decide +kernel) | apply d_reg_end Try.mix (by decide +kernel)); (case hm => simp only [List.length_cons, List.length_nil, Nat.reduceAdd, Nat.reduceMul]; rfl); (case' h => intro K1 hK))
    | with_reducible refine go_seq ?_
    | ((with_reducible first | apply v_op Try.tab | apply v_op0 Try.tab | apply d_op Try.tab | apply d_op0 Try.tab) <;> first | (intro K' h0 hw; conv => whnf) | (simp only [Nat.reduceAdd, Nat.reduceMul]; rfl))
    | ((with_reducible apply v_nil); (case hm => (simp only [Nat.reduceAdd, Nat.reduceMul]; rfl)); (case' h => with_reducible refine hK _ ?_; clear hK))
    | ((with_reducible apply d_nil); (refine hK _ _ _ _ (by first | decide +kernel | (simp only [List.map_cons, List.map_nil, List.nil_append, List.cons_append]; decide +kernel) | rfl) ?_; clear hK))
    | (first | refine d_grd_yes (by rfl) (by rfl) ?_ | refine v_grd_yes (by rfl) (by rfl) ?_)
    | (apply d_grd_no; (case hg => rfl); (case hb => rfl); (case hi => (simp only [Nat.reduceAdd, Nat.reduceMul]; rfl)))
    | (apply d_grd_undef; (case hg => rfl); (case hb => rfl); (case hi => (simp only [Nat.reduceAdd, Nat.reduceMul]; rfl)))
    | (apply d_grd; (case hg => rfl); (case hb => rfl); (case hi => (simp only [Nat.reduceAdd, Nat.reduceMul]; rfl)))
    | (apply v_grd_no; (case hg => rfl); (case hb => rfl); (case hi => (simp only [Nat.reduceAdd, Nat.reduceMul]; rfl)))
    | (apply v_grd_undef; (case hg => rfl); (case hb => rfl); (case hi => (simp only [Nat.reduceAdd, Nat.reduceMul]; rfl)))
    | (apply v_grd; (case hg => rfl); (case hb => rfl); (case hi => (simp only [Nat.reduceAdd, Nat.reduceMul]; rfl)))
    | ((with_reducible refine callV_id (f := 15) ?_); have hcs_ := c_size g hg (fun h => by have := groupE_bytes h; omega); (with_reducible apply callV_f own15 (hcs_)); (case hx => rfl); (case he => rfl); (case hle => first | ((repeat constructor); done) | (simp [allT]; done)); (case hpu => repeat constructor); (case' hK => (try clear hcs_); conv => whnf))
    | ((with_reducible refine callV_id (f := 16) ?_); have hcs_ := c_allG l hl; (with_reducible apply callV_f own16 (hcs_)); (case hx => rfl); (case he => rfl); (case hle => first | ((repeat constructor); done) | (simp [allT]; done)); (case hpu => repeat constructor); (case' hK => (try clear hcs_); conv => whnf))
    | ((with_reducible refine callV_id (f := 17) ?_); have hcs_ := c_checkGroup g hg; (with_reducible apply callV_f own17 (hcs_)); (case hx => rfl); (case he => rfl); (case hle => first | ((repeat constructor); done) | (simp [allT]; done)); (case hpu => repeat constructor); (case' hK => (try clear hcs_); conv => whnf))
    | ((with_reducible refine callV_id (f := 18) ?_); have hcs_ := c_sizeOf g hg (by have := groupE_bytes g1; omega); (with_reducible apply callV_f own18 (hcs_)); (case hx => rfl); (case he => rfl); (case hle => first | ((repeat constructor); done) | (simp [allT]; done)); (case hpu => repeat constructor); (case' hK => (try clear hcs_); conv => whnf))
    | ((with_reducible refine callV_id (f := 19) ?_); have hcs_ := c_groupsOf l hl; (with_reducible apply callV_f own19 (hcs_)); (case hx => rfl); (case he => rfl); (case hle => first | ((repeat constructor); done) | (simp [allT]; done)); (case hpu => repeat constructor); (case' hK => (try clear hcs_); conv => whnf))
    | ((with_reducible refine callV_id (f := 20) ?_); have hcs_ := c_groupBegun; (with_reducible apply callV_f own20 (hcs_)); (case hx => rfl); (case he => rfl); (case hle => first | ((repeat constructor); done) | (simp [allT]; done)); (case hpu => repeat constructor); (case' hK => (try clear hcs_); conv => whnf))
    | ((with_reducible refine callV_id (f := 21) ?_); have hcs_ := c_groupCheck g hg; (with_reducible apply callV_f own21 (hcs_)); (case hx => rfl); (case he => rfl); (case hle => first | ((repeat constructor); done) | (simp [allT]; done)); (case hpu => repeat constructor); (case' hK => (try clear hcs_); conv => whnf))
    | ((with_reducible refine callV_id (f := 22) ?_); (with_reducible apply callV_f own22 (c_sameGroups (allG l).1 _ (allG_fits hl).1.1 (allG_fits hl).1.2)); (case hx => rfl); (case he => rfl); (case hle => first | ((repeat constructor); done) | (simp [allT]; done)); (case hpu => repeat constructor); (case' hK => (try clear hcs_); conv => whnf))
    | ((with_reducible refine callV_id (f := 23) ?_); (with_reducible apply callV_f own23 (c_sameFrames (allG l).2.1 _ (allG_fits hl).2.1 (allG_fits hl).2.2)); (case hx => rfl); (case he => rfl); (case hle => first | ((repeat constructor); done) | (simp [allT]; done)); (case hpu => repeat constructor); (case' hK => (try clear hcs_); conv => whnf))
    | ((with_reducible apply go_cond); (case hb => rfl))
    | ((with_reducible apply out_block_there); (case hne => rfl))
    | ((with_reducible first | refine w_ret Try.tab fun K' hL => ?_ | refine w_ret_end Try.tab fun K' hL => ?_); (conv => whnf))
    | ((with_reducible apply And.intro); (case' right => try (conv => whnf)); (case' left => try first | rfl | decide | (simp [allT]; done)))
    | ((with_reducible apply Side.mk); (try simp (disch := omega) only [wrp]); (try simp); (try omega))
    | ((with_reducible apply all_rk); (case hx => with_reducible assumption); (conv => whnf))
    | ((with_reducible refine all_row ?_); (first | (have _y := hx5; clear _y; intro x6 hx6) | (have _y := hx4; clear _y; intro x5 hx5) | (have _y := hx3; clear _y; intro x4 hx4) | (have _y := hx2; clear _y; intro x3 hx3) | (have _y := hx1; clear _y; intro x2 hx2) | (intro x1 hx1)); conv => whnf)
    | (refine ⟨_, eqAT (by rfl) (by rfl) (by rfl) (by rfl), ?_⟩; conv => whnf)
    | ((first | (have _y := g9; clear _y; intro g10; try simp at g10) | (have _y := g8; clear _y; intro g9; try simp at g9) | (have _y := g7; clear _y; intro g8; try simp at g8) | (have _y := g6; clear _y; intro g7; try simp at g7) | (have _y := g5; clear _y; intro g6; try simp at g6) | (have _y := g4; clear _y; intro g5; try simp at g5) | (have _y := g3; clear _y; intro g4; try simp at g4) | (have _y := g2; clear _y; intro g3; try simp at g3) | (have _y := g1; clear _y; intro g2; try simp at g2) | (intro g1; try simp at g1))))
  · ((with_reducible apply w_next (())); (case kt => first | exact kt_refl | (repeat (first | exact kt_refl | refine kt_wr (by rfl) ?_ | refine kt_jnk (by rfl) ?_ | refine kt_wrs (by rfl) ?_))); (case ko => repeat (first | exact ko_refl | refine ko_wo (by first | exact .inl (by rfl) | exact .inr (by simp) | exact .inr (by omega)) ?_ | refine ko_wor (by rfl) ?_ | refine ko_wos (by simp) ?_)); (case hn => first | exact Nat.le_refl _ | (simp; done) | (simp; omega)); (case hs => simp [sizeG, g1]); (case hb => simp [sizeG, g1]); (case ls => simp (disch := omega) [sizeG, g1, wrp]); (case lb => simp [sizeG, g1]); (case mu => first | (simp; omega) | (simp; done) | omega | (simp only; omega)); (case' rel' => (try simp only); (try exact trivial)))
  · ((with_reducible apply w_next (())); (case kt => first | exact kt_refl | (repeat (first | exact kt_refl | refine kt_wr (by rfl) ?_ | refine kt_jnk (by rfl) ?_ | refine kt_wrs (by rfl) ?_))); (case ko => repeat (first | exact ko_refl | refine ko_wo (by first | exact .inl (by rfl) | exact .inr (by simp) | exact .inr (by omega)) ?_ | refine ko_wor (by rfl) ?_ | refine ko_wos (by simp) ?_)); (case hn => first | exact Nat.le_refl _ | (simp; done) | (simp; omega)); (case hs => simp [sizeG, g1]); (case hb => simp [sizeG, g1]); (case ls => simp (disch := omega) [sizeG, g1, wrp]); (case lb => simp [sizeG, g1]); (case mu => first | (simp; omega) | (simp; done) | omega | (simp only; omega)); (case' rel' => (try simp only); (try exact trivial)))
  all_goals (first | exact absurd (sizeG_e g) g4 | exact le_of_eq (by simp))
theorem law_groupTells (args : List AV) (h : ReadsArgs [.agg [.sl 3 40 (.agg [.int .i64, .bool, .sl 1 16 .str])], .sl 3 40 (.agg [.int .i64, .bool, .sl 1 16 .str])] args) (_ : True) : PSpec Try.prog 3 args (B true) := by
  obtain ⟨_, _, rfl, h1, _, _, rfl, h2, rfl⟩ := h
  obtain ⟨g, rfl, hg⟩ := reads_gr h1
  obtain ⟨l, rfl, hl⟩ := reads_frs h2
  exact c_groupTells g l hg hl
end Go.Proofs.Ytapgdbjlgebjmaa

/- FrameWhole, walked. No condition. -/
import Derived.Test.YtapgdbjlgebjmaaFrameTells
namespace Go.Proofs.Ytapgdbjlgebjmaa
open Go Go.Sy
set_option maxRecDepth 4000
set_option linter.unusedSimpArgs false
set_option linter.unusedVariables false
attribute [local irreducible] Reg RegD Later Out CallV Tri Side EqV
/-- Slots one behind the other, from a first one on. -/
def Chain (p : List Slt) : Prop := ∀ i x, p[i]? = some x → (i = 0 → x.p.first = true) ∧ ∀ a, 0 < i → p[i - 1]? = some a → followsB a x = true
theorem goB_chain (o : List Slt) (h : goB none o = 0) : Chain o := by
  have key : ∀ n, n ≤ o.length → goB (prevS o n) (o.drop n) = 0 ∧ ∀ i x, i < n → o[i]? = some x → (i = 0 → x.p.first = true) ∧ ∀ a, 0 < i → o[i - 1]? = some a → followsB a x = true := by
    intro n
    induction n with
    | zero => intro _; exact ⟨h, fun i x hi => by omega⟩
    | succ n ih =>
      intro hn
      obtain ⟨h1, h2⟩ := ih (by omega)
      obtain ⟨y, hy⟩ : ∃ y, o[n]? = some y := ⟨o[n]'(by omega), by simp⟩
      rw [drop_at hy, goB] at h1
      by_cases q1 : sltE y = 0
      · rw [if_neg (by simp [q1])] at h1
        by_cases q2 : badS (prevS o n) y = true
        · rw [if_pos q2] at h1; cases h1
        · rw [if_neg q2] at h1
          refine ⟨by rw [prevS_succ hy]; exact h1, fun i x hi hx => ?_⟩
          by_cases e : i = n
          · subst e
            rw [hy] at hx; cases hx
            refine ⟨fun e => ?_, fun a h0 ha => ?_⟩
            · rw [badS_zero e] at q2; simp at q2; exact q2.1
            · rw [prevS, if_neg (by omega), ha] at q2; simp [badS] at q2; exact q2.2
          · exact h2 i x (by omega) hx
      · rw [if_pos q1] at h1; exact absurd h1 q1
  intro i x hx
  have hi := (List.getElem?_eq_some_iff.1 hx).1
  exact (key (i + 1) (by omega)).2 i x (by omega) hx
theorem openS_chain {o : List Slt} {x : Slt} (h : Chain o) : Chain (openS o x) := by
  unfold openS
  split
  · rename_i hf
    intro i y hy
    cases i with
    | zero => simp at hy; subst hy; exact ⟨fun _ => hf, fun a h0 => by omega⟩
    | succ i => simp at hy
  · split
    · rename_i a ha
      split
      · rename_i hf
        have hne : o ≠ [] := fun e => by subst e; simp at ha
        have hp := List.length_pos_iff.2 hne
        intro i y hy
        rcases Nat.lt_or_ge i o.length with hi | hi
        · rw [List.getElem?_append_left hi] at hy
          have := h i y hy
          refine ⟨this.1, fun a h0 ha => this.2 a h0 ?_⟩
          rwa [List.getElem?_append_left (by omega)] at ha
        · have he : i = o.length := by
            have := (List.getElem?_eq_some_iff.1 hy).1
            simp at this; omega
          subst he
          simp at hy; subst hy
          refine ⟨fun e => by omega, fun b h0 hb => ?_⟩
          rw [List.getElem?_append_left (by omega), ← List.getLast?_eq_getElem?, ha] at hb
          cases hb; exact hf
      · intro i y hy; simp at hy
    · intro i y hy; simp at hy
theorem chain_time {p : List Slt} (h : Chain p) {x : Slt} (hx : p[0]? = some x) : ∀ (i : Nat) (y : Slt), p[i]? = some y → y.p.time = x.p.time := by
  intro i
  induction i with
  | zero => intro y hy; rw [hx] at hy; cases hy; rfl
  | succ i ih =>
    intro y hy
    have hi := (List.getElem?_eq_some_iff.1 hy).1
    obtain ⟨a, ha⟩ : ∃ a, p[i]? = some a := ⟨p[i]'(by omega), by simp⟩
    have := (h (i + 1) y hy).2 a (by omega) ha
    simp [followsB] at this
    rw [this.2, ih a ha]
theorem openS_last {o : List Slt} {x : Slt} (h : openS o x ≠ []) : (openS o x).getLast? = some x ∧ ((openS o x = [x] ∧ x.p.first = true) ∨ (openS o x = o ++ [x] ∧ x.p.first = false)) := by
  unfold openS at h ⊢
  by_cases hf : x.p.first = true
  · rw [if_pos hf]; exact ⟨rfl, .inl ⟨rfl, hf⟩⟩
  · rw [if_neg hf] at h ⊢
    cases ha : o.getLast? with
    | none => rw [ha] at h; exact absurd rfl h
    | some a =>
      rw [ha] at h
      simp only at h ⊢
      split
      · exact ⟨by simp, .inr ⟨rfl, by simpa using hf⟩⟩
      · rename_i q; rw [if_neg q] at h; exact absurd rfl h
theorem pktE_ok {p : Pkt} (h : pktE p = 0) : (0 ≤ p.seq ∧ p.seq ≤ 65535) ∧ (0 ≤ p.time ∧ p.time ≤ 1000000) ∧ p.text.size ≤ 8 ∧ ¬ (p.key = true ∧ p.first = false) := by
  unfold pktE at h
  by_cases h1 : ¬ ((0 ≤ p.seq ∧ p.seq ≤ 65535) ∧ 0 ≤ p.time ∧ p.time ≤ 1000000)
  · rw [if_pos h1] at h; cases h
  rw [if_neg h1] at h
  by_cases h2 : 8 < p.text.size
  · rw [if_pos h2] at h; cases h
  rw [if_neg h2] at h
  by_cases h3 : p.key = true ∧ p.first = false
  · rw [if_pos h3] at h; cases h
  exact ⟨by omega, by omega, by omega, h3⟩
theorem made_right {p : List Slt} (h0 : p ≠ []) (hl : p.length ≤ 4) (hp : ∀ a ∈ p, sltE a = 0) : frameE (madeS p) = 0 := by
  obtain ⟨x, hx⟩ : ∃ x, p[0]? = some x := ⟨p[0]'(List.length_pos_iff.2 h0), by simp⟩
  have hm : madeS p = ⟨x.p.time, x.p.key, p.map (·.p.text)⟩ := by simp [madeS, hx]
  have hr := pktE_ok (sltE_ok (hp x (List.mem_of_getElem? hx))).2.1
  rw [hm, frameE]
  rw [if_neg (by simp only; omega), if_neg (by simp [h0]), if_neg ?_]
  simp only [List.length_map, List.any_map, not_or]
  refine ⟨by omega, ?_⟩
  simp only [List.any_eq_true, not_exists, not_and]
  intro a ha
  have := pktE_ok (sltE_ok (hp a ha)).2.1
  simp [big]; omega
theorem addR_no {o : List Slt} {x : Slt} (h : (addR o x).2.2 = false) : (addR o x).2.1 = fr0 ∧ (addR o x).1.length ≤ 3 ∧ ((addR o x).1 = [] ∨ (addR o x).1.getLast? = some x) := by
  unfold addR at h ⊢
  split
  · rename_i h1
    rw [if_pos h1] at h
    have hl := addS_len o x (addE_ok h1).1.1
    unfold addS at h hl ⊢
    split
    · rename_i h2; rw [if_pos h2] at h; cases h
    · rename_i h2
      rw [if_neg h2] at hl
      split
      · simp
      · rename_i h3
        rw [if_neg h3] at hl
        refine ⟨rfl, hl.1, ?_⟩
        by_cases h4 : openS o x = []
        · exact .inl h4
        · exact .inr (openS_last h4).1
  · simp
theorem addR_yes {o : List Slt} {x : Slt} (h : (addR o x).2.2 = true) : OkO o ∧ (addR o x).1 = [] ∧ x.p.fin = true ∧ openS o x ≠ [] ∧ (openS o x).length ≤ 4 ∧ Chain (openS o x) ∧ (∀ a ∈ openS o x, sltE a = 0) ∧ (addR o x).2.1 = madeS (openS o x) := by
  unfold addR at h ⊢
  by_cases h1 : addE o x = 0
  · rw [if_pos h1] at h ⊢
    obtain ⟨a1, a2, a3⟩ := addE_ok h1
    have hl := addS_len o x a1.1
    unfold addS at h ⊢
    by_cases h2 : openS o x ≠ [] ∧ x.p.fin = true
    · rw [if_pos h2]
      refine ⟨a1, rfl, h2.2, h2.1, hl.2.1, openS_chain (goB_chain o (by unfold buildE at a3; split at a3; cases a3; exact a3)), fun a ha => ?_, rfl⟩
      rcases openS_mem ha with h3 | rfl
      · exact a1.2 a h3
      · exact a2
    · rw [if_neg h2] at h; split at h <;> cases h
  · rw [if_neg h1] at h; cases h
set_option maxHeartbeats 4000000 in
theorem c_frameWhole (o : List Slt) (x : Slt) (ho : o.length ≤ 4000000000000) : PSpec Try.prog 7 [.agg [slts o], .agg (sltC x)] (B true) := by
  refine v_pspec Try.func7 rfl Try.ntmps7 Try.results7 (by simp) (by first | exact .s _ | repeat constructor) ?_
  have hA := c_frameAdd o x (by omega)
  unfold addFT at hA
  cases hok : (addR o x).2.2
  · obtain ⟨r1, r2, r3⟩ := addR_no hok
    rw [r1, hok] at hA
    have r4 : ¬ addE o x = 0 → (addR o x).1 = [] := fun h => by rw [addR, if_neg h]
    generalize (addR o x).1 = r at hA r2 r3 r4
    repeat' (first
    | (with_reducible first | refine go_later ?_ | (refine h0 _ _ ?_; clear h0 hw) | (refine hw _ _ _ ?_; clear h0 hw) | refine go_ret ?_ | refine go_skip ?_ | refine go_block ?_ | refine go_exit ?_ | refine out_seq_ret ?_ | refine out_seq_normal ?_ | refine out_seq_exit ?_ | refine out_block_ret ?_ | refine out_block_normal ?_ | refine out_block_here ?_ | refine out_loop_ret ?_ | refine out_loop_exit ?_ | refine out_loopR_ret ?_ | refine out_loopR_exit ?_ | (refine hL _ ?_; clear hL))
    | (with_reducible first | refine w_reg (by decide +kernel) fun K1 hK => ?_ | refine w_reg_end (by decide +kernel) fun K1 hK => ?_)
    | ((with_reducible first | apply d_reg Try.mix (by decide +kernel) | apply d_reg_end Try.mix (by decide +kernel)); (case hm => simp only [List.length_cons, List.length_nil, Nat.reduceAdd, Nat.reduceMul]; rfl); (case' h => intro K1 hK))
    | with_reducible refine go_seq ?_
    | ((with_reducible first | apply v_op Try.tab | apply v_op0 Try.tab | apply d_op Try.tab | apply d_op0 Try.tab) <;> first | (intro K' h0 hw; conv => whnf) | (simp only [Nat.reduceAdd, Nat.reduceMul]; rfl))
    | ((with_reducible apply v_nil); (case hm => (simp only [Nat.reduceAdd, Nat.reduceMul]; rfl)); (case' h => with_reducible refine hK _ ?_; clear hK))
    | ((with_reducible apply d_nil); (refine hK _ _ _ _ (by first | decide +kernel | (simp only [List.map_cons, List.map_nil, List.nil_append, List.cons_append]; decide +kernel) | rfl) ?_; clear hK))
    | (first | refine d_grd_yes (by rfl) (by rfl) ?_ | refine v_grd_yes (by rfl) (by rfl) ?_)
    | (apply d_grd_no; (case hg => rfl); (case hb => rfl); (case hi => (simp only [Nat.reduceAdd, Nat.reduceMul]; rfl)))
    | (apply d_grd_undef; (case hg => rfl); (case hb => rfl); (case hi => (simp only [Nat.reduceAdd, Nat.reduceMul]; rfl)))
    | (apply d_grd; (case hg => rfl); (case hb => rfl); (case hi => (simp only [Nat.reduceAdd, Nat.reduceMul]; rfl)))
    | (apply v_grd_no; (case hg => rfl); (case hb => rfl); (case hi => (simp only [Nat.reduceAdd, Nat.reduceMul]; rfl)))
    | (apply v_grd_undef; (case hg => rfl); (case hb => rfl); (case hi => (simp only [Nat.reduceAdd, Nat.reduceMul]; rfl)))
    | (apply v_grd; (case hg => rfl); (case hb => rfl); (case hi => (simp only [Nat.reduceAdd, Nat.reduceMul]; rfl)))
    | ((with_reducible refine callV_id (f := 25) ?_); have hcs_ := hA; (with_reducible apply callV_f own25 (hcs_)); (case hx => rfl); (case he => rfl); (case hle => first | ((repeat constructor); done) | (simp [fr0]; done)); (case hpu => repeat constructor); (case' hK => (try clear hcs_); conv => whnf))
    | ((with_reducible refine callV_id (f := 31) ?_); have hcs_ := c_frameBegun; (with_reducible apply callV_f own31 (hcs_)); (case hx => rfl); (case he => rfl); (case hle => first | ((repeat constructor); done) | (simp [fr0]; done)); (case hpu => repeat constructor); (case' hK => (try clear hcs_); conv => whnf))
    | ((with_reducible apply go_cond); (case hb => rfl))
    | ((with_reducible apply out_block_there); (case hne => rfl))
    | ((with_reducible first | refine w_ret Try.tab fun K' hL => ?_ | refine w_ret_end Try.tab fun K' hL => ?_); (conv => whnf))
    | ((with_reducible apply And.intro); (case' right => try (conv => whnf)); (case' left => try first | rfl | decide | (simp [fr0]; done)))
    | ((with_reducible apply Side.mk); (try simp (disch := omega) only [wrp]); (try simp); (try omega))
    | ((with_reducible apply all_rk); (case hx => with_reducible assumption); (conv => whnf))
    | ((with_reducible refine all_row ?_); (first | (have _y := hx5; clear _y; intro x6 hx6) | (have _y := hx4; clear _y; intro x5 hx5) | (have _y := hx3; clear _y; intro x4 hx4) | (have _y := hx2; clear _y; intro x3 hx3) | (have _y := hx1; clear _y; intro x2 hx2) | (intro x1 hx1)); conv => whnf)
    | (refine ⟨_, eqAT (by rfl) (by rfl) (by rfl) (by rfl), ?_⟩; conv => whnf)
    | ((first | (have _y := g15; clear _y; intro g16; try simp at g16; try simp (disch := omega) only [wrp] at g16) | (have _y := g14; clear _y; intro g15; try simp at g15; try simp (disch := omega) only [wrp] at g15) | (have _y := g13; clear _y; intro g14; try simp at g14; try simp (disch := omega) only [wrp] at g14) | (have _y := g12; clear _y; intro g13; try simp at g13; try simp (disch := omega) only [wrp] at g13) | (have _y := g11; clear _y; intro g12; try simp at g12; try simp (disch := omega) only [wrp] at g12) | (have _y := g10; clear _y; intro g11; try simp at g11; try simp (disch := omega) only [wrp] at g11) | (have _y := g9; clear _y; intro g10; try simp at g10; try simp (disch := omega) only [wrp] at g10) | (have _y := g8; clear _y; intro g9; try simp at g9; try simp (disch := omega) only [wrp] at g9) | (have _y := g7; clear _y; intro g8; try simp at g8; try simp (disch := omega) only [wrp] at g8) | (have _y := g6; clear _y; intro g7; try simp at g7; try simp (disch := omega) only [wrp] at g7) | (have _y := g5; clear _y; intro g6; try simp at g6; try simp (disch := omega) only [wrp] at g6) | (have _y := g4; clear _y; intro g5; try simp at g5; try simp (disch := omega) only [wrp] at g5) | (have _y := g3; clear _y; intro g4; try simp at g4; try simp (disch := omega) only [wrp] at g4) | (have _y := g2; clear _y; intro g3; try simp at g3; try simp (disch := omega) only [wrp] at g3) | (have _y := g1; clear _y; intro g2; try simp at g2; try simp (disch := omega) only [wrp] at g2) | (intro g1; try simp at g1; try simp (disch := omega) only [wrp] at g1))))
    · simp [fr0]
    · exact absurd (r4 g2) g3
    · have := List.length_pos_iff.2 g5; rw [wrp (by omega) (by omega)]; omega
    · have := List.length_pos_iff.2 g5; rw [wrp (by omega) (by omega)]; show Nat.succ _ ≤ _; omega
    · have h0 := List.length_pos_iff.2 g5
      have hl := last_slt (by omega) (by simpa using hx1) h0
      rcases r3 with e | e
      · exact absurd e g5
      · rw [hl] at e; cases e; simp
    · simp
    · omega
  · obtain ⟨y1, y2, y3, y4, y5, y6, y7, y8⟩ := addR_yes hok
    have hE : addE o x = 0 := by
      by_cases h : addE o x = 0
      · exact h
      · rw [addR, if_neg h] at hok; cases hok
    rw [y2, y8, hok, hE] at hA
    have hpos := List.length_pos_iff.2 y4
    have yo := y1.1
    have hf := made_right y4 y5 y7
    obtain ⟨K, hK, hL⟩ : ∃ K : Nat, K + (openS o x).length = o.length + 1 ∧ ∀ j : Nat, (o ++ [x])[K + j]? = (openS o x)[j]? := by
      rcases (openS_last y4).2 with ⟨e, _⟩ | ⟨e, _⟩
      · exact ⟨o.length, by rw [e]; simp, fun j => by rw [e, List.getElem?_append_right (by omega)]; simp⟩
      · exact ⟨0, by rw [e]; simp, fun j => by rw [e]; simp⟩
    have hfirst : 0 < K → x.p.first = true := fun h => by
      rcases (openS_last y4).2 with ⟨_, e⟩ | ⟨e, _⟩
      · exact e
      · rw [e] at hK; simp at hK; omega
    have hFr := c_frameCheck (madeS (openS o x)) (by simp [madeS]; omega)
    rw [hf] at hFr
    obtain ⟨z, hz⟩ : ∃ z, (openS o x)[0]? = some z := ⟨(openS o x)[0]'hpos, by simp⟩
    have hm : madeS (openS o x) = ⟨z.p.time, z.p.key, (openS o x).map (·.p.text)⟩ := by simp [madeS, hz]
    have hLz : (o ++ [x])[(K : Int).toNat]? = some z := by have := hL 0; rw [hz] at this; simpa using this
    generalize hp : openS o x = p at *
    rw [hm] at hA hFr
    repeat' (first
    | (with_reducible refine w_cut (x := .region 8 _ _) (X := Unit) [9, 68, 69, 70, 71, 72, 73, 74] (fun _ => [(9, slts (o ++ [x]))]) (fun _ => []) (fun _ => True) ?_ ?_; (try (rintro z hz; simp only at hz)))
    | (with_reducible refine w_cut (x := .region 9 _ _) (X := Unit) [10, 75, 76, 77, 78, 79, 80] (fun _ => [(10, I K)]) (fun _ => []) (fun _ => True) ?_ ?_; (try (rintro z hz; simp only at hz)))
    | ((first | with_reducible refine w_cut (x := .cond (.tmp 109) _ _) (X := Unit) [4, 81, 82, 83, 84, 85, 86, 87, 88, 89, 90, 91, 92, 93, 94, 95, 96, 97, 98, 99, 100, 101, 102, 103, 104, 105, 106, 107, 108, 109] (fun _ => []) (fun _ => []) (fun _ => True) ?_ ?_ | with_reducible refine w_cut (x := .seq (.region _ _ _) (.cond (.tmp 109) _ _)) (X := Unit) [4, 81, 82, 83, 84, 85, 86, 87, 88, 89, 90, 91, 92, 93, 94, 95, 96, 97, 98, 99, 100, 101, 102, 103, 104, 105, 106, 107, 108, 109] (fun _ => []) (fun _ => []) (fun _ => True) ?_ ?_); (try (rintro z hz; simp only at hz)))
    | (with_reducible first | refine go_later ?_ | (refine h0 _ _ ?_; clear h0 hw) | (refine hw _ _ _ ?_; clear h0 hw) | refine go_ret ?_ | refine go_skip ?_ | refine go_block ?_ | refine go_exit ?_ | refine out_seq_ret ?_ | refine out_seq_normal ?_ | refine out_seq_exit ?_ | refine out_block_ret ?_ | refine out_block_normal ?_ | refine out_block_here ?_ | refine out_loop_ret ?_ | refine out_loop_exit ?_ | refine out_loopR_ret ?_ | refine out_loopR_exit ?_ | (refine hL _ ?_; clear hL))
    | (with_reducible first | refine w_reg (by decide +kernel) fun K1 hK => ?_ | refine w_reg_end (by decide +kernel) fun K1 hK => ?_)
    | ((with_reducible first | apply d_reg Try.mix (by decide +kernel) | apply d_reg_end Try.mix (by decide +kernel)); (case hm => simp only [List.length_cons, List.length_nil, Nat.reduceAdd, Nat.reduceMul]; rfl); (case' h => intro K1 hK))
    | with_reducible refine go_seq ?_
    | ((with_reducible first | apply v_op Try.tab | apply v_op0 Try.tab | apply d_op Try.tab | apply d_op0 Try.tab) <;> first | (intro K' h0 hw; conv => whnf) | (simp only [Nat.reduceAdd, Nat.reduceMul]; rfl))
    | ((with_reducible apply v_nil); (case hm => (simp only [Nat.reduceAdd, Nat.reduceMul]; rfl)); (case' h => with_reducible refine hK _ ?_; clear hK))
    | ((with_reducible apply d_nil); (refine hK _ _ _ _ (by first | decide +kernel | (simp only [List.map_cons, List.map_nil, List.nil_append, List.cons_append]; decide +kernel) | rfl) ?_; clear hK))
    | (first | refine d_grd_yes (by rfl) (by rfl) ?_ | refine v_grd_yes (by rfl) (by rfl) ?_)
    | (apply d_grd_no; (case hg => rfl); (case hb => rfl); (case hi => (simp only [Nat.reduceAdd, Nat.reduceMul]; rfl)))
    | (apply d_grd_undef; (case hg => rfl); (case hb => rfl); (case hi => (simp only [Nat.reduceAdd, Nat.reduceMul]; rfl)))
    | (apply d_grd; (case hg => rfl); (case hb => rfl); (case hi => (simp only [Nat.reduceAdd, Nat.reduceMul]; rfl)))
    | (apply v_grd_no; (case hg => rfl); (case hb => rfl); (case hi => (simp only [Nat.reduceAdd, Nat.reduceMul]; rfl)))
    | (apply v_grd_undef; (case hg => rfl); (case hb => rfl); (case hi => (simp only [Nat.reduceAdd, Nat.reduceMul]; rfl)))
    | (apply v_grd; (case hg => rfl); (case hb => rfl); (case hi => (simp only [Nat.reduceAdd, Nat.reduceMul]; rfl)))
    | ((with_reducible refine callV_id (f := 25) ?_); have hcs_ := hA; (with_reducible apply callV_f own25 (hcs_)); (case hx => rfl); (case he => rfl); (case hle => first | ((repeat constructor); done) | (simp; done)); (case hpu => repeat constructor); (case' hK => (try clear hcs_); conv => whnf))
    | ((with_reducible refine callV_id (f := 31) ?_); have hcs_ := c_frameBegun; (with_reducible apply callV_f own31 (hcs_)); (case hx => rfl); (case he => rfl); (case hle => first | ((repeat constructor); done) | (simp; done)); (case hpu => repeat constructor); (case' hK => (try clear hcs_); conv => whnf))
    | ((with_reducible refine callV_id (f := 32) ?_); have hcs_ := hFr; (with_reducible apply callV_f own32 (hcs_)); (case hx => rfl); (case he => rfl); (case hle => first | ((repeat constructor); done) | (simp; done)); (case hpu => repeat constructor); (case' hK => (try clear hcs_); conv => whnf))
    | ((with_reducible apply go_cond); (case hb => rfl))
    | ((with_reducible apply out_block_there); (case hne => rfl))
    | ((with_reducible first | refine w_ret Try.tab fun K' hL => ?_ | refine w_ret_end Try.tab fun K' hL => ?_); (conv => whnf))
    | ((with_reducible apply And.intro); (case' right => try (conv => whnf)); (case' left => try first | rfl | decide | (simp; done)))
    | ((with_reducible apply Side.mk); (try simp (disch := omega) only [wrp]); (try simp); (try omega))
    | ((with_reducible apply all_rk); (case hx => with_reducible assumption); (conv => whnf))
    | ((with_reducible refine all_row ?_); (first | (have _y := hx5; clear _y; intro x6 hx6) | (have _y := hx4; clear _y; intro x5 hx5) | (have _y := hx3; clear _y; intro x4 hx4) | (have _y := hx2; clear _y; intro x3 hx3) | (have _y := hx1; clear _y; intro x2 hx2) | (intro x1 hx1)); conv => whnf)
    | (refine ⟨_, eqAT (by rfl) (by rfl) (by rfl) (by rfl), ?_⟩; conv => whnf)
    | ((first | (have _y := g19; clear _y; intro g20; try simp at g20; try simp (disch := omega) only [wrp] at g20) | (have _y := g18; clear _y; intro g19; try simp at g19; try simp (disch := omega) only [wrp] at g19) | (have _y := g17; clear _y; intro g18; try simp at g18; try simp (disch := omega) only [wrp] at g18) | (have _y := g16; clear _y; intro g17; try simp at g17; try simp (disch := omega) only [wrp] at g17) | (have _y := g15; clear _y; intro g16; try simp at g16; try simp (disch := omega) only [wrp] at g16) | (have _y := g14; clear _y; intro g15; try simp at g15; try simp (disch := omega) only [wrp] at g15) | (have _y := g13; clear _y; intro g14; try simp at g14; try simp (disch := omega) only [wrp] at g14) | (have _y := g12; clear _y; intro g13; try simp at g13; try simp (disch := omega) only [wrp] at g13) | (have _y := g11; clear _y; intro g12; try simp at g12; try simp (disch := omega) only [wrp] at g12) | (have _y := g10; clear _y; intro g11; try simp at g11; try simp (disch := omega) only [wrp] at g11) | (have _y := g9; clear _y; intro g10; try simp at g10; try simp (disch := omega) only [wrp] at g10) | (have _y := g8; clear _y; intro g9; try simp at g9; try simp (disch := omega) only [wrp] at g9) | (have _y := g7; clear _y; intro g8; try simp at g8; try simp (disch := omega) only [wrp] at g8) | (have _y := g6; clear _y; intro g7; try simp at g7; try simp (disch := omega) only [wrp] at g7) | (have _y := g5; clear _y; intro g6; try simp at g6; try simp (disch := omega) only [wrp] at g6) | (have _y := g4; clear _y; intro g5; try simp at g5; try simp (disch := omega) only [wrp] at g5) | (have _y := g3; clear _y; intro g4; try simp at g4; try simp (disch := omega) only [wrp] at g4) | (have _y := g2; clear _y; intro g3; try simp at g3; try simp (disch := omega) only [wrp] at g3) | (have _y := g1; clear _y; intro g2; try simp at g2; try simp (disch := omega) only [wrp] at g2) | (intro g1; try simp at g1; try simp (disch := omega) only [wrp] at g1))))
    · ((with_reducible apply w_next (())); (case kt => first | exact kt_refl | (repeat (first | exact kt_refl | refine kt_wr (by rfl) ?_ | refine kt_jnk (by rfl) ?_ | refine kt_wrs (by rfl) ?_))); (case ko => repeat (first | exact ko_refl | refine ko_wo (by first | exact .inl (by rfl) | exact .inr (by simp) | exact .inr (by omega)) ?_ | refine ko_wor (by rfl) ?_ | refine ko_wos (by simp) ?_)); (case hn => first | exact Nat.le_refl _ | (simp; done) | (simp; omega)); (case hs => simp); (case hb => simp); (case ls => simp (disch := omega) [wrp]); (case lb => simp); (case mu => first | (simp; omega) | (simp; done) | omega | (simp only; omega)); (case' rel' => (try simp only); (try exact trivial)))
    · have e1 : IntKind.i64.wrap (((o.length : Int) + 1) - (p.length : Int)) = (K : Int) := by rw [wrp (by omega) (by omega)]; omega
      ((with_reducible apply w_next (())); (case kt => first | exact kt_refl | (repeat (first | exact kt_refl | refine kt_wr (by rfl) ?_ | refine kt_jnk (by rfl) ?_ | refine kt_wrs (by rfl) ?_))); (case ko => repeat (first | exact ko_refl | refine ko_wo (by first | exact .inl (by rfl) | exact .inr (by simp) | exact .inr (by omega)) ?_ | refine ko_wor (by rfl) ?_ | refine ko_wos (by simp) ?_)); (case hn => first | exact Nat.le_refl _ | (simp; done) | (simp; omega)); (case hs => simp [e1]); (case hb => simp [e1]); (case ls => simp (disch := omega) [e1, wrp]); (case lb => simp [e1]); (case mu => first | (simp; omega) | (simp; done) | omega | (simp only; omega)); (case' rel' => (try simp only); (try exact trivial)))
    · rw [hfirst (by omega)] at g10; cases g10
    · ((with_reducible apply w_next (())); (case kt => first | exact kt_refl | (repeat (first | exact kt_refl | refine kt_wr (by rfl) ?_ | refine kt_jnk (by rfl) ?_ | refine kt_wrs (by rfl) ?_))); (case ko => repeat (first | exact ko_refl | refine ko_wo (by first | exact .inl (by rfl) | exact .inr (by simp) | exact .inr (by omega)) ?_ | refine ko_wor (by rfl) ?_ | refine ko_wos (by simp) ?_)); (case hn => first | exact Nat.le_refl _ | (simp; done) | (simp; omega)); (case hs => simp); (case hb => simp); (case ls => simp (disch := omega) [wrp]); (case lb => simp); (case mu => first | (simp; omega) | (simp; done) | omega | (simp only; omega)); (case' rel' => (try simp only); (try exact trivial)))
    · ((with_reducible apply w_next (())); (case kt => first | exact kt_refl | (repeat (first | exact kt_refl | refine kt_wr (by rfl) ?_ | refine kt_jnk (by rfl) ?_ | refine kt_wrs (by rfl) ?_))); (case ko => repeat (first | exact ko_refl | refine ko_wo (by first | exact .inl (by rfl) | exact .inr (by simp) | exact .inr (by omega)) ?_ | refine ko_wor (by rfl) ?_ | refine ko_wos (by simp) ?_)); (case hn => first | exact Nat.le_refl _ | (simp; done) | (simp; omega)); (case hs => simp); (case hb => simp); (case ls => simp (disch := omega) [wrp]); (case lb => simp); (case mu => first | (simp; omega) | (simp; done) | omega | (simp only; omega)); (case' rel' => (try simp only); (try exact trivial)))
    · rw [y3] at g8; cases g8
    refine w_loop (X := Nat) [4, 11, 111, 112, 113, 114, 115, 116, 117, 118, 119, 120, 121, 122, 123, 124, 125, 126, 127, 128, 129, 130, 131, 132, 133, 134, 135, 136, 137, 138, 139, 140, 141, 142, 143, 144, 145, 146, 147, 148, 149, 150, 151, 152, 153, 154, 155, 156, 157, 158, 159, 160, 161, 162, 163, 164, 165, 166, 167, 168, 169, 170, 171, 172, 173] (fun i => [(11, I i)]) (fun _ => []) (fun i => K ≤ i ∧ i ≤ o.length + 1) (fun i => o.length + 1 - i) K (by omega) ?_ ?_
    · refine ⟨kt_refl, ko_refl, ?_, ?_, ?_, ?_, Nat.le_refl _⟩ <;> simp
    rintro i ⟨h1, h2⟩
    have key : ∀ x1, (o ++ [x])[(i : Int).toNat]? = some x1 → p[i - K]? = some x1 := fun x1 h => by
      rw [← hL, show K + (i - K) = i by omega]; simpa using h
    have prev : ∀ x3, K < i → (o ++ [x])[(IntKind.i64.wrap ((i : Int) - 1)).toNat]? = some x3 → p[i - K - 1]? = some x3 := fun x3 h0 h => by
      rw [wrp (by omega) (by omega), show ((i : Int) - 1).toNat = i - 1 by omega] at h
      rw [← hL, show K + (i - K - 1) = i - 1 by omega]; exact h
    have nxt : ∀ x1 x3, K < i → (o ++ [x])[(i : Int).toNat]? = some x1 → (o ++ [x])[(IntKind.i64.wrap ((i : Int) - 1)).toNat]? = some x3 → x1.n = IntKind.i64.wrap (x3.n + 1) := fun x1 x3 h0 q1 q3 => by
      have q3 := prev x3 h0 q3
      have hb := (sltE_ok (y7 x3 (List.mem_of_getElem? q3))).1
      have hc := (y6 _ _ (key x1 q1)).2 x3 (by omega) q3
      simp [followsB] at hc
      rw [wrp (by omega) (by omega)]; exact hc.1.2
    repeat' (first
    | (with_reducible first | refine go_later ?_ | (refine h0 _ _ ?_; clear h0 hw) | (refine hw _ _ _ ?_; clear h0 hw) | refine go_ret ?_ | refine go_skip ?_ | refine go_block ?_ | refine go_exit ?_ | refine out_seq_ret ?_ | refine out_seq_normal ?_ | refine out_seq_exit ?_ | refine out_block_ret ?_ | refine out_block_normal ?_ | refine out_block_here ?_ | refine out_loop_ret ?_ | refine out_loop_exit ?_ | refine out_loopR_ret ?_ | refine out_loopR_exit ?_ | (refine hL _ ?_; clear hL))
    | (with_reducible first | refine w_reg (by decide +kernel) fun K1 hK => ?_ | refine w_reg_end (by decide +kernel) fun K1 hK => ?_)
    | ((with_reducible first | apply d_reg Try.mix (by decide +kernel) | apply d_reg_end Try.mix (by decide +kernel)); (case hm => simp only [List.length_cons, List.length_nil, Nat.reduceAdd, Nat.reduceMul]; rfl); (case' h => intro K1 hK))
    | with_reducible refine go_seq ?_
    | ((with_reducible first | apply v_op Try.tab | apply v_op0 Try.tab | apply d_op Try.tab | apply d_op0 Try.tab) <;> first | (intro K' h0 hw; conv => whnf) | (simp only [Nat.reduceAdd, Nat.reduceMul]; rfl))
    | ((with_reducible apply v_nil); (case hm => (simp only [Nat.reduceAdd, Nat.reduceMul]; rfl)); (case' h => with_reducible refine hK _ ?_; clear hK))
    | ((with_reducible apply d_nil); (refine hK _ _ _ _ (by first | decide +kernel | (simp only [List.map_cons, List.map_nil, List.nil_append, List.cons_append]; decide +kernel) | rfl) ?_; clear hK))
    | (first | refine d_grd_yes (by rfl) (by rfl) ?_ | refine v_grd_yes (by rfl) (by rfl) ?_)
    | (apply d_grd_no; (case hg => rfl); (case hb => rfl); (case hi => (simp only [Nat.reduceAdd, Nat.reduceMul]; rfl)))
    | (apply d_grd_undef; (case hg => rfl); (case hb => rfl); (case hi => (simp only [Nat.reduceAdd, Nat.reduceMul]; rfl)))
    | (apply d_grd; (case hg => rfl); (case hb => rfl); (case hi => (simp only [Nat.reduceAdd, Nat.reduceMul]; rfl)))
    | (apply v_grd_no; (case hg => rfl); (case hb => rfl); (case hi => (simp only [Nat.reduceAdd, Nat.reduceMul]; rfl)))
    | (apply v_grd_undef; (case hg => rfl); (case hb => rfl); (case hi => (simp only [Nat.reduceAdd, Nat.reduceMul]; rfl)))
    | (apply v_grd; (case hg => rfl); (case hb => rfl); (case hi => (simp only [Nat.reduceAdd, Nat.reduceMul]; rfl)))
    | ((with_reducible apply go_cond); (case hb => rfl))
    | ((with_reducible apply out_block_there); (case hne => rfl))
    | ((with_reducible first | refine w_ret Try.tab fun K' hL => ?_ | refine w_ret_end Try.tab fun K' hL => ?_); (conv => whnf))
    | ((with_reducible apply And.intro); (case' right => try (conv => whnf)); (case' left => try first | rfl | decide | (simp; done)))
    | ((with_reducible apply Side.mk); (try simp (disch := omega) only [wrp]); (try simp); (try omega))
    | ((with_reducible apply all_rk); (case hx => with_reducible assumption); (conv => whnf))
    | ((with_reducible refine all_row ?_); (first | (have _y := hx5; clear _y; intro x6 hx6) | (have _y := hx4; clear _y; intro x5 hx5) | (have _y := hx3; clear _y; intro x4 hx4) | (have _y := hx2; clear _y; intro x3 hx3) | (have _y := hx1; clear _y; intro x2 hx2) | (intro x1 hx1)); conv => whnf)
    | (refine ⟨_, eqAT (by rfl) (by rfl) (by rfl) (by rfl), ?_⟩; conv => whnf)
    | ((first | (have _y := g19; clear _y; intro g20; try simp at g20) | (have _y := g18; clear _y; intro g19; try simp at g19) | (have _y := g17; clear _y; intro g18; try simp at g18) | (have _y := g16; clear _y; intro g17; try simp at g17) | (have _y := g15; clear _y; intro g16; try simp at g16) | (have _y := g14; clear _y; intro g15; try simp at g15) | (have _y := g13; clear _y; intro g14; try simp at g14) | (have _y := g12; clear _y; intro g13; try simp at g13) | (have _y := g11; clear _y; intro g12; try simp at g12) | (have _y := g10; clear _y; intro g11; try simp at g11) | (have _y := g9; clear _y; intro g10; try simp at g10) | (have _y := g8; clear _y; intro g9; try simp at g9) | (have _y := g7; clear _y; intro g8; try simp at g8) | (have _y := g6; clear _y; intro g7; try simp at g7) | (have _y := g5; clear _y; intro g6; try simp at g6) | (have _y := g4; clear _y; intro g5; try simp at g5) | (have _y := g3; clear _y; intro g4; try simp at g4) | (have _y := g2; clear _y; intro g3; try simp at g3) | (have _y := g1; clear _y; intro g2; try simp at g2) | (intro g1; try simp at g1))))
    · exact absurd (nxt x1 x3 (by omega) hx1 hx3) (by assumption)
    · ((with_reducible apply w_next ((i + 1))); (case kt => first | exact kt_refl | (repeat (first | exact kt_refl | refine kt_wr (by rfl) ?_ | refine kt_jnk (by rfl) ?_ | refine kt_wrs (by rfl) ?_))); (case ko => repeat (first | exact ko_refl | refine ko_wo (by first | exact .inl (by rfl) | exact .inr (by simp) | exact .inr (by omega)) ?_ | refine ko_wor (by rfl) ?_ | refine ko_wos (by simp) ?_)); (case hn => first | exact Nat.le_refl _ | (simp; done) | (simp; omega)); (case hs => simp); (case hb => simp); (case ls => simp (disch := omega) [wrp]); (case lb => simp); (case mu => first | (simp; omega) | (simp; done) | omega | (simp only; omega)); (case' rel' => (try simp only); (try exact trivial)))
      omega
    · ((with_reducible apply w_next ((i + 1))); (case kt => first | exact kt_refl | (repeat (first | exact kt_refl | refine kt_wr (by rfl) ?_ | refine kt_jnk (by rfl) ?_ | refine kt_wrs (by rfl) ?_))); (case ko => repeat (first | exact ko_refl | refine ko_wo (by first | exact .inl (by rfl) | exact .inr (by simp) | exact .inr (by omega)) ?_ | refine ko_wor (by rfl) ?_ | refine ko_wos (by simp) ?_)); (case hn => first | exact Nat.le_refl _ | (simp; done) | (simp; omega)); (case hs => simp); (case hb => simp); (case ls => simp (disch := omega) [wrp]); (case lb => simp); (case mu => first | (simp; omega) | (simp; done) | omega | (simp only; omega)); (case' rel' => (try simp only); (try exact trivial)))
      omega
    · exact absurd (chain_time y6 hz _ _ (key x1 hx1)) (by assumption)
    · have q := key x1 hx1
      simp only at hx2
      rw [wrp (by omega) (by omega), show ((i : Int) - (K : Int)).toNat = i - K by omega, List.getElem?_map, q] at hx2
      cases hx2
      exact absurd rfl (by assumption)
    · have q := key x1 hx1
      exfalso
      have hc := y6 _ _ q
      by_cases e : i = K
      · subst e
        have h1 := hc.1 (by omega)
        simp [h1] at g11
      · obtain ⟨a, ha⟩ : ∃ a, p[i - K - 1]? = some a := ⟨p[i - K - 1]'(by have := (List.getElem?_eq_some_iff.1 q).1; omega), by simp⟩
        have := hc.2 a (by omega) ha
        simp [followsB] at this
        have e' : ¬ (i : Int) = K := by omega
        simp [this.1.1, e'] at g11
    · simp
theorem law_frameWhole (args : List AV) (h : ReadsArgs [.agg [.sl 7 48 (.agg [.int .i64, .agg [.int .i64, .int .i64, .bool, .bool, .bool, .str]])], .agg [.int .i64, .agg [.int .i64, .int .i64, .bool, .bool, .bool, .str]]] args) (_ : True) : PSpec Try.prog 7 args (B true) := by
  obtain ⟨_, _, rfl, h2, _, _, rfl, h3, rfl⟩ := h
  obtain ⟨o, rfl, ho, _⟩ := reads_bld h2
  obtain ⟨x, rfl, _⟩ := reads_slt h3
  exact c_frameWhole o x (by omega)
end Go.Proofs.Ytapgdbjlgebjmaa

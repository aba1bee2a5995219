/- BufferRises, walked. No condition. -/
import Derived.Test.YtlehonipilpfdaaBuB
namespace Go.Proofs.Ytlehonipilpfdaa
open Go Go.Sy
set_option maxRecDepth 4000
set_option linter.unusedSimpArgs false
set_option linter.unusedVariables false
attribute [local irreducible] Reg RegD Later Out CallV Tri Side EqV
theorem flushR_spec {b : Bf} (hb : bufE b = 0) : bufE ⟨(flushR b).1, (flushR b).2.1⟩ = 0 ∧ b.next ≤ (flushR b).1 ∧ Rise (flushR b).2.2 ∧ (∀ a ∈ (flushR b).2.2, b.next ≤ a.n ∧ a.n < (flushR b).1) ∧
    (∀ a ∈ (flushR b).2.2 ++ (flushR b).2.1, a ∈ b.held) ∧ (flushR b).2.1 = [] := by
  obtain ⟨p1, p2, p3, p4⟩ := bufE_ok hb
  have e : flushR b = relS 0 b.next b.held [] := if_pos hb
  obtain ⟨out, h1, h2, h3, h4, h5, h6, h7⟩ := relS_spec 0 b.held b.next [] p4 (fun a ha => by have := (p3 a ha).2; omega)
  rw [List.nil_append] at h1
  rw [e, h1]
  have h8 : (relS 0 b.next b.held []).2.1 = [] := List.length_eq_zero_iff.1 (by omega)
  rw [h8, List.append_nil] at h2
  rw [h8]
  refine ⟨?_, h3, by rw [← h2]; exact p4, h4, fun a ha => by rw [h2]; simpa using ha, rfl⟩
  rcases p1 with ⟨c1, c2⟩ | c
  · rw [c1, c2]; rfl
  · refine bufE_mk ⟨by omega, ?_⟩ (by simp) (by simp) List.Pairwise.nil
    rcases h7 with h7 | ⟨a, ha, h7⟩
    · omega
    · have := (sltE_ok (p3 a ha).1).1; omega
/-- A round: what goes out of a step. -/
structure Step (b : Bf) (last : Int) (came : List Slt) (r : Rel) : Prop where
  ok : bufE ⟨r.1, r.2.1⟩ = 0
  up : b.next ≤ r.1
  rise : Rise r.2.2
  rng : ∀ a ∈ r.2.2, last < a.n ∧ a.n < r.1
  mem : ∀ a ∈ r.2.2, a ∈ came
  held : ∀ a ∈ r.2.1, a ∈ came
  len : r.2.2.length ≤ 5
def atL (last : Int) (l : List Slt) (k : Nat) : Int := if k = 0 then last else match l[k - 1]? with | some x => x.n | none => last
theorem atL_succ {last : Int} {l : List Slt} {k : Nat} {x : Slt} (h : l[k]? = some x) : atL last l (k + 1) = x.n := by simp [atL, h]
theorem atL_lt {b : Bf} {last : Int} {came : List Slt} {r : Rel} (h : Step b last came r) {k : Nat} {x : Slt} (hx : r.2.2[k]? = some x) : atL last r.2.2 k < x.n := by
  unfold atL
  split
  · exact (h.rng x (List.mem_of_getElem? hx)).1
  · rename_i hk
    have hlt := (List.getElem?_eq_some_iff.1 hx).1
    have hh := List.pairwise_iff_getElem.1 h.rise (k - 1) k (by omega) hlt (by omega)
    rw [List.getElem?_eq_getElem (by omega)]
    rw [(List.getElem?_eq_some_iff.1 hx).2] at hh
    exact hh
theorem atL_end {b : Bf} {last : Int} {came : List Slt} {r : Rel} (h : Step b last came r) (h0 : last < r.1) (k : Nat) : atL last r.2.2 k < r.1 := by
  unfold atL
  split
  · exact h0
  · split
    · rename_i x hx; exact (h.rng x (List.mem_of_getElem? hx)).2
    · exact h0
theorem step_put {b : Bf} {last : Int} {came : List Slt} {x : Slt} (hb : bufE b = 0) (hx : sltE x = 0) (hl : last < b.next) (hh : ∀ a ∈ b.held, a ∈ came) (hc : x ∈ came) : Step b last came (rawB b x) := by
  obtain ⟨h1, h2, h3, h4, h5, h6, h7, h8⟩ := rawB_spec hb hx
  have hm : ∀ a ∈ (rawB b x).2.2 ++ (rawB b x).2.1, a ∈ came := fun a ha => by
    rcases h5 a ha with rfl | h
    · exact hc
    · exact hh a h
  have hn : b.next ≤ bnxS b x := by
    have := (sltE_ok hx).1
    unfold bnxS; split <;> omega
  exact ⟨h1, h2, h3, fun a ha => by have := h4 a ha; omega, fun a ha => hm a (by simp [ha]), fun a ha => hm a (by simp [ha]), h6⟩
theorem step_flush {b : Bf} {last : Int} {came : List Slt} (hb : bufE b = 0) (hl : last < b.next) (hh : ∀ a ∈ b.held, a ∈ came) : Step b last came (flushR b) := by
  obtain ⟨h1, h2, h3, h4, h5, h6⟩ := flushR_spec hb
  refine ⟨h1, h2, h3, fun a ha => by have := h4 a ha; omega, fun a ha => hh a (h5 a (by simp [ha])), fun a ha => hh a (h5 a (by simp [ha])), ?_⟩
  have := (bufE_ok hb).2.1
  have h9 := relS_len 0 b.held b.next []
  have e : flushR b = relS 0 b.next b.held [] := if_pos hb
  rw [e]; simp at h9; omega
theorem relS_len' {b : Bf} {x : Slt} (hb : bufE b = 0) : (rawB b x).2.2.length ≤ 1000 := by
  have := (bufE_ok hb).2.1
  unfold rawB
  split
  · have h2 := relS_len 4 (insS b.held x) (bnxS b x) []
    rw [insS_len] at h2; simp at h2; omega
  · simp
theorem takeAt {α : Type} {l : List α} {i : Nat} {x : α} (h : l[i]? = some x) : l.take (i + 1) = l.take i ++ [x] := by rw [List.take_add_one, h]; rfl
theorem ko_wor2 {n : Nat} {Bs : List Nat} {ob ob0 : Nat → Option Ob} : ∀ {B : List (Nat × Ob)}, (∀ x ∈ B, Bs.contains x.1 = true ∨ n ≤ x.1) → KeepOb n Bs ob ob0 → KeepOb n Bs (wor ob B) ob0
  | [], _, h => h
  | (d, x) :: l, hd, h => by
    intro i hi hn
    simp only [wor, beq_dec, Bool.cond_decide]
    rw [if_neg (fun e => by
      subst e
      rcases hd _ List.mem_cons_self with hd | hd
      · rw [hd] at hi; cases hi
      · simp only at hd; omega)]
    exact ko_wor2 (fun y hy => hd y (List.mem_cons_of_mem _ hy)) h i hi hn
structure BR where
  i : Nat
  b : Bf
  last : Int
set_option maxHeartbeats 8000000 in
theorem c_bufferRises (b0 : Bf) (l : List Slt) (hl : b0.held.length ≤ 4000000000000) (hll : l.length ≤ 2932031007317) : PSpec Try.prog 8 [.agg (bfC b0), slts l] (B true) := by
  have q0 := c_bufCheck b0 hl
  by_cases hb0 : bufE b0 = 0
  · have hb4 := (bufE_ok hb0).2.1
    have hbn := (bufE_ok hb0).1
    have w0 := wrp (n := b0.next - 1) (by omega) (by omega)
    have hnil : ∀ a ∈ b0.held, a ∈ b0.held ++ l := fun a ha => by simp [ha]
    have hlm : ∀ a ∈ l, a ∈ b0.held ++ l := fun a ha => by simp [ha]
    have ecm : rowL b0.held ++ rowL l = rowL (b0.held ++ l) := by simp
    refine v_pspec Try.func8 rfl Try.ntmps8 Try.results8 (by simp) (by first | exact .s _ | repeat constructor) ?_
    repeat' (first
 | (with_reducible first | apply qz0 | (refine h0 _ _ ?_; clear h0 hw) | (refine hw _ _ _ ?_; clear h0 hw) | apply qz1 | apply qz2 | apply qz3 | apply qz4 | apply qz5 | apply qz6 | apply qz7 | apply qz8 | apply qz9 | apply qza | apply qzb | apply qzc | apply qzd | apply qze | (refine hL _ ?_; clear hL))
 | (with_reducible first | refine w_reg (by decide +kernel) fun K1 hK => ?_ | refine w_reg_end (by decide +kernel) fun K1 hK => ?_)
 | ((with_reducible first | apply d_reg Try.mix (by decide +kernel) | apply d_reg_end Try.mix (by decide +kernel)); (case hm => simp only [List.length_cons, List.length_nil, Nat.reduceAdd, Nat.reduceMul]; rfl); (case' h => intro K1 hK))
 | with_reducible refine go_seq ?_
 | ((with_reducible first | apply v_op Try.tab | apply v_op0 Try.tab | apply d_op Try.tab | apply d_op0 Try.tab) <;> first | (intro K' h0 hw; conv => whnf) | (simp only [Nat.reduceAdd, Nat.reduceMul]; rfl))
 | ((with_reducible apply v_nil); (case hm => (simp only [Nat.reduceAdd, Nat.reduceMul]; rfl)); (case' h => with_reducible refine hK _ ?_; clear hK))
 | ((with_reducible apply d_nil); (refine hK _ _ _ _ (by first | decide +kernel | (simp only [List.map_cons, List.map_nil, List.nil_append, List.cons_append]; decide +kernel) | rfl) ?_; clear hK))
 | (first | refine d_grd_yes (by rfl) (by rfl) ?_ | refine v_grd_yes (by rfl) (by rfl) ?_)
 | ((first | (apply d_grd_no; (case hg => rfl); (case hb => rfl)) | (apply d_grd_undef; (case hg => rfl); (case hb => rfl)) | (apply d_grd; (case hg => rfl); (case hb => rfl)) | (apply v_grd_no; (case hg => rfl); (case hb => rfl)) | (apply v_grd_undef; (case hg => rfl); (case hb => rfl)) | (apply v_grd; (case hg => rfl); (case hb => rfl))); (case hi => (simp only [Nat.reduceAdd, Nat.reduceMul]; rfl)))
 | ((with_reducible refine callV_id (f := 28) ?_); (with_reducible apply callV_f own28 (c_bufferBegun)); (case hx => rfl); (case he => rfl); (case hle => first | ((repeat constructor); done) | (simp; done)); (case hpu => repeat constructor); (case' hK => conv => whnf))
 | ((with_reducible refine callV_id (f := 29) ?_); (with_reducible apply callV_f own29 (q0)); (case hx => rfl); (case he => rfl); (case hle => first | ((repeat constructor); done) | (simp; done)); (case hpu => repeat constructor); (case' hK => conv => whnf))
 | ((with_reducible apply go_cond); (case hb => rfl))
 | ((with_reducible apply out_block_there); (case hne => rfl))
 | ((with_reducible first | refine w_ret Try.tab fun K' hL => ?_ | refine w_ret_end Try.tab fun K' hL => ?_); (conv => whnf))
 | ((with_reducible apply And.intro); (case' right => try (conv => whnf)); (case' left => try first | rfl | decide | (simp; done) | (simp (disch := omega) only [wrp]; omega) | (simp (disch := omega) [wrp]; (try omega); done)))
 | ((with_reducible apply Side.mk); (try simp (disch := omega) only [wrp]); (try simp); (try simp (disch := omega) only [wrp]); (try omega))
 | ((with_reducible apply all_rk); (case hx => with_reducible assumption); (conv => whnf))
 | ((with_reducible refine all_row ?_); (first | (guard_hyp hx3; intro x4 hx4) | (guard_hyp hx2; intro x3 hx3) | (guard_hyp hx1; intro x2 hx2) | intro x1 hx1); conv => whnf)
 | (refine ⟨_, eqAT (by rfl) (by rfl) (by rfl) (by rfl), ?_⟩; conv => whnf)
 | (first  | intro g1; try simp at g1))
    all_goals (try (exact absurd hb0 (by assumption)))
    refine w_loop (X := BR) (5 :: [4, 6, 7, 8, 9, 10, 11, 12, 13, 28, 29, 30, 31, 32, 33, 34, 35, 36, 37, 38, 39, 40, 41, 42, 43, 44, 45, 46, 47, 48, 49, 50, 51, 52, 53, 54, 55, 56, 57, 58, 59, 60, 61, 62, 63, 64, 65, 66, 67, 68, 69, 70, 71, 72, 73, 74, 75, 76, 77, 78, 79, 80, 81, 82, 83, 84, 85, 86, 87, 88, 89, 90, 91, 92, 93, 94, 95, 96, 97, 98, 99, 100, 101, 102, 103, 104, 105, 106, 107, 108, 109, 110, 111, 112, 113, 114, 115, 116, 117, 118, 119, 120, 121, 122, 123, 124, 125, 126, 127, 128, 129]) (fun x => [(7, I x.i), (6, I x.last), (5, .osl 112 7 (rowL (b0.held ++ l)))]) (fun x => [(0, .box (bfC x.b)), (112, .perm 48 7 (b0.held ++ l).length)]) (fun x => x.i ≤ l.length + 1 ∧ bufE x.b = 0 ∧ x.last < x.b.next ∧ (∀ a ∈ x.b.held, a ∈ b0.held ++ l) ∧ (x.i = l.length + 1 → x.b.held = [])) (fun x => l.length + 1 - x.i) ⟨0, b0, b0.next - 1⟩ ?_ ?_ ?_
    · exact ⟨by simp only; omega, hb0, by simp only; omega, hnil, fun h => by simp only at h; omega⟩
    · refine ⟨kt_refl, ko_refl, ?_, ?_, ?_, ?_, Nat.le_refl _⟩ <;> simp [w0, ← ecm]
    rintro ⟨i, b, last⟩ ⟨h1, h2, h3, h4, h5⟩
    simp only at h1 h2 h3 h4 h5
    have hb4' := (bufE_ok h2).2.1
    have hbn' := (bufE_ok h2).1
    rcases Nat.lt_or_ge l.length i with hi | hi
    · have h6 := h5 (by omega)
      have h7 : b.held.length = 0 := by rw [h6]; rfl
      repeat' (first
 | (with_reducible first | apply qz0 | (refine h0 _ _ ?_; clear h0 hw) | (refine hw _ _ _ ?_; clear h0 hw) | apply qz1 | apply qz2 | apply qz3 | apply qz4 | apply qz5 | apply qz6 | apply qz7 | apply qz8 | apply qz9 | apply qza | apply qzb | apply qzc | apply qzd | apply qze | (refine hL _ ?_; clear hL))
 | (with_reducible first | refine w_reg (by decide +kernel) fun K1 hK => ?_ | refine w_reg_end (by decide +kernel) fun K1 hK => ?_)
 | ((with_reducible first | apply d_reg Try.mix (by decide +kernel) | apply d_reg_end Try.mix (by decide +kernel)); (case hm => simp only [List.length_cons, List.length_nil, Nat.reduceAdd, Nat.reduceMul]; rfl); (case' h => intro K1 hK))
 | with_reducible refine go_seq ?_
 | ((with_reducible first | apply v_op Try.tab | apply v_op0 Try.tab | apply d_op Try.tab | apply d_op0 Try.tab) <;> first | (intro K' h0 hw; conv => whnf) | (simp only [Nat.reduceAdd, Nat.reduceMul]; rfl))
 | ((with_reducible apply v_nil); (case hm => (simp only [Nat.reduceAdd, Nat.reduceMul]; rfl)); (case' h => with_reducible refine hK _ ?_; clear hK))
 | ((with_reducible apply d_nil); (refine hK _ _ _ _ (by first | decide +kernel | (simp only [List.map_cons, List.map_nil, List.nil_append, List.cons_append]; decide +kernel) | rfl) ?_; clear hK))
 | (first | refine d_grd_yes (by rfl) (by rfl) ?_ | refine v_grd_yes (by rfl) (by rfl) ?_)
 | ((first | (apply d_grd_no; (case hg => rfl); (case hb => rfl)) | (apply d_grd_undef; (case hg => rfl); (case hb => rfl)) | (apply d_grd; (case hg => rfl); (case hb => rfl)) | (apply v_grd_no; (case hg => rfl); (case hb => rfl)) | (apply v_grd_undef; (case hg => rfl); (case hb => rfl)) | (apply v_grd; (case hg => rfl); (case hb => rfl))); (case hi => (simp only [Nat.reduceAdd, Nat.reduceMul]; rfl)))
 | ((with_reducible apply go_cond); (case hb => rfl))
 | ((with_reducible apply out_block_there); (case hne => rfl))
 | ((with_reducible first | refine w_ret Try.tab fun K' hL => ?_ | refine w_ret_end Try.tab fun K' hL => ?_); (conv => whnf))
 | ((with_reducible apply And.intro); (case' right => try (conv => whnf)); (case' left => try first | rfl | decide | (simp; done) | (simp (disch := omega) only [wrp]; omega) | (simp (disch := omega) [wrp]; (try omega); done)))
 | ((with_reducible apply Side.mk); (try simp (disch := omega) only [wrp]); (try simp); (try simp (disch := omega) only [wrp]); (try omega))
 | ((with_reducible apply all_rk); (case hx => with_reducible assumption); (conv => whnf))
 | ((with_reducible refine all_row ?_); (first | (guard_hyp hx3; intro x4 hx4) | (guard_hyp hx2; intro x3 hx3) | (guard_hyp hx1; intro x2 hx2) | intro x1 hx1); conv => whnf)
 | (refine ⟨_, eqAT (by rfl) (by rfl) (by rfl) (by rfl), ?_⟩; conv => whnf)
 | (first  | intro g1; try simp at g1))
      all_goals first | (exfalso; omega) | (refine le_of_eq ?_; simp [h7]; done) | (refine le_of_eq ?_; simp [h6]; done)
    have qf := c_bufFlush b (by omega)
    rw [h2] at qf
    by_cases hbad : ∃ x, l[i]? = some x ∧ sltE x ≠ 0
    · obtain ⟨x, hx, hne⟩ := hbad
      have hil := (List.getElem?_eq_some_iff.1 hx).1
      have qp := c_bufPut b x (by omega)
      have ep : putE b x = sltE x := if_neg (by simp [h2])
      have er : putR b x = (0, [], []) := if_neg (by rw [ep]; exact hne)
      rw [ep, er] at qp
      have qc := c_checkSlot x
      repeat' (first
 | ((with_reducible refine all_row ?_); intro z hz; obtain rfl : x = z := (by simpa [hx] using hz); conv => whnf)
 | ((with_reducible refine halt_in (code := .seq (.region 15 _ _) _) ?_); exfalso; omega)
 | (with_reducible first | apply qz0 | (refine h0 _ _ ?_; clear h0 hw) | (refine hw _ _ _ ?_; clear h0 hw) | apply qz1 | apply qz2 | apply qz3 | apply qz4 | apply qz5 | apply qz6 | apply qz7 | apply qz8 | apply qz9 | apply qza | apply qzb | apply qzc | apply qzd | apply qze | (refine hL _ ?_; clear hL))
 | (with_reducible first | refine w_reg (by decide +kernel) fun K1 hK => ?_ | refine w_reg_end (by decide +kernel) fun K1 hK => ?_)
 | ((with_reducible first | apply d_reg Try.mix (by decide +kernel) | apply d_reg_end Try.mix (by decide +kernel)); (case hm => simp only [List.length_cons, List.length_nil, Nat.reduceAdd, Nat.reduceMul]; rfl); (case' h => intro K1 hK))
 | with_reducible refine go_seq ?_
 | ((with_reducible first | apply v_op Try.tab | apply v_op0 Try.tab | apply d_op Try.tab | apply d_op0 Try.tab) <;> first | (intro K' h0 hw; conv => whnf) | (simp only [Nat.reduceAdd, Nat.reduceMul]; rfl))
 | ((with_reducible apply v_nil); (case hm => (simp only [Nat.reduceAdd, Nat.reduceMul]; rfl)); (case' h => with_reducible refine hK _ ?_; clear hK))
 | ((with_reducible apply d_nil); (refine hK _ _ _ _ (by first | decide +kernel | (simp only [List.map_cons, List.map_nil, List.nil_append, List.cons_append]; decide +kernel) | rfl) ?_; clear hK))
 | (first | refine d_grd_yes (by rfl) (by rfl) ?_ | refine v_grd_yes (by rfl) (by rfl) ?_)
 | ((first | (apply d_grd_no; (case hg => rfl); (case hb => rfl)) | (apply d_grd_undef; (case hg => rfl); (case hb => rfl)) | (apply d_grd; (case hg => rfl); (case hb => rfl)) | (apply v_grd_no; (case hg => rfl); (case hb => rfl)) | (apply v_grd_undef; (case hg => rfl); (case hb => rfl)) | (apply v_grd; (case hg => rfl); (case hb => rfl))); (case hi => (simp only [Nat.reduceAdd, Nat.reduceMul]; rfl)))
 | ((with_reducible refine callV_id (f := 22) ?_); (with_reducible apply callV_f own22 (qp)); (case hx => rfl); (case he => rfl); (case hle => first | ((repeat constructor); done) | (simp; done)); (case hpu => repeat constructor); (case' hK => conv => whnf))
 | ((with_reducible refine callV_id (f := 23) ?_); (with_reducible apply callV_f own23 (qf)); (case hx => rfl); (case he => rfl); (case hle => first | ((repeat constructor); done) | (simp; done)); (case hpu => repeat constructor); (case' hK => conv => whnf))
 | ((with_reducible refine callV_id (f := 25) ?_); (with_reducible apply callV_f own25 (qc)); (case hx => rfl); (case he => rfl); (case hle => first | ((repeat constructor); done) | (simp; done)); (case hpu => repeat constructor); (case' hK => conv => whnf))
 | ((with_reducible apply go_cond); (case hb => rfl))
 | ((with_reducible apply out_block_there); (case hne => rfl))
 | ((with_reducible first | refine w_ret Try.tab fun K' hL => ?_ | refine w_ret_end Try.tab fun K' hL => ?_); (conv => whnf))
 | ((with_reducible apply And.intro); (case' right => try (conv => whnf)); (case' left => try first | rfl | decide | (simp; done) | (simp (disch := omega) only [wrp]; omega) | (simp (disch := omega) [wrp]; (try omega); done)))
 | ((with_reducible apply Side.mk); (try simp (disch := omega) only [wrp]); (try simp); (try simp (disch := omega) only [wrp]); (try omega))
 | ((with_reducible apply all_rk); (case hx => with_reducible assumption); (conv => whnf))
 | ((with_reducible refine all_row ?_); (first | (guard_hyp hx3; intro x4 hx4) | (guard_hyp hx2; intro x3 hx3) | (guard_hyp hx1; intro x2 hx2) | intro x1 hx1); conv => whnf)
 | (refine ⟨_, eqAT (by rfl) (by rfl) (by rfl) (by rfl), ?_⟩; conv => whnf)
 | (first  | intro g1; try simp at g1))
      all_goals first | (exfalso; omega) | (exact absurd (by assumption) hne) | (refine le_of_eq ?_; simp; done)
    · have hstep : ∃ r : Rel, Step b last (b0.held ++ l) r ∧ (i = l.length → r.2.1 = []) ∧ (∀ x, l[i]? = some x → putR b x = r) ∧ (i = l.length → flushR b = r) := by
        by_cases hil : i < l.length
        · obtain ⟨x, hx⟩ : ∃ x, l[i]? = some x := ⟨l[i], by simp [hil]⟩
          have hx0 : sltE x = 0 := Decidable.byContradiction fun c => hbad ⟨x, hx, c⟩
          have ep : putE b x = 0 := by rw [putE, if_neg (by simp [h2]), hx0]
          refine ⟨rawB b x, step_put h2 hx0 h3 h4 (hlm x (List.mem_of_getElem? hx)), fun h => by omega, fun y hy => ?_, fun h => by omega⟩
          rw [hx] at hy; cases hy; exact if_pos ep
        · exact ⟨flushR b, step_flush h2 h3 h4, fun _ => (flushR_spec h2).2.2.2.2.2, fun x hx => absurd (List.getElem?_eq_some_iff.1 hx).1 hil, fun _ => rfl⟩
      obtain ⟨r, hst, hend, hput, hfl⟩ := hstep
      have hpp : ∀ x, l[i]? = some x → PSpec Try.prog 22 [.agg (bfC b), .agg (sltC x)] (relT3 r 0) := fun x hx => by
        have qp := c_bufPut b x (by omega)
        have hx0 : sltE x = 0 := Decidable.byContradiction fun c => hbad ⟨x, hx, c⟩
        have ep : putE b x = 0 := by rw [putE, if_neg (by simp [h2]), hx0]
        rwa [hput x hx, ep] at qp
      have hff : i = l.length → PSpec Try.prog 23 [.agg (bfC b)] (relT3 r 0) := fun h => by rw [hfl h] at qf; exact qf
      have hro := hst.len
      have q5 := c_bufCheck ⟨r.1, r.2.1⟩ (by have := (bufE_ok hst.ok).2.1; simp only at this ⊢; omega)
      rw [hst.ok] at q5
      repeat' (first
 | ((first | with_reducible refine w_cut (x := .cond (.tmp 37) _ _) (X := Unit) [9, 10, 34, 35, 36, 37, 38, 39, 40, 41, 42, 43, 44, 45, 46, 47, 48, 49, 50, 51, 52, 53] (fun _ => [(9, slts r.2.2), (10, I 0)]) (fun _ => [(368, .box (bfC ⟨r.1, r.2.1⟩))]) (fun _ => True) ?_ ?_ | with_reducible refine w_cut (x := .seq (.region _ _ _) (.cond (.tmp 37) _ _)) (X := Unit) [9, 10, 34, 35, 36, 37, 38, 39, 40, 41, 42, 43, 44, 45, 46, 47, 48, 49, 50, 51, 52, 53] (fun _ => [(9, slts r.2.2), (10, I 0)]) (fun _ => [(368, .box (bfC ⟨r.1, r.2.1⟩))]) (fun _ => True) ?_ ?_); (try (rintro z hz; simp only at hz)))
 | (with_reducible first | apply qz0 | (refine h0 _ _ ?_; clear h0 hw) | (refine hw _ _ _ ?_; clear h0 hw) | apply qz1 | apply qz2 | apply qz3 | apply qz4 | apply qz5 | apply qz6 | apply qz7 | apply qz8 | apply qz9 | apply qza | apply qzb | apply qzc | apply qzd | apply qze | (refine hL _ ?_; clear hL))
 | (with_reducible first | refine w_reg (by decide +kernel) fun K1 hK => ?_ | refine w_reg_end (by decide +kernel) fun K1 hK => ?_)
 | ((with_reducible first | apply d_reg Try.mix (by decide +kernel) | apply d_reg_end Try.mix (by decide +kernel)); (case hm => simp only [List.length_cons, List.length_nil, Nat.reduceAdd, Nat.reduceMul]; rfl); (case' h => intro K1 hK))
 | with_reducible refine go_seq ?_
 | ((with_reducible first | apply v_op Try.tab | apply v_op0 Try.tab | apply d_op Try.tab | apply d_op0 Try.tab) <;> first | (intro K' h0 hw; conv => whnf) | (simp only [Nat.reduceAdd, Nat.reduceMul]; rfl))
 | ((with_reducible apply v_nil); (case hm => (simp only [Nat.reduceAdd, Nat.reduceMul]; rfl)); (case' h => with_reducible refine hK _ ?_; clear hK))
 | ((with_reducible apply d_nil); (refine hK _ _ _ _ (by first | decide +kernel | (simp only [List.map_cons, List.map_nil, List.nil_append, List.cons_append]; decide +kernel) | rfl) ?_; clear hK))
 | (first | refine d_grd_yes (by rfl) (by rfl) ?_ | refine v_grd_yes (by rfl) (by rfl) ?_)
 | ((first | (apply d_grd_no; (case hg => rfl); (case hb => rfl)) | (apply d_grd_undef; (case hg => rfl); (case hb => rfl)) | (apply d_grd; (case hg => rfl); (case hb => rfl)) | (apply v_grd_no; (case hg => rfl); (case hb => rfl)) | (apply v_grd_undef; (case hg => rfl); (case hb => rfl)) | (apply v_grd; (case hg => rfl); (case hb => rfl))); (case hi => (simp only [Nat.reduceAdd, Nat.reduceMul]; rfl)))
 | ((with_reducible refine callV_id (f := 22) ?_); have hcs_ := hpp x1 (by simpa using hx1); (with_reducible apply callV_f own22 (hcs_)); (case hx => rfl); (case he => rfl); (case hle => first | ((repeat constructor); done) | (simp; done)); (case hpu => repeat constructor); (case' hK => (try clear hcs_); conv => whnf))
 | ((with_reducible refine callV_id (f := 23) ?_); have hcs_ := hff (by omega); (with_reducible apply callV_f own23 (hcs_)); (case hx => rfl); (case he => rfl); (case hle => first | ((repeat constructor); done) | (simp; done)); (case hpu => repeat constructor); (case' hK => (try clear hcs_); conv => whnf))
 | ((with_reducible refine callV_id (f := 29) ?_); (with_reducible apply callV_f own29 (q5)); (case hx => rfl); (case he => rfl); (case hle => first | ((repeat constructor); done) | (simp; done)); (case hpu => repeat constructor); (case' hK => conv => whnf))
 | ((with_reducible apply go_cond); (case hb => rfl))
 | ((with_reducible apply out_block_there); (case hne => rfl))
 | ((with_reducible first | refine w_ret Try.tab fun K' hL => ?_ | refine w_ret_end Try.tab fun K' hL => ?_); (conv => whnf))
 | ((with_reducible apply And.intro); (case' right => try (conv => whnf)); (case' left => try first | rfl | decide | (simp; done) | (simp (disch := omega) only [wrp]; omega) | (simp (disch := omega) [wrp]; (try omega); done)))
 | ((with_reducible apply Side.mk); (try simp (disch := omega) only [wrp]); (try simp); (try simp (disch := omega) only [wrp]); (try omega))
 | ((with_reducible apply all_rk); (case hx => with_reducible assumption); (conv => whnf))
 | ((with_reducible refine all_row ?_); (first | (guard_hyp hx3; intro x4 hx4) | (guard_hyp hx2; intro x3 hx3) | (guard_hyp hx1; intro x2 hx2) | intro x1 hx1); conv => whnf)
 | (refine ⟨_, eqAT (by rfl) (by rfl) (by rfl) (by rfl), ?_⟩; conv => whnf)
 | (first  | intro g1; try simp at g1))
      all_goals (try (exfalso; omega))
      · ((refine w_nx (()) ?_ ?_ ?_ ?_ ?_ ?_); (case refine_1 => simp); (case refine_2 => simp); (case refine_3 => simp (disch := omega) [wrp]); (case refine_4 => simp); (case refine_5 => first | (simp; omega) | (simp; done) | omega | (simp only; omega)); (case' refine_6 => (try simp only); (try exact trivial)))
      · ((refine w_nx (()) ?_ ?_ ?_ ?_ ?_ ?_); (case refine_1 => simp); (case refine_2 => simp); (case refine_3 => simp (disch := omega) [wrp]); (case refine_4 => simp); (case refine_5 => first | (simp; omega) | (simp; done) | omega | (simp only; omega)); (case' refine_6 => (try simp only); (try exact trivial)))
      refine w_loop (X := Nat) [4, 6, 11, 12, 13, 69, 70, 71, 72, 73, 74, 75, 76, 77, 78, 79, 80, 81, 82, 83, 84, 85, 86, 87, 88, 89, 90, 91, 92, 93, 94, 95, 96, 97, 98, 99, 100, 101, 102, 103, 104, 105, 106, 107, 108, 109, 110, 111, 112, 113, 114, 115, 116, 117, 118] (fun k => [(11, I k), (6, I (atL last r.2.2 k))]) (fun _ => []) (fun k => k ≤ r.2.2.length) (fun k => r.2.2.length - k) 0 (Nat.zero_le _) ?_ ?_
      · refine ⟨kt_refl, ko_refl, ?_, ?_, ?_, ?_, Nat.le_refl _⟩ <;> simp [atL]
      intro k hk
      have hup := hst.up
      have e1 := atL_end hst (by omega) k
      rcases Nat.lt_or_ge k r.2.2.length with hkl | hkl
      · obtain ⟨x, hx⟩ : ∃ x, r.2.2[k]? = some x := ⟨_, List.getElem?_eq_getElem hkl⟩
        have hal := atL_lt hst hx
        have hxr := hst.rng x (List.mem_of_getElem? hx)
        have hxm := hst.mem x (List.mem_of_getElem? hx)
        have hsuc := atL_succ (last := last) hx
        repeat' (first
 | (with_reducible first | apply qz0 | (refine h0 _ _ ?_; clear h0 hw) | (refine hw _ _ _ ?_; clear h0 hw) | apply qz1 | apply qz2 | apply qz3 | apply qz4 | apply qz5 | apply qz6 | apply qz7 | apply qz8 | apply qz9 | apply qza | apply qzb | apply qzc | apply qzd | apply qze | (refine hL _ ?_; clear hL))
 | (with_reducible first | refine w_reg (by decide +kernel) fun K1 hK => ?_ | refine w_reg_end (by decide +kernel) fun K1 hK => ?_)
 | ((with_reducible first | apply d_reg Try.mix (by decide +kernel) | apply d_reg_end Try.mix (by decide +kernel)); (case hm => simp only [List.length_cons, List.length_nil, Nat.reduceAdd, Nat.reduceMul]; rfl); (case' h => intro K1 hK))
 | with_reducible refine go_seq ?_
 | ((with_reducible first | apply v_op Try.tab | apply v_op0 Try.tab | apply d_op Try.tab | apply d_op0 Try.tab) <;> first | (intro K' h0 hw; conv => whnf) | (simp only [Nat.reduceAdd, Nat.reduceMul]; rfl))
 | ((with_reducible apply v_nil); (case hm => (simp only [Nat.reduceAdd, Nat.reduceMul]; rfl)); (case' h => with_reducible refine hK _ ?_; clear hK))
 | ((with_reducible apply d_nil); (refine hK _ _ _ _ (by first | decide +kernel | (simp only [List.map_cons, List.map_nil, List.nil_append, List.cons_append]; decide +kernel) | rfl) ?_; clear hK))
 | (first | refine d_grd_yes (by rfl) (by rfl) ?_ | refine v_grd_yes (by rfl) (by rfl) ?_)
 | ((first | (apply d_grd_no; (case hg => rfl); (case hb => rfl)) | (apply d_grd_undef; (case hg => rfl); (case hb => rfl)) | (apply d_grd; (case hg => rfl); (case hb => rfl)) | (apply v_grd_no; (case hg => rfl); (case hb => rfl)) | (apply v_grd_undef; (case hg => rfl); (case hb => rfl)) | (apply v_grd; (case hg => rfl); (case hb => rfl))); (case hi => (simp only [Nat.reduceAdd, Nat.reduceMul]; rfl)))
 | ((with_reducible apply go_cond); (case hb => rfl))
 | ((with_reducible apply out_block_there); (case hne => rfl))
 | ((with_reducible first | refine w_ret Try.tab fun K' hL => ?_ | refine w_ret_end Try.tab fun K' hL => ?_); (conv => whnf))
 | ((with_reducible apply And.intro); (case' right => try (conv => whnf)); (case' left => try first | rfl | decide | (simp; done) | (simp (disch := omega) only [wrp]; omega) | (simp (disch := omega) [wrp]; (try omega); done)))
 | ((with_reducible apply Side.mk); (try simp (disch := omega) only [wrp]); (try simp); (try simp (disch := omega) only [wrp]); (try omega))
 | ((with_reducible apply all_rk); (case hx => with_reducible assumption); (conv => whnf))
 | ((with_reducible refine all_row ?_); (first | (guard_hyp hx3; intro x4 hx4) | (guard_hyp hx2; intro x3 hx3) | (guard_hyp hx1; intro x2 hx2) | intro x1 hx1); conv => whnf)
 | (refine ⟨_, eqAT (by rfl) (by rfl) (by rfl) (by rfl), ?_⟩; conv => whnf)
 | (first  | intro g1; try simp at g1))
        all_goals (try (exfalso; omega))
        refine w_loop (X := Nat × Bool) [12, 13, 75, 76, 77, 78, 79, 80, 81, 82, 83, 84, 85, 86, 87, 88, 89, 90, 91, 92] (fun y => [(13, I y.1), (12, B y.2)]) (fun _ => []) (fun y => y.1 ≤ (b0.held ++ l).length ∧ (y.2 = true ∨ ∀ z ∈ (b0.held ++ l).take y.1, z ≠ x)) (fun y => (b0.held ++ l).length - y.1) (0, false) ?_ ?_ ?_
        · exact ⟨Nat.zero_le _, .inr (by simp)⟩
        · refine ⟨kt_refl, ko_refl, ?_, ?_, ?_, ?_, Nat.le_refl _⟩ <;> simp
        rintro ⟨n, there⟩ ⟨hn, ht⟩
        simp only at hn ht
        have hla : (b0.held ++ l).length = b0.held.length + l.length := List.length_append
        rcases Nat.lt_or_ge n (b0.held ++ l).length with hnl | hnl
        · rcases there with _ | _
          · repeat' (first
 | (with_reducible first | apply qz0 | (refine h0 _ _ ?_; clear h0 hw) | (refine hw _ _ _ ?_; clear h0 hw) | apply qz1 | apply qz2 | apply qz3 | apply qz4 | apply qz5 | apply qz6 | apply qz7 | apply qz8 | apply qz9 | apply qza | apply qzb | apply qzc | apply qzd | apply qze | (refine hL _ ?_; clear hL))
 | (with_reducible first | refine w_reg (by decide +kernel) fun K1 hK => ?_ | refine w_reg_end (by decide +kernel) fun K1 hK => ?_)
 | ((with_reducible first | apply d_reg Try.mix (by decide +kernel) | apply d_reg_end Try.mix (by decide +kernel)); (case hm => simp only [List.length_cons, List.length_nil, Nat.reduceAdd, Nat.reduceMul]; rfl); (case' h => intro K1 hK))
 | with_reducible refine go_seq ?_
 | ((with_reducible first | apply v_op Try.tab | apply v_op0 Try.tab | apply d_op Try.tab | apply d_op0 Try.tab) <;> first | (intro K' h0 hw; conv => whnf) | (simp only [Nat.reduceAdd, Nat.reduceMul]; rfl))
 | ((with_reducible apply v_nil); (case hm => (simp only [Nat.reduceAdd, Nat.reduceMul]; rfl)); (case' h => with_reducible refine hK _ ?_; clear hK))
 | ((with_reducible apply d_nil); (refine hK _ _ _ _ (by first | decide +kernel | (simp only [List.map_cons, List.map_nil, List.nil_append, List.cons_append]; decide +kernel) | rfl) ?_; clear hK))
 | (first | refine d_grd_yes (by rfl) (by rfl) ?_ | refine v_grd_yes (by rfl) (by rfl) ?_)
 | ((first | (apply d_grd_no; (case hg => rfl); (case hb => rfl)) | (apply d_grd_undef; (case hg => rfl); (case hb => rfl)) | (apply d_grd; (case hg => rfl); (case hb => rfl)) | (apply v_grd_no; (case hg => rfl); (case hb => rfl)) | (apply v_grd_undef; (case hg => rfl); (case hb => rfl)) | (apply v_grd; (case hg => rfl); (case hb => rfl))); (case hi => (simp only [Nat.reduceAdd, Nat.reduceMul]; rfl)))
 | ((with_reducible apply go_cond); (case hb => rfl))
 | ((with_reducible apply out_block_there); (case hne => rfl))
 | ((with_reducible first | refine w_ret Try.tab fun K' hL => ?_ | refine w_ret_end Try.tab fun K' hL => ?_); (conv => whnf))
 | ((with_reducible apply And.intro); (case' right => try (conv => whnf)); (case' left => try first | rfl | decide | (simp; done) | (simp (disch := omega) only [wrp]; omega) | (simp (disch := omega) [wrp]; (try omega); done)))
 | ((with_reducible apply Side.mk); (try simp (disch := omega) only [wrp]); (try simp); (try simp (disch := omega) only [wrp]); (try omega))
 | ((with_reducible apply all_rk); (case hx => with_reducible assumption); (conv => whnf))
 | ((with_reducible refine all_row ?_); (first | (guard_hyp hx3; intro x4 hx4) | (guard_hyp hx2; intro x3 hx3) | (guard_hyp hx1; intro x2 hx2) | intro x1 hx1); conv => whnf)
 | (refine ⟨_, eqAT (by rfl) (by rfl) (by rfl) (by rfl), ?_⟩; conv => whnf)
 | (first  | intro g1; try simp at g1))
            all_goals (try (exfalso; omega))
            · obtain rfl : x = x2 := by simpa [hx] using hx2
              have hx3 : (b0.held ++ l)[n]? = some x1 := by simpa using hx1
              have ht' : ∀ z ∈ (b0.held ++ l).take n, z ≠ x := by simpa using ht
              by_cases hxy : x1 = x
              · subst hxy
                ((refine w_nx ((n + 1, true)) ?_ ?_ ?_ ?_ ?_ ?_); (case refine_1 => simp); (case refine_2 => simp); (case refine_3 => simp (disch := omega) [wrp]); (case refine_4 => simp); (case refine_5 => first | (simp; omega) | (simp; done) | omega | (simp only; omega)); (case' refine_6 => (try simp only); (try exact trivial)))
                exact ⟨by omega, .inl trivial⟩
              · have hno : ∀ z ∈ (b0.held ++ l).take (n + 1), z ≠ x := by
                  rw [takeAt hx3]
                  intro z hz
                  rcases List.mem_append.1 hz with hz | hz
                  · exact ht' z hz
                  · simp at hz; subst hz; exact hxy
                have hne : x1.n = x.n → x1.p.seq = x.p.seq → x1.p.time = x.p.time → x1.p.first = x.p.first → x1.p.fin = x.p.fin → x1.p.key = x.p.key → ¬x1.p.text = x.p.text := fun a1 a2 a3 a4 a5 a6 a7 => hxy (Slt.ext' a1 (Pkt.ext' a2 a3 a4 a5 a6 a7))
                refine w_nx ((n + 1, false)) ?_ ?_ ?_ ?_ ?_ ?_
                case refine_1 => simp
                case refine_2 => simp
                case refine_3 => simp (disch := omega) [wrp]; exact hne
                case refine_4 => simp
                case refine_5 => simp only; omega
                exact ⟨by simp only; omega, .inr hno⟩
          · repeat' (first
 | (with_reducible first | apply qz0 | (refine h0 _ _ ?_; clear h0 hw) | (refine hw _ _ _ ?_; clear h0 hw) | apply qz1 | apply qz2 | apply qz3 | apply qz4 | apply qz5 | apply qz6 | apply qz7 | apply qz8 | apply qz9 | apply qza | apply qzb | apply qzc | apply qzd | apply qze | (refine hL _ ?_; clear hL))
 | (with_reducible first | refine w_reg (by decide +kernel) fun K1 hK => ?_ | refine w_reg_end (by decide +kernel) fun K1 hK => ?_)
 | ((with_reducible first | apply d_reg Try.mix (by decide +kernel) | apply d_reg_end Try.mix (by decide +kernel)); (case hm => simp only [List.length_cons, List.length_nil, Nat.reduceAdd, Nat.reduceMul]; rfl); (case' h => intro K1 hK))
 | with_reducible refine go_seq ?_
 | ((with_reducible first | apply v_op Try.tab | apply v_op0 Try.tab | apply d_op Try.tab | apply d_op0 Try.tab) <;> first | (intro K' h0 hw; conv => whnf) | (simp only [Nat.reduceAdd, Nat.reduceMul]; rfl))
 | ((with_reducible apply v_nil); (case hm => (simp only [Nat.reduceAdd, Nat.reduceMul]; rfl)); (case' h => with_reducible refine hK _ ?_; clear hK))
 | ((with_reducible apply d_nil); (refine hK _ _ _ _ (by first | decide +kernel | (simp only [List.map_cons, List.map_nil, List.nil_append, List.cons_append]; decide +kernel) | rfl) ?_; clear hK))
 | (first | refine d_grd_yes (by rfl) (by rfl) ?_ | refine v_grd_yes (by rfl) (by rfl) ?_)
 | ((first | (apply d_grd_no; (case hg => rfl); (case hb => rfl)) | (apply d_grd_undef; (case hg => rfl); (case hb => rfl)) | (apply d_grd; (case hg => rfl); (case hb => rfl)) | (apply v_grd_no; (case hg => rfl); (case hb => rfl)) | (apply v_grd_undef; (case hg => rfl); (case hb => rfl)) | (apply v_grd; (case hg => rfl); (case hb => rfl))); (case hi => (simp only [Nat.reduceAdd, Nat.reduceMul]; rfl)))
 | ((with_reducible apply go_cond); (case hb => rfl))
 | ((with_reducible apply out_block_there); (case hne => rfl))
 | ((with_reducible first | refine w_ret Try.tab fun K' hL => ?_ | refine w_ret_end Try.tab fun K' hL => ?_); (conv => whnf))
 | ((with_reducible apply And.intro); (case' right => try (conv => whnf)); (case' left => try first | rfl | decide | (simp; done) | (simp (disch := omega) only [wrp]; omega) | (simp (disch := omega) [wrp]; (try omega); done)))
 | ((with_reducible apply Side.mk); (try simp (disch := omega) only [wrp]); (try simp); (try simp (disch := omega) only [wrp]); (try omega))
 | ((with_reducible apply all_rk); (case hx => with_reducible assumption); (conv => whnf))
 | ((with_reducible refine all_row ?_); (first | (guard_hyp hx3; intro x4 hx4) | (guard_hyp hx2; intro x3 hx3) | (guard_hyp hx1; intro x2 hx2) | intro x1 hx1); conv => whnf)
 | (refine ⟨_, eqAT (by rfl) (by rfl) (by rfl) (by rfl), ?_⟩; conv => whnf)
 | (first  | intro g1; try simp at g1))
            all_goals (try (exfalso; omega))
            ((refine w_nx ((n + 1, true)) ?_ ?_ ?_ ?_ ?_ ?_); (case refine_1 => simp); (case refine_2 => simp); (case refine_3 => simp (disch := omega) [wrp]); (case refine_4 => simp); (case refine_5 => first | (simp; omega) | (simp; done) | omega | (simp only; omega)); (case' refine_6 => (try simp only); (try exact trivial)))
            exact ⟨by omega, .inl trivial⟩
        · obtain rfl : there = true := by
            rcases ht with ht | ht
            · exact ht
            · rw [List.take_of_length_le hnl] at ht
              exact absurd rfl (ht x hxm)
          repeat' (first
 | ((with_reducible refine all_row ?_); intro z hz; obtain rfl : x = z := (by simpa [hx] using hz); conv => whnf)
 | (with_reducible first | apply qz0 | (refine h0 _ _ ?_; clear h0 hw) | (refine hw _ _ _ ?_; clear h0 hw) | apply qz1 | apply qz2 | apply qz3 | apply qz4 | apply qz5 | apply qz6 | apply qz7 | apply qz8 | apply qz9 | apply qza | apply qzb | apply qzc | apply qzd | apply qze | (refine hL _ ?_; clear hL))
 | (with_reducible first | refine w_reg (by decide +kernel) fun K1 hK => ?_ | refine w_reg_end (by decide +kernel) fun K1 hK => ?_)
 | ((with_reducible first | apply d_reg Try.mix (by decide +kernel) | apply d_reg_end Try.mix (by decide +kernel)); (case hm => simp only [List.length_cons, List.length_nil, Nat.reduceAdd, Nat.reduceMul]; rfl); (case' h => intro K1 hK))
 | with_reducible refine go_seq ?_
 | ((with_reducible first | apply v_op Try.tab | apply v_op0 Try.tab | apply d_op Try.tab | apply d_op0 Try.tab) <;> first | (intro K' h0 hw; conv => whnf) | (simp only [Nat.reduceAdd, Nat.reduceMul]; rfl))
 | ((with_reducible apply v_nil); (case hm => (simp only [Nat.reduceAdd, Nat.reduceMul]; rfl)); (case' h => with_reducible refine hK _ ?_; clear hK))
 | ((with_reducible apply d_nil); (refine hK _ _ _ _ (by first | decide +kernel | (simp only [List.map_cons, List.map_nil, List.nil_append, List.cons_append]; decide +kernel) | rfl) ?_; clear hK))
 | (first | refine d_grd_yes (by rfl) (by rfl) ?_ | refine v_grd_yes (by rfl) (by rfl) ?_)
 | ((first | (apply d_grd_no; (case hg => rfl); (case hb => rfl)) | (apply d_grd_undef; (case hg => rfl); (case hb => rfl)) | (apply d_grd; (case hg => rfl); (case hb => rfl)) | (apply v_grd_no; (case hg => rfl); (case hb => rfl)) | (apply v_grd_undef; (case hg => rfl); (case hb => rfl)) | (apply v_grd; (case hg => rfl); (case hb => rfl))); (case hi => (simp only [Nat.reduceAdd, Nat.reduceMul]; rfl)))
 | ((with_reducible apply go_cond); (case hb => rfl))
 | ((with_reducible apply out_block_there); (case hne => rfl))
 | ((with_reducible first | refine w_ret Try.tab fun K' hL => ?_ | refine w_ret_end Try.tab fun K' hL => ?_); (conv => whnf))
 | ((with_reducible apply And.intro); (case' right => try (conv => whnf)); (case' left => try first | rfl | decide | (simp; done) | (simp (disch := omega) only [wrp]; omega) | (simp (disch := omega) [wrp]; (try omega); done)))
 | ((with_reducible apply Side.mk); (try simp (disch := omega) only [wrp]); (try simp); (try simp (disch := omega) only [wrp]); (try omega))
 | ((with_reducible apply all_rk); (case hx => with_reducible assumption); (conv => whnf))
 | ((with_reducible refine all_row ?_); (first | (guard_hyp hx3; intro x4 hx4) | (guard_hyp hx2; intro x3 hx3) | (guard_hyp hx1; intro x2 hx2) | intro x1 hx1); conv => whnf)
 | (refine ⟨_, eqAT (by rfl) (by rfl) (by rfl) (by rfl), ?_⟩; conv => whnf)
 | (first  | intro g1; try simp at g1))
          all_goals (try (exfalso; omega))
          ((refine w_nx ((k + 1)) ?_ ?_ ?_ ?_ ?_ ?_); (case refine_1 => simp [hsuc]); (case refine_2 => simp [hsuc]); (case refine_3 => simp (disch := omega) [hsuc, wrp]); (case refine_4 => simp [hsuc]); (case refine_5 => first | (simp; omega) | (simp; done) | omega | (simp only; omega)); (case' refine_6 => (try simp only); (try exact trivial)))
          omega
      · obtain rfl : k = r.2.2.length := by omega
        have e8 := wrp (n := ((i : Int) + 1)) (by omega) (by omega)
        repeat' (first
 | (with_reducible first | apply qz0 | (refine h0 _ _ ?_; clear h0 hw) | (refine hw _ _ _ ?_; clear h0 hw) | apply qz1 | apply qz2 | apply qz3 | apply qz4 | apply qz5 | apply qz6 | apply qz7 | apply qz8 | apply qz9 | apply qza | apply qzb | apply qzc | apply qzd | apply qze | (refine hL _ ?_; clear hL))
 | (with_reducible first | refine w_reg (by decide +kernel) fun K1 hK => ?_ | refine w_reg_end (by decide +kernel) fun K1 hK => ?_)
 | ((with_reducible first | apply d_reg Try.mix (by decide +kernel) | apply d_reg_end Try.mix (by decide +kernel)); (case hm => simp only [List.length_cons, List.length_nil, Nat.reduceAdd, Nat.reduceMul]; rfl); (case' h => intro K1 hK))
 | with_reducible refine go_seq ?_
 | ((with_reducible first | apply v_op Try.tab | apply v_op0 Try.tab | apply d_op Try.tab | apply d_op0 Try.tab) <;> first | (intro K' h0 hw; conv => whnf) | (simp only [Nat.reduceAdd, Nat.reduceMul]; rfl))
 | ((with_reducible apply v_nil); (case hm => (simp only [Nat.reduceAdd, Nat.reduceMul]; rfl)); (case' h => with_reducible refine hK _ ?_; clear hK))
 | ((with_reducible apply d_nil); (refine hK _ _ _ _ (by first | decide +kernel | (simp only [List.map_cons, List.map_nil, List.nil_append, List.cons_append]; decide +kernel) | rfl) ?_; clear hK))
 | (first | refine d_grd_yes (by rfl) (by rfl) ?_ | refine v_grd_yes (by rfl) (by rfl) ?_)
 | ((first | (apply d_grd_no; (case hg => rfl); (case hb => rfl)) | (apply d_grd_undef; (case hg => rfl); (case hb => rfl)) | (apply d_grd; (case hg => rfl); (case hb => rfl)) | (apply v_grd_no; (case hg => rfl); (case hb => rfl)) | (apply v_grd_undef; (case hg => rfl); (case hb => rfl)) | (apply v_grd; (case hg => rfl); (case hb => rfl))); (case hi => (simp only [Nat.reduceAdd, Nat.reduceMul]; rfl)))
 | ((with_reducible refine callV_id (f := 29) ?_); (with_reducible apply callV_f own29 (q5)); (case hx => rfl); (case he => rfl); (case hle => first | ((repeat constructor); done) | (simp; done)); (case hpu => repeat constructor); (case' hK => conv => whnf))
 | ((with_reducible apply go_cond); (case hb => rfl))
 | ((with_reducible apply out_block_there); (case hne => rfl))
 | ((with_reducible first | refine w_ret Try.tab fun K' hL => ?_ | refine w_ret_end Try.tab fun K' hL => ?_); (conv => whnf))
 | ((with_reducible apply And.intro); (case' right => try (conv => whnf)); (case' left => try first | rfl | decide | (simp; done) | (simp (disch := omega) only [wrp]; omega) | (simp (disch := omega) [wrp]; (try omega); done)))
 | ((with_reducible apply Side.mk); (try simp (disch := omega) only [wrp]); (try simp); (try simp (disch := omega) only [wrp]); (try omega))
 | ((with_reducible apply all_rk); (case hx => with_reducible assumption); (conv => whnf))
 | ((with_reducible refine all_row ?_); (first | (guard_hyp hx3; intro x4 hx4) | (guard_hyp hx2; intro x3 hx3) | (guard_hyp hx1; intro x2 hx2) | intro x1 hx1); conv => whnf)
 | (refine ⟨_, eqAT (by rfl) (by rfl) (by rfl) (by rfl), ?_⟩; conv => whnf)
 | (first  | intro g1; try simp at g1))
        all_goals (try (exfalso; omega))
        refine w_nx (ko := ?ko) ⟨i + 1, ⟨r.1, r.2.1⟩, atL last r.2.2 r.2.2.length⟩ ?_ ?_ ?_ ?_ ?_ ?_
        case refine_1 => simp
        case refine_2 => simp
        case refine_3 => simp (disch := omega) [wrp, e8]
        case refine_4 => simp
        case refine_5 => simp only; omega
        case ko => repeat (first | exact ko_refl | refine ko_wor2 (by simp) ?_ | refine ko_wos (by simp) ?_)
        exact ⟨by simp only; omega, hst.ok, e1, hst.held, fun h => hend (by simp only at h; omega)⟩
  · refine v_pspec Try.func8 rfl Try.ntmps8 Try.results8 (by simp) (by first | exact .s _ | repeat constructor) ?_
    repeat' (first
 | (with_reducible refine halt_in (code := .seq (.region 5 _ _) _) ?_)
 | (with_reducible first | apply qz0 | (refine h0 _ _ ?_; clear h0 hw) | (refine hw _ _ _ ?_; clear h0 hw) | apply qz1 | apply qz2 | apply qz3 | apply qz4 | apply qz5 | apply qz6 | apply qz7 | apply qz8 | apply qz9 | apply qza | apply qzb | apply qzc | apply qzd | apply qze | (refine hL _ ?_; clear hL))
 | (with_reducible first | refine w_reg (by decide +kernel) fun K1 hK => ?_ | refine w_reg_end (by decide +kernel) fun K1 hK => ?_)
 | ((with_reducible first | apply d_reg Try.mix (by decide +kernel) | apply d_reg_end Try.mix (by decide +kernel)); (case hm => simp only [List.length_cons, List.length_nil, Nat.reduceAdd, Nat.reduceMul]; rfl); (case' h => intro K1 hK))
 | with_reducible refine go_seq ?_
 | ((with_reducible first | apply v_op Try.tab | apply v_op0 Try.tab | apply d_op Try.tab | apply d_op0 Try.tab) <;> first | (intro K' h0 hw; conv => whnf) | (simp only [Nat.reduceAdd, Nat.reduceMul]; rfl))
 | ((with_reducible apply v_nil); (case hm => (simp only [Nat.reduceAdd, Nat.reduceMul]; rfl)); (case' h => with_reducible refine hK _ ?_; clear hK))
 | ((with_reducible apply d_nil); (refine hK _ _ _ _ (by first | decide +kernel | (simp only [List.map_cons, List.map_nil, List.nil_append, List.cons_append]; decide +kernel) | rfl) ?_; clear hK))
 | (first | refine d_grd_yes (by rfl) (by rfl) ?_ | refine v_grd_yes (by rfl) (by rfl) ?_)
 | ((first | (apply d_grd_no; (case hg => rfl); (case hb => rfl)) | (apply d_grd_undef; (case hg => rfl); (case hb => rfl)) | (apply d_grd; (case hg => rfl); (case hb => rfl)) | (apply v_grd_no; (case hg => rfl); (case hb => rfl)) | (apply v_grd_undef; (case hg => rfl); (case hb => rfl)) | (apply v_grd; (case hg => rfl); (case hb => rfl))); (case hi => (simp only [Nat.reduceAdd, Nat.reduceMul]; rfl)))
 | ((with_reducible refine callV_id (f := 28) ?_); (with_reducible apply callV_f own28 (c_bufferBegun)); (case hx => rfl); (case he => rfl); (case hle => first | ((repeat constructor); done) | (simp; done)); (case hpu => repeat constructor); (case' hK => conv => whnf))
 | ((with_reducible refine callV_id (f := 29) ?_); (with_reducible apply callV_f own29 (q0)); (case hx => rfl); (case he => rfl); (case hle => first | ((repeat constructor); done) | (simp; done)); (case hpu => repeat constructor); (case' hK => conv => whnf))
 | ((with_reducible apply go_cond); (case hb => rfl))
 | ((with_reducible apply out_block_there); (case hne => rfl))
 | ((with_reducible first | refine w_ret Try.tab fun K' hL => ?_ | refine w_ret_end Try.tab fun K' hL => ?_); (conv => whnf))
 | ((with_reducible apply And.intro); (case' right => try (conv => whnf)); (case' left => try first | rfl | decide | (simp; done) | (simp (disch := omega) only [wrp]; omega) | (simp (disch := omega) [wrp]; (try omega); done)))
 | ((with_reducible apply Side.mk); (try simp (disch := omega) only [wrp]); (try simp); (try simp (disch := omega) only [wrp]); (try omega))
 | ((with_reducible apply all_rk); (case hx => with_reducible assumption); (conv => whnf))
 | ((with_reducible refine all_row ?_); (first | (guard_hyp hx3; intro x4 hx4) | (guard_hyp hx2; intro x3 hx3) | (guard_hyp hx1; intro x2 hx2) | intro x1 hx1); conv => whnf)
 | (refine ⟨_, eqAT (by rfl) (by rfl) (by rfl) (by rfl), ?_⟩; conv => whnf)
 | (first  | intro g1; try simp at g1))
    · exact .refl _
    · exact absurd (by assumption) hb0
theorem law_bufferRises (args : List AV) (h : ReadsArgs [.agg [.int .i64, .sl 7 48 (.agg [.int .i64, .agg [.int .i64, .int .i64, .bool, .bool, .bool, .str]])], .sl 7 48 (.agg [.int .i64, .agg [.int .i64, .int .i64, .bool, .bool, .bool, .str]])] args) (_ : True) : PSpec Try.prog 8 args (B true) := by
  obtain ⟨_, _, rfl, h1, _, _, rfl, h2, rfl⟩ := h
  obtain ⟨b, rfl, hb, _⟩ := reads_bf h1
  have h3 := h2
  obtain ⟨l, rfl, hl, _⟩ := reads_slts h2
  obtain ⟨es, h4, _, h5⟩ := h3
  have h6 : es = rowL l := by cases h4; rfl
  have h7 : es.length = l.length := by rw [h6]; simp
  refine c_bufferRises _ _ hb ?_
  unfold reachBytes at h5; omega
end Go.Proofs.Ytlehonipilpfdaa

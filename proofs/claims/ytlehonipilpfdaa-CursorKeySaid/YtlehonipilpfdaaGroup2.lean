/- Walks of package group, on, and of what its laws call. CONDITIONS: slices fit into memory. -/
import Derived.Test.YtlehonipilpfdaaGroup
namespace Go.Proofs.Ytlehonipilpfdaa
open Go Go.Sy
set_option maxRecDepth 4000
set_option linter.unusedSimpArgs false
set_option linter.unusedVariables false
attribute [local irreducible] Reg RegD Later Out CallV Tri Side EqV
def Fits (l : List Fr) : Prop := l.length ≤ 4000000000000 ∧ ∀ f ∈ l, f.parts.length ≤ 8796093022208
theorem Fits.at {l : List Fr} (h : Fits l) {i : Nat} {x : Fr} (hx : l[i]? = some x) : x.parts.length ≤ 8796093022208 := h.2 _ (List.mem_of_getElem? hx)
theorem cells_gr {cx : List AV} (h : ReadsL [.sl 3 40 (.agg [.int .i64, .bool, .sl 1 16 .str])] cx) : ∃ g : List Fr, cx = grC g ∧ Fits g := by
  obtain ⟨_, _, rfl, h, rfl⟩ := h
  obtain ⟨l, rfl, h1, h2⟩ := cells_frs h
  exact ⟨l, rfl, by omega, fun f hf => (h2 f hf).1⟩
theorem reads_gr {a : AV} (h : ReadsArg (.agg [.sl 3 40 (.agg [.int .i64, .bool, .sl 1 16 .str])]) a) : ∃ g : List Fr, a = .agg (grC g) ∧ Fits g := by
  obtain ⟨_, rfl, h⟩ := h
  obtain ⟨g, rfl, h2⟩ := cells_gr h
  exact ⟨g, rfl, h2⟩
theorem reads_frs {a : AV} (h : ReadsArg (.sl 3 40 (.agg [.int .i64, .bool, .sl 1 16 .str])) a) : ∃ g : List Fr, a = frs g ∧ Fits g := by
  obtain ⟨l, h0, h1, h2⟩ := cells_frs h
  cases h0
  exact ⟨l, rfl, by omega, fun f hf => (h2 f hf).1⟩
def allG (l : List Fr) : List (List Fr) × List Fr × Int := if 100 < l.length then ([], [], 2) else if (eachG [] [] l).2.2 = 0 then ((eachG [] [] l).2.1, (eachG [] [] l).1, 0) else ([], [], (eachG [] [] l).2.2)
def allT (r : List (List Fr) × List Fr × Int) : AV := .tup [grs r.1, .agg (grC r.2.1), I r.2.2]
theorem allT_pu (r : List (List Fr) × List Fr × Int) : Pu (allT r) := by repeat constructor
def badG (p : Option Fr) (f : Fr) : Bool := match p with
  | none => !f.key
  | some q => f.key || decide (f.time < q.time)
def goE : Option Fr → List Fr → Int
  | _, [] => 0
  | p, f :: l => if frameE f ≠ 0 then frameE f else if badG p f = true then 4 else goE (some f) l
def groupE (g : List Fr) : Int := if g = [] then 5 else if 6 < g.length then 2 else goE none g
def prevAt (g : List Fr) (i : Nat) : Option Fr := if i = 0 then none else g[i - 1]?
theorem prevAt_succ {g : List Fr} {i : Nat} {x : Fr} (h : g[i]? = some x) : prevAt g (i + 1) = some x := by simp [prevAt, h]
theorem pre_at {g : List Fr} {i : Nat} {x : Fr} (h0 : 0 < i) (hi : i ≤ 4000000000000) (h : g[(IntKind.i64.wrap ((i : Int) - 1)).toNat]? = some x) : prevAt g i = some x := by
  rw [wrp (by omega) (by omega), show ((i : Int) - 1).toNat = i - 1 by omega] at h
  rw [prevAt, if_neg (by omega), h]
theorem groupE_big {g : List Fr} (h : g ≠ []) (h6 : 6 < g.length) : groupE g = 2 := by rw [groupE, if_neg h, if_pos h6]
theorem groupE_go {g : List Fr} (h : g ≠ []) (h6 : g.length ≤ 6) : groupE g = goE none g := by rw [groupE, if_neg h, if_neg (by omega)]
section
variable {g : List Fr} {i : Nat} {x : Fr}
theorem goE_end (h : goE (prevAt g i) (g.drop i) = goE none g) (hi : g.length ≤ i) : goE none g = 0 := by rw [← h, List.drop_eq_nil_of_le hi]; rfl
theorem goE_bad (h : goE (prevAt g i) (g.drop i) = goE none g) (hx : g[i]? = some x) (hf : ¬ frameE x = 0) : goE none g = frameE x := by rw [← h, drop_at hx, goE, if_pos hf]
theorem goE_four (h : goE (prevAt g i) (g.drop i) = goE none g) (hx : g[i]? = some x) (hf : frameE x = 0) (hb : badG (prevAt g i) x = true) : goE none g = 4 := by rw [← h, drop_at hx, goE, if_neg (by simp [hf]), if_pos hb]
theorem goE_next (h : goE (prevAt g i) (g.drop i) = goE none g) (hx : g[i]? = some x) (hf : frameE x = 0) (hb : badG (prevAt g i) x = false) : goE (prevAt g (i + 1)) (g.drop (i + 1)) = goE none g := by
  rw [← h, drop_at hx, goE, if_neg (by simp [hf]), if_neg (by simp [hb]), prevAt_succ hx]
theorem bad_zero (h : i = 0) : badG (prevAt g i) x = !x.key := by rw [prevAt, if_pos h]; rfl
theorem bad_key (h : ¬ i = 0) (hi : i < g.length) (hk : x.key = true) : badG (prevAt g i) x = true := by
  obtain ⟨y, hy⟩ : ∃ y, g[i - 1]? = some y := ⟨g[i - 1]'(by omega), by simp⟩
  rw [prevAt, if_neg h, hy]; simp [badG, hk]
theorem bad_time {y : Fr} (h0 : ¬ i = 0) (hl : g.length ≤ 4000000000000) (hi : i < g.length) (hk : x.key = false) (h : g[(IntKind.i64.wrap ((i : Int) - 1)).toNat]? = some y) : badG (prevAt g i) x = decide (x.time < y.time) := by
  rw [pre_at (by omega) (by omega) h]; simp [badG, hk]
end
set_option maxHeartbeats 1000000 in
theorem c_groupCheck (g : List Fr) (hl : Fits g) : PSpec Try.prog 92 [.agg (grC g)] (I (groupE g)) := by
  refine v_pspec Try.func92 rfl Try.ntmps92 Try.results92 (by simp) (by first | exact .s _ | repeat constructor) ?_
  have hl1 := hl.1
  repeat' (first
    | (with_reducible first | refine go_later ?_ | (refine h0 _ _ ?_; clear h0 hw) | (refine hw _ _ _ ?_; clear h0 hw) | refine go_ret ?_ | refine go_skip ?_ | refine go_block ?_ | refine go_exit ?_ | refine out_seq_ret ?_ | refine out_seq_normal ?_ | refine out_seq_exit ?_ | refine out_block_ret ?_ | refine out_block_normal ?_ | refine out_block_here ?_ | refine out_loop_ret ?_ | refine out_loop_exit ?_ | refine out_loopR_ret ?_ | refine out_loopR_exit ?_ | (refine hL _ ?_; clear hL))
    | (with_reducible first | refine w_reg (by decide +kernel) fun K1 hK => ?_ | refine w_reg_end (by decide +kernel) fun K1 hK => ?_)
    | ((with_reducible first | apply d_reg Try.mix (by decide +kernel) | apply d_reg_end Try.mix (by decide +kernel)); (case hm => simp only [List.length_cons, List.length_nil, Nat.reduceAdd, Nat.reduceMul]; rfl); (case' h => intro K1 hK))
    | with_reducible refine go_seq ?_
    | ((with_reducible first | apply v_op Try.tab | apply v_op0 Try.tab | apply d_op Try.tab | apply d_op0 Try.tab) <;> first | (intro K' h0 hw; conv => whnf) | (simp only [Nat.reduceAdd, Nat.reduceMul]; rfl))
    | ((with_reducible apply v_nil); (case hm => (simp only [Nat.reduceAdd, Nat.reduceMul]; rfl)); (case' h => with_reducible refine hK _ ?_; clear hK))
    | ((with_reducible apply d_nil); (refine hK _ _ _ _ (by first | decide +kernel | (simp only [List.map_cons, List.map_nil, List.nil_append, List.cons_append]; decide +kernel) | rfl) ?_; clear hK))
    | (first | refine d_grd_yes (by rfl) (by rfl) ?_ | refine v_grd_yes (by rfl) (by rfl) ?_)
    | (apply d_grd_no; (case hg => rfl); (case hb => rfl); (case hi => (simp only [Nat.reduceAdd, Nat.reduceMul]; rfl)))
    | (apply d_grd_undef; (case hg => rfl); (case hb => rfl); (case hi => (simp only [Nat.reduceAdd, Nat.reduceMul]; rfl)))
    | (apply d_grd; (case hg => rfl); (case hb => rfl); (case hi => (simp only [Nat.reduceAdd, Nat.reduceMul]; rfl)))
    | (apply v_grd_no; (case hg => rfl); (case hb => rfl); (case hi => (simp only [Nat.reduceAdd, Nat.reduceMul]; rfl)))
    | (apply v_grd_undef; (case hg => rfl); (case hb => rfl); (case hi => (simp only [Nat.reduceAdd, Nat.reduceMul]; rfl)))
    | (apply v_grd; (case hg => rfl); (case hb => rfl); (case hi => (simp only [Nat.reduceAdd, Nat.reduceMul]; rfl)))
    | ((with_reducible apply go_cond); (case hb => rfl))
    | ((with_reducible apply out_block_there); (case hne => rfl))
    | ((with_reducible first | refine w_ret Try.tab fun K' hL => ?_ | refine w_ret_end Try.tab fun K' hL => ?_); (conv => whnf))
    | ((with_reducible apply And.intro); (case' right => try (conv => whnf)); (case' left => try first | rfl | decide | (simp; done)))
    | ((with_reducible apply Side.mk); (try simp (disch := omega) only [wrp]); (try simp); (try omega))
    | ((with_reducible apply all_rk); (case hx => with_reducible assumption); (conv => whnf))
    | ((with_reducible refine all_row ?_); (first | (have _y := hx5; clear _y; intro x6 hx6) | (have _y := hx4; clear _y; intro x5 hx5) | (have _y := hx3; clear _y; intro x4 hx4) | (have _y := hx2; clear _y; intro x3 hx3) | (have _y := hx1; clear _y; intro x2 hx2) | (intro x1 hx1)); conv => whnf)
    | (refine ⟨_, eqAT (by rfl) (by rfl) (by rfl) (by rfl), ?_⟩; conv => whnf)
    | ((first | (have _y := g9; clear _y; intro g10; try simp at g10) | (have _y := g8; clear _y; intro g9; try simp at g9) | (have _y := g7; clear _y; intro g8; try simp at g8) | (have _y := g6; clear _y; intro g7; try simp at g7) | (have _y := g5; clear _y; intro g6; try simp at g6) | (have _y := g4; clear _y; intro g5; try simp at g5) | (have _y := g3; clear _y; intro g4; try simp at g4) | (have _y := g2; clear _y; intro g3; try simp at g3) | (have _y := g1; clear _y; intro g2; try simp at g2) | (intro g1; try simp at g1))))
  · simp [groupE, g1]
  · simp [groupE_big g1 (by omega)]
  refine w_loop (X := Nat) [2, 4, 5, 6, 19, 20, 21, 22, 23, 24, 25, 26, 27, 28, 29, 30, 31, 32, 33, 34, 35, 36, 37, 38, 39, 40, 41, 42, 43, 44, 45, 46, 47, 48, 49, 50] (fun i => [(19, I i)]) (fun _ => []) (fun i => i ≤ g.length ∧ goE (prevAt g i) (g.drop i) = goE none g) (fun i => g.length - i) 0 (by simp [prevAt]) ?_ ?_
  · refine ⟨kt_refl, ko_refl, ?_, ?_, ?_, ?_, Nat.le_refl _⟩ <;> simp
  rintro i ⟨h1, h2⟩
  have hgo := groupE_go g1 (by omega)
  repeat' (first
    | (with_reducible first | refine go_later ?_ | (refine h0 _ _ ?_; clear h0 hw) | (refine hw _ _ _ ?_; clear h0 hw) | refine go_ret ?_ | refine go_skip ?_ | refine go_block ?_ | refine go_exit ?_ | refine out_seq_ret ?_ | refine out_seq_normal ?_ | refine out_seq_exit ?_ | refine out_block_ret ?_ | refine out_block_normal ?_ | refine out_block_here ?_ | refine out_loop_ret ?_ | refine out_loop_exit ?_ | refine out_loopR_ret ?_ | refine out_loopR_exit ?_ | (refine hL _ ?_; clear hL))
    | (with_reducible first | refine w_reg (by decide +kernel) fun K1 hK => ?_ | refine w_reg_end (by decide +kernel) fun K1 hK => ?_)
    | ((with_reducible first | apply d_reg Try.mix (by decide +kernel) | apply d_reg_end Try.mix (by decide +kernel)); (case hm => simp only [List.length_cons, List.length_nil, Nat.reduceAdd, Nat.reduceMul]; rfl); (case' h => intro K1 hK))
    | with_reducible refine go_seq ?_
    | ((with_reducible first | apply v_op Try.tab | apply v_op0 Try.tab | apply d_op Try.tab | apply d_op0 Try.tab) <;> first | (intro K' h0 hw; conv => whnf) | (simp only [Nat.reduceAdd, Nat.reduceMul]; rfl))
    | ((with_reducible apply v_nil); (case hm => (simp only [Nat.reduceAdd, Nat.reduceMul]; rfl)); (case' h => with_reducible refine hK _ ?_; clear hK))
    | ((with_reducible apply d_nil); (refine hK _ _ _ _ (by first | decide +kernel | (simp only [List.map_cons, List.map_nil, List.nil_append, List.cons_append]; decide +kernel) | rfl) ?_; clear hK))
    | (first | refine d_grd_yes (by rfl) (by rfl) ?_ | refine v_grd_yes (by rfl) (by rfl) ?_)
    | (apply d_grd_no; (case hg => rfl); (case hb => rfl); (case hi => (simp only [Nat.reduceAdd, Nat.reduceMul]; rfl)))
    | (apply d_grd_undef; (case hg => rfl); (case hb => rfl); (case hi => (simp only [Nat.reduceAdd, Nat.reduceMul]; rfl)))
    | (apply d_grd; (case hg => rfl); (case hb => rfl); (case hi => (simp only [Nat.reduceAdd, Nat.reduceMul]; rfl)))
    | (apply v_grd_no; (case hg => rfl); (case hb => rfl); (case hi => (simp only [Nat.reduceAdd, Nat.reduceMul]; rfl)))
    | (apply v_grd_undef; (case hg => rfl); (case hb => rfl); (case hi => (simp only [Nat.reduceAdd, Nat.reduceMul]; rfl)))
    | (apply v_grd; (case hg => rfl); (case hb => rfl); (case hi => (simp only [Nat.reduceAdd, Nat.reduceMul]; rfl)))
    | ((with_reducible refine callV_id (f := 46) ?_); have hcs_ := c_frameCheck x1 (Nat.le_trans (hl.at (by simpa using hx1)) (by decide)); (with_reducible apply callV_f own46 (hcs_)); (case hx => rfl); (case he => rfl); (case hle => first | ((repeat constructor); done) | (simp; done)); (case hpu => repeat constructor); (case' hK => (try clear hcs_); conv => whnf))
    | ((with_reducible apply go_cond); (case hb => rfl))
    | ((with_reducible apply out_block_there); (case hne => rfl))
    | ((with_reducible first | refine w_ret Try.tab fun K' hL => ?_ | refine w_ret_end Try.tab fun K' hL => ?_); (conv => whnf))
    | ((with_reducible apply And.intro); (case' right => try (conv => whnf)); (case' left => try first | rfl | decide | (simp; done)))
    | ((with_reducible apply Side.mk); (try simp (disch := omega) only [wrp]); (try simp); (try omega))
    | ((with_reducible apply all_rk); (case hx => with_reducible assumption); (conv => whnf))
    | ((with_reducible refine all_row ?_); (first | (have _y := hx5; clear _y; intro x6 hx6) | (have _y := hx4; clear _y; intro x5 hx5) | (have _y := hx3; clear _y; intro x4 hx4) | (have _y := hx2; clear _y; intro x3 hx3) | (have _y := hx1; clear _y; intro x2 hx2) | (intro x1 hx1)); conv => whnf)
    | (refine ⟨_, eqAT (by rfl) (by rfl) (by rfl) (by rfl), ?_⟩; conv => whnf)
    | ((first | (have _y := g9; clear _y; intro g10; try simp at g10) | (have _y := g8; clear _y; intro g9; try simp at g9) | (have _y := g7; clear _y; intro g8; try simp at g8) | (have _y := g6; clear _y; intro g7; try simp at g7) | (have _y := g5; clear _y; intro g6; try simp at g6) | (have _y := g4; clear _y; intro g5; try simp at g5) | (have _y := g3; clear _y; intro g4; try simp at g4) | (have _y := g2; clear _y; intro g3; try simp at g3) | (have _y := g1; clear _y; intro g2; try simp at g2) | (intro g1; try simp at g1))))
  · simp at hx1; simp [hgo, goE_bad h2 hx1 g4]
  · simp at hx1; simp [hgo, goE_four h2 hx1 g4 (by rw [pre_at g6 (by omega) hx2]; simp [badG, g7])]
  · simp at hx1
    ((with_reducible apply w_next ((i + 1))); (case kt => first | exact kt_refl | (repeat (first | exact kt_refl | refine kt_wr (by rfl) ?_ | refine kt_jnk (by rfl) ?_ | refine kt_wrs (by rfl) ?_))); (case ko => repeat (first | exact ko_refl | refine ko_wo (by first | exact .inl (by rfl) | exact .inr (by simp) | exact .inr (by omega)) ?_ | refine ko_wor (by rfl) ?_ | refine ko_wos (by simp) ?_)); (case hn => first | exact Nat.le_refl _ | (simp; done) | (simp; omega)); (case hs => simp); (case hb => simp); (case ls => simp (disch := omega) [wrp]); (case lb => simp); (case mu => first | (simp; omega) | (simp; done) | omega | (simp only; omega)); (case' rel' => (try simp only); (try exact trivial)))
    exact ⟨by omega, goE_next h2 hx1 g4 (by rw [pre_at g6 (by omega) hx2]; simp [badG, g5]; omega)⟩
  · simp at hx1
    ((with_reducible apply w_next ((i + 1))); (case kt => first | exact kt_refl | (repeat (first | exact kt_refl | refine kt_wr (by rfl) ?_ | refine kt_jnk (by rfl) ?_ | refine kt_wrs (by rfl) ?_))); (case ko => repeat (first | exact ko_refl | refine ko_wo (by first | exact .inl (by rfl) | exact .inr (by simp) | exact .inr (by omega)) ?_ | refine ko_wor (by rfl) ?_ | refine ko_wos (by simp) ?_)); (case hn => first | exact Nat.le_refl _ | (simp; done) | (simp; omega)); (case hs => simp); (case hb => simp); (case ls => simp (disch := omega) [wrp]); (case lb => simp); (case mu => first | (simp; omega) | (simp; done) | omega | (simp only; omega)); (case' rel' => (try simp only); (try exact trivial)))
    exact ⟨by omega, goE_next h2 hx1 g4 (by rw [prevAt, if_pos g6]; simp [badG, g5, g6])⟩
  · simp at hx1
    have hb : badG (prevAt g i) x1 = true := by
      unfold prevAt; split
      · rename_i q; simp [q] at g5; simp [badG, g5]
      · rename_i q
        obtain ⟨y, hy⟩ : ∃ y, g[i - 1]? = some y := ⟨g[i - 1]'(by omega), by simp⟩
        simp [q] at g5; simp [hy, badG, g5]
    simp [hgo, goE_four h2 hx1 g4 hb]
  · simp [hgo, goE_end h2 g3]
end Go.Proofs.Ytlehonipilpfdaa

/- slices.Insert of one slot: at the end; within. CONDITIONS: the row fits into memory. -/
import Derived.Test.YtlehonipilpfdaaIns
namespace Go.Proofs.Ytlehonipilpfdaa
open Go Go.Sy
set_option maxRecDepth 4000
set_option linter.unusedSimpArgs false
set_option linter.unusedVariables false
attribute [local irreducible] Reg RegD Later Out CallV Tri Side EqV AppZ
theorem rowL_7 {l : List Slt} : ∀ r ∈ rowL l, r.length = 7 := fun r hr => by
  obtain ⟨s, _, rfl⟩ := List.mem_map.1 hr; rfl
theorem rowL_s {l : List Slt} : scalR (rowL l) := fun r hr a ha => by
  obtain ⟨s, _, rfl⟩ := List.mem_map.1 hr
  simp at ha
  rcases ha with rfl | rfl | rfl | rfl | rfl | rfl | rfl <;> exact ⟨_, rfl⟩
theorem rowL_flat (l : List Slt) : (rowL l).flatten.length = l.length * 7 := by
  rw [flatten_length (sz := 7) rowL_7, List.length_map]
theorem rowL_take (l : List Slt) (i : Nat) (hi : i ≤ l.length) (J : List AV) : ((rowL l).flatten ++ J).take (i * 7) = (rowL (l.take i)).flatten := by
  have e : (rowL l).flatten = (rowL (l.take i)).flatten ++ (rowL (l.drop i)).flatten := by
    rw [← List.flatten_append, ← List.map_append, List.take_append_drop]
  have h1 : (rowL (l.take i)).flatten.length = i * 7 := by rw [rowL_flat, List.length_take, Nat.min_eq_left hi]
  rw [e, List.append_assoc, ← h1, List.take_left]
theorem rowL_drop (l : List Slt) (i : Nat) (hi : i ≤ l.length) (J : List AV) : (((rowL l).flatten ++ J).drop (i * 7)).take ((l.length - i) * 7) = (rowL (l.drop i)).flatten := by
  have e : (rowL l).flatten = (rowL (l.take i)).flatten ++ (rowL (l.drop i)).flatten := by
    rw [← List.flatten_append, ← List.map_append, List.take_append_drop]
  have h1 : (rowL (l.take i)).flatten.length = i * 7 := by rw [rowL_flat, List.length_take, Nat.min_eq_left hi]
  have h2 : (rowL (l.drop i)).flatten.length = (l.length - i) * 7 := by rw [rowL_flat, List.length_drop]
  rw [e, List.append_assoc, ← h1, List.drop_left, ← h2, List.take_left]
theorem oneL_scal {l : List AV} (h : ∀ a ∈ l, ∃ v, a = .s v) : ∀ a ∈ l, a.one = true := fun a ha => by
  obtain ⟨v, rfl⟩ := h a ha; rfl
theorem box_ren (φ : Nat → Nat) (l : List Slt) (k : Nat) : renL φ ((rowL l).flatten ++ List.replicate k .junk) = (rowL l).flatten ++ List.replicate k .junk := by
  rw [renL_append, renL_scal (scalR_flat rowL_s), renL_junk]
theorem box_lt (n : Nat) (l : List Slt) (k : Nat) : ltL n ((rowL l).flatten ++ List.replicate k .junk) := ltL_append (ltL_scal (scalR_flat rowL_s)) (ltL_junk k)
/-- One slot is put in. -/
def insL (l : List Slt) (i : Nat) (x : Slt) : List Slt := l.take i ++ [x] ++ l.drop i
theorem c_ins (l : List Slt) (i : Nat) (x : Slt) (cap : Nat) (hi : i < l.length) (hl : l.length ≤ 1000000) (hc : (rowL l).length ≤ cap) (hm : cap ≤ 9223372036854775807) :
    CSpec Try.prog 88 [.bsl 0 0 7 (rowL l).length cap, I i, .osl 1 7 (rowL [x])] [.box ((rowL l).flatten ++ List.replicate ((cap - (rowL l).length) * 7) .junk), .perm 48 7 1] (slts (insL l i x)) [.gone, .gone] := by
  have hrl : (rowL l).length = l.length := List.length_map _
  rw [hrl] at hc ⊢
  have hen : (rowL (insL l i x)).length = l.length + 1 := by
    rw [List.length_map]; simp [insL]; omega
  have hfl := rowL_flat l
  have hes : ∀ J, (rowL (insL l i x)).flatten = ((rowL l).flatten ++ J).take (i * 7) ++ sltC x ++ (((rowL l).flatten ++ J).drop (i * 7)).take ((l.length - i) * 7) := fun J => by
    rw [rowL_take l i (by omega), rowL_drop l i (by omega)]
    simp [insL, rowL]
  have ht := fun J => rowL_take l l.length (Nat.le_refl _) J
  have hsc := scalR_flat (rowL_s (l := l))
  by_cases h : l.length + 1 ≤ cap
  · refine c_insIn _ l.length i x cap (rowL (insL l i x)) hi h hm (by rw [List.length_append, hfl, List.length_replicate]; omega) ?_ hen (hes _) rowL_7 (PuL_scal (scalR_flat rowL_s)) (oneL_scal (scalR_flat rowL_s))
    rw [ht, List.take_of_length_le (Nat.le_refl _)]
    exact oneL_scal hsc
  · have : cap = l.length := by omega
    subst this
    rw [Nat.sub_self, Nat.zero_mul, List.replicate_zero]
    refine c_insGr _ l.length i x (rowL (l.take i)) (rowL (insL l i x)) hi hl (by rw [List.append_nil, hfl]) (by rw [List.append_nil]; exact hsc) (rowL_take l i (by omega) []) rowL_7 (by rw [List.length_map, List.length_take]; omega) rowL_s hen (hes []) rowL_7 (PuL_scal (scalR_flat rowL_s)) (oneL_scal (scalR_flat rowL_s))
attribute [local irreducible] OneL
set_option maxHeartbeats 1000000 in
theorem c_insEnd (l : List Slt) (x : Slt) (hl : l.length ≤ 1000000) :
    CSpec Try.prog 88 [.osl 0 7 (rowL l), I l.length, .osl 1 7 (rowL [x])] [.perm 48 7 l.length, .perm 48 7 1] (.osl 0 7 (rowL (l ++ [x]))) [.perm 48 7 (l ++ [x]).length, .gone] := by
  refine v_cspec Try.func88 rfl Try.ntmps88 Try.results88 (by simp) (k := 2) rfl ?_
  repeat' (first
    | (with_reducible first | refine go_later ?_ | (refine h0 _ _ ?_; clear h0 hw) | (refine hw _ _ _ ?_; clear h0 hw) | refine go_ret ?_ | refine go_skip ?_ | refine go_block ?_ | refine go_exit ?_ | refine out_seq_ret ?_ | refine out_seq_normal ?_ | refine out_seq_exit ?_ | refine out_block_ret ?_ | refine out_block_normal ?_ | refine out_block_here ?_ | refine out_loop_ret ?_ | refine out_loop_exit ?_ | refine out_loopR_ret ?_ | refine out_loopR_exit ?_ | refine out_seq_panic ?_ | refine out_block_panic ?_ | refine out_loop_panic ?_ | (refine hL _ ?_; clear hL))
    | (with_reducible first | refine w_reg (by decide +kernel) fun K1 hK => ?_ | refine w_reg_end (by decide +kernel) fun K1 hK => ?_)
    | ((with_reducible first | apply d_reg Try.mix (by decide +kernel) | apply d_reg_end Try.mix (by decide +kernel)); (case hm => simp only [List.length_cons, List.length_nil, Nat.reduceAdd, Nat.reduceMul]; rfl); (case' h => intro K1 hK))
    | with_reducible refine go_seq ?_
    | ((with_reducible first | apply v_op Try.tab | apply v_op0 Try.tab | apply d_op Try.tab | apply d_op0 Try.tab) <;> first | (intro K' h0 hw; conv => whnf) | (simp only [Nat.reduceAdd, Nat.reduceMul]; rfl))
    | ((with_reducible apply v_nil); (case hm => (simp only [Nat.reduceAdd, Nat.reduceMul]; rfl)); (case' h => with_reducible refine hK _ ?_; clear hK))
    | ((with_reducible apply d_nil); (refine hK _ _ _ _ (by first | decide +kernel | (simp only [List.map_cons, List.map_nil, List.nil_append, List.cons_append]; decide +kernel) | rfl) ?_; clear hK))
    | (first | refine d_grd_yes (by rfl) (by rfl) ?_ | refine v_grd_yes (by rfl) (by rfl) ?_)
    | (apply d_grd_no; (case hg => rfl); (case hb => rfl); (case hi => (simp only [Nat.reduceAdd, Nat.reduceMul]; rfl)))
    | (apply d_grd_undef; (case hg => rfl); (case hb => rfl); (case hi => (simp only [Nat.reduceAdd, Nat.reduceMul]; rfl)))
    | (apply d_grd; (case hg => rfl); (case hb => rfl); (case hi => (simp only [Nat.reduceAdd, Nat.reduceMul]; rfl)))
    | (apply v_grd_no; (case hg => rfl); (case hb => rfl); (case hi => (simp only [Nat.reduceAdd, Nat.reduceMul]; rfl)))
    | (apply v_grd_undef; (case hg => rfl); (case hb => rfl); (case hi => (simp only [Nat.reduceAdd, Nat.reduceMul]; rfl)))
    | (apply v_grd; (case hg => rfl); (case hb => rfl); (case hi => (simp only [Nat.reduceAdd, Nat.reduceMul]; rfl)))
    | ((with_reducible apply go_cond); (case hb => rfl))
    | ((with_reducible apply out_block_there); (case hne => rfl))
    | ((with_reducible first | refine w_ret Try.tab fun K' hL => ?_ | refine w_ret_end Try.tab fun K' hL => ?_); (conv => whnf))
    | ((with_reducible apply And.intro); (case' right => try (conv => whnf)); (case' left => try first | rfl | decide | (simp; done) | (simp (disch := omega) only [wrp]; omega)))
    | ((with_reducible apply Side.mk); (try simp (disch := omega) only [wrp]); (try simp); (try omega))
    | ((with_reducible apply all_rk); (case hx => with_reducible assumption); (conv => whnf))
    | ((with_reducible refine all_row ?_); (first | (have _y := hx5; clear _y; intro x6 hx6) | (have _y := hx4; clear _y; intro x5 hx5) | (have _y := hx3; clear _y; intro x4 hx4) | (have _y := hx2; clear _y; intro x3 hx3) | (have _y := hx1; clear _y; intro x2 hx2) | (intro x1 hx1)); conv => whnf)
    | (refine ⟨_, eqAT (by rfl) (by rfl) (by rfl) (by rfl), ?_⟩; conv => whnf)
    | ((first | (have _y := g9; clear _y; intro g10; try simp at g10; try simp (disch := omega) only [wrp] at g10) | (have _y := g8; clear _y; intro g9; try simp at g9; try simp (disch := omega) only [wrp] at g9) | (have _y := g7; clear _y; intro g8; try simp at g8; try simp (disch := omega) only [wrp] at g8) | (have _y := g6; clear _y; intro g7; try simp at g7; try simp (disch := omega) only [wrp] at g7) | (have _y := g5; clear _y; intro g6; try simp at g6; try simp (disch := omega) only [wrp] at g6) | (have _y := g4; clear _y; intro g5; try simp at g5; try simp (disch := omega) only [wrp] at g5) | (have _y := g3; clear _y; intro g4; try simp at g4; try simp (disch := omega) only [wrp] at g4) | (have _y := g2; clear _y; intro g3; try simp at g3; try simp (disch := omega) only [wrp] at g3) | (have _y := g1; clear _y; intro g2; try simp at g2; try simp (disch := omega) only [wrp] at g2) | (intro g1; try simp at g1; try simp (disch := omega) only [wrp] at g1))))
  ((first | refine w_retO Try.tab [] (by rfl) (by simp) (by simp) (fun K' hL => ?_) ?_ ?_ ?_ | refine w_retO_end Try.tab [] (by rfl) (by simp) (by simp) (fun K' hL => ?_) ?_ ?_ ?_); (conv => whnf); (refine hL _ ?_; clear hL); all_goals simp)
end Go.Proofs.Ytlehonipilpfdaa

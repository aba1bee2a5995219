/- slices.Insert of one slot into a row of its caller's own. CONDITIONS: the row fits into memory. -/
import Derived.Test.YtlehonipilpfdaaData
import Derived.Test.YtlehonipilpfdaaSyTh
import Derived.KernelRfl
namespace Go.Proofs.Ytlehonipilpfdaa
open Go Go.Sy
set_option maxRecDepth 4000
set_option linter.unusedSimpArgs false
set_option linter.unusedVariables false
attribute [local irreducible] Reg RegD Later Out CallV Tri Side EqV OneL AppZ
theorem v_ovl {nb : Nat} {t : TypeId} {σ : St} {K : Kont} {x y z : Operand} {ts : Array TypeId} {avs : List AV} {id off sz' n cap : Nat} {es : List (List AV)} {cs : List AV} (hx : σ.ev x = .fn (.func 104) [] []) (hy : rowsOK 7 (σ.ev y) = some es) (h1 : 0 < es.length)
    (hz : σ.ev z = .bsl id off sz' n cap) (hob : σ.ob id = some (.box cs)) (hK : K (.s (.bool false)) [id] []) : CallV Try.prog nb (.call { callee := .value x, args := #[y, z], argTypes := ts }) t 104 avs σ K :=
  callV_overlaps (ps := #[44, 44]) (rs := #[4]) Try.func104 (by kernel_rfl) (by kernel_rfl) (by kernel_rfl) (by kernel_rfl) rfl (elemT_ok' Try.tab (t := 44) rfl) hx hy (by decide) h1 hz hob hK
theorem oneL_seg {cs : List AV} {n a b : Nat} (h : OneL (cs.take n)) (hab : a + b ≤ n) : OneL ((cs.drop a).take b) := by
  unfold OneL at *
  intro x hx
  refine h x ?_
  obtain ⟨j, hj, rfl⟩ := List.mem_iff_getElem.1 hx
  rw [List.getElem_take, List.getElem_drop]
  rw [List.length_take, List.length_drop] at hj
  exact List.mem_iff_getElem.2 ⟨a + j, by rw [List.length_take]; omega, by rw [List.getElem_take]⟩
theorem seg_ins (cs X : List AV) (n i c : Nat) (hX : X.length = 7) (hi : i < n) (hc : n + 1 ≤ c) (hl : cs.length = c * 7) :
    (List.take ((n + 1) * 7) (List.take (i * 7) (List.take ((i + 1) * 7) cs ++ (List.take ((n - i) * 7) (List.take ((n + 1 - i) * 7) (List.drop (i * 7) cs)) ++ List.drop ((i + 1) * 7 + (n - i) * 7) cs)) ++
      (X ++ List.drop (i * 7 + 7) (List.take ((i + 1) * 7) cs ++ (List.take ((n - i) * 7) (List.take ((n + 1 - i) * 7) (List.drop (i * 7) cs)) ++ List.drop ((i + 1) * 7 + (n - i) * 7) cs))))) = List.take (i * 7) cs ++ (X ++ List.take ((n - i) * 7) (List.drop (i * 7) cs)) := by
  apply List.ext_getElem?
  intro j
  simp only [List.getElem?_append, List.getElem?_take, List.getElem?_drop, List.length_append, List.length_take, List.length_drop, hX, hl]
  repeat' split
  all_goals first
    | rfl
    | omega
    | (congr 1; omega)
    | (rw [List.getElem?_eq_none (by omega)])
    | (symm; rw [List.getElem?_eq_none (by omega)])
set_option maxHeartbeats 1000000 in
theorem c_insIn (cs : List AV) (n i : Nat) (x : Slt) (cap : Nat) (es : List (List AV)) (hi : i < n) (hc : n + 1 ≤ cap) (hm : cap ≤ 9223372036854775807) (hl : cs.length = cap * 7) (ho : OneL (cs.take (n * 7)))
    (hen : es.length = n + 1) (hes : es.flatten = cs.take (i * 7) ++ sltC x ++ (cs.drop (i * 7)).take ((n - i) * 7)) (he7 : ∀ r ∈ es, r.length = 7) (hpu : PuL es.flatten) (ho2 : ∀ a ∈ es.flatten, a.one = true) :
    CSpec Try.prog 88 [.bsl 0 0 7 n cap, I i, .osl 1 7 (rowL [x])] [.box cs, .perm 48 7 1] (.sl 7 es) [.gone, .gone] := by
  refine v_cspec Try.func88 rfl Try.ntmps88 Try.results88 (by simp) (k := 2) rfl ?_
  repeat' (first
    | ((with_reducible refine halt_in (code := .seq (.region 7 _ _) _) ?_); exfalso; omega)
    | ((with_reducible refine halt_in (code := .seq (.region 9 _ _) _) ?_); exfalso; omega)
    | (first | ((with_reducible apply w_num (code := .seq (.region 3 _ _) _) 7); (case hv => (conv => lhs; whnf); try exact rfl); (case he => (simp (disch := omega) [wrp]); try exact rfl)))
    | (first | ((with_reducible apply w_num (code := .seq (.region 14 _ _) _) 0); (case hv => (conv => lhs; whnf); try exact rfl); (case he => (simp (disch := omega) [wrp]); try exact rfl)))
    | (with_reducible refine halt_in (code := .seq (.region 17 _ _) _) ?_)
    | (with_reducible first | refine go_later ?_ | (refine h0 _ _ ?_; clear h0 hw) | (refine hw _ _ _ ?_; clear h0 hw) | refine go_ret ?_ | refine go_skip ?_ | refine go_block ?_ | refine go_exit ?_ | refine out_seq_ret ?_ | refine out_seq_normal ?_ | refine out_seq_exit ?_ | refine out_block_ret ?_ | refine out_block_normal ?_ | refine out_block_here ?_ | refine out_loop_ret ?_ | refine out_loop_exit ?_ | refine out_loopR_ret ?_ | refine out_loopR_exit ?_ | refine out_seq_panic ?_ | refine out_block_panic ?_ | refine out_loop_panic ?_ | (refine hL _ ?_; clear hL))
    | (with_reducible first | refine w_reg (by decide +kernel) fun K1 hK => ?_ | refine w_reg_end (by decide +kernel) fun K1 hK => ?_)
    | ((with_reducible first | apply d_reg Try.mix (by decide +kernel) | apply d_reg_end Try.mix (by decide +kernel)); (case hm => simp only [List.length_cons, List.length_nil, Nat.reduceAdd, Nat.reduceMul]; rfl); (case' h => intro K1 hK))
    | with_reducible refine go_seq ?_
    | ((with_reducible first | apply v_op Try.tab | apply v_op0 Try.tab | apply d_op Try.tab | apply d_op0 Try.tab) <;> first | (intro K' h0 hw; conv => whnf) | (simp only [Nat.reduceAdd, Nat.reduceMul]; rfl))
    | ((with_reducible apply v_nil); (case hm => (simp only [Nat.reduceAdd, Nat.reduceMul]; rfl)); (case' h => with_reducible refine hK _ ?_; clear hK))
    | ((with_reducible apply d_nil); (refine hK _ _ _ _ (by first | decide +kernel | (simp only [List.map_cons, List.map_nil, List.nil_append, List.cons_append]; decide +kernel) | rfl) ?_; clear hK))
    | (first | refine d_grd_yes (by rfl) (by rfl) ?_ | refine v_grd_yes (by rfl) (by rfl) ?_)
    | (apply d_grd_no; (case hg => rfl); (case hb => rfl); (case hi => (simp only [Nat.reduceAdd, Nat.reduceMul]; rfl)))
    | (apply d_grd_undef; (case hg => rfl); (case hb => rfl); (case hi => (simp only [Nat.reduceAdd, Nat.reduceMul]; rfl)))
    | (apply d_grd; (case hg => rfl); (case hb => rfl); (case hi => (simp only [Nat.reduceAdd, Nat.reduceMul]; rfl)))
    | (apply v_grd_no; (case hg => rfl); (case hb => rfl); (case hi => (simp only [Nat.reduceAdd, Nat.reduceMul]; rfl)))
    | (apply v_grd_undef; (case hg => rfl); (case hb => rfl); (case hi => (simp only [Nat.reduceAdd, Nat.reduceMul]; rfl)))
    | (apply v_grd; (case hg => rfl); (case hb => rfl); (case hi => (simp only [Nat.reduceAdd, Nat.reduceMul]; rfl)))
    | ((with_reducible apply go_cond); (case hb => rfl))
    | ((with_reducible apply out_block_there); (case hne => rfl))
    | ((with_reducible first | refine w_ret Try.tab fun K' hL => ?_ | refine w_ret_end Try.tab fun K' hL => ?_); (conv => whnf))
    | ((with_reducible apply And.intro); (case' right => try (conv => whnf)); (case' left => try first | rfl | decide | (simp; done) | (simp (disch := omega) only [wrp]; omega)))
    | ((with_reducible apply Side.mk); (try simp (disch := omega) only [wrp]); (try simp); (try omega))
    | ((with_reducible apply all_rk); (case hx => with_reducible assumption); (conv => whnf))
    | ((with_reducible refine all_row ?_); (first | (have _y := hx5; clear _y; intro x6 hx6) | (have _y := hx4; clear _y; intro x5 hx5) | (have _y := hx3; clear _y; intro x4 hx4) | (have _y := hx2; clear _y; intro x3 hx3) | (have _y := hx1; clear _y; intro x2 hx2) | (intro x1 hx1)); conv => whnf)
    | (refine ⟨_, eqAT (by rfl) (by rfl) (by rfl) (by rfl), ?_⟩; conv => whnf)
    | ((with_reducible apply v_ovl); (case hx => rfl); (case hy => rfl); (case h1 => simp); (case hz => rfl); (case hob => rfl); (case' hK => conv => whnf))
    | ((with_reducible refine nfL_stop ?_); conv => whnf)
    | ((first | (have _y := g9; clear _y; intro g10; try simp at g10; try simp (disch := omega) only [wrp] at g10) | (have _y := g8; clear _y; intro g9; try simp at g9; try simp (disch := omega) only [wrp] at g9) | (have _y := g7; clear _y; intro g8; try simp at g8; try simp (disch := omega) only [wrp] at g8) | (have _y := g6; clear _y; intro g7; try simp at g7; try simp (disch := omega) only [wrp] at g7) | (have _y := g5; clear _y; intro g6; try simp at g6; try simp (disch := omega) only [wrp] at g6) | (have _y := g4; clear _y; intro g5; try simp at g5; try simp (disch := omega) only [wrp] at g5) | (have _y := g3; clear _y; intro g4; try simp at g4; try simp (disch := omega) only [wrp] at g4) | (have _y := g2; clear _y; intro g3; try simp at g3; try simp (disch := omega) only [wrp] at g3) | (have _y := g1; clear _y; intro g2; try simp at g2; try simp (disch := omega) only [wrp] at g2) | (intro g1; try simp at g1; try simp (disch := omega) only [wrp] at g1))))
  · rw [List.take_take]
    refine oneL_seg ho ?_
    rw [wrp (by omega) (by omega)]
    omega
  · unfold OneL
    intro a ha
    have := List.mem_of_mem_take ha
    simp at this
    rcases this with rfl | rfl | rfl | rfl | rfl | rfl | rfl <;> rfl
  · refine halt_out ?_
    have hsx : (sltC x).length = 7 := rfl
    with_reducible apply w_freeze (code := .seq (.region 17 _ _) _) 0 es
    case hs => rfl
    case hq => rfl
    case hn => exact hen.symm
    case hl => exact he7
    case hpu => exact hpu
    case hone => exact ho2
    case hes =>
      rw [hes, hen]
      simp (disch := omega) [wrp]
      exact seg_ins cs (sltC x) n i cap rfl hi hc hl
    repeat' (first
    | (with_reducible first | refine go_later ?_ | (refine h0 _ _ ?_; clear h0 hw) | (refine hw _ _ _ ?_; clear h0 hw) | refine go_ret ?_ | refine go_skip ?_ | refine go_block ?_ | refine go_exit ?_ | refine out_seq_ret ?_ | refine out_seq_normal ?_ | refine out_seq_exit ?_ | refine out_block_ret ?_ | refine out_block_normal ?_ | refine out_block_here ?_ | refine out_loop_ret ?_ | refine out_loop_exit ?_ | refine out_loopR_ret ?_ | refine out_loopR_exit ?_ | refine out_seq_panic ?_ | refine out_block_panic ?_ | refine out_loop_panic ?_ | (refine hL _ ?_; clear hL))
    | (with_reducible first | refine w_reg (by decide +kernel) fun K1 hK => ?_ | refine w_reg_end (by decide +kernel) fun K1 hK => ?_)
    | ((with_reducible first | apply d_reg Try.mix (by decide +kernel) | apply d_reg_end Try.mix (by decide +kernel)); (case hm => simp only [List.length_cons, List.length_nil, Nat.reduceAdd, Nat.reduceMul]; rfl); (case' h => intro K1 hK))
    | with_reducible refine go_seq ?_
    | ((with_reducible first | apply v_op Try.tab | apply v_op0 Try.tab | apply d_op Try.tab | apply d_op0 Try.tab) <;> first | (intro K' h0 hw; conv => whnf) | (simp only [Nat.reduceAdd, Nat.reduceMul]; rfl))
    | ((with_reducible apply v_nil); (case hm => (simp only [Nat.reduceAdd, Nat.reduceMul]; rfl)); (case' h => with_reducible refine hK _ ?_; clear hK))
    | ((with_reducible apply d_nil); (refine hK _ _ _ _ (by first | decide +kernel | (simp only [List.map_cons, List.map_nil, List.nil_append, List.cons_append]; decide +kernel) | rfl) ?_; clear hK))
    | (first | refine d_grd_yes (by rfl) (by rfl) ?_ | refine v_grd_yes (by rfl) (by rfl) ?_)
    | (apply d_grd_no; (case hg => rfl); (case hb => rfl); (case hi => (simp only [Nat.reduceAdd, Nat.reduceMul]; rfl)))
    | (apply d_grd_undef; (case hg => rfl); (case hb => rfl); (case hi => (simp only [Nat.reduceAdd, Nat.reduceMul]; rfl)))
    | (apply d_grd; (case hg => rfl); (case hb => rfl); (case hi => (simp only [Nat.reduceAdd, Nat.reduceMul]; rfl)))
    | (apply v_grd_no; (case hg => rfl); (case hb => rfl); (case hi => (simp only [Nat.reduceAdd, Nat.reduceMul]; rfl)))
    | (apply v_grd_undef; (case hg => rfl); (case hb => rfl); (case hi => (simp only [Nat.reduceAdd, Nat.reduceMul]; rfl)))
    | (apply v_grd; (case hg => rfl); (case hb => rfl); (case hi => (simp only [Nat.reduceAdd, Nat.reduceMul]; rfl)))
    | ((with_reducible apply go_cond); (case hb => rfl))
    | ((with_reducible apply out_block_there); (case hne => rfl))
    | ((with_reducible first | refine w_ret Try.tab fun K' hL => ?_ | refine w_ret_end Try.tab fun K' hL => ?_); (conv => whnf))
    | ((with_reducible apply And.intro); (case' right => try (conv => whnf)); (case' left => try first | rfl | decide | (simp; done) | (simp (disch := omega) only [wrp]; omega)))
    | ((with_reducible apply Side.mk); (try simp (disch := omega) only [wrp]); (try simp); (try omega))
    | ((with_reducible apply all_rk); (case hx => with_reducible assumption); (conv => whnf))
    | ((with_reducible refine all_row ?_); (first | (have _y := hx5; clear _y; intro x6 hx6) | (have _y := hx4; clear _y; intro x5 hx5) | (have _y := hx3; clear _y; intro x4 hx4) | (have _y := hx2; clear _y; intro x3 hx3) | (have _y := hx1; clear _y; intro x2 hx2) | (intro x1 hx1)); conv => whnf)
    | (refine ⟨_, eqAT (by rfl) (by rfl) (by rfl) (by rfl), ?_⟩; conv => whnf)
    | ((first | (have _y := g9; clear _y; intro g10; try simp at g10) | (have _y := g8; clear _y; intro g9; try simp at g9) | (have _y := g7; clear _y; intro g8; try simp at g8) | (have _y := g6; clear _y; intro g7; try simp at g7) | (have _y := g5; clear _y; intro g6; try simp at g6) | (have _y := g4; clear _y; intro g5; try simp at g5) | (have _y := g3; clear _y; intro g4; try simp at g4) | (have _y := g2; clear _y; intro g3; try simp at g3) | (have _y := g1; clear _y; intro g2; try simp at g2) | (intro g1; try simp at g1))))
    ((first | refine w_retO Try.tab [] (by rfl) (by simp) (by simp) (fun K' hL => ?_) ?_ ?_ ?_ | refine w_retO_end Try.tab [] (by rfl) (by simp) (by simp) (fun K' hL => ?_) ?_ ?_ ?_); (conv => whnf); (refine hL _ ?_; clear hL); all_goals simp)
theorem seg_gr (cs cs2 X : List AV) (n i c : Nat) (hX : X.length = 7) (hi : i < n) (hc : n + 1 ≤ c) (hl : cs.length = n * 7) (hl2 : cs2.length = c * 7) (hq : ∀ j, j < i * 7 → cs2[j]? = cs[j]?) :
    List.take ((n + 1) * 7) (List.take ((i + 1) * 7) (List.take (i * 7) cs2 ++ (X ++ List.drop (i * 7 + 7) cs2)) ++ (List.take ((n - i) * 7) (List.take ((n - i) * 7) (List.drop (i * 7) cs)) ++
      List.drop ((i + 1) * 7 + (n - i) * 7) (List.take (i * 7) cs2 ++ (X ++ List.drop (i * 7 + 7) cs2)))) = List.take (i * 7) cs ++ (X ++ List.take ((n - i) * 7) (List.drop (i * 7) cs)) := by
  apply List.ext_getElem?
  intro j
  simp only [List.getElem?_append, List.getElem?_take, List.getElem?_drop, List.length_append, List.length_take, List.length_drop, hX, hl, hl2]
  repeat' split
  all_goals first
    | rfl
    | omega
    | exact hq _ (by omega)
    | (congr 1; omega)
    | (rw [List.getElem?_eq_none (by omega)])
    | (symm; rw [List.getElem?_eq_none (by omega)])
set_option maxHeartbeats 1000000 in
theorem c_insGr (cs : List AV) (n i : Nat) (x : Slt) (es0 es : List (List AV)) (hi : i < n) (hm : n ≤ 1000000) (hl : cs.length = n * 7) (hcs : ∀ a ∈ cs, ∃ v, a = .s v)
    (q0 : cs.take (i * 7) = es0.flatten) (q07 : ∀ r ∈ es0, r.length = 7) (q0l : es0.length = i) (q0s : scalR es0)
    (hen : es.length = n + 1) (hes : es.flatten = cs.take (i * 7) ++ sltC x ++ (cs.drop (i * 7)).take ((n - i) * 7)) (he7 : ∀ r ∈ es, r.length = 7) (hpu : PuL es.flatten) (ho2 : ∀ a ∈ es.flatten, a.one = true) :
    CSpec Try.prog 88 [.bsl 0 0 7 n n, I i, .osl 1 7 (rowL [x])] [.box cs, .perm 48 7 1] (.sl 7 es) [.gone, .gone] := by
  have hk : (IntKind.i64.wrap (IntKind.i64.wrap (↑n + 1) - ↑i)).toNat = n + 1 - i := by
    rw [wrp (n := (n : Int) + 1) (by omega) (by omega), wrp (by omega) (by omega)]; omega
  refine v_cspec Try.func88 rfl Try.ntmps88 Try.results88 (by simp) (k := 2) rfl ?_
  repeat' (first
    | ((with_reducible refine halt_in (code := .seq (.region 7 _ _) _) ?_); exfalso; omega)
    | ((with_reducible refine halt_in (code := .seq (.region 13 _ _) _) ?_); exfalso; omega)
    | (first | ((with_reducible apply w_num (code := .seq (.region 3 _ _) _) 7); (case hv => (conv => lhs; whnf); try exact rfl); (case he => (simp (disch := omega) [wrp]); try exact rfl)))
    | (with_reducible refine halt_in (code := .seq (.region 10 _ _) _) ?_)
    | (with_reducible first | refine go_later ?_ | (refine h0 _ _ ?_; clear h0 hw) | (refine hw _ _ _ ?_; clear h0 hw) | refine go_ret ?_ | refine go_skip ?_ | refine go_block ?_ | refine go_exit ?_ | refine out_seq_ret ?_ | refine out_seq_normal ?_ | refine out_seq_exit ?_ | refine out_block_ret ?_ | refine out_block_normal ?_ | refine out_block_here ?_ | refine out_loop_ret ?_ | refine out_loop_exit ?_ | refine out_loopR_ret ?_ | refine out_loopR_exit ?_ | refine out_seq_panic ?_ | refine out_block_panic ?_ | refine out_loop_panic ?_ | (refine hL _ ?_; clear hL))
    | (with_reducible first | refine w_reg (by decide +kernel) fun K1 hK => ?_ | refine w_reg_end (by decide +kernel) fun K1 hK => ?_)
    | ((with_reducible first | apply d_reg Try.mix (by decide +kernel) | apply d_reg_end Try.mix (by decide +kernel)); (case hm => simp only [List.length_cons, List.length_nil, Nat.reduceAdd, Nat.reduceMul]; rfl); (case' h => intro K1 hK))
    | with_reducible refine go_seq ?_
    | ((with_reducible first | apply v_op Try.tab | apply v_op0 Try.tab | apply d_op Try.tab | apply d_op0 Try.tab) <;> first | (intro K' h0 hw; conv => whnf) | (simp only [Nat.reduceAdd, Nat.reduceMul]; rfl))
    | ((with_reducible apply v_nil); (case hm => (simp only [Nat.reduceAdd, Nat.reduceMul]; rfl)); (case' h => with_reducible refine hK _ ?_; clear hK))
    | ((with_reducible apply d_nil); (refine hK _ _ _ _ (by first | decide +kernel | (simp only [List.map_cons, List.map_nil, List.nil_append, List.cons_append]; decide +kernel) | rfl) ?_; clear hK))
    | (first | refine d_grd_yes (by rfl) (by rfl) ?_ | refine v_grd_yes (by rfl) (by rfl) ?_)
    | (apply d_grd_no; (case hg => rfl); (case hb => rfl); (case hi => (simp only [Nat.reduceAdd, Nat.reduceMul]; rfl)))
    | (apply d_grd_undef; (case hg => rfl); (case hb => rfl); (case hi => (simp only [Nat.reduceAdd, Nat.reduceMul]; rfl)))
    | (apply d_grd; (case hg => rfl); (case hb => rfl); (case hi => (simp only [Nat.reduceAdd, Nat.reduceMul]; rfl)))
    | (apply v_grd_no; (case hg => rfl); (case hb => rfl); (case hi => (simp only [Nat.reduceAdd, Nat.reduceMul]; rfl)))
    | (apply v_grd_undef; (case hg => rfl); (case hb => rfl); (case hi => (simp only [Nat.reduceAdd, Nat.reduceMul]; rfl)))
    | (apply v_grd; (case hg => rfl); (case hb => rfl); (case hi => (simp only [Nat.reduceAdd, Nat.reduceMul]; rfl)))
    | ((with_reducible apply go_cond); (case hb => rfl))
    | ((with_reducible apply out_block_there); (case hne => rfl))
    | ((with_reducible first | refine w_ret Try.tab fun K' hL => ?_ | refine w_ret_end Try.tab fun K' hL => ?_); (conv => whnf))
    | ((with_reducible apply And.intro); (case' right => try (conv => whnf)); (case' left => try first | rfl | decide | (simp; done) | (simp (disch := omega) only [wrp]; omega)))
    | ((with_reducible apply Side.mk); (try simp (disch := omega) only [wrp]); (try simp); (try omega))
    | ((with_reducible apply all_rk); (case hx => with_reducible assumption); (conv => whnf))
    | ((with_reducible refine all_row ?_); (first | (have _y := hx5; clear _y; intro x6 hx6) | (have _y := hx4; clear _y; intro x5 hx5) | (have _y := hx3; clear _y; intro x4 hx4) | (have _y := hx2; clear _y; intro x3 hx3) | (have _y := hx1; clear _y; intro x2 hx2) | (intro x1 hx1)); conv => whnf)
    | (refine ⟨_, eqAT (by rfl) (by rfl) (by rfl) (by rfl), ?_⟩; conv => whnf)
    | ((first | (have _y := g9; clear _y; intro g10; try simp at g10; try simp (disch := omega) only [wrp] at g10) | (have _y := g8; clear _y; intro g9; try simp at g9; try simp (disch := omega) only [wrp] at g9) | (have _y := g7; clear _y; intro g8; try simp at g8; try simp (disch := omega) only [wrp] at g8) | (have _y := g6; clear _y; intro g7; try simp at g7; try simp (disch := omega) only [wrp] at g7) | (have _y := g5; clear _y; intro g6; try simp at g6; try simp (disch := omega) only [wrp] at g6) | (have _y := g4; clear _y; intro g5; try simp at g5; try simp (disch := omega) only [wrp] at g5) | (have _y := g3; clear _y; intro g4; try simp at g4; try simp (disch := omega) only [wrp] at g4) | (have _y := g2; clear _y; intro g3; try simp at g3; try simp (disch := omega) only [wrp] at g3) | (have _y := g1; clear _y; intro g2; try simp at g2; try simp (disch := omega) only [wrp] at g2) | (intro g1; try simp at g1; try simp (disch := omega) only [wrp] at g1))))
  refine appZ_in es0 (by simp [q0]) q07 (by simpa using q0l) q0s ?_
  simp only [hk]
  conv => whnf
  repeat' (first
    | (with_reducible refine halt_in (code := .seq (.region 10 _ _) _) ?_)
    | (with_reducible first | refine go_later ?_ | (refine h0 _ _ ?_; clear h0 hw) | (refine hw _ _ _ ?_; clear h0 hw) | refine go_ret ?_ | refine go_skip ?_ | refine go_block ?_ | refine go_exit ?_ | refine out_seq_ret ?_ | refine out_seq_normal ?_ | refine out_seq_exit ?_ | refine out_block_ret ?_ | refine out_block_normal ?_ | refine out_block_here ?_ | refine out_loop_ret ?_ | refine out_loop_exit ?_ | refine out_loopR_ret ?_ | refine out_loopR_exit ?_ | refine out_seq_panic ?_ | refine out_block_panic ?_ | refine out_loop_panic ?_ | (refine hL _ ?_; clear hL))
    | (with_reducible first | refine w_reg (by decide +kernel) fun K1 hK => ?_ | refine w_reg_end (by decide +kernel) fun K1 hK => ?_)
    | ((with_reducible first | apply d_reg Try.mix (by decide +kernel) | apply d_reg_end Try.mix (by decide +kernel)); (case hm => simp only [List.length_cons, List.length_nil, Nat.reduceAdd, Nat.reduceMul]; rfl); (case' h => intro K1 hK))
    | with_reducible refine go_seq ?_
    | ((with_reducible first | apply v_op Try.tab | apply v_op0 Try.tab | apply d_op Try.tab | apply d_op0 Try.tab) <;> first | (intro K' h0 hw; conv => whnf) | (simp only [Nat.reduceAdd, Nat.reduceMul]; rfl))
    | ((with_reducible apply v_nil); (case hm => (simp only [Nat.reduceAdd, Nat.reduceMul]; rfl)); (case' h => with_reducible refine hK _ ?_; clear hK))
    | ((with_reducible apply d_nil); (refine hK _ _ _ _ (by first | decide +kernel | (simp only [List.map_cons, List.map_nil, List.nil_append, List.cons_append]; decide +kernel) | rfl) ?_; clear hK))
    | (first | refine d_grd_yes (by rfl) (by rfl) ?_ | refine v_grd_yes (by rfl) (by rfl) ?_)
    | (apply d_grd_no; (case hg => rfl); (case hb => rfl); (case hi => (simp only [Nat.reduceAdd, Nat.reduceMul]; rfl)))
    | (apply d_grd_undef; (case hg => rfl); (case hb => rfl); (case hi => (simp only [Nat.reduceAdd, Nat.reduceMul]; rfl)))
    | (apply d_grd; (case hg => rfl); (case hb => rfl); (case hi => (simp only [Nat.reduceAdd, Nat.reduceMul]; rfl)))
    | (apply v_grd_no; (case hg => rfl); (case hb => rfl); (case hi => (simp only [Nat.reduceAdd, Nat.reduceMul]; rfl)))
    | (apply v_grd_undef; (case hg => rfl); (case hb => rfl); (case hi => (simp only [Nat.reduceAdd, Nat.reduceMul]; rfl)))
    | (apply v_grd; (case hg => rfl); (case hb => rfl); (case hi => (simp only [Nat.reduceAdd, Nat.reduceMul]; rfl)))
    | ((with_reducible apply go_cond); (case hb => rfl))
    | ((with_reducible apply out_block_there); (case hne => rfl))
    | ((with_reducible first | refine w_ret Try.tab fun K' hL => ?_ | refine w_ret_end Try.tab fun K' hL => ?_); (conv => whnf))
    | ((with_reducible apply And.intro); (case' right => try (conv => whnf)); (case' left => try first | rfl | decide | (simp; done) | (simp (disch := omega) only [wrp]; omega)))
    | ((with_reducible apply Side.mk); (try simp (disch := omega) only [wrp]); (try simp); (try omega))
    | ((with_reducible apply all_rk); (case hx => with_reducible assumption); (conv => whnf))
    | ((with_reducible refine all_row ?_); (first | (have _y := hx5; clear _y; intro x6 hx6) | (have _y := hx4; clear _y; intro x5 hx5) | (have _y := hx3; clear _y; intro x4 hx4) | (have _y := hx2; clear _y; intro x3 hx3) | (have _y := hx1; clear _y; intro x2 hx2) | (intro x1 hx1)); conv => whnf)
    | (refine ⟨_, eqAT (by rfl) (by rfl) (by rfl) (by rfl), ?_⟩; conv => whnf)
    | ((first | (have _y := g9; clear _y; intro g10; try simp at g10) | (have _y := g8; clear _y; intro g9; try simp at g9) | (have _y := g7; clear _y; intro g8; try simp at g8) | (have _y := g6; clear _y; intro g7; try simp at g7) | (have _y := g5; clear _y; intro g6; try simp at g6) | (have _y := g4; clear _y; intro g5; try simp at g5) | (have _y := g3; clear _y; intro g4; try simp at g4) | (have _y := g2; clear _y; intro g3; try simp at g3) | (have _y := g1; clear _y; intro g2; try simp at g2) | (intro g1; try simp at g1))))
  refine halt_out ?_
  with_reducible apply w_thaw (code := .seq (.region 10 _ _) _) 466 7 (es0 ++ List.replicate (n + 1 - i) [I 0, I 0, I 0, B false, B false, B false, Tx ByteArray.empty]) [(0, .bsl 0 0 7 n n), (1, I i), (2, .osl 1 7 (rowL [x])), (7, I 1), (9, .osl 466 7 (es0 ++ List.replicate (n + 1 - i) [I 0, I 0, I 0, B false, B false, B false, Tx ByteArray.empty]))] [(0, .box cs), (1, .perm 48 7 1)]
  case hat => exact .inl ⟨9, rfl⟩
  case hp16 => decide
  case hpe => rfl
  case hn0 => simp [q0l]
  case h0 => simp; omega
  case hsc =>
    intro r hr
    rcases List.mem_append.1 hr with h | h
    · exact q0s r h
    · rw [(List.mem_replicate.1 h).2]; simp
  case hS => simp
  case hB => simp [LeL.rfl']
  case hSk => simp [thokS, thokB, Ob.thok, AV.thok, thokL, permIs, scalR]
  case hBk => simp [thokS, thokB, Ob.thok, AV.thok, thokL, permIs, scalR]; exact thokL_s hcs
  case hm => (try simp only [Nat.reduceAdd, Nat.reduceMul]); exact rfl
  case' h => intro cap hc1 hc2
  have hz : (es0 ++ List.replicate (n + 1 - i) [I 0, I 0, I 0, B false, B false, B false, Tx ByteArray.empty]).length = n + 1 := by simp [q0l]; omega
  rw [hz] at hc1
  with_reducible refine go_later ?_
  with_reducible refine w_box 0 cs rfl (AV.th_s hcs) ?_
  with_reducible refine go_later ?_
  with_reducible refine w_num 9 (a := .bsl 498 0 7 (es0 ++ List.replicate (n + 1 - i) [I 0, I 0, I 0, B false, B false, B false, Tx ByteArray.empty]).length cap) (b := .bsl 498 0 7 (n + 1) cap) rfl (by rw [hz]) ?_
  with_reducible refine go_later ?_
  obtain ⟨cs2, hcs2⟩ : ∃ cs2, cs2 = (es0 ++ List.replicate (n + 1 - i) [I 0, I 0, I 0, B false, B false, B false, Tx ByteArray.empty]).flatten ++ List.replicate ((cap - (es0 ++ List.replicate (n + 1 - i) [I 0, I 0, I 0, B false, B false, B false, Tx ByteArray.empty]).length) * 7) AV.junk := ⟨_, rfl⟩
  with_reducible refine w_box 498 cs2 rfl hcs2.symm ?_
  have hf0 : es0.flatten.length = i * 7 := by rw [flatten_length q07, q0l]
  have hl2 : cs2.length = cap * 7 := by
    rw [hcs2, List.length_append, List.length_replicate, hz, flatten_length (sz := 7), hz]
    · omega
    · intro r hr
      rcases List.mem_append.1 hr with h | h
      · exact q07 r h
      · rw [(List.mem_replicate.1 h).2]; rfl
  have hq : ∀ j, j < i * 7 → cs2[j]? = cs[j]? := fun j hj => by
    have e1 : cs2[j]? = es0.flatten[j]? := by
      rw [hcs2, List.flatten_append, List.append_assoc, List.getElem?_append_left (by omega)]
    rw [e1, ← q0, List.getElem?_take, if_pos hj]
  clear hcs2 hz
  repeat' (first
    | (with_reducible refine halt_in (code := .seq (.region 12 _ _) _) ?_)
    | (with_reducible first | refine go_later ?_ | (refine h0 _ _ ?_; clear h0 hw) | (refine hw _ _ _ ?_; clear h0 hw) | refine go_ret ?_ | refine go_skip ?_ | refine go_block ?_ | refine go_exit ?_ | refine out_seq_ret ?_ | refine out_seq_normal ?_ | refine out_seq_exit ?_ | refine out_block_ret ?_ | refine out_block_normal ?_ | refine out_block_here ?_ | refine out_loop_ret ?_ | refine out_loop_exit ?_ | refine out_loopR_ret ?_ | refine out_loopR_exit ?_ | refine out_seq_panic ?_ | refine out_block_panic ?_ | refine out_loop_panic ?_ | (refine hL _ ?_; clear hL))
    | (with_reducible first | refine w_reg (by decide +kernel) fun K1 hK => ?_ | refine w_reg_end (by decide +kernel) fun K1 hK => ?_)
    | ((with_reducible first | apply d_reg Try.mix (by decide +kernel) | apply d_reg_end Try.mix (by decide +kernel)); (case hm => simp only [List.length_cons, List.length_nil, Nat.reduceAdd, Nat.reduceMul]; rfl); (case' h => intro K1 hK))
    | with_reducible refine go_seq ?_
    | ((with_reducible first | apply v_op Try.tab | apply v_op0 Try.tab | apply d_op Try.tab | apply d_op0 Try.tab) <;> first | (intro K' h0 hw; conv => whnf) | (simp only [Nat.reduceAdd, Nat.reduceMul]; rfl))
    | ((with_reducible apply v_nil); (case hm => (simp only [Nat.reduceAdd, Nat.reduceMul]; rfl)); (case' h => with_reducible refine hK _ ?_; clear hK))
    | ((with_reducible apply d_nil); (refine hK _ _ _ _ (by first | decide +kernel | (simp only [List.map_cons, List.map_nil, List.nil_append, List.cons_append]; decide +kernel) | rfl) ?_; clear hK))
    | (first | refine d_grd_yes (by rfl) (by rfl) ?_ | refine v_grd_yes (by rfl) (by rfl) ?_)
    | (apply d_grd_no; (case hg => rfl); (case hb => rfl); (case hi => (simp only [Nat.reduceAdd, Nat.reduceMul]; rfl)))
    | (apply d_grd_undef; (case hg => rfl); (case hb => rfl); (case hi => (simp only [Nat.reduceAdd, Nat.reduceMul]; rfl)))
    | (apply d_grd; (case hg => rfl); (case hb => rfl); (case hi => (simp only [Nat.reduceAdd, Nat.reduceMul]; rfl)))
    | (apply v_grd_no; (case hg => rfl); (case hb => rfl); (case hi => (simp only [Nat.reduceAdd, Nat.reduceMul]; rfl)))
    | (apply v_grd_undef; (case hg => rfl); (case hb => rfl); (case hi => (simp only [Nat.reduceAdd, Nat.reduceMul]; rfl)))
    | (apply v_grd; (case hg => rfl); (case hb => rfl); (case hi => (simp only [Nat.reduceAdd, Nat.reduceMul]; rfl)))
    | ((with_reducible apply go_cond); (case hb => rfl))
    | ((with_reducible apply out_block_there); (case hne => rfl))
    | ((with_reducible first | refine w_ret Try.tab fun K' hL => ?_ | refine w_ret_end Try.tab fun K' hL => ?_); (conv => whnf))
    | ((with_reducible apply And.intro); (case' right => try (conv => whnf)); (case' left => try first | rfl | decide | (simp; done) | (simp (disch := omega) only [wrp]; omega)))
    | ((with_reducible apply Side.mk); (try simp (disch := omega) only [wrp]); (try simp); (try omega))
    | ((with_reducible apply all_rk); (case hx => with_reducible assumption); (conv => whnf))
    | ((with_reducible refine all_row ?_); (first | (have _y := hx5; clear _y; intro x6 hx6) | (have _y := hx4; clear _y; intro x5 hx5) | (have _y := hx3; clear _y; intro x4 hx4) | (have _y := hx2; clear _y; intro x3 hx3) | (have _y := hx1; clear _y; intro x2 hx2) | (intro x1 hx1)); conv => whnf)
    | (refine ⟨_, eqAT (by rfl) (by rfl) (by rfl) (by rfl), ?_⟩; conv => whnf)
    | ((with_reducible refine nfL_stop ?_); conv => whnf)
    | ((first | (have _y := g9; clear _y; intro g10; try simp at g10) | (have _y := g8; clear _y; intro g9; try simp at g9) | (have _y := g7; clear _y; intro g8; try simp at g8) | (have _y := g6; clear _y; intro g7; try simp at g7) | (have _y := g5; clear _y; intro g6; try simp at g6) | (have _y := g4; clear _y; intro g5; try simp at g5) | (have _y := g3; clear _y; intro g4; try simp at g4) | (have _y := g2; clear _y; intro g3; try simp at g3) | (have _y := g1; clear _y; intro g2; try simp at g2) | (intro g1; try simp at g1))))
  · unfold OneL
    intro a ha
    have := List.mem_of_mem_take ha
    simp at this
    rcases this with rfl | rfl | rfl | rfl | rfl | rfl | rfl <;> rfl
  · unfold OneL
    intro a ha
    obtain ⟨v, rfl⟩ := hcs a (List.mem_of_mem_drop (List.mem_of_mem_take (List.mem_of_mem_take ha)))
    rfl
  · refine halt_out ?_
    with_reducible apply w_freeze (code := .seq (.region 12 _ _) _) 9 es
    case hs => rfl
    case hq => rfl
    case hn => exact hen.symm
    case hl => exact he7
    case hpu => exact hpu
    case hone => exact ho2
    case hes =>
      rw [hes, hen]
      simp (disch := omega) [wrp]
      exact seg_gr cs cs2 (sltC x) n i cap rfl hi hc1 hl hl2 hq
    repeat' (first
    | (with_reducible first | refine go_later ?_ | (refine h0 _ _ ?_; clear h0 hw) | (refine hw _ _ _ ?_; clear h0 hw) | refine go_ret ?_ | refine go_skip ?_ | refine go_block ?_ | refine go_exit ?_ | refine out_seq_ret ?_ | refine out_seq_normal ?_ | refine out_seq_exit ?_ | refine out_block_ret ?_ | refine out_block_normal ?_ | refine out_block_here ?_ | refine out_loop_ret ?_ | refine out_loop_exit ?_ | refine out_loopR_ret ?_ | refine out_loopR_exit ?_ | refine out_seq_panic ?_ | refine out_block_panic ?_ | refine out_loop_panic ?_ | (refine hL _ ?_; clear hL))
    | (with_reducible first | refine w_reg (by decide +kernel) fun K1 hK => ?_ | refine w_reg_end (by decide +kernel) fun K1 hK => ?_)
    | ((with_reducible first | apply d_reg Try.mix (by decide +kernel) | apply d_reg_end Try.mix (by decide +kernel)); (case hm => simp only [List.length_cons, List.length_nil, Nat.reduceAdd, Nat.reduceMul]; rfl); (case' h => intro K1 hK))
    | with_reducible refine go_seq ?_
    | ((with_reducible first | apply v_op Try.tab | apply v_op0 Try.tab | apply d_op Try.tab | apply d_op0 Try.tab) <;> first | (intro K' h0 hw; conv => whnf) | (simp only [Nat.reduceAdd, Nat.reduceMul]; rfl))
    | ((with_reducible apply v_nil); (case hm => (simp only [Nat.reduceAdd, Nat.reduceMul]; rfl)); (case' h => with_reducible refine hK _ ?_; clear hK))
    | ((with_reducible apply d_nil); (refine hK _ _ _ _ (by first | decide +kernel | (simp only [List.map_cons, List.map_nil, List.nil_append, List.cons_append]; decide +kernel) | rfl) ?_; clear hK))
    | (first | refine d_grd_yes (by rfl) (by rfl) ?_ | refine v_grd_yes (by rfl) (by rfl) ?_)
    | (apply d_grd_no; (case hg => rfl); (case hb => rfl); (case hi => (simp only [Nat.reduceAdd, Nat.reduceMul]; rfl)))
    | (apply d_grd_undef; (case hg => rfl); (case hb => rfl); (case hi => (simp only [Nat.reduceAdd, Nat.reduceMul]; rfl)))
    | (apply d_grd; (case hg => rfl); (case hb => rfl); (case hi => (simp only [Nat.reduceAdd, Nat.reduceMul]; rfl)))
    | (apply v_grd_no; (case hg => rfl); (case hb => rfl); (case hi => (simp only [Nat.reduceAdd, Nat.reduceMul]; rfl)))
    | (apply v_grd_undef; (case hg => rfl); (case hb => rfl); (case hi => (simp only [Nat.reduceAdd, Nat.reduceMul]; rfl)))
    | (apply v_grd; (case hg => rfl); (case hb => rfl); (case hi => (simp only [Nat.reduceAdd, Nat.reduceMul]; rfl)))
    | ((with_reducible apply go_cond); (case hb => rfl))
    | ((with_reducible apply out_block_there); (case hne => rfl))
    | ((with_reducible first | refine w_ret Try.tab fun K' hL => ?_ | refine w_ret_end Try.tab fun K' hL => ?_); (conv => whnf))
    | ((with_reducible apply And.intro); (case' right => try (conv => whnf)); (case' left => try first | rfl | decide | (simp; done) | (simp (disch := omega) only [wrp]; omega)))
    | ((with_reducible apply Side.mk); (try simp (disch := omega) only [wrp]); (try simp); (try omega))
    | ((with_reducible apply all_rk); (case hx => with_reducible assumption); (conv => whnf))
    | ((with_reducible refine all_row ?_); (first | (have _y := hx5; clear _y; intro x6 hx6) | (have _y := hx4; clear _y; intro x5 hx5) | (have _y := hx3; clear _y; intro x4 hx4) | (have _y := hx2; clear _y; intro x3 hx3) | (have _y := hx1; clear _y; intro x2 hx2) | (intro x1 hx1)); conv => whnf)
    | (refine ⟨_, eqAT (by rfl) (by rfl) (by rfl) (by rfl), ?_⟩; conv => whnf)
    | ((first | (have _y := g9; clear _y; intro g10; try simp at g10) | (have _y := g8; clear _y; intro g9; try simp at g9) | (have _y := g7; clear _y; intro g8; try simp at g8) | (have _y := g6; clear _y; intro g7; try simp at g7) | (have _y := g5; clear _y; intro g6; try simp at g6) | (have _y := g4; clear _y; intro g5; try simp at g5) | (have _y := g3; clear _y; intro g4; try simp at g4) | (have _y := g2; clear _y; intro g3; try simp at g3) | (have _y := g1; clear _y; intro g2; try simp at g2) | (intro g1; try simp at g1))))
    ((first | refine w_retO Try.tab [] (by rfl) (by simp) (by simp) (fun K' hL => ?_) ?_ ?_ ?_ | refine w_retO_end Try.tab [] (by rfl) (by simp) (by simp) (fun K' hL => ?_) ?_ ?_ ?_); (conv => whnf); (refine hL _ ?_; clear hL); all_goals simp)
end Go.Proofs.Ytlehonipilpfdaa

/- The walk of disk.read: rounds. No condition. -/
import Derived.Test.YtbhcjgobapnajaaDiskLaw
import Derived.Test.YtbhcjgobapnajaaSyRh
namespace Go.Proofs.Ytbhcjgobapnajaa
open Go Go.Sy
set_option maxRecDepth 4000
set_option linter.unusedSimpArgs false
set_option linter.unusedVariables false
attribute [local irreducible] Reg RegD Later Out CallV YieldV Tri Side EqV
def _root_.Go.Sy.sn : Code → Code
  | .seq _ y => y
  | c => c
def _root_.Go.Sy.fs : Code → Code
  | .seq x _ => x
  | c => c
def _root_.Go.Sy.bk : Code → Code
  | .block _ x => x
  | c => c
def _root_.Go.Sy.rgA : Code → Code
  | .rangeFunc _ _ a _ => a
  | c => c
def _root_.Go.Sy.rgB : Code → Code
  | .rangeFunc _ _ _ b => b
  | c => c
def _root_.Go.Sy.rdF (code : Code) : Code := bk (sn (fs (sn (sn (sn (sn code))))))
abbrev tmR (a b c d e : Nat) : List AV := [.junk, .junk, .ptr a 0, .ptr b 0, .ptr c 0, .ptr d 0, .ptr e 0] ++ List.replicate 56 .junk
abbrev obR (l : Nat) (k : LpS) (L : List Rc) (E : List Int) : List Ob := [.box [.osl 1 3 (rowR L)], .perm 108 3 L.length, .box [.osl 3 1 (rowN E)], .perm 3 1 E.length, .raw l (.lp .ready none k) (tmR 5 6 7 0 2), .box [.s (.slice none 0 0)], .box [.s (.slice none 0 0)], .box [I 0]]
abbrev obRx (l : Nat) (k : LpS) : List Ob := [.gone, .gone, .gone, .gone, .raw l (.lp .done (some .ret) k) (tmR 5 6 7 0 2), .box [.s (.slice none 0 0)], .box [.s (.slice none 0 0)], .box [I 1]]
def lastN (L : List Rc) : Option Int := L.getLast?.map (·.n)
set_option maxHeartbeats 4000000 in
theorem y_no (l : Nat) (k : LpS) (r : Rc) (b : Bool) (L : List Rc) (E : List Int) (h1 : k.ps = #[18, 19]) (h2 : k.assign = rgA (rdF (Try.f58.body.getD .skip))) (h3 : k.body = rgB (rdF (Try.f58.body.getD .skip)))
    (hL : L.length ≤ 2000) (hn : ∀ y ∈ L, 0 ≤ y.n ∧ y.n ≤ 100000) (hno : (b && goesB (lastN L) r.n) = false) :
    YSpec Try.prog l [.agg (rcC r), B b] (obR l k L E) (B false) (obRx l k) := by
  refine v_yspec 4 63 8 h1 h2 rfl rfl rfl rfl (by decide) ?_
  conv => arg 3; whnf
  cases b with
  | false =>
    repeat' (first
 | (with_reducible first | apply qz0 | (refine h0 _ _ ?_; clear h0 hw) | (refine hw _ _ _ ?_; clear h0 hw) | apply qz1 | apply qz3 | apply qz5 | apply qz8 )
 | (with_reducible first | refine w_reg (by decide +kernel) fun K1 hK => ?_ | refine w_reg_end (by decide +kernel) fun K1 hK => ?_)
 | ((with_reducible first | apply d_reg Try.mix (by decide +kernel) ); (case hm => simp only [List.length_cons, List.length_nil, Nat.reduceAdd, Nat.reduceMul]; rfl); (case' h => intro K1 hK))
 | with_reducible refine go_seq ?_
 | ((with_reducible first | apply v_op Try.tab | apply v_op0 Try.tab | apply d_op Try.tab ) <;> first | (intro K' h0 hw; conv => whnf) | (simp only [Nat.reduceAdd, Nat.reduceMul]; rfl))
 | ((with_reducible apply v_nil); (case hm => (simp only [Nat.reduceAdd, Nat.reduceMul]; rfl)); (case' h => with_reducible refine hK _ ?_; clear hK))
 | ((with_reducible apply d_nil); (refine hK _ _ _ _ (by first | decide +kernel ) ?_; clear hK))
 | ((first | (apply d_grd_no; (case hg => rfl); (case hb => rfl)) | (apply d_grd_undef; (case hg => rfl); (case hb => rfl)) ); (case hi => (simp only [Nat.reduceAdd, Nat.reduceMul]; rfl)))
 | ((with_reducible apply go_cond); (case hb => rfl))
 | ((with_reducible apply And.intro); (case' right => try (conv => whnf)); (case' left => try first | rfl | decide | (simp; done) ))
 | ((with_reducible apply ass_next); (case h1 => rfl); (case h2 => exact h3); (case' h => conv => arg 3; whnf))
 | ((with_reducible apply rou_ret); (case h1 => rfl); (case h2 => rfl); (case h3 => simp [obsRet, ObLeG, ObLe, backN, Ob.ren, renL, AV.ren]); (case h4 => simp [ltO, Ob.lt, ltL, AV.lt]))
 | (first | (guard_hyp g2; intro g3; try simp at g3) | (guard_hyp g1; intro g2; try simp at g2) | intro g1; try simp at g1))
  | true =>
    simp only [Bool.true_and] at hno
    obtain ⟨y, hy⟩ : ∃ y, L.getLast? = some y := by
      cases hq : L.getLast? with
      | none => simp [lastN, hq, goesB] at hno
      | some y => exact ⟨y, rfl⟩
    have hne : r.n ≠ y.n + 1 := by simpa [lastN, hy, goesB] using hno
    have hpos : 0 < L.length := by
      rcases Nat.eq_zero_or_pos L.length with h | h
      · rw [List.length_eq_zero_iff.1 h] at hy; cases hy
      · exact h
    have hyn := hn y (List.mem_of_getLast? hy)
    have w1 := wrp (n := (L.length : Int) - 1) (by omega) (by omega)
    have w2 := wrp (n := y.n + 1) (by omega) (by omega)
    have hyi : L[(IntKind.i64.wrap (((rowR L).length : Int) - 1)).toNat]? = some y := by rw [show (rowR L).length = L.length from List.length_map _, w1, show ((L.length : Int) - 1).toNat = L.length - 1 by omega, ← List.getLast?_eq_getElem?]; exact hy
    repeat' (first
 | ((with_reducible refine all_row ?_); intro z hz; obtain rfl : y = z := Option.some.inj (hyi.symm.trans hz); conv => whnf)
 | (with_reducible first | apply qz0 | (refine h0 _ _ ?_; clear h0 hw) | (refine hw _ _ _ ?_; clear h0 hw) | apply qz1 | apply qz2 | apply qz3 | apply qz5 | apply qz6 | apply qz8 | apply qz9 )
 | (with_reducible first | refine w_reg (by decide +kernel) fun K1 hK => ?_ | refine w_reg_end (by decide +kernel) fun K1 hK => ?_)
 | ((with_reducible first | apply d_reg Try.mix (by decide +kernel) | apply d_reg_end Try.mix (by decide +kernel)); (case hm => simp only [List.length_cons, List.length_nil, Nat.reduceAdd, Nat.reduceMul]; rfl); (case' h => intro K1 hK))
 | with_reducible refine go_seq ?_
 | ((with_reducible first | apply v_op Try.tab | apply v_op0 Try.tab | apply d_op Try.tab | apply d_op0 Try.tab) <;> first | (intro K' h0 hw; conv => whnf) | (simp only [Nat.reduceAdd, Nat.reduceMul]; rfl))
 | ((with_reducible apply v_nil); (case hm => (simp only [Nat.reduceAdd, Nat.reduceMul]; rfl)); (case' h => with_reducible refine hK _ ?_; clear hK))
 | ((with_reducible apply d_nil); (refine hK _ _ _ _ (by first | decide +kernel | (simp only [List.map_cons, List.map_nil, List.nil_append, List.cons_append]; decide +kernel) ) ?_; clear hK))
 | (first | refine d_grd_yes (by rfl) (by rfl) ?_ )
 | ((first | (apply d_grd_no; (case hg => rfl); (case hb => rfl)) | (apply d_grd; (case hg => rfl); (case hb => rfl)) ); (case hi => (simp only [Nat.reduceAdd, Nat.reduceMul]; rfl)))
 | ((with_reducible apply go_cond); (case hb => rfl))
 | ((with_reducible apply And.intro); (case' right => try (conv => whnf)); (case' left => try first | rfl | decide | (simp [w1, w2]; done) | (simp (disch := omega) only [wrp]; omega) | (simp (disch := omega) [w1, w2, wrp]; (try omega); done)))
 | ((with_reducible apply Side.mk); (try simp (disch := omega) only [wrp]); (try simp); (try simp (disch := omega) only [wrp]); (try omega))
 | ((with_reducible refine all_row ?_); (first  | intro x1 hx1); conv => whnf)
 | ((with_reducible apply ass_next); (case h1 => rfl); (case h2 => exact h3); (case' h => conv => arg 3; whnf))
 | ((with_reducible apply rou_ret); (case h1 => rfl); (case h2 => rfl); (case h3 => simp [obsRet, ObLeG, ObLe, backN, Ob.ren, renL, AV.ren]); (case h4 => simp [ltO, Ob.lt, ltL, AV.lt]))
 | (first | (guard_hyp g2; intro g3; try simp at g3) | (guard_hyp g1; intro g2; try simp at g2) | intro g1; try simp at g1))
    all_goals first | (exfalso; rw [w2] at g2; exact hne g2) | (exfalso; rw [g1] at hpos; exact absurd hpos (by simp))
set_option maxHeartbeats 4000000 in
theorem y_ok (l : Nat) (k : LpS) (r : Rc) (L : List Rc) (E : List Int) (e : Int) (h1 : k.ps = #[18, 19]) (h2 : k.assign = rgA (rdF (Try.f58.body.getD .skip))) (h3 : k.body = rgB (rdF (Try.f58.body.getD .skip)))
    (hL : L.length ≤ 2000) (hE : E.length ≤ 2001) (hn : ∀ y ∈ L, 0 ≤ y.n ∧ y.n ≤ 100000) (hgo : goesB (lastN L) r.n = true) (he : E.getLast? = some e) (hb : 0 ≤ e ∧ e ≤ 100000 ∧ 0 ≤ r.bytes ∧ r.bytes ≤ 100000) :
    YSpec Try.prog l [.agg (rcC r), B true] (obR l k L E) (B true) (obR l k (L ++ [r]) (E ++ [e + r.bytes])) := by
  refine v_yspec 4 63 8 h1 h2 rfl rfl rfl rfl (by decide) ?_
  conv => arg 3; whnf
  have hEp : 0 < E.length := by
    rcases Nat.eq_zero_or_pos E.length with h | h
    · rw [List.length_eq_zero_iff.1 h] at he; cases he
    · exact h
  have w3 := wrp (n := (E.length : Int) - 1) (by omega) (by omega)
  have w4 := wrp (n := e + r.bytes) (by omega) (by omega)
  have hei : E[(IntKind.i64.wrap (((rowN E).length : Int) - 1)).toNat]? = some e := by rw [show (rowN E).length = E.length from List.length_map _, w3, show ((E.length : Int) - 1).toNat = E.length - 1 by omega, ← List.getLast?_eq_getElem?]; exact he
  have m1 : rowR (L ++ [r]) = rowR L ++ [rcC r] := by simp
  have m2 : rowN (E ++ [e + r.bytes]) = rowN E ++ [[I (e + r.bytes)]] := by simp
  cases hq : L.getLast? with
  | none =>
    have hz : L = [] := List.getLast?_eq_none_iff.1 hq
    subst hz
    repeat' (first
 | ((with_reducible refine all_row ?_); intro z hz; obtain rfl : e = z := Option.some.inj (hei.symm.trans hz); conv => whnf)
 | (with_reducible first | apply qz0 | (refine h0 _ _ ?_; clear h0 hw) | (refine hw _ _ _ ?_; clear h0 hw) | apply qz2 | apply qz3 | apply qz6 | apply qz9 )
 | (with_reducible first | refine w_reg (by decide +kernel) fun K1 hK => ?_ | refine w_reg_end (by decide +kernel) fun K1 hK => ?_)
 | ((with_reducible first | apply d_reg Try.mix (by decide +kernel) | apply d_reg_end Try.mix (by decide +kernel)); (case hm => simp only [List.length_cons, List.length_nil, Nat.reduceAdd, Nat.reduceMul]; rfl); (case' h => intro K1 hK))
 | with_reducible refine go_seq ?_
 | ((with_reducible first | apply v_op Try.tab | apply v_op0 Try.tab | apply d_op Try.tab | apply d_op0 Try.tab) <;> first | (intro K' h0 hw; conv => whnf) | (simp only [Nat.reduceAdd, Nat.reduceMul]; rfl))
 | ((with_reducible apply v_nil); (case hm => (simp only [Nat.reduceAdd, Nat.reduceMul]; rfl)); (case' h => with_reducible refine hK _ ?_; clear hK))
 | ((with_reducible apply d_nil); (refine hK _ _ _ _ (by first | decide +kernel | (simp only [List.map_cons, List.map_nil, List.nil_append, List.cons_append]; decide +kernel) ) ?_; clear hK))
 | (first | refine d_grd_yes (by rfl) (by rfl) ?_ )
 | ((first | (apply d_grd_no; (case hg => rfl); (case hb => rfl)) ); (case hi => (simp only [Nat.reduceAdd, Nat.reduceMul]; rfl)))
 | ((with_reducible apply go_cond); (case hb => rfl))
 | ((with_reducible apply And.intro); (case' right => try (conv => whnf)); (case' left => try first | rfl | decide | (simp [w3, w4]; done) ))
 | ((with_reducible apply Side.mk); (try simp (disch := omega) only [wrp]); (try simp); (try simp (disch := omega) only [wrp]); (try omega))
 | ((with_reducible apply ass_next); (case h1 => rfl); (case h2 => exact h3); (case' h => conv => arg 3; whnf))
 | ((with_reducible apply rou_next); (case h1 => rfl); (case h2 => rfl); (case h3 => simp [obsRet, ObLeG, ObLe, backN, Ob.ren, renL, AV.ren, w4]); (case h4 => simp [ltO, Ob.lt, ltL, AV.lt]))
 | (first | (guard_hyp g2; intro g3; try simp at g3) | (guard_hyp g1; intro g2; try simp at g2) | intro g1; try simp at g1))
  | some y =>
    have hne : r.n = y.n + 1 := by simpa [lastN, hq, goesB] using hgo
    have hpos : 0 < L.length := by
      rcases Nat.eq_zero_or_pos L.length with h | h
      · rw [List.length_eq_zero_iff.1 h] at hq; cases hq
      · exact h
    have hyn := hn y (List.mem_of_getLast? hq)
    have w1 := wrp (n := (L.length : Int) - 1) (by omega) (by omega)
    have w2 := wrp (n := y.n + 1) (by omega) (by omega)
    have hyi : L[(IntKind.i64.wrap (((rowR L).length : Int) - 1)).toNat]? = some y := by rw [show (rowR L).length = L.length from List.length_map _, w1, show ((L.length : Int) - 1).toNat = L.length - 1 by omega, ← List.getLast?_eq_getElem?]; exact hq
    repeat' (first
 | ((with_reducible refine all_row ?_); intro z hz; obtain rfl : y = z := Option.some.inj (hyi.symm.trans hz); conv => whnf)
 | ((with_reducible refine all_row ?_); intro z hz; obtain rfl : e = z := Option.some.inj (hei.symm.trans hz); conv => whnf)
 | (with_reducible first | apply qz0 | (refine h0 _ _ ?_; clear h0 hw) | (refine hw _ _ _ ?_; clear h0 hw) | apply qz1 | apply qz2 | apply qz3 | apply qz5 | apply qz6 | apply qz8 | apply qz9 )
 | (with_reducible first | refine w_reg (by decide +kernel) fun K1 hK => ?_ | refine w_reg_end (by decide +kernel) fun K1 hK => ?_)
 | ((with_reducible first | apply d_reg Try.mix (by decide +kernel) | apply d_reg_end Try.mix (by decide +kernel)); (case hm => simp only [List.length_cons, List.length_nil, Nat.reduceAdd, Nat.reduceMul]; rfl); (case' h => intro K1 hK))
 | with_reducible refine go_seq ?_
 | ((with_reducible first | apply v_op Try.tab | apply v_op0 Try.tab | apply d_op Try.tab | apply d_op0 Try.tab) <;> first | (intro K' h0 hw; conv => whnf) | (simp only [Nat.reduceAdd, Nat.reduceMul]; rfl))
 | ((with_reducible apply v_nil); (case hm => (simp only [Nat.reduceAdd, Nat.reduceMul]; rfl)); (case' h => with_reducible refine hK _ ?_; clear hK))
 | ((with_reducible apply d_nil); (refine hK _ _ _ _ (by first | decide +kernel | (simp only [List.map_cons, List.map_nil, List.nil_append, List.cons_append]; decide +kernel) ) ?_; clear hK))
 | (first | refine d_grd_yes (by rfl) (by rfl) ?_ )
 | ((first | (apply d_grd_no; (case hg => rfl); (case hb => rfl)) | (apply d_grd; (case hg => rfl); (case hb => rfl)) ); (case hi => (simp only [Nat.reduceAdd, Nat.reduceMul]; rfl)))
 | ((with_reducible apply go_cond); (case hb => rfl))
 | ((with_reducible apply And.intro); (case' right => try (conv => whnf)); (case' left => try first | rfl | decide | (simp [w1, w2, w3, w4]; done) ))
 | ((with_reducible apply Side.mk); (try simp (disch := omega) only [wrp]); (try simp); (try simp (disch := omega) only [wrp]); (try omega))
 | ((with_reducible apply ass_next); (case h1 => rfl); (case h2 => exact h3); (case' h => conv => arg 3; whnf))
 | ((with_reducible apply rou_next); (case h1 => rfl); (case h2 => rfl); (case h3 => simp [obsRet, ObLeG, ObLe, backN, Ob.ren, renL, AV.ren, w4]); (case h4 => simp [ltO, Ob.lt, ltL, AV.lt]))
 | (first | (guard_hyp g2; intro g3; try simp at g3) | (guard_hyp g1; intro g2; try simp at g2) | intro g1; try simp at g1))
    all_goals first | (exfalso; rw [w2] at g2; exact g2 hne) | (exfalso; rw [g1] at hpos; exact absurd hpos (by simp))
end Go.Proofs.Ytbhcjgobapnajaa

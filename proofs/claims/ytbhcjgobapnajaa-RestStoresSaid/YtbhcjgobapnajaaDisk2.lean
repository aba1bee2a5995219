/- The walk of disk.records. No condition. -/
import Derived.Test.YtbhcjgobapnajaaDisk1
import Derived.Test.YtbhcjgobapnajaaWiB
namespace Go.Proofs.Ytbhcjgobapnajaa
open Go Go.Sy
set_option maxRecDepth 4000
set_option linter.unusedSimpArgs false
set_option linter.unusedVariables false
attribute [local irreducible] Reg RegD Later Out CallV YieldV Tri Side EqV
def OneSpec : Prop := ∀ s : ByteArray, s.size ≤ 100000 → PSpec Try.prog 153 [Tx s] (.tup [.agg (rcC (oneX s).1), B (oneX s).2])
abbrev obI (l : Nat) (k : LpS) (L : List Rc) (E : List Int) : List Ob := [.box [.osl 2 3 (rowR L)], .perm 108 3 L.length, .box [.osl 4 1 (rowN E)], .perm 3 1 E.length, .raw l (.lp .ready none k) (tmR 6 7 8 1 3), .box [.s (.slice none 0 0)], .box [.s (.slice none 0 0)], .box [I 0]]
abbrev obIx (l : Nat) (k : LpS) : List Ob := [.gone, .gone, .gone, .gone, .raw l (.lp .done (some .ret) k) (tmR 6 7 8 1 3), .box [.s (.slice none 0 0)], .box [.s (.slice none 0 0)], .box [I 1]]
theorem num2 {s : ByteArray} {o : Nat} {x y : UInt8} (h1 : s[o]? = some x) (h2 : s[o + 1]? = some y) : num s o 2 = x.toNat * 256 + y.toNat := by
  unfold num
  rw [show (2 : Nat) = 1 + 1 from rfl, mid_snoc h2, mid_byte h1]
  simp [numTo]
theorem tl_at (s : ByteArray) (o i : Nat) (h : o + i < s.size) : ∃ b, (tl s o)[i]? = some b ∧ s[o + i]? = some b := by
  refine ⟨s[o + i], ?_, by simp [h]⟩
  have hi : i < (tl s o).size := by rw [tl_size]; omega
  have : (tl s o)[i]? = some ((tl s o)[i]) := by simp [hi]
  rw [this]
  simp [tl, ByteArray.getElem_extract]
theorem or_at (x y : UInt8) : IntKind.i64.wrap ((BitVec.ofInt IntKind.i64.bits (IntKind.i64.wrap (IntKind.i64.wrap (x.toNat : Int) * 2 ^ min (Int.toNat 8) IntKind.i64.bits)) ||| BitVec.ofInt IntKind.i64.bits (IntKind.i64.wrap (y.toNat : Int))).toNat : Int) = ((x.toNat * 256 + y.toNat : Nat) : Int) := by
  have hx := x.toNat_lt
  have hy := y.toNat_lt
  have h := or_add (m := x.toNat) (b := y.toNat) (by omega) hy
  rw [wrp (n := (x.toNat : Int)) (by omega) (by omega), BitVec.toNat_or, BitVec.toNat_ofInt, BitVec.toNat_ofInt]
  rw [show Int.toNat 8 = 8 from rfl]
  refine Eq.trans ?_ (h.trans (by omega))
  congr 3 <;> (congr 1; norm_cast)
theorem drop_last {α : Type} {l : List α} {a : α} (h : l.getLast? = some a) : l.dropLast ++ [a] = l := by
  obtain ⟨ys, rfl⟩ := List.getLast?_eq_some_iff.1 h
  simp
theorem ends_snoc {o : Int} {r : Rc} {l : List Rc} : endsL o (r :: l) = o :: endsL (o + r.bytes) l := rfl
theorem oneX_bytes (s : ByteArray) : (oneX s).1.bytes = s.size + 2 := by unfold oneX; split <;> (try split) <;> rfl
theorem mid_size {s : ByteArray} {o k : Nat} (h : o + k ≤ s.size) : (mid s o k).size = k := by simp [mid]; omega
theorem oneX_n {s : ByteArray} (h : (oneX s).2 = true) : 0 ≤ (oneX s).1.n ∧ (oneX s).1.n ≤ 100000 := by
  unfold oneX at h ⊢
  split
  · rename_i h1; rw [if_pos h1] at h; cases h
  · rename_i h1
    rw [if_neg h1] at h
    split
    · rename_i h2; rw [if_pos h2] at h; cases h
    · rename_i h2
      rw [if_neg h2] at h
      simp only [Bool.and_eq_true, decide_eq_true_eq] at h ⊢
      omega
structure RInv (s : ByteArray) (lst : List Rc) (x : Nat × List Rc × List Int) : Prop where
  le : x.1 ≤ s.size
  len : 2 * x.2.1.length ≤ x.1
  n : ∀ y ∈ x.2.1, 0 ≤ y.n ∧ y.n ≤ 100000
  el : x.2.2.length = x.2.1.length + 1
  last : x.2.2.getLast? = some (x.1 : Int)
  rest : ∃ f M, s.size ≤ x.1 + f ∧ diskL s f x.1 (lastN x.2.1) = some M ∧ lst = x.2.1 ++ M ∧ endsL 0 lst = x.2.2.dropLast ++ endsL x.1 M
set_option maxHeartbeats 4000000 in
theorem c_recs_ok (hone : OneSpec) (l : Nat) (k : LpS) (s : ByteArray) (hs : s.size ≤ 2000) (lst : List Rc) (hd : diskL s s.size 0 none = some lst) (h1 : k.ps = #[18, 19]) (h2 : k.assign = rgA (rdF (Try.f58.body.getD .skip))) (h3 : k.body = rgB (rdF (Try.f58.body.getD .skip))) :
    CSpec Try.prog 152 [.fn (.yield l) [] [], .ptr 0 0] (.box [Tx s] :: obI l k [] [0]) (.tup []) (.gone :: obI l k lst (endsL 0 lst)) := by
  refine v_cspec Try.func152 rfl Try.ntmps152 Try.results152 (by simp) (k := 9) rfl ?_
  repeat' (first
 | (with_reducible first | apply qz0 | apply qz3 )
 )
  refine w_loop (X := Nat × List Rc × List Int) [3, 4, 5, 6, 7, 8, 9, 10, 11, 12, 13, 14, 15, 16, 17, 18, 19, 20, 21, 22, 23, 24, 25, 26, 27, 28, 29, 30, 31, 32, 33, 34, 35, 36, 37, 38, 39, 40, 41, 42] (fun _ => []) (fun x => [(0, .box [Tx (tl s x.1)]), (1, .box [.osl 2 3 (rowR x.2.1)]), (2, .perm 108 3 x.2.1.length), (3, .box [.osl 4 1 (rowN x.2.2)]), (4, .perm 3 1 x.2.2.length), (5, .raw l (.lp .ready none k) (tmR 6 7 8 1 3)), (6, .box [.s (.slice none 0 0)]), (7, .box [.s (.slice none 0 0)]), (8, .box [I 0])]) (RInv s lst) (fun x => s.size - x.1) (0, [], [0]) ?_ ?_ ?_
  · exact ⟨Nat.zero_le _, Nat.zero_le _, fun y hy => (by cases hy), rfl, rfl, s.size, lst, by simp, hd, rfl, rfl⟩
  · refine ⟨kt_refl, ko_refl, ?_, ?_, ?_, ?_, Nat.le_refl _⟩ <;> simp [tl_zero]
  rintro ⟨o, L, E⟩ ⟨i1, i2, i3, i4, i5, f, M, i6, i7, i8, i9⟩
  simp only at i1 i2 i3 i4 i5 i6 i7 i8 i9
  have hts := tl_size s o
  rcases Nat.lt_or_ge s.size (o + 2) with hA | hA
  · have hM : M = [] := by
      cases f with
      | zero => simpa [diskL] using i7.symm
      | succ f => rw [diskL, if_pos hA] at i7; simpa using i7.symm
    have hE : E.dropLast ++ [(o : Int)] = E := by
      exact drop_last i5
    subst hM
    rw [List.append_nil] at i8
    rw [i9, i8]
    simp only [endsL, hE]
    repeat' (first
 | (with_reducible first | apply qz0 | (refine h0 _ _ ?_; clear h0 hw) | apply qz2 | apply qz3 | apply qz4 | apply qz6 | apply qz7 | apply qza | apply qzc )
 | (with_reducible first | refine w_reg (by decide +kernel) fun K1 hK => ?_ )
 | ((with_reducible first | apply d_reg Try.mix (by decide +kernel) ); (case hm => simp only [List.length_cons, List.length_nil, Nat.reduceAdd, Nat.reduceMul]; rfl); (case' h => intro K1 hK))
 | with_reducible refine go_seq ?_
 | ((with_reducible first | apply v_op Try.tab | apply d_op Try.tab ) <;> first | (intro K' h0 hw; conv => whnf) | (simp only [Nat.reduceAdd, Nat.reduceMul]; rfl))
 | ((with_reducible apply v_nil); (case hm => (simp only [Nat.reduceAdd, Nat.reduceMul]; rfl)); (case' h => with_reducible refine hK _ ?_; clear hK))
 | ((with_reducible apply go_cond); (case hb => rfl))
 | ((with_reducible apply And.intro); (case' right => try (conv => whnf)); (case' left => try first | rfl | decide | (simp [hts]; done) | (simp (disch := omega) [hts, wrp]; (try omega); done)))
 | (first | (guard_hyp g2; intro g3; try simp at g3) | (guard_hyp g1; intro g2; try simp at g2) | intro g1; try simp at g1))
    · exfalso; omega
    · ((first | refine w_retO Try.tab [] (by rfl) (by simp) (by simp) (fun K' hL => ?_) ?_ ?_ ?_ | refine w_retO_end Try.tab [] (by rfl) (by simp) (by simp) (fun K' hL => ?_) ?_ ?_ ?_); (conv => whnf); (refine hL _ ?_; clear hL); all_goals simp)
  obtain ⟨b0, hb0, hc0⟩ := tl_at s o 0 (by omega)
  obtain ⟨b1, hb1, hc1⟩ := tl_at s o 1 (by omega)
  have hnum := num2 (o := o) hc0 hc1
  rcases Nat.lt_or_ge s.size (o + 2 + num s o 2) with hB | hB
  · have hM : M = [] := by
      cases f with
      | zero => simpa [diskL] using i7.symm
      | succ f => rw [diskL, if_neg (by omega), if_pos hB] at i7; simpa using i7.symm
    have hE : E.dropLast ++ [(o : Int)] = E := by
      exact drop_last i5
    subst hM
    rw [List.append_nil] at i8
    rw [i9, i8]
    simp only [endsL, hE]
    repeat' (first
 | ((with_reducible refine all_byte ?_); intro z hz; (try simp only [Int.reduceToNat, Int.toNat_zero] at hz); (first | (rw [hb0] at hz; cases hz) | (rw [hb1] at hz; cases hz)); conv => whnf)
 | ((with_reducible apply w_num (code := .seq (.seq (.region 2 _ _) _) _) 3); (case hv => rfl); (case he => exact congrArg (fun n : Int => I n) ((or_at b0 b1).trans (congrArg (fun n : Nat => (n : Int)) hnum.symm))))
 | (with_reducible first | apply qz0 | (refine h0 _ _ ?_; clear h0 hw) | apply qz1 | apply qz2 | apply qz3 | apply qz4 | apply qz5 | apply qz6 | apply qz7 | apply qz8 | apply qza | apply qzb | apply qzc )
 | (with_reducible first | refine w_reg (by decide +kernel) fun K1 hK => ?_ )
 | ((with_reducible first | apply d_reg Try.mix (by decide +kernel) ); (case hm => simp only [List.length_cons, List.length_nil, Nat.reduceAdd, Nat.reduceMul]; rfl); (case' h => intro K1 hK))
 | with_reducible refine go_seq ?_
 | ((with_reducible first | apply v_op Try.tab | apply d_op Try.tab ) <;> first | (intro K' h0 hw; conv => whnf) | (simp only [Nat.reduceAdd, Nat.reduceMul]; rfl))
 | ((with_reducible apply v_nil); (case hm => (simp only [Nat.reduceAdd, Nat.reduceMul]; rfl)); (case' h => with_reducible refine hK _ ?_; clear hK))
 | ((with_reducible apply d_nil); (refine hK _ _ _ _ (by first | decide +kernel ) ?_; clear hK))
 | ((with_reducible apply go_cond); (case hb => rfl))
 | ((with_reducible apply And.intro); (case' right => try (conv => whnf)); (case' left => try first | rfl | decide | (simp [hts]; done) | (simp (disch := omega) [hts, wrp]; (try omega); done)))
 | ((with_reducible apply Side.mk); (try simp (disch := omega) only [wrp]); (try simp); (try simp (disch := omega) only [wrp]); (try omega))
 | (first | (guard_hyp g2; intro g3; try simp at g3) | (guard_hyp g1; intro g2; try simp at g2) | intro g1; try simp at g1))
    all_goals first | (exfalso; omega) | (exfalso; rw [hts, wrp (by omega) (by omega)] at g2; omega) | skip
    ((first | refine w_retO Try.tab [] (by rfl) (by simp) (by simp) (fun K' hL => ?_) ?_ ?_ ?_ | refine w_retO_end Try.tab [] (by rfl) (by simp) (by simp) (fun K' hL => ?_) ?_ ?_ ?_); (conv => whnf); (refine hL _ ?_; clear hL); all_goals simp)
  have w6 := wrp (n := (2 : Int) + (num s o 2 : Nat)) (by omega) (by omega)
  have w7 := wrp (n := ((s.size - o : Nat) : Int) - 2) (by omega) (by omega)
  have e3 : (tl s o).extract (Int.toNat 2) (IntKind.i64.wrap (2 + (num s o 2 : Nat))).toNat = mid s (o + 2) (num s o 2) := by
    rw [w6, show ((2 : Int) + (num s o 2 : Nat)).toNat = 2 + num s o 2 by omega]
    unfold tl mid
    apply ByteArray.ext
    simp only [ByteArray.data_extract, Array.extract_extract]
    congr 1
    omega
  have hms := mid_size (s := s) (o := o + 2) (k := num s o 2) (by omega)
  have hbt := oneX_bytes (mid s (o + 2) (num s o 2))
  have hfn : ∃ f', f = f' + 1 := by
    cases f with
    | zero => exfalso; omega
    | succ f => exact ⟨f, rfl⟩
  obtain ⟨f', rfl⟩ := hfn
  rw [diskL, if_neg (by omega), if_neg (by omega)] at i7
  obtain ⟨X, hX⟩ : ∃ X, X = oneX (mid s (o + 2) (num s o 2)) := ⟨_, rfl⟩
  have hO : PSpec Try.prog 153 [Tx ((tl s o).extract (Int.toNat 2) (IntKind.i64.wrap (2 + (num s o 2 : Nat))).toNat)] (.tup [.agg (rcC X.1), B X.2]) := by
    rw [e3, hX]; exact hone _ (by omega)
  rw [← hX] at i7 hbt
  rw [hms] at hbt
  by_cases hg : (X.2 && goesB (lastN L) X.1.n) = true
  · rw [if_pos hg] at i7
    obtain ⟨hg1, hg2⟩ := Bool.and_eq_true_iff.1 hg
    have hXn := hX ▸ oneX_n (s := mid s (o + 2) (num s o 2)) (by rw [← hX]; exact hg1)
    rw [hg1] at hO
    have hY := y_ok l k X.1 L E o h1 h2 h3 (by omega) (by omega) i3 hg2 i5 (by omega)
    repeat' (first
 | ((with_reducible refine all_byte ?_); intro z hz; (try simp only [Int.reduceToNat, Int.toNat_zero] at hz); (first | (rw [hb0] at hz; cases hz) | (rw [hb1] at hz; cases hz)); conv => whnf)
 | ((with_reducible apply w_num (code := .seq (.seq (.region 2 _ _) _) _) 3); (case hv => rfl); (case he => exact congrArg (fun n : Int => I n) ((or_at b0 b1).trans (congrArg (fun n : Nat => (n : Int)) hnum.symm))))
 | (with_reducible first | apply qz0 | (refine h0 _ _ ?_; clear h0 hw) | (refine hw _ _ _ ?_; clear h0 hw) | apply qz1 | apply qz2 | apply qz3 | apply qz4 | apply qz5 | apply qz6 | apply qz7 | apply qz8 | apply qz9 | apply qza | apply qzb | apply qzc )
 | (with_reducible first | refine w_reg (by decide +kernel) fun K1 hK => ?_ | refine w_reg_end (by decide +kernel) fun K1 hK => ?_)
 | ((with_reducible first | apply d_reg Try.mix (by decide +kernel) ); (case hm => simp only [List.length_cons, List.length_nil, Nat.reduceAdd, Nat.reduceMul]; rfl); (case' h => intro K1 hK))
 | with_reducible refine go_seq ?_
 | ((with_reducible first | apply v_op Try.tab | apply v_op0 Try.tab | apply d_op Try.tab ) <;> first | (intro K' h0 hw; conv => whnf) | (simp only [Nat.reduceAdd, Nat.reduceMul]; rfl))
 | ((with_reducible apply v_nil); (case hm => (simp only [Nat.reduceAdd, Nat.reduceMul]; rfl)); (case' h => with_reducible refine hK _ ?_; clear hK))
 | ((with_reducible apply d_nil); (refine hK _ _ _ _ (by first | decide +kernel ) ?_; clear hK))
 | (first | refine v_grd_yes (by rfl) (by rfl) ?_)
 | ((with_reducible refine callV_id (f := 153) ?_); (with_reducible apply callV_f own153 (hO)); (case hx => rfl); (case he => rfl); (case hle => first | ((repeat constructor); done) ); (case hpu => repeat constructor); (case' hK => conv => whnf))
 | ((with_reducible apply go_cond); (case hb => rfl))
 | ((with_reducible apply And.intro); (case' right => try (conv => whnf)); (case' left => try first | rfl | decide | (simp [hts]; done) | (simp (disch := omega) only [wrp]; omega) ))
 | ((with_reducible apply Side.mk); (try simp (disch := omega) only [wrp]); (try simp); (try simp (disch := omega) only [wrp]); (try omega))
 | ((with_reducible apply w_yield [1, 2, 3, 4, 5, 6, 7, 8] hY); (case hx => rfl); (case he => rfl); (case hle => first | ((repeat constructor); done) ); (case hm => rfl); (case hnd => decide); (case' hK => conv => whnf); (any_goals (simp; done)))
 | (first | (guard_hyp g2; intro g3; try simp at g3) | (guard_hyp g1; intro g2; try simp at g2) | intro g1; try simp at g1))
    · exfalso; rw [hts, w7] at g2; omega
    · have e4 : (tl s o).extract ((2 : Int) + (num s o 2 : Nat)).toNat (s.size - o) = tl s (o + 2 + num s o 2) := by
        rw [show ((2 : Int) + (num s o 2 : Nat)).toNat = 2 + num s o 2 by omega, ← hts, tl_tl, Nat.add_assoc]
      ((refine w_nx ((o + 2 + num s o 2, L ++ [X.1], E ++ [(o : Int) + X.1.bytes])) ?_ ?_ ?_ ?_ ?_ ?_); (case refine_1 => simp [hts, w6, e4]); (case refine_2 => simp [hts, w6, e4]); (case refine_3 => simp (disch := omega) [hts, w6, e4, wrp]); (case refine_4 => simp [hts, w6, e4]); (case refine_5 => first | (simp; omega) | (simp; done) | omega | (simp only; omega)); (case' refine_6 => (try simp only); (try exact trivial)))
      obtain ⟨M', hM'⟩ : ∃ M', diskL s f' (o + 2 + num s o 2) (some X.1.n) = some M' := by
        cases hq : diskL s f' (o + 2 + num s o 2) (some X.1.n) with
        | none => rw [hq] at i7; cases i7
        | some M' => exact ⟨M', rfl⟩
      rw [hM'] at i7
      have hM : M = X.1 :: M' := by simpa using i7.symm
      have hob : (o : Int) + X.1.bytes = ((o + 2 + num s o 2 : Nat) : Int) := by rw [hbt]; omega
      refine ⟨by simp only; omega, by simp only [List.length_append, List.length_cons, List.length_nil]; omega, fun y hy => ?_, by simp only [List.length_append, List.length_cons, List.length_nil]; omega, ?_, f', M', by simp only; omega, ?_, ?_, ?_⟩
      · rcases List.mem_append.1 hy with hy | hy
        · exact i3 y hy
        · rw [List.mem_singleton.1 hy]; exact hXn
      · simp only [hob]; exact List.getLast?_concat ..
      · simp only [lastN, List.getLast?_concat, Option.map_some]; exact hM'
      · simp only; rw [i8, hM]; simp
      · simp only
        rw [i9, hM, ends_snoc, hob, List.dropLast_concat, ← drop_last i5]
        simp
    · exfalso; omega
  · rw [if_neg hg] at i7; cases i7
structure RInvN (s : ByteArray) (x : Nat × List Rc × List Int) : Prop where
  le : x.1 ≤ s.size
  len : 2 * x.2.1.length ≤ x.1
  n : ∀ y ∈ x.2.1, 0 ≤ y.n ∧ y.n ≤ 100000
  el : x.2.2.length = x.2.1.length + 1
  last : x.2.2.getLast? = some (x.1 : Int)
  rest : ∃ f, s.size ≤ x.1 + f ∧ diskL s f x.1 (lastN x.2.1) = none
set_option maxHeartbeats 4000000 in
theorem c_recs_no (hone : OneSpec) (l : Nat) (k : LpS) (s : ByteArray) (hs : s.size ≤ 2000) (hd : diskL s s.size 0 none = none) (h1 : k.ps = #[18, 19]) (h2 : k.assign = rgA (rdF (Try.f58.body.getD .skip))) (h3 : k.body = rgB (rdF (Try.f58.body.getD .skip))) :
    CSpec Try.prog 152 [.fn (.yield l) [] [], .ptr 0 0] (.box [Tx s] :: obI l k [] [0]) (.tup []) (.gone :: obIx l k) := by
  refine v_cspec Try.func152 rfl Try.ntmps152 Try.results152 (by simp) (k := 9) rfl ?_
  repeat' (first
 | (with_reducible first | apply qz0 | apply qz3 )
 )
  refine w_loop (X := Nat × List Rc × List Int) [3, 4, 5, 6, 7, 8, 9, 10, 11, 12, 13, 14, 15, 16, 17, 18, 19, 20, 21, 22, 23, 24, 25, 26, 27, 28, 29, 30, 31, 32, 33, 34, 35, 36, 37, 38, 39, 40, 41, 42] (fun _ => []) (fun x => [(0, .box [Tx (tl s x.1)]), (1, .box [.osl 2 3 (rowR x.2.1)]), (2, .perm 108 3 x.2.1.length), (3, .box [.osl 4 1 (rowN x.2.2)]), (4, .perm 3 1 x.2.2.length), (5, .raw l (.lp .ready none k) (tmR 6 7 8 1 3)), (6, .box [.s (.slice none 0 0)]), (7, .box [.s (.slice none 0 0)]), (8, .box [I 0])]) (RInvN s) (fun x => s.size - x.1) (0, [], [0]) ?_ ?_ ?_
  · exact ⟨Nat.zero_le _, Nat.zero_le _, fun y hy => (by cases hy), rfl, rfl, s.size, by simp, hd⟩
  · refine ⟨kt_refl, ko_refl, ?_, ?_, ?_, ?_, Nat.le_refl _⟩ <;> simp [tl_zero]
  rintro ⟨o, L, E⟩ ⟨i1, i2, i3, i4, i5, f, i6, i7⟩
  simp only at i1 i2 i3 i4 i5 i6 i7
  have hts := tl_size s o
  rcases Nat.lt_or_ge s.size (o + 2) with hA | hA
  · exfalso
    cases f with
    | zero => simp [diskL] at i7
    | succ f => rw [diskL, if_pos hA] at i7; cases i7
  obtain ⟨b0, hb0, hc0⟩ := tl_at s o 0 (by omega)
  obtain ⟨b1, hb1, hc1⟩ := tl_at s o 1 (by omega)
  have hnum := num2 (o := o) hc0 hc1
  rcases Nat.lt_or_ge s.size (o + 2 + num s o 2) with hB | hB
  · exfalso
    cases f with
    | zero => simp [diskL] at i7
    | succ f => rw [diskL, if_neg (by omega), if_pos hB] at i7; cases i7
  have w6 := wrp (n := (2 : Int) + (num s o 2 : Nat)) (by omega) (by omega)
  have w7 := wrp (n := ((s.size - o : Nat) : Int) - 2) (by omega) (by omega)
  have e3 : (tl s o).extract (Int.toNat 2) (IntKind.i64.wrap (2 + (num s o 2 : Nat))).toNat = mid s (o + 2) (num s o 2) := by
    rw [w6, show ((2 : Int) + (num s o 2 : Nat)).toNat = 2 + num s o 2 by omega]
    unfold tl mid
    apply ByteArray.ext
    simp only [ByteArray.data_extract, Array.extract_extract]
    congr 1
    omega
  have hms := mid_size (s := s) (o := o + 2) (k := num s o 2) (by omega)
  have hbt := oneX_bytes (mid s (o + 2) (num s o 2))
  have hfn : ∃ f', f = f' + 1 := by
    cases f with
    | zero => exfalso; omega
    | succ f => exact ⟨f, rfl⟩
  obtain ⟨f', rfl⟩ := hfn
  rw [diskL, if_neg (by omega), if_neg (by omega)] at i7
  obtain ⟨X, hX⟩ : ∃ X, X = oneX (mid s (o + 2) (num s o 2)) := ⟨_, rfl⟩
  have hO : PSpec Try.prog 153 [Tx ((tl s o).extract (Int.toNat 2) (IntKind.i64.wrap (2 + (num s o 2 : Nat))).toNat)] (.tup [.agg (rcC X.1), B X.2]) := by
    rw [e3, hX]; exact hone _ (by omega)
  rw [← hX] at i7 hbt
  rw [hms] at hbt
  by_cases hg : (X.2 && goesB (lastN L) X.1.n) = true
  · rw [if_pos hg] at i7
    obtain ⟨hg1, hg2⟩ := Bool.and_eq_true_iff.1 hg
    have hXn := hX ▸ oneX_n (s := mid s (o + 2) (num s o 2)) (by rw [← hX]; exact hg1)
    rw [hg1] at hO
    have hY := y_ok l k X.1 L E o h1 h2 h3 (by omega) (by omega) i3 hg2 i5 (by omega)
    repeat' (first
 | ((with_reducible refine all_byte ?_); intro z hz; (try simp only [Int.reduceToNat, Int.toNat_zero] at hz); (first | (rw [hb0] at hz; cases hz) | (rw [hb1] at hz; cases hz)); conv => whnf)
 | ((with_reducible apply w_num (code := .seq (.seq (.region 2 _ _) _) _) 3); (case hv => rfl); (case he => exact congrArg (fun n : Int => I n) ((or_at b0 b1).trans (congrArg (fun n : Nat => (n : Int)) hnum.symm))))
 | (with_reducible first | apply qz0 | (refine h0 _ _ ?_; clear h0 hw) | (refine hw _ _ _ ?_; clear h0 hw) | apply qz1 | apply qz2 | apply qz3 | apply qz4 | apply qz5 | apply qz6 | apply qz7 | apply qz8 | apply qz9 | apply qza | apply qzb | apply qzc )
 | (with_reducible first | refine w_reg (by decide +kernel) fun K1 hK => ?_ | refine w_reg_end (by decide +kernel) fun K1 hK => ?_)
 | ((with_reducible first | apply d_reg Try.mix (by decide +kernel) ); (case hm => simp only [List.length_cons, List.length_nil, Nat.reduceAdd, Nat.reduceMul]; rfl); (case' h => intro K1 hK))
 | with_reducible refine go_seq ?_
 | ((with_reducible first | apply v_op Try.tab | apply v_op0 Try.tab | apply d_op Try.tab ) <;> first | (intro K' h0 hw; conv => whnf) | (simp only [Nat.reduceAdd, Nat.reduceMul]; rfl))
 | ((with_reducible apply v_nil); (case hm => (simp only [Nat.reduceAdd, Nat.reduceMul]; rfl)); (case' h => with_reducible refine hK _ ?_; clear hK))
 | ((with_reducible apply d_nil); (refine hK _ _ _ _ (by first | decide +kernel ) ?_; clear hK))
 | (first | refine v_grd_yes (by rfl) (by rfl) ?_)
 | ((with_reducible refine callV_id (f := 153) ?_); (with_reducible apply callV_f own153 (hO)); (case hx => rfl); (case he => rfl); (case hle => first | ((repeat constructor); done) ); (case hpu => repeat constructor); (case' hK => conv => whnf))
 | ((with_reducible apply go_cond); (case hb => rfl))
 | ((with_reducible apply And.intro); (case' right => try (conv => whnf)); (case' left => try first | rfl | decide | (simp [hts]; done) | (simp (disch := omega) only [wrp]; omega) ))
 | ((with_reducible apply Side.mk); (try simp (disch := omega) only [wrp]); (try simp); (try simp (disch := omega) only [wrp]); (try omega))
 | ((with_reducible apply w_yield [1, 2, 3, 4, 5, 6, 7, 8] hY); (case hx => rfl); (case he => rfl); (case hle => first | ((repeat constructor); done) ); (case hm => rfl); (case hnd => decide); (case' hK => conv => whnf); (any_goals (simp; done)))
 | (first | (guard_hyp g2; intro g3; try simp at g3) | (guard_hyp g1; intro g2; try simp at g2) | intro g1; try simp at g1))
    · exfalso; rw [hts, w7] at g2; omega
    · have e4 : (tl s o).extract ((2 : Int) + (num s o 2 : Nat)).toNat (s.size - o) = tl s (o + 2 + num s o 2) := by
        rw [show ((2 : Int) + (num s o 2 : Nat)).toNat = 2 + num s o 2 by omega, ← hts, tl_tl, Nat.add_assoc]
      ((refine w_nx ((o + 2 + num s o 2, L ++ [X.1], E ++ [(o : Int) + X.1.bytes])) ?_ ?_ ?_ ?_ ?_ ?_); (case refine_1 => simp [hts, w6, e4]); (case refine_2 => simp [hts, w6, e4]); (case refine_3 => simp (disch := omega) [hts, w6, e4, wrp]); (case refine_4 => simp [hts, w6, e4]); (case refine_5 => first | (simp; omega) | (simp; done) | omega | (simp only; omega)); (case' refine_6 => (try simp only); (try exact trivial)))
      have hM' : diskL s f' (o + 2 + num s o 2) (some X.1.n) = none := by
        cases hq : diskL s f' (o + 2 + num s o 2) (some X.1.n) with
        | none => rfl
        | some M' => rw [hq] at i7; cases i7
      have hob : (o : Int) + X.1.bytes = ((o + 2 + num s o 2 : Nat) : Int) := by rw [hbt]; omega
      refine ⟨by simp only; omega, by simp only [List.length_append, List.length_cons, List.length_nil]; omega, fun y hy => ?_, by simp only [List.length_append, List.length_cons, List.length_nil]; omega, ?_, f', by simp only; omega, ?_⟩
      · rcases List.mem_append.1 hy with hy | hy
        · exact i3 y hy
        · rw [List.mem_singleton.1 hy]; exact hXn
      · simp only [hob]; exact List.getLast?_concat ..
      · simp only [lastN, List.getLast?_concat, Option.map_some]; exact hM'
    · exfalso; omega
  · have hY := y_no l k X.1 X.2 L E h1 h2 h3 (by omega) i3 (by simpa using hg)
    repeat' (first
 | ((with_reducible refine all_byte ?_); intro z hz; (try simp only [Int.reduceToNat, Int.toNat_zero] at hz); (first | (rw [hb0] at hz; cases hz) | (rw [hb1] at hz; cases hz)); conv => whnf)
 | ((with_reducible apply w_num (code := .seq (.seq (.region 2 _ _) _) _) 3); (case hv => rfl); (case he => exact congrArg (fun n : Int => I n) ((or_at b0 b1).trans (congrArg (fun n : Nat => (n : Int)) hnum.symm))))
 | (with_reducible first | apply qz0 | (refine h0 _ _ ?_; clear h0 hw) | (refine hw _ _ _ ?_; clear h0 hw) | apply qz1 | apply qz2 | apply qz3 | apply qz4 | apply qz5 | apply qz6 | apply qz7 | apply qz8 | apply qza | apply qzb | apply qzc )
 | (with_reducible first | refine w_reg (by decide +kernel) fun K1 hK => ?_ )
 | ((with_reducible first | apply d_reg Try.mix (by decide +kernel) ); (case hm => simp only [List.length_cons, List.length_nil, Nat.reduceAdd, Nat.reduceMul]; rfl); (case' h => intro K1 hK))
 | with_reducible refine go_seq ?_
 | ((with_reducible first | apply v_op Try.tab | apply v_op0 Try.tab | apply d_op Try.tab ) <;> first | (intro K' h0 hw; conv => whnf) | (simp only [Nat.reduceAdd, Nat.reduceMul]; rfl))
 | ((with_reducible apply v_nil); (case hm => (simp only [Nat.reduceAdd, Nat.reduceMul]; rfl)); (case' h => with_reducible refine hK _ ?_; clear hK))
 | ((with_reducible apply d_nil); (refine hK _ _ _ _ (by first | decide +kernel ) ?_; clear hK))
 | ((first | (apply v_grd_no; (case hg => rfl); (case hb => rfl)) ); (case hi => (simp only [Nat.reduceAdd, Nat.reduceMul]; rfl)))
 | ((with_reducible refine callV_id (f := 153) ?_); (with_reducible apply callV_f own153 (hO)); (case hx => rfl); (case he => rfl); (case hle => first | ((repeat constructor); done) ); (case hpu => repeat constructor); (case' hK => conv => whnf))
 | ((with_reducible apply go_cond); (case hb => rfl))
 | ((with_reducible apply And.intro); (case' right => try (conv => whnf)); (case' left => try first | rfl | decide | (simp [hts]; done) | (simp (disch := omega) only [wrp]; omega) ))
 | ((with_reducible apply Side.mk); (try simp (disch := omega) only [wrp]); (try simp); (try simp (disch := omega) only [wrp]); (try omega))
 | ((with_reducible apply w_yield [1, 2, 3, 4, 5, 6, 7, 8] hY); (case hx => rfl); (case he => rfl); (case hle => first | ((repeat constructor); done) ); (case hm => rfl); (case hnd => decide); (case' hK => conv => whnf); (any_goals (simp; done)))
 | (first | (guard_hyp g2; intro g3; try simp at g3) | (guard_hyp g1; intro g2; try simp at g2) | intro g1; try simp at g1))
    · exfalso; rw [hts, w7] at g2; omega
    · ((first | refine w_retO Try.tab [] (by rfl) (by simp) (by simp) (fun K' hL => ?_) ?_ ?_ ?_ | refine w_retO_end Try.tab [] (by rfl) (by simp) (by simp) (fun K' hL => ?_) ?_ ?_ ?_); (conv => whnf); (refine hL _ ?_; clear hL); all_goals simp)
    · exfalso; omega
end Go.Proofs.Ytbhcjgobapnajaa

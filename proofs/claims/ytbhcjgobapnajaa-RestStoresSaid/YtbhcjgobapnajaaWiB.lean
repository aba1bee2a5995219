/- Walks of wire.Encode, and of the document's packets. No condition. -/
import Derived.Test.YtbhcjgobapnajaaWiA
section
namespace Go.Proofs.Ytbhcjgobapnajaa
open Go Go.Sy
set_option maxRecDepth 4000
set_option linter.unusedSimpArgs false
set_option linter.unusedVariables false
attribute [local irreducible] Reg RegD Later Out CallV Tri Side EqV
def beN (n : Int) : Nat → ByteArray
  | 0 => ByteArray.empty
  | k + 1 => beN (n / 256) k ++ strOfNums [n % 256]
theorem beN_size : ∀ (k : Nat) (n : Int), (beN n k).size = k
  | 0, _ => rfl
  | k + 1, n => by rw [beN, ByteArray.size_append, beN_size k, strOfNums_size]; rfl
theorem strAdd {a b : ByteArray} (h : a.size + b.size ≤ 9223372036854775807) : strOp .add a b = some (.string (a ++ b)) := if_pos h
theorem u8_wrap {n : Int} (h : 0 ≤ n) : IntKind.u8.wrap n = n % 256 := by
  unfold IntKind.wrap
  simp [IntKind.bits]
  intro h9
  exact absurd h9 (by decide)
end Go.Proofs.Ytbhcjgobapnajaa
end
section
namespace Go.Proofs.Ytbhcjgobapnajaa
open Go Go.Sy
set_option maxRecDepth 4000
set_option linter.unusedSimpArgs false
set_option linter.unusedVariables false
attribute [local irreducible] Reg RegD Later Out CallV Tri Side EqV
abbrev u8 (n : Int) : AV := .s (.int .u8 n)
theorem shr_byte {n : Int} {i : Nat} (h0 : 0 ≤ n) (hi : i ≤ 3) : IntKind.u8.wrap (n.fdiv (2 ^ min (IntKind.i64.wrap (8 * (i : Int))).toNat IntKind.i64.bits)) = n / 256 ^ i % 256 := by
  have h1 : (2 : Int) ^ min (IntKind.i64.wrap (8 * (i : Int))).toNat IntKind.i64.bits = 256 ^ i := by
    match i, hi with
    | 0, _ => decide
    | 1, _ => decide
    | 2, _ => decide
    | 3, _ => decide
  rw [h1, Int.fdiv_eq_ediv_of_nonneg _ (by exact Int.le_of_lt (Int.pow_pos (by omega))), u8_wrap (Int.ediv_nonneg h0 (by exact Int.le_of_lt (Int.pow_pos (by omega))))]
theorem strOfNums_app (a b : List Int) : strOfNums (a ++ b) = strOfNums a ++ strOfNums b := by
  apply ByteArray.ext
  simp [strOfNums, ByteArray.data_append]
theorem beN_1 (n : Int) : beN n 1 = strOfNums [n / 256 ^ 0 % 256] := by
  have h0 : beN (n / 256) 0 = strOfNums [] := rfl
  rw [beN, h0, ← strOfNums_app]; simp
theorem beN_2 (n : Int) : beN n 2 = strOfNums [n / 256 ^ 1 % 256, n / 256 ^ 0 % 256] := by
  rw [beN, beN_1, ← strOfNums_app]; simp
theorem beN_4 (n : Int) : beN n 4 = strOfNums [n / 256 ^ 3 % 256, n / 256 ^ 2 % 256, n / 256 ^ 1 % 256, n / 256 ^ 0 % 256] := by
  rw [beN, beN, beN_2, ← strOfNums_app, ← strOfNums_app]
  have e1 : n / 256 / 256 / 256 ^ 1 = n / 256 ^ 3 := by omega
  have e2 : n / 256 / 256 / 256 ^ 0 = n / 256 ^ 2 := by omega
  rw [e1, e2]; simp
theorem q0 : IntKind.i64.wrap 0 = 0 := by decide
theorem q1 : IntKind.i64.wrap 1 = 1 := by decide
theorem q2 : IntKind.i64.wrap 2 = 2 := by decide
theorem q3 : IntKind.i64.wrap 3 = 3 := by decide
def cellN (n : Int) (i j : Nat) : Int := if j < i then n / 256 ^ j % 256 else 0
set_option maxHeartbeats 2000000 in
theorem c_number1 (n : Int) (h0 : 0 ≤ n) : PSpec Try.prog 118 [I n, I 1] (Tx (beN n 1)) := by
  have b0 := shr_byte (n := n) (i := 0) h0 (by omega)
  simp [q0] at b0
  rw [beN_1]
  refine v_pspec Try.func118 rfl Try.ntmps118 Try.results118 (by simp) (by first | exact .s _ | repeat constructor) ?_
  repeat' (first
 | (with_reducible first | apply qz0 | (refine h0 _ _ ?_; clear h0 hw) | (refine hw _ _ _ ?_; clear h0 hw) | apply qz3 )
 | (with_reducible first | refine w_reg (by decide +kernel) fun K1 hK => ?_ )
 | with_reducible refine go_seq ?_
 | ((with_reducible first | apply v_op Try.tab ) <;> first | (intro K' h0 hw; conv => whnf) | (simp only [Nat.reduceAdd, Nat.reduceMul]; rfl))
 | ((with_reducible apply v_nil); (case hm => (simp only [Nat.reduceAdd, Nat.reduceMul]; rfl)); (case' h => with_reducible refine hK _ ?_; clear hK))
 | ((with_reducible apply And.intro); (case' right => try (conv => whnf)); (case' left => try first | rfl ))
 | ((with_reducible apply Side.mk); (try simp (disch := omega) only [wrp]); (try simp); (try simp (disch := omega) only [wrp]); (try omega))
 )
  refine w_loop (X := Nat) [6, 11, 12, 13, 14, 15, 16, 17, 18, 19, 20, 21, 22, 23, 24, 25] (fun i => [(11, I i)]) (fun i => [(32, .box [u8 (cellN n i 0)])]) (fun i => i ≤ 1) (fun i => 1 - i) 0 (by simp) ?_ ?_
  · refine ⟨kt_refl, ko_refl, ?_, ?_, ?_, ?_, Nat.le_refl _⟩ <;> simp [cellN]
  intro i hi
  match i, hi with
  | 0, _ =>
    repeat' (first
 | (with_reducible first | apply qz0 | (refine h0 _ _ ?_; clear h0 hw) | (refine hw _ _ _ ?_; clear h0 hw) | apply qz2 | apply qz3 | apply qz6 | apply qz9 )
 | (with_reducible first | refine w_reg (by decide +kernel) fun K1 hK => ?_ | refine w_reg_end (by decide +kernel) fun K1 hK => ?_)
 | with_reducible refine go_seq ?_
 | ((with_reducible first | apply v_op Try.tab | apply v_op0 Try.tab) <;> first | (intro K' h0 hw; conv => whnf) | (simp only [Nat.reduceAdd, Nat.reduceMul]; rfl))
 | ((with_reducible apply v_nil); (case hm => (simp only [Nat.reduceAdd, Nat.reduceMul]; rfl)); (case' h => with_reducible refine hK _ ?_; clear hK))
 | ((with_reducible apply go_cond); (case hb => rfl))
 | ((with_reducible apply And.intro); (case' right => try (conv => whnf)); (case' left => try first | rfl | (simp (disch := omega) [wrp]; (try omega); done)))
 | ((with_reducible apply Side.mk); (try simp (disch := omega) only [wrp]); (try simp); (try simp (disch := omega) only [wrp]); (try omega))
 | (first  | intro g1; try simp at g1))
    ((refine w_nx (1) ?_ ?_ ?_ ?_ ?_ ?_); (case refine_1 => simp [b0, cellN, q0, q1, q2, q3]); (case refine_2 => simp [b0, cellN, q0, q1, q2, q3]); (case refine_3 => simp (disch := omega) [b0, cellN, q0, q1, q2, q3, wrp]); (case refine_4 => simp [b0, cellN, q0, q1, q2, q3]); (case refine_5 => first | (simp; omega) | (simp; done) | omega | (simp only; omega)); (case' refine_6 => (try simp only); (try exact trivial)))
    decide
  | 1, _ =>
    repeat' (first
 | (with_reducible first | apply qz0 | (refine h0 _ _ ?_; clear h0 hw) | apply qz1 | apply qz4 | apply qz6 | apply qz7 | apply qza | apply qzc | (refine hL _ ?_; clear hL))
 | (with_reducible first | refine w_reg (by decide +kernel) fun K1 hK => ?_ )
 | with_reducible refine go_seq ?_
 | ((with_reducible first | apply v_op Try.tab ) <;> first | (intro K' h0 hw; conv => whnf) | (simp only [Nat.reduceAdd, Nat.reduceMul]; rfl))
 | ((with_reducible apply v_nil); (case hm => (simp only [Nat.reduceAdd, Nat.reduceMul]; rfl)); (case' h => with_reducible refine hK _ ?_; clear hK))
 | ((with_reducible apply go_cond); (case hb => rfl))
 | ((with_reducible first | refine w_ret Try.tab fun K' hL => ?_ ); (conv => whnf))
 | ((with_reducible apply And.intro); (case' right => try (conv => whnf)); (case' left => try first | rfl ))
 | ((with_reducible apply Side.mk); (try simp (disch := omega) only [wrp]); (try simp); (try simp (disch := omega) only [wrp]); (try omega))
 | (first  | intro g1; try simp at g1))
    all_goals (try (exfalso; omega))
    exact le_of_eq (by simp [cellN])
set_option maxHeartbeats 2000000 in
theorem c_number2 (n : Int) (h0 : 0 ≤ n) : PSpec Try.prog 118 [I n, I 2] (Tx (beN n 2)) := by
  have b0 := shr_byte (n := n) (i := 0) h0 (by omega)
  simp [q0] at b0
  have b1 := shr_byte (n := n) (i := 1) h0 (by omega)
  simp [q0] at b1
  rw [beN_2]
  refine v_pspec Try.func118 rfl Try.ntmps118 Try.results118 (by simp) (by first | exact .s _ | repeat constructor) ?_
  repeat' (first
 | (with_reducible first | apply qz0 | (refine h0 _ _ ?_; clear h0 hw) | (refine hw _ _ _ ?_; clear h0 hw) | apply qz3 )
 | (with_reducible first | refine w_reg (by decide +kernel) fun K1 hK => ?_ )
 | with_reducible refine go_seq ?_
 | ((with_reducible first | apply v_op Try.tab ) <;> first | (intro K' h0 hw; conv => whnf) | (simp only [Nat.reduceAdd, Nat.reduceMul]; rfl))
 | ((with_reducible apply v_nil); (case hm => (simp only [Nat.reduceAdd, Nat.reduceMul]; rfl)); (case' h => with_reducible refine hK _ ?_; clear hK))
 | ((with_reducible apply And.intro); (case' right => try (conv => whnf)); (case' left => try first | rfl ))
 | ((with_reducible apply Side.mk); (try simp (disch := omega) only [wrp]); (try simp); (try simp (disch := omega) only [wrp]); (try omega))
 )
  refine w_loop (X := Nat) [6, 11, 12, 13, 14, 15, 16, 17, 18, 19, 20, 21, 22, 23, 24, 25] (fun i => [(11, I i)]) (fun i => [(32, .box [u8 (cellN n i 1), u8 (cellN n i 0)])]) (fun i => i ≤ 2) (fun i => 2 - i) 0 (by simp) ?_ ?_
  · refine ⟨kt_refl, ko_refl, ?_, ?_, ?_, ?_, Nat.le_refl _⟩ <;> simp [cellN]
  intro i hi
  match i, hi with
  | 0, _ =>
    repeat' (first
 | (with_reducible first | apply qz0 | (refine h0 _ _ ?_; clear h0 hw) | (refine hw _ _ _ ?_; clear h0 hw) | apply qz2 | apply qz3 | apply qz6 | apply qz9 )
 | (with_reducible first | refine w_reg (by decide +kernel) fun K1 hK => ?_ | refine w_reg_end (by decide +kernel) fun K1 hK => ?_)
 | with_reducible refine go_seq ?_
 | ((with_reducible first | apply v_op Try.tab | apply v_op0 Try.tab) <;> first | (intro K' h0 hw; conv => whnf) | (simp only [Nat.reduceAdd, Nat.reduceMul]; rfl))
 | ((with_reducible apply v_nil); (case hm => (simp only [Nat.reduceAdd, Nat.reduceMul]; rfl)); (case' h => with_reducible refine hK _ ?_; clear hK))
 | ((with_reducible apply go_cond); (case hb => rfl))
 | ((with_reducible apply And.intro); (case' right => try (conv => whnf)); (case' left => try first | rfl | (simp (disch := omega) [wrp]; (try omega); done)))
 | ((with_reducible apply Side.mk); (try simp (disch := omega) only [wrp]); (try simp); (try simp (disch := omega) only [wrp]); (try omega))
 | (first  | intro g1; try simp at g1))
    ((refine w_nx (1) ?_ ?_ ?_ ?_ ?_ ?_); (case refine_1 => simp [b0, cellN, q0, q1, q2, q3]); (case refine_2 => simp [b0, cellN, q0, q1, q2, q3]); (case refine_3 => simp (disch := omega) [b0, cellN, q0, q1, q2, q3, wrp]); (case refine_4 => simp [b0, cellN, q0, q1, q2, q3]); (case refine_5 => first | (simp; omega) | (simp; done) | omega | (simp only; omega)); (case' refine_6 => (try simp only); (try exact trivial)))
    decide
  | 1, _ =>
    repeat' (first
 | (with_reducible first | apply qz0 | (refine h0 _ _ ?_; clear h0 hw) | (refine hw _ _ _ ?_; clear h0 hw) | apply qz2 | apply qz3 | apply qz6 | apply qz9 )
 | (with_reducible first | refine w_reg (by decide +kernel) fun K1 hK => ?_ | refine w_reg_end (by decide +kernel) fun K1 hK => ?_)
 | with_reducible refine go_seq ?_
 | ((with_reducible first | apply v_op Try.tab | apply v_op0 Try.tab) <;> first | (intro K' h0 hw; conv => whnf) | (simp only [Nat.reduceAdd, Nat.reduceMul]; rfl))
 | ((with_reducible apply v_nil); (case hm => (simp only [Nat.reduceAdd, Nat.reduceMul]; rfl)); (case' h => with_reducible refine hK _ ?_; clear hK))
 | ((with_reducible apply go_cond); (case hb => rfl))
 | ((with_reducible apply And.intro); (case' right => try (conv => whnf)); (case' left => try first | rfl | (simp (disch := omega) [wrp]; (try omega); done)))
 | ((with_reducible apply Side.mk); (try simp (disch := omega) only [wrp]); (try simp); (try simp (disch := omega) only [wrp]); (try omega))
 | (first  | intro g1; try simp at g1))
    ((refine w_nx (2) ?_ ?_ ?_ ?_ ?_ ?_); (case refine_1 => simp [b1, cellN, q0, q1, q2, q3]); (case refine_2 => simp [b1, cellN, q0, q1, q2, q3]); (case refine_3 => simp (disch := omega) [b1, cellN, q0, q1, q2, q3, wrp]); (case refine_4 => simp [b1, cellN, q0, q1, q2, q3]); (case refine_5 => first | (simp; omega) | (simp; done) | omega | (simp only; omega)); (case' refine_6 => (try simp only); (try exact trivial)))
    decide
  | 2, _ =>
    repeat' (first
 | (with_reducible first | apply qz0 | (refine h0 _ _ ?_; clear h0 hw) | apply qz1 | apply qz4 | apply qz6 | apply qz7 | apply qza | apply qzc | (refine hL _ ?_; clear hL))
 | (with_reducible first | refine w_reg (by decide +kernel) fun K1 hK => ?_ )
 | with_reducible refine go_seq ?_
 | ((with_reducible first | apply v_op Try.tab ) <;> first | (intro K' h0 hw; conv => whnf) | (simp only [Nat.reduceAdd, Nat.reduceMul]; rfl))
 | ((with_reducible apply v_nil); (case hm => (simp only [Nat.reduceAdd, Nat.reduceMul]; rfl)); (case' h => with_reducible refine hK _ ?_; clear hK))
 | ((with_reducible apply go_cond); (case hb => rfl))
 | ((with_reducible first | refine w_ret Try.tab fun K' hL => ?_ ); (conv => whnf))
 | ((with_reducible apply And.intro); (case' right => try (conv => whnf)); (case' left => try first | rfl ))
 | ((with_reducible apply Side.mk); (try simp (disch := omega) only [wrp]); (try simp); (try simp (disch := omega) only [wrp]); (try omega))
 | (first  | intro g1; try simp at g1))
    all_goals (try (exfalso; omega))
    exact le_of_eq (by simp [cellN])
set_option maxHeartbeats 2000000 in
theorem c_number4 (n : Int) (h0 : 0 ≤ n) : PSpec Try.prog 118 [I n, I 4] (Tx (beN n 4)) := by
  have b0 := shr_byte (n := n) (i := 0) h0 (by omega)
  simp [q0] at b0
  have b1 := shr_byte (n := n) (i := 1) h0 (by omega)
  simp [q0] at b1
  have b2 := shr_byte (n := n) (i := 2) h0 (by omega)
  simp [q0] at b2
  have b3 := shr_byte (n := n) (i := 3) h0 (by omega)
  simp [q0] at b3
  rw [beN_4]
  refine v_pspec Try.func118 rfl Try.ntmps118 Try.results118 (by simp) (by first | exact .s _ | repeat constructor) ?_
  repeat' (first
 | (with_reducible first | apply qz0 | (refine h0 _ _ ?_; clear h0 hw) | (refine hw _ _ _ ?_; clear h0 hw) | apply qz3 )
 | (with_reducible first | refine w_reg (by decide +kernel) fun K1 hK => ?_ )
 | with_reducible refine go_seq ?_
 | ((with_reducible first | apply v_op Try.tab ) <;> first | (intro K' h0 hw; conv => whnf) | (simp only [Nat.reduceAdd, Nat.reduceMul]; rfl))
 | ((with_reducible apply v_nil); (case hm => (simp only [Nat.reduceAdd, Nat.reduceMul]; rfl)); (case' h => with_reducible refine hK _ ?_; clear hK))
 | ((with_reducible apply And.intro); (case' right => try (conv => whnf)); (case' left => try first | rfl ))
 | ((with_reducible apply Side.mk); (try simp (disch := omega) only [wrp]); (try simp); (try simp (disch := omega) only [wrp]); (try omega))
 )
  refine w_loop (X := Nat) [6, 11, 12, 13, 14, 15, 16, 17, 18, 19, 20, 21, 22, 23, 24, 25] (fun i => [(11, I i)]) (fun i => [(32, .box [u8 (cellN n i 3), u8 (cellN n i 2), u8 (cellN n i 1), u8 (cellN n i 0)])]) (fun i => i ≤ 4) (fun i => 4 - i) 0 (by simp) ?_ ?_
  · refine ⟨kt_refl, ko_refl, ?_, ?_, ?_, ?_, Nat.le_refl _⟩ <;> simp [cellN]
  intro i hi
  match i, hi with
  | 0, _ =>
    repeat' (first
 | (with_reducible first | apply qz0 | (refine h0 _ _ ?_; clear h0 hw) | (refine hw _ _ _ ?_; clear h0 hw) | apply qz2 | apply qz3 | apply qz6 | apply qz9 )
 | (with_reducible first | refine w_reg (by decide +kernel) fun K1 hK => ?_ | refine w_reg_end (by decide +kernel) fun K1 hK => ?_)
 | with_reducible refine go_seq ?_
 | ((with_reducible first | apply v_op Try.tab | apply v_op0 Try.tab) <;> first | (intro K' h0 hw; conv => whnf) | (simp only [Nat.reduceAdd, Nat.reduceMul]; rfl))
 | ((with_reducible apply v_nil); (case hm => (simp only [Nat.reduceAdd, Nat.reduceMul]; rfl)); (case' h => with_reducible refine hK _ ?_; clear hK))
 | ((with_reducible apply go_cond); (case hb => rfl))
 | ((with_reducible apply And.intro); (case' right => try (conv => whnf)); (case' left => try first | rfl | (simp (disch := omega) [wrp]; (try omega); done)))
 | ((with_reducible apply Side.mk); (try simp (disch := omega) only [wrp]); (try simp); (try simp (disch := omega) only [wrp]); (try omega))
 | (first  | intro g1; try simp at g1))
    ((refine w_nx (1) ?_ ?_ ?_ ?_ ?_ ?_); (case refine_1 => simp [b0, cellN, q0, q1, q2, q3]); (case refine_2 => simp [b0, cellN, q0, q1, q2, q3]); (case refine_3 => simp (disch := omega) [b0, cellN, q0, q1, q2, q3, wrp]); (case refine_4 => simp [b0, cellN, q0, q1, q2, q3]); (case refine_5 => first | (simp; omega) | (simp; done) | omega | (simp only; omega)); (case' refine_6 => (try simp only); (try exact trivial)))
    decide
  | 1, _ =>
    repeat' (first
 | (with_reducible first | apply qz0 | (refine h0 _ _ ?_; clear h0 hw) | (refine hw _ _ _ ?_; clear h0 hw) | apply qz2 | apply qz3 | apply qz6 | apply qz9 )
 | (with_reducible first | refine w_reg (by decide +kernel) fun K1 hK => ?_ | refine w_reg_end (by decide +kernel) fun K1 hK => ?_)
 | with_reducible refine go_seq ?_
 | ((with_reducible first | apply v_op Try.tab | apply v_op0 Try.tab) <;> first | (intro K' h0 hw; conv => whnf) | (simp only [Nat.reduceAdd, Nat.reduceMul]; rfl))
 | ((with_reducible apply v_nil); (case hm => (simp only [Nat.reduceAdd, Nat.reduceMul]; rfl)); (case' h => with_reducible refine hK _ ?_; clear hK))
 | ((with_reducible apply go_cond); (case hb => rfl))
 | ((with_reducible apply And.intro); (case' right => try (conv => whnf)); (case' left => try first | rfl | (simp (disch := omega) [wrp]; (try omega); done)))
 | ((with_reducible apply Side.mk); (try simp (disch := omega) only [wrp]); (try simp); (try simp (disch := omega) only [wrp]); (try omega))
 | (first  | intro g1; try simp at g1))
    ((refine w_nx (2) ?_ ?_ ?_ ?_ ?_ ?_); (case refine_1 => simp [b1, cellN, q0, q1, q2, q3]); (case refine_2 => simp [b1, cellN, q0, q1, q2, q3]); (case refine_3 => simp (disch := omega) [b1, cellN, q0, q1, q2, q3, wrp]); (case refine_4 => simp [b1, cellN, q0, q1, q2, q3]); (case refine_5 => first | (simp; omega) | (simp; done) | omega | (simp only; omega)); (case' refine_6 => (try simp only); (try exact trivial)))
    decide
  | 2, _ =>
    repeat' (first
 | (with_reducible first | apply qz0 | (refine h0 _ _ ?_; clear h0 hw) | (refine hw _ _ _ ?_; clear h0 hw) | apply qz2 | apply qz3 | apply qz6 | apply qz9 )
 | (with_reducible first | refine w_reg (by decide +kernel) fun K1 hK => ?_ | refine w_reg_end (by decide +kernel) fun K1 hK => ?_)
 | with_reducible refine go_seq ?_
 | ((with_reducible first | apply v_op Try.tab | apply v_op0 Try.tab) <;> first | (intro K' h0 hw; conv => whnf) | (simp only [Nat.reduceAdd, Nat.reduceMul]; rfl))
 | ((with_reducible apply v_nil); (case hm => (simp only [Nat.reduceAdd, Nat.reduceMul]; rfl)); (case' h => with_reducible refine hK _ ?_; clear hK))
 | ((with_reducible apply go_cond); (case hb => rfl))
 | ((with_reducible apply And.intro); (case' right => try (conv => whnf)); (case' left => try first | rfl | (simp (disch := omega) [wrp]; (try omega); done)))
 | ((with_reducible apply Side.mk); (try simp (disch := omega) only [wrp]); (try simp); (try simp (disch := omega) only [wrp]); (try omega))
 | (first  | intro g1; try simp at g1))
    ((refine w_nx (3) ?_ ?_ ?_ ?_ ?_ ?_); (case refine_1 => simp [b2, cellN, q0, q1, q2, q3]); (case refine_2 => simp [b2, cellN, q0, q1, q2, q3]); (case refine_3 => simp (disch := omega) [b2, cellN, q0, q1, q2, q3, wrp]); (case refine_4 => simp [b2, cellN, q0, q1, q2, q3]); (case refine_5 => first | (simp; omega) | (simp; done) | omega | (simp only; omega)); (case' refine_6 => (try simp only); (try exact trivial)))
    decide
  | 3, _ =>
    repeat' (first
 | (with_reducible first | apply qz0 | (refine h0 _ _ ?_; clear h0 hw) | (refine hw _ _ _ ?_; clear h0 hw) | apply qz2 | apply qz3 | apply qz6 | apply qz9 )
 | (with_reducible first | refine w_reg (by decide +kernel) fun K1 hK => ?_ | refine w_reg_end (by decide +kernel) fun K1 hK => ?_)
 | with_reducible refine go_seq ?_
 | ((with_reducible first | apply v_op Try.tab | apply v_op0 Try.tab) <;> first | (intro K' h0 hw; conv => whnf) | (simp only [Nat.reduceAdd, Nat.reduceMul]; rfl))
 | ((with_reducible apply v_nil); (case hm => (simp only [Nat.reduceAdd, Nat.reduceMul]; rfl)); (case' h => with_reducible refine hK _ ?_; clear hK))
 | ((with_reducible apply go_cond); (case hb => rfl))
 | ((with_reducible apply And.intro); (case' right => try (conv => whnf)); (case' left => try first | rfl | (simp (disch := omega) [wrp]; (try omega); done)))
 | ((with_reducible apply Side.mk); (try simp (disch := omega) only [wrp]); (try simp); (try simp (disch := omega) only [wrp]); (try omega))
 | (first  | intro g1; try simp at g1))
    ((refine w_nx (4) ?_ ?_ ?_ ?_ ?_ ?_); (case refine_1 => simp [b3, cellN, q0, q1, q2, q3]); (case refine_2 => simp [b3, cellN, q0, q1, q2, q3]); (case refine_3 => simp (disch := omega) [b3, cellN, q0, q1, q2, q3, wrp]); (case refine_4 => simp [b3, cellN, q0, q1, q2, q3]); (case refine_5 => first | (simp; omega) | (simp; done) | omega | (simp only; omega)); (case' refine_6 => (try simp only); (try exact trivial)))
    decide
  | 4, _ =>
    repeat' (first
 | (with_reducible first | apply qz0 | (refine h0 _ _ ?_; clear h0 hw) | apply qz1 | apply qz4 | apply qz6 | apply qz7 | apply qza | apply qzc | (refine hL _ ?_; clear hL))
 | (with_reducible first | refine w_reg (by decide +kernel) fun K1 hK => ?_ )
 | with_reducible refine go_seq ?_
 | ((with_reducible first | apply v_op Try.tab ) <;> first | (intro K' h0 hw; conv => whnf) | (simp only [Nat.reduceAdd, Nat.reduceMul]; rfl))
 | ((with_reducible apply v_nil); (case hm => (simp only [Nat.reduceAdd, Nat.reduceMul]; rfl)); (case' h => with_reducible refine hK _ ?_; clear hK))
 | ((with_reducible apply go_cond); (case hb => rfl))
 | ((with_reducible first | refine w_ret Try.tab fun K' hL => ?_ ); (conv => whnf))
 | ((with_reducible apply And.intro); (case' right => try (conv => whnf)); (case' left => try first | rfl ))
 | ((with_reducible apply Side.mk); (try simp (disch := omega) only [wrp]); (try simp); (try simp (disch := omega) only [wrp]); (try omega))
 | (first  | intro g1; try simp at g1))
    all_goals (try (exfalso; omega))
    exact le_of_eq (by simp [cellN])
end Go.Proofs.Ytbhcjgobapnajaa
end
section
namespace Go.Proofs.Ytbhcjgobapnajaa
open Go Go.Sy
set_option maxRecDepth 4000
set_option linter.unusedSimpArgs false
set_option linter.unusedVariables false
attribute [local irreducible] Reg RegD Later Out CallV Tri Side EqV
theorem p1 : (2 : Int) ^ min 1 IntKind.i64.bits = 2 := by decide
theorem p2 : (2 : Int) ^ min 2 IntKind.i64.bits = 4 := by decide
end Go.Proofs.Ytbhcjgobapnajaa
end
section
namespace Go.Proofs.Ytbhcjgobapnajaa
open Go Go.Sy
set_option maxRecDepth 4000
set_option linter.unusedSimpArgs false
set_option linter.unusedVariables false
attribute [local irreducible] Reg RegD Later Out CallV Tri Side EqV
theorem mid_byte {s : ByteArray} {i : Nat} {x : UInt8} (h : s[i]? = some x) : (mid s i 1).data.toList = [x] := by
  have hi : i < s.size := by
    rcases Nat.lt_or_ge i s.size with q | q
    · exact q
    · simp [q] at h
  have hx : s[i] = x := by simpa [hi] using h
  unfold mid
  rw [ByteArray.data_extract, Array.toList_extract, List.extract_eq_take_drop]
  have hd : s.data.toList[i]? = some x := by
    rw [Array.getElem?_toList, Array.getElem?_eq_getElem hi]; exact congrArg some hx
  rw [drop_at hd]
  simp
theorem mid_snoc {s : ByteArray} {o k : Nat} {x : UInt8} (h : s[o + k]? = some x) : (mid s o (k + 1)).data.toList = (mid s o k).data.toList ++ [x] := by
  have hi : o + k < s.size := by
    rcases Nat.lt_or_ge (o + k) s.size with q | q
    · exact q
    · simp [q] at h
  have hx : s[o + k] = x := by simpa [hi] using h
  unfold mid
  rw [ByteArray.data_extract, ByteArray.data_extract, Array.toList_extract, Array.toList_extract, List.extract_eq_take_drop, List.extract_eq_take_drop]
  have hd : s.data.toList[o + k]? = some x := by
    rw [Array.getElem?_toList, Array.getElem?_eq_getElem hi]; exact congrArg some hx
  rw [show o + (k + 1) - o = (o + k - o) + 1 by omega, take_at (l := s.data.toList.drop o) (x := x) (by rw [List.getElem?_drop, ← hd]; congr 1; omega)]
end Go.Proofs.Ytbhcjgobapnajaa
end
section
namespace Go.Proofs.Ytbhcjgobapnajaa
open Go Go.Sy
set_option maxRecDepth 4000
set_option linter.unusedSimpArgs false
set_option linter.unusedVariables false
attribute [local irreducible] Reg RegD Later Out CallV Tri Side EqV
end Go.Proofs.Ytbhcjgobapnajaa
end
section
namespace Go.Proofs.Ytbhcjgobapnajaa
open Go Go.Sy
set_option linter.unusedSimpArgs false
set_option linter.unusedVariables false
section
variable {p : Pkt} (hp : pktE p = 0)
include hp
end
end Go.Proofs.Ytbhcjgobapnajaa
end

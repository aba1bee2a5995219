/- Walks of wire.Encode, and of the document's packets. No condition. -/
import Derived.Test.YtdanlpkclkjkcaaWiA
section
namespace Go.Proofs.Ytdanlpkclkjkcaa
open Go Go.Sy
set_option maxRecDepth 4000
set_option linter.unusedSimpArgs false
set_option linter.unusedVariables false
attribute [local irreducible] Reg RegD Later Out CallV Tri Side EqV
/-- A number as so many bytes, the greatest first. -/
def beN (n : Int) : Nat → ByteArray
  | 0 => ByteArray.empty
  | k + 1 => beN (n / 256) k ++ strOfNums [n % 256]
theorem beN_size : ∀ (k : Nat) (n : Int), (beN n k).size = k
  | 0, _ => rfl
  | k + 1, n => by rw [beN, ByteArray.size_append, beN_size k, strOfNums_size]; rfl
theorem strAdd {a b : ByteArray} (h : a.size + b.size ≤ 9223372036854775807) : strOp .add a b = some (.string (a ++ b)) := if_pos h
theorem u8_wrap {n : Int} (h : 0 ≤ n) : IntKind.u8.wrap n = n % 256 := by
  unfold IntKind.wrap
  simp [IntKind.bits]
  intro h9
  exact absurd h9 (by decide)
set_option maxHeartbeats 1000000 in
theorem c_numberBytes : ∀ (k : Nat) (n : Int), k ≤ 8 → 0 ≤ n → n ≤ 1000000000000 → PSpec Try.prog 58 [I n, I k] (Tx (beN n k))
  | 0, n, _, _, _ => by
    refine v_pspec Try.func58 rfl Try.ntmps58 Try.results58 (by simp) (by first | exact .s _ | repeat constructor) ?_
    repeat' (first
 | (with_reducible first | apply qz0 | (refine h0 _ _ ?_; clear h0 hw) | (refine hw _ _ _ ?_; clear h0 hw) | apply qz1 | apply qz2 | apply qz5 | apply qz6 | (refine hL _ ?_; clear hL))
 | (with_reducible first | refine w_reg (by decide +kernel) fun K1 hK => ?_ | refine w_reg_end (by decide +kernel) fun K1 hK => ?_)
 | ((with_reducible first | apply d_reg Try.mix (by decide +kernel) | apply d_reg_end Try.mix (by decide +kernel)); (case hm => simp only [List.length_cons, List.length_nil, Nat.reduceAdd, Nat.reduceMul]; rfl); (case' h => intro K1 hK))
 | with_reducible refine go_seq ?_
 | ((with_reducible first | apply v_op Try.tab | apply v_op0 Try.tab | apply d_op Try.tab | apply d_op0 Try.tab) <;> first | (intro K' h0 hw; conv => whnf) | (simp only [Nat.reduceAdd, Nat.reduceMul]; rfl))
 | ((with_reducible apply v_nil); (case hm => (simp only [Nat.reduceAdd, Nat.reduceMul]; rfl)); (case' h => with_reducible refine hK _ ?_; clear hK))
 | ((with_reducible apply d_nil); (refine hK _ _ _ _ (by first | decide +kernel | (simp only [List.map_cons, List.map_nil, List.nil_append, List.cons_append]; decide +kernel) | rfl) ?_; clear hK))
 | ((with_reducible apply go_cond); (case hb => rfl))
 | ((with_reducible first | refine w_ret Try.tab fun K' hL => ?_ | refine w_ret_end Try.tab fun K' hL => ?_); (conv => whnf))
 | ((with_reducible apply And.intro); (case' right => try (conv => whnf)); (case' left => try first | rfl | decide | (simp; done) | (simp (disch := omega) only [wrp]; omega) | (simp (disch := omega) [wrp]; (try omega); done)))
 | ((with_reducible apply Side.mk); (try simp (disch := omega) only [wrp]); (try simp); (try simp (disch := omega) only [wrp]); (try omega))
 | (first  | intro g1; try simp at g1))
    exact le_of_eq rfl
  | k + 1, n, hk, h1, h2 => by
    have ih := c_numberBytes k (n / 256) (by omega) (by omega) (by omega)
    have e1 : (((k + 1 : Nat) : Int) - 1) = k := by omega
    have e2 : n.tdiv 256 = n / 256 := by rw [Int.tdiv_eq_ediv_of_nonneg h1]
    have e3 : n.tmod 256 = n % 256 := by rw [Int.tmod_eq_emod_of_nonneg h1]
    have e4 := wrp (n := n / 256) (by omega) (by omega)
    have e5 := wrp (n := (k : Int)) (by omega) (by omega)
    have hb := beN_size k (n / 256)
    refine v_pspec Try.func58 rfl Try.ntmps58 Try.results58 (by simp) (by first | exact .s _ | repeat constructor) ?_
    repeat' (first
 | (with_reducible first | apply qz0 | (refine h0 _ _ ?_; clear h0 hw) | (refine hw _ _ _ ?_; clear h0 hw) | apply qz1 | apply qz2 | apply qz5 | apply qz6 | (refine hL _ ?_; clear hL))
 | (with_reducible first | refine w_reg (by decide +kernel) fun K1 hK => ?_ | refine w_reg_end (by decide +kernel) fun K1 hK => ?_)
 | ((with_reducible first | apply d_reg Try.mix (by decide +kernel) | apply d_reg_end Try.mix (by decide +kernel)); (case hm => simp only [List.length_cons, List.length_nil, Nat.reduceAdd, Nat.reduceMul]; rfl); (case' h => intro K1 hK))
 | with_reducible refine go_seq ?_
 | ((with_reducible first | apply v_op Try.tab | apply v_op0 Try.tab | apply d_op Try.tab | apply d_op0 Try.tab) <;> first | (intro K' h0 hw; conv => whnf) | (simp only [Nat.reduceAdd, Nat.reduceMul]; rfl))
 | ((with_reducible apply v_nil); (case hm => (simp only [Nat.reduceAdd, Nat.reduceMul]; rfl)); (case' h => with_reducible refine hK _ ?_; clear hK))
 | ((with_reducible apply d_nil); (refine hK _ _ _ _ (by first | decide +kernel | (simp only [List.map_cons, List.map_nil, List.nil_append, List.cons_append]; decide +kernel) | rfl) ?_; clear hK))
 | ((with_reducible refine callV_id (f := 58) ?_); (with_reducible apply callV_f own58 (ih)); (case hx => rfl); (case he => rfl); (case hle => first | ((repeat constructor); done) | (simp [e2, e4, e5]; done)); (case hpu => repeat constructor); (case' hK => conv => whnf))
 | ((with_reducible apply go_cond); (case hb => rfl))
 | ((with_reducible first | refine w_ret Try.tab fun K' hL => ?_ | refine w_ret_end Try.tab fun K' hL => ?_); (conv => whnf))
 | ((with_reducible apply And.intro); (case' right => try (conv => whnf)); (case' left => try first | rfl | decide | (simp [e2, e4, e5]; done) | (simp (disch := omega) only [wrp]; omega) | (simp (disch := omega) [e2, e4, e5, wrp]; (try omega); done)))
 | ((with_reducible apply Side.mk); (try simp (disch := omega) only [wrp]); (try simp); (try simp (disch := omega) only [wrp]); (try omega))
 | (rw [strAdd (by rw [hb, strOfNums_size]; simp; omega)]; conv => whnf)
 | (first  | intro g1; try simp at g1))
    · exfalso; omega
    · have e9 : IntKind.u8.wrap (n.tmod 256) = n % 256 := by rw [e3, u8_wrap (by omega)]; omega
      exact le_of_eq (by rw [e9, beN])
def flN (f e k : Bool) : Int := 128 + (if f = true then 1 else 0) + (if e = true then 2 else 0) + (if k = true then 4 else 0)
def encP (p : Pkt) : ByteArray := beN (flN p.first p.fin p.key) 1 ++ beN p.seq 2 ++ beN p.time 4 ++ beN p.text.size 1 ++ p.text
theorem pktE_ok {p : Pkt} (h : pktE p = 0) : (0 ≤ p.seq ∧ p.seq ≤ 65535) ∧ (0 ≤ p.time ∧ p.time ≤ 1000000) ∧ p.text.size ≤ 8 := by
  unfold pktE at h
  split at h
  · cases h
  · split at h
    · cases h
    · omega
set_option maxHeartbeats 1000000 in
theorem c_packetBytes (p : Pkt) (hp : pktE p = 0) : PSpec Try.prog 39 [.agg (pktC p)] (Tx (encP p)) := by
  obtain ⟨h1, h2, h3⟩ := pktE_ok hp
  obtain ⟨sq, tm, f, e, k, tx⟩ := p
  simp only at h1 h2 h3
  have z1 := beN_size 1 (flN f e k)
  have z2 := beN_size 2 sq
  have z3 := beN_size 4 tm
  have z4 := beN_size 1 (tx.size : Int)
  have n1 := c_numberBytes 1 (flN f e k) (by omega) (by unfold flN; split <;> split <;> split <;> omega) (by unfold flN; split <;> split <;> split <;> omega)
  have n2 := c_numberBytes 2 sq (by omega) (by omega) (by omega)
  have n3 := c_numberBytes 4 tm (by omega) (by omega) (by omega)
  have n4 := c_numberBytes 1 tx.size (by omega) (by omega) (by omega)
  cases f <;> cases e <;> cases k
  all_goals
    simp only [flN, if_true, Bool.false_eq_true, if_false] at n1
    refine v_pspec Try.func39 rfl Try.ntmps39 Try.results39 (by simp) (by first | exact .s _ | repeat constructor) ?_
    repeat' (first
 | (with_reducible first | apply qz0 | (refine h0 _ _ ?_; clear h0 hw) | (refine hw _ _ _ ?_; clear h0 hw) | apply qz1 | apply qz2 | apply qz5 | apply qz6 | (refine hL _ ?_; clear hL))
 | (with_reducible first | refine w_reg (by decide +kernel) fun K1 hK => ?_ | refine w_reg_end (by decide +kernel) fun K1 hK => ?_)
 | ((with_reducible first | apply d_reg Try.mix (by decide +kernel) | apply d_reg_end Try.mix (by decide +kernel)); (case hm => simp only [List.length_cons, List.length_nil, Nat.reduceAdd, Nat.reduceMul]; rfl); (case' h => intro K1 hK))
 | with_reducible refine go_seq ?_
 | ((with_reducible first | apply v_op Try.tab | apply v_op0 Try.tab | apply d_op Try.tab | apply d_op0 Try.tab) <;> first | (intro K' h0 hw; conv => whnf) | (simp only [Nat.reduceAdd, Nat.reduceMul]; rfl))
 | ((with_reducible apply v_nil); (case hm => (simp only [Nat.reduceAdd, Nat.reduceMul]; rfl)); (case' h => with_reducible refine hK _ ?_; clear hK))
 | ((with_reducible apply d_nil); (refine hK _ _ _ _ (by first | decide +kernel | (simp only [List.map_cons, List.map_nil, List.nil_append, List.cons_append]; decide +kernel) | rfl) ?_; clear hK))
 | ((with_reducible refine callV_id (f := 58) ?_); (with_reducible apply callV_f own58 (n1)); (case hx => rfl); (case he => rfl); (case hle => first | ((repeat constructor); done) | (simp; done)); (case hpu => repeat constructor); (case' hK => conv => whnf))
 | ((with_reducible refine callV_id (f := 58) ?_); (with_reducible apply callV_f own58 (n2)); (case hx => rfl); (case he => rfl); (case hle => first | ((repeat constructor); done) | (simp; done)); (case hpu => repeat constructor); (case' hK => conv => whnf))
 | ((with_reducible refine callV_id (f := 58) ?_); (with_reducible apply callV_f own58 (n3)); (case hx => rfl); (case he => rfl); (case hle => first | ((repeat constructor); done) | (simp; done)); (case hpu => repeat constructor); (case' hK => conv => whnf))
 | ((with_reducible refine callV_id (f := 58) ?_); (with_reducible apply callV_f own58 (n4)); (case hx => rfl); (case he => rfl); (case hle => first | ((repeat constructor); done) | (simp; done)); (case hpu => repeat constructor); (case' hK => conv => whnf))
 | ((with_reducible apply go_cond); (case hb => rfl))
 | ((with_reducible first | refine w_ret Try.tab fun K' hL => ?_ | refine w_ret_end Try.tab fun K' hL => ?_); (conv => whnf))
 | ((with_reducible apply And.intro); (case' right => try (conv => whnf)); (case' left => try first | rfl | decide | (simp; done) | (simp (disch := omega) only [wrp]; omega) | (simp (disch := omega) [wrp]; (try omega); done)))
 | ((with_reducible apply Side.mk); (try simp (disch := omega) only [wrp]); (try simp); (try simp (disch := omega) only [wrp]); (try omega))
 | (rw [strAdd (by simp only [ByteArray.size_append, beN_size]; omega)]; conv => whnf)
 | (first  | intro g1; try simp at g1))
    exact le_of_eq rfl
end Go.Proofs.Ytdanlpkclkjkcaa
end
section
namespace Go.Proofs.Ytdanlpkclkjkcaa
open Go Go.Sy
set_option maxRecDepth 4000
set_option linter.unusedSimpArgs false
set_option linter.unusedVariables false
attribute [local irreducible] Reg RegD Later Out CallV Tri Side EqV
abbrev u8 (n : Int) : AV := .s (.int .u8 n)
theorem strOfNums_app (a b : List Int) : strOfNums (a ++ b) = strOfNums a ++ strOfNums b := by
  apply ByteArray.ext
  simp [strOfNums, ByteArray.data_append]
theorem beN_1 (n : Int) : beN n 1 = strOfNums [n / 256 ^ 0 % 256] := by
  have h0 : beN (n / 256) 0 = strOfNums [] := rfl
  rw [beN, h0, ← strOfNums_app]; simp
theorem beN_2 (n : Int) : beN n 2 = strOfNums [n / 256 ^ 1 % 256, n / 256 ^ 0 % 256] := by
  rw [beN, beN_1, ← strOfNums_app]; simp
theorem beN_4 (n : Int) : beN n 4 = strOfNums [n / 256 ^ 3 % 256, n / 256 ^ 2 % 256, n / 256 ^ 1 % 256, n / 256 ^ 0 % 256] := by
  rw [beN, beN, beN_2, ← strOfNums_app, ← strOfNums_app]
  have e1 : n / 256 / 256 / 256 ^ 1 = n / 256 ^ 3 := by omega
  have e2 : n / 256 / 256 / 256 ^ 0 = n / 256 ^ 2 := by omega
  rw [e1, e2]; simp
theorem q0 : IntKind.i64.wrap 0 = 0 := by decide
theorem q1 : IntKind.i64.wrap 1 = 1 := by decide
theorem q2 : IntKind.i64.wrap 2 = 2 := by decide
theorem q3 : IntKind.i64.wrap 3 = 3 := by decide
end Go.Proofs.Ytdanlpkclkjkcaa
end
section
namespace Go.Proofs.Ytdanlpkclkjkcaa
open Go Go.Sy
set_option maxRecDepth 4000
set_option linter.unusedSimpArgs false
set_option linter.unusedVariables false
attribute [local irreducible] Reg RegD Later Out CallV Tri Side EqV
theorem p1 : (2 : Int) ^ min 1 IntKind.i64.bits = 2 := by decide
theorem p2 : (2 : Int) ^ min 2 IntKind.i64.bits = 4 := by decide
def encS (p : Pkt) : ByteArray × Int := if pktE p = 0 then (encP p, 0) else (ByteArray.empty, pktE p)
end Go.Proofs.Ytdanlpkclkjkcaa
end
section
namespace Go.Proofs.Ytdanlpkclkjkcaa
open Go Go.Sy
set_option maxRecDepth 4000
set_option linter.unusedSimpArgs false
set_option linter.unusedVariables false
attribute [local irreducible] Reg RegD Later Out CallV Tri Side EqV
end Go.Proofs.Ytdanlpkclkjkcaa
end
section
namespace Go.Proofs.Ytdanlpkclkjkcaa
open Go Go.Sy
set_option maxRecDepth 4000
set_option linter.unusedSimpArgs false
set_option linter.unusedVariables false
attribute [local irreducible] Reg RegD Later Out CallV Tri Side EqV
set_option maxHeartbeats 1000000 in
theorem c_whole (q t : Int) (s : ByteArray) : PSpec Try.prog 18 [I q, I t, Tx s] (.agg (pktC ⟨q, t, true, true, true, s⟩)) := by
  refine v_pspec Try.func18 rfl Try.ntmps18 Try.results18 (by simp) (by first | exact .s _ | repeat constructor) ?_
  repeat' (first
 | (with_reducible first | apply qz0 | (refine h0 _ _ ?_; clear h0 hw) | (refine hw _ _ _ ?_; clear h0 hw) | apply qz1 | apply qz2 | apply qz5 | apply qz6 | (refine hL _ ?_; clear hL))
 | (with_reducible first | refine w_reg (by decide +kernel) fun K1 hK => ?_ | refine w_reg_end (by decide +kernel) fun K1 hK => ?_)
 | with_reducible refine go_seq ?_
 | ((with_reducible first | apply v_op Try.tab | apply v_op0 Try.tab) <;> first | (intro K' h0 hw; conv => whnf) | (simp only [Nat.reduceAdd, Nat.reduceMul]; rfl))
 | ((with_reducible apply v_nil); (case hm => (simp only [Nat.reduceAdd, Nat.reduceMul]; rfl)); (case' h => with_reducible refine hK _ ?_; clear hK))
 | ((with_reducible first | refine w_ret Try.tab fun K' hL => ?_ | refine w_ret_end Try.tab fun K' hL => ?_); (conv => whnf))
 | ((with_reducible apply And.intro); (case' right => try (conv => whnf)); (case' left => try first | rfl | decide | (simp; done) | (simp (disch := omega) only [wrp]; omega) | (simp (disch := omega) [wrp]; (try omega); done)))
 | ((with_reducible apply Side.mk); (try simp (disch := omega) only [wrp]); (try simp); (try simp (disch := omega) only [wrp]); (try omega))
 | (first  | intro g1; try simp at g1))
  all_goals simp
end Go.Proofs.Ytdanlpkclkjkcaa
end
section
namespace Go.Proofs.Ytdanlpkclkjkcaa
open Go Go.Sy
set_option linter.unusedSimpArgs false
set_option linter.unusedVariables false
abbrev uN (n : Int) : UInt8 := UInt8.ofNat n.toNat
theorem mid_list (s : ByteArray) (o k : Nat) : (mid s o k).data.toList = (s.data.toList.drop o).take k := by
  unfold mid
  rw [ByteArray.data_extract, Array.toList_extract, List.extract_eq_take_drop]
  congr 1; omega
theorem ba_ext {a b : ByteArray} (h : a.data.toList = b.data.toList) : a = b := by
  apply ByteArray.ext
  rw [← Array.toArray_toList (xs := a.data), ← Array.toArray_toList (xs := b.data), h]
theorem encP_list (p : Pkt) : (encP p).data.toList = [uN (flN p.first p.fin p.key % 256), uN (p.seq / 256 % 256), uN (p.seq % 256), uN (p.time / 16777216 % 256), uN (p.time / 65536 % 256), uN (p.time / 256 % 256), uN (p.time % 256), uN ((p.text.size : Int) % 256)] ++ p.text.data.toList := by
  unfold encP
  rw [beN_1, beN_2, beN_4, beN_1]
  simp [ByteArray.data_append, strOfNums]
theorem drop8 (a b c d e f g h : UInt8) (r : List UInt8) : List.drop 8 ([a, b, c, d, e, f, g, h] ++ r) = r := rfl
section
variable {p : Pkt} (hp : pktE p = 0)
include hp
end
theorem uN_eq {n : Int} {b : UInt8} (h : n = b.toNat) : uN n = b := by
  subst h
  simp
theorem fl_there : ∀ j : Fin 8, flN (fl (128 + j.val) 1) (fl (128 + j.val) 2) (fl (128 + j.val) 4) = ((128 + j.val : Nat) : Int) := by decide +kernel
theorem fl_there' {n : Nat} (h : 128 ≤ n ∧ n ≤ 135) : flN (fl n 1) (fl n 2) (fl n 4) = n := by
  have := fl_there ⟨n - 128, by omega⟩
  simp only [show 128 + (n - 128) = n by omega] at this
  exact this
theorem eight {l : List UInt8} (h : 8 ≤ l.length) : ∃ b0 b1 b2 b3 b4 b5 b6 b7 r, l = [b0, b1, b2, b3, b4, b5, b6, b7] ++ r := by
  match l, h with
  | b0 :: b1 :: b2 :: b3 :: b4 :: b5 :: b6 :: b7 :: r, _ => exact ⟨b0, b1, b2, b3, b4, b5, b6, b7, r, rfl⟩
theorem enc_dec {s : ByteArray} (hf : formB s = true) : encP (decP s) = s := by
  simp only [formB, Bool.and_eq_true, decide_eq_true_eq] at hf
  obtain ⟨⟨h8, hsz⟩, h0⟩ := hf
  have hlen : s.data.toList.length = s.size := by rw [Array.length_toList]; rfl
  obtain ⟨b0, b1, b2, b3, b4, b5, b6, b7, r, hl⟩ := eight (l := s.data.toList) (by omega)
  have a0 : at1 s 0 = b0.toNat := by unfold at1; rw [mid_list, hl]; simp [numTo]
  have a7 : at1 s 7 = b7.toNat := by unfold at1; rw [mid_list, hl]; simp [numTo]
  have aS : numTo (mid s 1 2).data.toList = b1.toNat * 256 + b2.toNat := by rw [mid_list, hl]; simp [numTo]
  have aT : numTo (mid s 3 4).data.toList = ((b3.toNat * 256 + b4.toNat) * 256 + b5.toNat) * 256 + b6.toNat := by rw [mid_list, hl]; simp [numTo]
  have hr : r.length = b7.toNat := by
    rw [hl] at hlen
    simp at hlen; omega
  have aX : (mid s 8 (at1 s 7)).data.toList = r := by
    rw [mid_list, hl, drop8, a7]
    exact List.take_of_length_le (by omega)
  have aXs : (mid s 8 (at1 s 7)).size = b7.toNat := by
    rw [← hr, ← aX, Array.length_toList]; rfl
  have q1 := b1.toNat_lt
  have q2 := b2.toNat_lt
  have q3 := b3.toNat_lt
  have q4 := b4.toNat_lt
  have q5 := b5.toNat_lt
  have q6 := b6.toNat_lt
  have q7 := b7.toNat_lt
  have q0 := b0.toNat_lt
  apply ba_ext
  rw [encP_list, hl]
  have hfl := fl_there' h0
  simp only [decP]
  rw [aX, aXs, aS, aT, hfl, a0]
  rw [uN_eq (b := b0) (by omega), uN_eq (b := b1) (by omega), uN_eq (b := b2) (by omega), uN_eq (b := b3) (by omega), uN_eq (b := b4) (by omega), uN_eq (b := b5) (by omega), uN_eq (b := b6) (by omega), uN_eq (b := b7) (by omega)]
theorem dec_ok {s : ByteArray} (h : (decS s).2 = 0) : decS s = (decP s, 0) ∧ pktE (decP s) = 0 ∧ encS (decP s) = (s, 0) := by
  unfold decS at h ⊢
  by_cases h1 : formB s = true
  · rw [if_pos h1] at h ⊢
    by_cases h2 : pktE (decP s) = 0
    · rw [if_pos h2]
      refine ⟨rfl, h2, ?_⟩
      rw [encS, if_pos h2, enc_dec h1]
    · rw [if_neg h2] at h; exact absurd h h2
  · rw [if_neg h1] at h; cases h
end Go.Proofs.Ytdanlpkclkjkcaa
end

/- Walks of wire.Encode, and of the document's packets. No condition. -/
import Derived.Test.YtokkencbpmjdaaaGreatWiA
section
namespace Go.Proofs.YtokkencbpmjdaaaGreat
open Go Go.Sy
set_option maxRecDepth 4000
set_option linter.unusedSimpArgs false
set_option linter.unusedVariables false
attribute [local irreducible] Reg RegD Later Out CallV Tri Side EqV Pause
def beN (n : Int) : Nat → ByteArray
  | 0 => ByteArray.empty
  | k + 1 => beN (n / 256) k ++ strOfNums [n % 256]
theorem beN_size : ∀ (k : Nat) (n : Int), (beN n k).size = k
  | 0, _ => rfl
  | k + 1, n => by rw [beN, ByteArray.size_append, beN_size k, strOfNums_size]; rfl
theorem strAdd {a b : ByteArray} (h : a.size + b.size ≤ 9223372036854775807) : strOp .add a b = some (.string (a ++ b)) := if_pos h
theorem u8_wrap {n : Int} (h : 0 ≤ n) : IntKind.u8.wrap n = n % 256 := by
  unfold IntKind.wrap
  simp [IntKind.bits]
  intro h9
  exact absurd h9 (by decide)
set_option maxHeartbeats 1000000 in
theorem c_numberBytes : ∀ (k : Nat) (n : Int), k ≤ 8 → 0 ≤ n → n ≤ 1000000000000 → PSpec Tryz.prog 80 [I n, I k] (Tx (beN n k))
  | 0, n, _, _, _ => by
    refine p_pspec Tryz.func80 Tryz.ntmps80 Tryz.results80 ?_
    repeat' (first
 | (with_reducible first | apply qz0 | (refine h0 _ _ ?_; clear h0 hw) | apply qz1 | apply qz5 | (refine hL _ ?_; clear hL))
 | refine p_reg fun K1 hK => ?_
 | apply go_seq
 | (refine p_op Tryz.tab fun K' h0 hw => ?_; conv => whnf)
 | (refine p_nil (hK _ ?_); clear hK)
 | ((with_reducible apply go_cond); (case hb => rfl))
 | ((with_reducible first | refine w_ret Tryz.tab fun K' hL => ?_ ); (conv => whnf))
 | (first  | intro g1; try simp at g1))
    exact le_of_eq rfl
  | k + 1, n, hk, h1, h2 => by
    have ih := c_numberBytes k (n / 256) (by omega) (by omega) (by omega)
    have e1 : (((k + 1 : Nat) : Int) - 1) = k := by omega
    have e2 : n.tdiv 256 = n / 256 := by rw [Int.tdiv_eq_ediv_of_nonneg h1]
    have e3 : n.tmod 256 = n % 256 := by rw [Int.tmod_eq_emod_of_nonneg h1]
    have e4 := wrp (n := n / 256) (by omega) (by omega)
    have e5 := wrp (n := (k : Int)) (by omega) (by omega)
    have hb := beN_size k (n / 256)
    refine p_pspec Tryz.func80 Tryz.ntmps80 Tryz.results80 ?_
    repeat' (first
 | (with_reducible first | apply qz0 | (refine h0 _ _ ?_; clear h0 hw) | (refine hw _ _ _ ?_; clear h0 hw) | apply qz1 | apply qz2 | apply qz5 | apply qz6 | (refine hL _ ?_; clear hL))
 | refine p_reg fun K1 hK => ?_
 | refine p_dreg Tryz.mix fun K1 hK => ?_
 | apply go_seq
 | ((first | refine p_op Tryz.tab fun K' h0 hw => ?_ | refine p_dop Tryz.tab fun K' h0 hw => ?_); conv => whnf)
 | (refine p_nil (hK _ ?_); clear hK)
 | (refine d_nil (p_obj ?_ (hK _ _ _ _)); clear hK)
 | ((with_reducible refine callV_id (f := 80) ?_); (with_reducible apply callV_f own80 (ih)); (case hx => rfl); (case he => rfl); (case hle => first | (simp [e2, e4, e5]; done)); (case hpu => repeat constructor); (case' hK => conv => whnf))
 | ((with_reducible apply go_cond); (case hb => rfl))
 | ((with_reducible first | refine w_ret Tryz.tab fun K' hL => ?_ ); (conv => whnf))
 | ((with_reducible apply And.intro); (case' right => try (conv => whnf)); (case' left => try first | rfl | decide ))
 | exact p_side
 | (rw [strAdd (by rw [hb, strOfNums_size]; simp; omega)]; conv => whnf)
 | (first  | intro g1; try simp at g1))
    · exfalso; omega
    · have e9 : IntKind.u8.wrap (n.tmod 256) = n % 256 := by rw [e3, u8_wrap (by omega)]; omega
      exact le_of_eq (by rw [e9, beN])
def flN (f e k : Bool) : Int := 128 + (if f = true then 1 else 0) + (if e = true then 2 else 0) + (if k = true then 4 else 0)
def encP (p : Pkt) : ByteArray := beN (flN p.first p.fin p.key) 1 ++ beN p.seq 2 ++ beN p.time 4 ++ beN p.text.size 1 ++ p.text
theorem pktE_ok {p : Pkt} (h : pktE p = 0) : (0 ≤ p.seq ∧ p.seq ≤ 65535) ∧ (0 ≤ p.time ∧ p.time ≤ 1000000) ∧ p.text.size ≤ 8 := by
  unfold pktE at h
  split at h
  · cases h
  · split at h
    · cases h
    · omega
set_option maxHeartbeats 1000000 in
theorem c_packetBytes (p : Pkt) (hp : pktE p = 0) : PSpec Tryz.prog 49 [.agg (pktC p)] (Tx (encP p)) := by
  obtain ⟨h1, h2, h3⟩ := pktE_ok hp
  obtain ⟨sq, tm, f, e, k, tx⟩ := p
  simp only at h1 h2 h3
  have z1 := beN_size 1 (flN f e k)
  have z2 := beN_size 2 sq
  have z3 := beN_size 4 tm
  have z4 := beN_size 1 (tx.size : Int)
  have n1 := c_numberBytes 1 (flN f e k) (by omega) (by unfold flN; split <;> split <;> split <;> omega) (by unfold flN; split <;> split <;> split <;> omega)
  have n2 := c_numberBytes 2 sq (by omega) (by omega) (by omega)
  have n3 := c_numberBytes 4 tm (by omega) (by omega) (by omega)
  have n4 := c_numberBytes 1 tx.size (by omega) (by omega) (by omega)
  cases f <;> cases e <;> cases k
  all_goals
    simp only [flN, if_true, Bool.false_eq_true, if_false] at n1
    refine p_pspec Tryz.func49 Tryz.ntmps49 Tryz.results49 ?_
    repeat' (first
 | (with_reducible first | apply qz0 | (refine h0 _ _ ?_; clear h0 hw) | (refine hw _ _ _ ?_; clear h0 hw) | apply qz1 | apply qz2 | apply qz6 | (refine hL _ ?_; clear hL))
 | refine p_reg fun K1 hK => ?_ | refine p_regE fun K1 hK => ?_
 | refine p_dreg Tryz.mix fun K1 hK => ?_
 | apply go_seq
 | ((first | refine p_op Tryz.tab fun K' h0 hw => ?_ | refine p_dop Tryz.tab fun K' h0 hw => ?_); conv => whnf)
 | (refine p_nil (hK _ ?_); clear hK)
 | (refine d_nil (p_obj ?_ (hK _ _ _ _)); clear hK)
 | (refine p_call own80 (n1) ?_; conv => whnf)
 | (refine p_call own80 (n2) ?_; conv => whnf)
 | (refine p_call own80 (n3) ?_; conv => whnf)
 | (refine p_call own80 (n4) ?_; conv => whnf)
 | ((with_reducible apply go_cond); (case hb => rfl))
 | ((with_reducible first | refine w_ret Tryz.tab fun K' hL => ?_ ); (conv => whnf))
 | ((with_reducible apply And.intro); (case' right => try (conv => whnf)); (case' left => try first | rfl | decide | (simp; done) ))
 | (rw [strAdd (by simp only [ByteArray.size_append, beN_size]; omega)]; conv => whnf)
 | (first  | intro g1; try simp at g1))
    exact le_of_eq rfl
end Go.Proofs.YtokkencbpmjdaaaGreat
end
section
namespace Go.Proofs.YtokkencbpmjdaaaGreat
open Go Go.Sy
set_option maxRecDepth 4000
set_option linter.unusedSimpArgs false
set_option linter.unusedVariables false
attribute [local irreducible] Reg RegD Later Out CallV Tri Side EqV Pause
abbrev u8 (n : Int) : AV := .s (.int .u8 n)
theorem strOfNums_app (a b : List Int) : strOfNums (a ++ b) = strOfNums a ++ strOfNums b := by
  apply ByteArray.ext
  simp [strOfNums, ByteArray.data_append]
theorem beN_1 (n : Int) : beN n 1 = strOfNums [n / 256 ^ 0 % 256] := by
  have h0 : beN (n / 256) 0 = strOfNums [] := rfl
  rw [beN, h0, ← strOfNums_app]; simp
theorem beN_2 (n : Int) : beN n 2 = strOfNums [n / 256 ^ 1 % 256, n / 256 ^ 0 % 256] := by
  rw [beN, beN_1, ← strOfNums_app]; simp
theorem beN_4 (n : Int) : beN n 4 = strOfNums [n / 256 ^ 3 % 256, n / 256 ^ 2 % 256, n / 256 ^ 1 % 256, n / 256 ^ 0 % 256] := by
  rw [beN, beN, beN_2, ← strOfNums_app, ← strOfNums_app]
  have e1 : n / 256 / 256 / 256 ^ 1 = n / 256 ^ 3 := by omega
  have e2 : n / 256 / 256 / 256 ^ 0 = n / 256 ^ 2 := by omega
  rw [e1, e2]; simp
theorem q0 : IntKind.i64.wrap 0 = 0 := by decide
theorem q1 : IntKind.i64.wrap 1 = 1 := by decide
theorem q2 : IntKind.i64.wrap 2 = 2 := by decide
theorem q3 : IntKind.i64.wrap 3 = 3 := by decide
end Go.Proofs.YtokkencbpmjdaaaGreat
end
section
namespace Go.Proofs.YtokkencbpmjdaaaGreat
open Go Go.Sy
set_option maxRecDepth 4000
set_option linter.unusedSimpArgs false
set_option linter.unusedVariables false
attribute [local irreducible] Reg RegD Later Out CallV Tri Side EqV Pause
theorem p1 : (2 : Int) ^ min 1 IntKind.i64.bits = 2 := by decide
theorem p2 : (2 : Int) ^ min 2 IntKind.i64.bits = 4 := by decide
def encS (p : Pkt) : ByteArray × Int := if pktE p = 0 then (encP p, 0) else (ByteArray.empty, pktE p)
end Go.Proofs.YtokkencbpmjdaaaGreat
end
section
namespace Go.Proofs.YtokkencbpmjdaaaGreat
open Go Go.Sy
set_option maxRecDepth 4000
set_option linter.unusedSimpArgs false
set_option linter.unusedVariables false
attribute [local irreducible] Reg RegD Later Out CallV Tri Side EqV Pause
theorem mid_byte {s : ByteArray} {i : Nat} {x : UInt8} (h : s[i]? = some x) : (mid s i 1).data.toList = [x] := by
  have hi : i < s.size := by
    rcases Nat.lt_or_ge i s.size with q | q
    · exact q
    · simp [q] at h
  have hx : s[i] = x := by simpa [hi] using h
  unfold mid
  rw [ByteArray.data_extract, Array.toList_extract, List.extract_eq_take_drop]
  have hd : s.data.toList[i]? = some x := by
    rw [Array.getElem?_toList, Array.getElem?_eq_getElem hi]; exact congrArg some hx
  rw [drop_at hd]
  simp
theorem mid_snoc {s : ByteArray} {o k : Nat} {x : UInt8} (h : s[o + k]? = some x) : (mid s o (k + 1)).data.toList = (mid s o k).data.toList ++ [x] := by
  have hi : o + k < s.size := by
    rcases Nat.lt_or_ge (o + k) s.size with q | q
    · exact q
    · simp [q] at h
  have hx : s[o + k] = x := by simpa [hi] using h
  unfold mid
  rw [ByteArray.data_extract, ByteArray.data_extract, Array.toList_extract, Array.toList_extract, List.extract_eq_take_drop, List.extract_eq_take_drop]
  have hd : s.data.toList[o + k]? = some x := by
    rw [Array.getElem?_toList, Array.getElem?_eq_getElem hi]; exact congrArg some hx
  rw [show o + (k + 1) - o = (o + k - o) + 1 by omega, take_at (l := s.data.toList.drop o) (x := x) (by rw [List.getElem?_drop, ← hd]; congr 1; omega)]
theorem at1_byte {s : ByteArray} {i : Nat} {x : UInt8} (h : s[i]? = some x) : at1 s i = x.toNat := by
  unfold at1; rw [mid_byte h]; simp [numTo]
set_option maxHeartbeats 1000000 in
theorem c_numberAt (s : ByteArray) (o k : Nat) (hk : k ≤ 4) (h : o + k ≤ s.size) (ho : o ≤ 1000) : PSpec Tryz.prog 87 [Tx s, I o, I k] (I (numTo (mid s o k).data.toList)) := by
  refine p_pspec Tryz.func87 Tryz.ntmps87 Tryz.results87 ?_
  have e1 := wrp (n := (o : Int) + k) (by omega) (by omega)
  repeat' (first
 | (with_reducible first | apply qz0 | (refine h0 _ _ ?_; clear h0 hw) | apply qz3 )
 | refine p_reg fun K1 hK => ?_
 | apply go_seq
 | (refine p_op Tryz.tab fun K' h0 hw => ?_; conv => whnf)
 | (refine p_nil (hK _ ?_); clear hK)
 )
  refine w_loop (X := Nat) [7, 8, 10, 11, 12, 13, 14, 15, 16, 17, 18, 19, 20, 21, 22, 23] (fun i => [(8, I (o + i : Nat)), (7, I (numTo (mid s o i).data.toList))]) (fun _ => []) (fun i => i ≤ k) (fun i => k - i) 0 (by simp) ?_ ?_
  · refine ⟨kt_refl, ko_refl, ?_, ?_, ?_, ?_, Nat.le_refl _⟩ <;> simp [numTo, mid]
  intro i hi
  repeat' (first
 | (with_reducible first | apply qz0 | (refine h0 _ _ ?_; clear h0 hw) | apply qz1 | apply qz2 | apply qz3 | apply qz4 | apply qz6 | apply qz7 | apply qz9 | apply qza | apply qzc | (refine hL _ ?_; clear hL))
 | refine p_reg fun K1 hK => ?_ | refine p_regE fun K1 hK => ?_
 | apply go_seq
 | (refine p_op Tryz.tab fun K' h0 hw => ?_; conv => whnf)
 | (refine p_nil (hK _ ?_); clear hK)
 | ((with_reducible apply go_cond); (case hb => rfl))
 | ((with_reducible first | refine w_ret Tryz.tab fun K' hL => ?_ ); (conv => whnf))
 | ((with_reducible apply And.intro); (case' right => try (conv => whnf)); (case' left => try first | rfl | (simp (disch := omega) [e1, wrp]; (try omega); done)))
 | ((with_reducible refine all_byte ?_); (first | (intro b1 hb1)); conv => whnf)
 | (first | (guard_hyp g1; intro g2; try simp at g2) | intro g1; try simp at g1))
  all_goals (try rw [e1] at g1)
  · have hb := hb1
    rw [Int.toNat_natCast] at hb
    have e2 : numTo (mid s o (i + 1)).data.toList = numTo (mid s o i).data.toList * 256 + b1.toNat := by rw [mid_snoc hb, numTo_snoc]
    have hl : (mid s o i).data.toList.length ≤ 4 := by
      rw [Array.length_toList]; show (mid s o i).size ≤ 4; simp [mid]; omega
    have h9 := numTo_lt _ hl
    have h8 := b1.toNat_lt
    have e3 := wrp (n := (256 : Int) * numTo (mid s o i).data.toList) (by omega) (by omega)
    have e4 := wrp (n := (b1.toNat : Int)) (by omega) (by omega)
    have e5 := wrp (n := (256 : Int) * numTo (mid s o i).data.toList + b1.toNat) (by omega) (by omega)
    have e6 : (256 : Int) * numTo (mid s o i).data.toList + b1.toNat = ((numTo (mid s o i).data.toList * 256 + b1.toNat : Nat) : Int) := by omega
    have e7 := wrp (n := (o : Int) + i + 1) (by omega) (by omega)
    have e8 : (o : Int) + (i + 1) = o + i + 1 := by omega
    have e9 : (256 : Int) * numTo (mid s o i).data.toList + b1.toNat = numTo (mid s o i).data.toList * 256 + b1.toNat := by omega
    ((refine w_nx ((i + 1)) ?_ ?_ ?_ ?_ ?_ ?_); (case refine_1 => simp [e2, e3, e4, e5, e7, e8, e9]); (case refine_2 => simp [e2, e3, e4, e5, e7, e8, e9]); (case refine_3 => simp (disch := omega) [e2, e3, e4, e5, e7, e8, e9, wrp]); (case refine_4 => simp [e2, e3, e4, e5, e7, e8, e9]); (case refine_5 => first | (simp; omega) | (simp; done) | omega | (simp only; omega)); (case' refine_6 => (try simp only); (try exact trivial)))
    omega
  · obtain rfl : i = k := by omega
    exact .refl _
theorem fl_all : ∀ j : Fin 8, (decide ((IntKind.i64.wrap (IntKind.i64.wrap ((128 + j.val : Nat) : Int) - 128)).tmod 2 = 1) = fl (128 + j.val) 1) ∧ (decide ((IntKind.i64.wrap ((IntKind.i64.wrap (IntKind.i64.wrap ((128 + j.val : Nat) : Int) - 128)).tdiv 2)).tmod 2 = 1) = fl (128 + j.val) 2) ∧ (decide (IntKind.i64.wrap ((IntKind.i64.wrap (IntKind.i64.wrap ((128 + j.val : Nat) : Int) - 128)).tdiv 4) = 1) = fl (128 + j.val) 4) := by decide +kernel
theorem fl_of {n : Nat} (h : 128 ≤ n ∧ n ≤ 135) : (decide ((IntKind.i64.wrap (IntKind.i64.wrap (n : Int) - 128)).tmod 2 = 1) = fl n 1) ∧ (decide ((IntKind.i64.wrap ((IntKind.i64.wrap (IntKind.i64.wrap (n : Int) - 128)).tdiv 2)).tmod 2 = 1) = fl n 2) ∧ (decide (IntKind.i64.wrap ((IntKind.i64.wrap (IntKind.i64.wrap (n : Int) - 128)).tdiv 4) = 1) = fl n 4) := by
  have := fl_all ⟨n - 128, by omega⟩
  simp only [show 128 + (n - 128) = n by omega] at this
  exact this
theorem dec_of {s : ByteArray} {p : Pkt} (hf : formB s = true) (hp : p = decP s) : (pktE p = 0 → decS s = (p, 0)) ∧ (¬ pktE p = 0 → decS s = (pk0, pktE p)) := by
  subst hp
  exact ⟨fun h => by rw [decS, if_pos hf, if_pos h], fun h => by rw [decS, if_pos hf, if_neg h]⟩
theorem form_no {s : ByteArray} (h : formB s = false) : decS s = (pk0, 1) := by rw [decS, if_neg (by simp [h])]
theorem dec_eq {s : ByteArray} {b : UInt8} (hb : s[0]? = some b) (h1 : 128 ≤ b.toNat ∧ b.toNat ≤ 135) (h2 : s.size = 8 + at1 s 7) :
    (⟨numTo (mid s 1 2).data.toList, numTo (mid s 3 4).data.toList, decide ((IntKind.i64.wrap (IntKind.i64.wrap (b.toNat : Int) - 128)).tmod 2 = 1), decide ((IntKind.i64.wrap ((IntKind.i64.wrap (IntKind.i64.wrap (b.toNat : Int) - 128)).tdiv 2)).tmod 2 = 1), decide (IntKind.i64.wrap ((IntKind.i64.wrap (IntKind.i64.wrap (b.toNat : Int) - 128)).tdiv 4) = 1), s.extract 8 s.size⟩ : Pkt) = decP s := by
  obtain ⟨e1, e2, e3⟩ := fl_of h1
  have e4 : mid s 8 (at1 s 7) = s.extract 8 s.size := by rw [mid, ← h2]
  rw [e1, e2, e3, decP, at1_byte hb, e4]
set_option maxHeartbeats 2000000 in
theorem c_packetOf (s : ByteArray) : PSpec Tryz.prog 58 [Tx s] (decT (decS s)) := by
  refine p_pspec Tryz.func58 Tryz.ntmps58 Tryz.results58 ?_
  repeat' (first
 | (with_reducible first | apply qz0 | (refine h0 _ _ ?_; clear h0 hw) | (refine hw _ _ _ ?_; clear h0 hw) | apply qz1 | apply qz2 | apply qz5 | apply qz6 | (refine hL _ ?_; clear hL))
 | refine p_reg fun K1 hK => ?_
 | refine p_dreg Tryz.mix fun K1 hK => ?_
 | apply go_seq
 | ((first | refine p_op Tryz.tab fun K' h0 hw => ?_ | refine p_op0 Tryz.tab fun K' h0 hw => ?_ | refine p_dop Tryz.tab fun K' h0 hw => ?_ | refine p_dop0 Tryz.tab fun K' h0 hw => ?_); conv => whnf)
 | (refine p_nil (hK _ ?_); clear hK)
 | (refine d_nil (p_obj ?_ (hK _ _ _ _)); clear hK)
 | (first | refine v_grd_yes (by rfl) (by rfl) ?_)
 | ((first | (apply v_grd_no; (case hg => rfl); (case hb => rfl)) | (apply v_grd; (case hg => rfl); (case hb => rfl))); (case hi => (simp only [Nat.reduceAdd, Nat.reduceMul]; rfl)))
 | ((with_reducible refine callV_id (f := 87) ?_); have hcs_ := c_numberAt s 1 2 (by omega) (by omega) (by omega); (with_reducible apply callV_f own87 (hcs_)); (case hx => rfl); (case he => rfl); (case hle => first | ((repeat constructor); done) ); (case hpu => repeat constructor); (case' hK => (try clear hcs_); conv => whnf))
 | ((with_reducible refine callV_id (f := 87) ?_); have hcs_ := c_numberAt s 3 4 (by omega) (by omega) (by omega); (with_reducible apply callV_f own87 (hcs_)); (case hx => rfl); (case he => rfl); (case hle => first | ((repeat constructor); done) ); (case hpu => repeat constructor); (case' hK => (try clear hcs_); conv => whnf))
 | (refine p_call own84 (c_checkPacket ⟨_, _, _, _, _, _⟩) ?_; conv => whnf)
 | ((with_reducible apply go_cond); (case hb => rfl))
 | ((with_reducible first | refine w_ret Tryz.tab fun K' hL => ?_ ); (conv => whnf))
 | ((with_reducible apply And.intro); (case' right => try (conv => whnf)); (case' left => try first | rfl | decide | (simp; done) | (simp (disch := omega) [wrp]; (try omega); done)))
 | exact p_side
 | ((with_reducible refine all_byte ?_); (first | (have _y := hb3; clear _y; intro b4 hb4) | (have _y := hb2; clear _y; intro b3 hb3) | (have _y := hb1; clear _y; intro b2 hb2) | (intro b1 hb1)); conv => whnf)
 | (first | (guard_hyp g15; intro g16; try simp at g16) | (guard_hyp g14; intro g15; try simp at g15) | (guard_hyp g13; intro g14; try simp at g14) | (guard_hyp g12; intro g13; try simp at g13) | (guard_hyp g11; intro g12; try simp at g12) | (guard_hyp g10; intro g11; try simp at g11) | (guard_hyp g9; intro g10; try simp at g10) | (guard_hyp g8; intro g9; try simp at g9) | (guard_hyp g7; intro g8; try simp at g8) | (guard_hyp g6; intro g7; try simp at g7) | (guard_hyp g5; intro g6; try simp at g6) | (guard_hyp g4; intro g5; try simp at g5) | (guard_hyp g3; intro g4; try simp at g4) | (guard_hyp g2; intro g3; try simp at g3) | (guard_hyp g1; intro g2; try simp at g2) | intro g1; try simp at g1))
  · have a7 : at1 s 7 = b3.toNat := at1_byte hb3
    have hl := b3.toNat_lt
    rw [wrp (n := (b3.toNat : Int)) (by omega) (by omega), wrp (by omega) (by omega)] at g4
    have e := form_no (s := s) (by rw [Bool.eq_false_iff]; intro hq; simp only [formB, Bool.and_eq_true, decide_eq_true_eq] at hq; omega)
    refine le_of_eq ?_; rw [e]; rfl
  · have a7 : at1 s 7 = b3.toNat := at1_byte hb3
    have a0 : at1 s 0 = b1.toNat := at1_byte hb1
    have a1 : at1 s 0 = b2.toNat := at1_byte hb2
    have a4 : at1 s 0 = b4.toNat := at1_byte hb4
    have hl := b3.toNat_lt
    rw [wrp (n := (b3.toNat : Int)) (by omega) (by omega), wrp (by omega) (by omega)] at g4
    have hf : formB s = true := by simp only [formB, Bool.and_eq_true, decide_eq_true_eq]; omega
    have hp := dec_eq (b := b4) hb4 (by omega) (by omega)
    have hx : (⟨s.data.extract 8 (8 + (s.size - 8))⟩ : ByteArray) = s.extract 8 s.size := by
      apply ByteArray.ext
      simp only [ByteArray.data_extract]
      congr 1; omega
    have e := fun hpp => (dec_of hf hpp).2 g5
    have e := e (by rw [← hp]; exact Pkt.ext' rfl rfl rfl rfl rfl hx)
    rw [e]; simp [pk0]
  · have a7 : at1 s 7 = b3.toNat := at1_byte hb3
    have a0 : at1 s 0 = b1.toNat := at1_byte hb1
    have a1 : at1 s 0 = b2.toNat := at1_byte hb2
    have a4 : at1 s 0 = b4.toNat := at1_byte hb4
    have hl := b3.toNat_lt
    rw [wrp (n := (b3.toNat : Int)) (by omega) (by omega), wrp (by omega) (by omega)] at g4
    have hf : formB s = true := by simp only [formB, Bool.and_eq_true, decide_eq_true_eq]; omega
    have hp := dec_eq (b := b4) hb4 (by omega) (by omega)
    have hx : (⟨s.data.extract 8 (8 + (s.size - 8))⟩ : ByteArray) = s.extract 8 s.size := by
      apply ByteArray.ext
      simp only [ByteArray.data_extract]
      congr 1; omega
    have e := fun hpp => (dec_of hf hpp).1 g5
    have e := e (by rw [← hp]; exact Pkt.ext' rfl rfl rfl rfl rfl hx)
    rw [e]; simp [pk0]
    exact ⟨⟨rfl, rfl, rfl, hx.symm⟩, g5⟩
  · have a1 : at1 s 0 = b2.toNat := at1_byte hb2
    have e := form_no (s := s) (by rw [Bool.eq_false_iff]; intro hq; simp only [formB, Bool.and_eq_true, decide_eq_true_eq] at hq; omega)
    refine le_of_eq ?_; rw [e]; rfl
  · have a1 : at1 s 0 = b1.toNat := at1_byte hb1
    have e := form_no (s := s) (by rw [Bool.eq_false_iff]; intro hq; simp only [formB, Bool.and_eq_true, decide_eq_true_eq] at hq; omega)
    refine le_of_eq ?_; rw [e]; rfl
  · have e := form_no (s := s) (by rw [Bool.eq_false_iff]; intro hq; simp only [formB, Bool.and_eq_true, decide_eq_true_eq] at hq; omega)
    refine le_of_eq ?_; rw [e]; rfl
end Go.Proofs.YtokkencbpmjdaaaGreat
end
section
namespace Go.Proofs.YtokkencbpmjdaaaGreat
open Go Go.Sy
set_option maxRecDepth 4000
set_option linter.unusedSimpArgs false
set_option linter.unusedVariables false
attribute [local irreducible] Reg RegD Later Out CallV Tri Side EqV Pause
set_option maxHeartbeats 1000000 in
theorem c_whole (q t : Int) (s : ByteArray) : PSpec Tryz.prog 20 [I q, I t, Tx s] (.agg (pktC ⟨q, t, true, true, true, s⟩)) := by
  refine p_pspec Tryz.func20 Tryz.ntmps20 Tryz.results20 ?_
  repeat' (first
 | (with_reducible first | apply qz0 | (refine h0 _ _ ?_; clear h0 hw) | (refine hw _ _ _ ?_; clear h0 hw) | apply qz1 | (refine hL _ ?_; clear hL))
 | refine p_reg fun K1 hK => ?_
 | ((first | refine p_op Tryz.tab fun K' h0 hw => ?_ | refine p_op0 Tryz.tab fun K' h0 hw => ?_); conv => whnf)
 | (refine p_nil (hK _ ?_); clear hK)
 | ((with_reducible first | refine w_ret Tryz.tab fun K' hL => ?_ ); (conv => whnf))
 | ((with_reducible apply And.intro); (case' right => try (conv => whnf)); (case' left => try first | rfl | decide ))
 )
  all_goals simp
end Go.Proofs.YtokkencbpmjdaaaGreat
end
section
namespace Go.Proofs.YtokkencbpmjdaaaGreat
open Go Go.Sy
set_option linter.unusedSimpArgs false
set_option linter.unusedVariables false
abbrev uN (n : Int) : UInt8 := UInt8.ofNat n.toNat
theorem mid_list (s : ByteArray) (o k : Nat) : (mid s o k).data.toList = (s.data.toList.drop o).take k := by
  unfold mid
  rw [ByteArray.data_extract, Array.toList_extract, List.extract_eq_take_drop]
  congr 1; omega
theorem ba_ext {a b : ByteArray} (h : a.data.toList = b.data.toList) : a = b := by
  apply ByteArray.ext
  rw [← Array.toArray_toList (xs := a.data), ← Array.toArray_toList (xs := b.data), h]
theorem encP_list (p : Pkt) : (encP p).data.toList = [uN (flN p.first p.fin p.key % 256), uN (p.seq / 256 % 256), uN (p.seq % 256), uN (p.time / 16777216 % 256), uN (p.time / 65536 % 256), uN (p.time / 256 % 256), uN (p.time % 256), uN ((p.text.size : Int) % 256)] ++ p.text.data.toList := by
  unfold encP
  rw [beN_1, beN_2, beN_4, beN_1]
  simp [ByteArray.data_append, strOfNums]
theorem drop8 (a b c d e f g h : UInt8) (r : List UInt8) : List.drop 8 ([a, b, c, d, e, f, g, h] ++ r) = r := rfl
section
variable {p : Pkt} (hp : pktE p = 0)
include hp
end
theorem uN_eq {n : Int} {b : UInt8} (h : n = b.toNat) : uN n = b := by
  subst h
  simp
theorem fl_there : ∀ j : Fin 8, flN (fl (128 + j.val) 1) (fl (128 + j.val) 2) (fl (128 + j.val) 4) = ((128 + j.val : Nat) : Int) := by decide +kernel
theorem fl_there' {n : Nat} (h : 128 ≤ n ∧ n ≤ 135) : flN (fl n 1) (fl n 2) (fl n 4) = n := by
  have := fl_there ⟨n - 128, by omega⟩
  simp only [show 128 + (n - 128) = n by omega] at this
  exact this
theorem eight {l : List UInt8} (h : 8 ≤ l.length) : ∃ b0 b1 b2 b3 b4 b5 b6 b7 r, l = [b0, b1, b2, b3, b4, b5, b6, b7] ++ r := by
  match l, h with
  | b0 :: b1 :: b2 :: b3 :: b4 :: b5 :: b6 :: b7 :: r, _ => exact ⟨b0, b1, b2, b3, b4, b5, b6, b7, r, rfl⟩
theorem enc_dec {s : ByteArray} (hf : formB s = true) : encP (decP s) = s := by
  simp only [formB, Bool.and_eq_true, decide_eq_true_eq] at hf
  obtain ⟨⟨h8, hsz⟩, h0⟩ := hf
  have hlen : s.data.toList.length = s.size := by rw [Array.length_toList]; rfl
  obtain ⟨b0, b1, b2, b3, b4, b5, b6, b7, r, hl⟩ := eight (l := s.data.toList) (by omega)
  have a0 : at1 s 0 = b0.toNat := by unfold at1; rw [mid_list, hl]; simp [numTo]
  have a7 : at1 s 7 = b7.toNat := by unfold at1; rw [mid_list, hl]; simp [numTo]
  have aS : numTo (mid s 1 2).data.toList = b1.toNat * 256 + b2.toNat := by rw [mid_list, hl]; simp [numTo]
  have aT : numTo (mid s 3 4).data.toList = ((b3.toNat * 256 + b4.toNat) * 256 + b5.toNat) * 256 + b6.toNat := by rw [mid_list, hl]; simp [numTo]
  have hr : r.length = b7.toNat := by
    rw [hl] at hlen
    simp at hlen; omega
  have aX : (mid s 8 (at1 s 7)).data.toList = r := by
    rw [mid_list, hl, drop8, a7]
    exact List.take_of_length_le (by omega)
  have aXs : (mid s 8 (at1 s 7)).size = b7.toNat := by
    rw [← hr, ← aX, Array.length_toList]; rfl
  have q1 := b1.toNat_lt
  have q2 := b2.toNat_lt
  have q3 := b3.toNat_lt
  have q4 := b4.toNat_lt
  have q5 := b5.toNat_lt
  have q6 := b6.toNat_lt
  have q7 := b7.toNat_lt
  have q0 := b0.toNat_lt
  apply ba_ext
  rw [encP_list, hl]
  have hfl := fl_there' h0
  simp only [decP]
  rw [aX, aXs, aS, aT, hfl, a0]
  rw [uN_eq (b := b0) (by omega), uN_eq (b := b1) (by omega), uN_eq (b := b2) (by omega), uN_eq (b := b3) (by omega), uN_eq (b := b4) (by omega), uN_eq (b := b5) (by omega), uN_eq (b := b6) (by omega), uN_eq (b := b7) (by omega)]
theorem dec_ok {s : ByteArray} (h : (decS s).2 = 0) : decS s = (decP s, 0) ∧ pktE (decP s) = 0 ∧ encS (decP s) = (s, 0) := by
  unfold decS at h ⊢
  by_cases h1 : formB s = true
  · rw [if_pos h1] at h ⊢
    by_cases h2 : pktE (decP s) = 0
    · rw [if_pos h2]
      refine ⟨rfl, h2, ?_⟩
      rw [encS, if_pos h2, enc_dec h1]
    · rw [if_neg h2] at h; exact absurd h h2
  · rw [if_neg h1] at h; cases h
end Go.Proofs.YtokkencbpmjdaaaGreat
end

/- Walks of package wire. No condition. -/
import Derived.Test.YtokkencbpmjdaaaGreatSlot
import Derived.Test.YtokkencbpmjdaaaGreatSy3
import Derived.Recover
import Derived.Tactics
import Derived.Tactics2
import Derived.Laws.Pointers
import Derived.WalkLawsBesides
import Derived.Defers
section
namespace Go.Proofs.YtokkencbpmjdaaaGreat
open Go Go.Sy
set_option maxRecDepth 4000
set_option linter.unusedSimpArgs false
set_option linter.unusedVariables false
attribute [local irreducible] Reg RegD Later Out CallV Tri Side EqV Pause
abbrev rdB (s : ByteArray) : Ob := .box [Tx s]
def shortP : List PanicEntry := [{ v := .iface 172 (.agg #[]), recovered := false }]
set_option maxHeartbeats 1000000 in
theorem c_take (s : ByteArray) (n : Int) (hn0 : 0 ≤ n) (h : n ≤ s.size) (hs : s.size ≤ 1000000000000000) : CSpec Tryz.prog 123 [.ptr 0 0, I n] [rdB s] (Tx (s.extract 0 n.toNat)) [rdB (s.extract n.toNat s.size)] := by
  refine v_cspec Tryz.func123 rfl Tryz.ntmps123 Tryz.results123 (by simp) (k := 1) rfl ?_
  repeat' (first
 | (with_reducible first | apply qz0 | (refine h0 _ _ ?_; clear h0 hw) | (refine hw _ _ _ ?_; clear h0 hw) | apply qz1 | apply qz2 | apply qz6 )
 | refine p_reg fun K1 hK => ?_ | refine p_regE fun K1 hK => ?_
 | apply go_seq
 | ((first | refine p_op Tryz.tab fun K' h0 hw => ?_ | refine p_op0 Tryz.tab fun K' h0 hw => ?_); conv => whnf)
 | (refine p_nil (hK _ ?_); clear hK)
 | ((with_reducible apply go_cond); (case hb => rfl))
 | ((with_reducible apply And.intro); (case' right => try (conv => whnf)); (case' left => try first | rfl | decide | (simp; done) ))
 | exact p_side
 | (first  | intro g1; try simp at g1))
  all_goals (try (first | exact hn0 | exact Side.mk hn0 | (exfalso; omega)))
  ((first | refine w_retO Tryz.tab [] (by rfl) (by simp) (by simp) (fun K' hL => ?_) ?_ ?_ ?_ | refine w_retO_end Tryz.tab [] (by rfl) (by simp) (by simp) (fun K' hL => ?_) ?_ ?_ ?_); (conv => whnf); (refine hL _ ?_; clear hL); all_goals simp)
set_option maxHeartbeats 1000000 in
theorem x_take (s : ByteArray) (n : Int) (h : ¬ n ≤ s.size) : XSpec Tryz.prog 123 [.ptr 0 0, I n] [rdB s] shortP [rdB s] := by
  refine v_xspec Tryz.func123 rfl Tryz.ntmps123 (by simp) (k := 1) rfl ?_
  repeat' (first
 | ((with_reducible first | refine w_regX_end (id := 2) 2 _ (by decide +kernel) rfl rfl fun K1 hK => ?_); (simp only [List.take_succ_cons, List.take_zero]))
 | (with_reducible first | apply qz0 | (refine h0 _ _ ?_; clear h0 hw) | (refine hw _ _ _ ?_; clear h0 hw) | apply qz1 | apply qz2 | apply qz6 | apply qzf )
 | refine p_reg fun K1 hK => ?_
 | apply go_seq
 | ((first | refine p_op Tryz.tab fun K' h0 hw => ?_ | refine p_op0 Tryz.tab fun K' h0 hw => ?_); conv => whnf)
 | (refine p_nil (hK _ ?_); clear hK)
 | ((with_reducible apply go_cond); (case hb => rfl))
 | ((with_reducible apply And.intro); (case' right => try (conv => whnf)); (case' left => try first | rfl | decide | (simp; done) | (simp (disch := omega) [wrp]; (try omega); done)))
 | ((with_reducible apply v_nil); (case hm => (try simp only [Nat.reduceAdd, Nat.reduceMul]); exact rfl); (case' h => refine hK _ _ _ _ _ (panOp_panic rfl) ?_; clear hK))
 | (first  | intro g1; try simp at g1))
  all_goals (try (exfalso; omega))
  (refine w_xend rfl ?_ ?_; all_goals simp [obsRet, callWs, callφ, backN, updG, obF, ObLe, ObLeG, Ob.opt])
def tl (s : ByteArray) (o : Nat) : ByteArray := s.extract o s.size
def mid (s : ByteArray) (o k : Nat) : ByteArray := s.extract o (o + k)
theorem tl_size (s : ByteArray) (o : Nat) : (tl s o).size = s.size - o := by simp [tl]
theorem tl_zero (s : ByteArray) : tl s 0 = s := by simp [tl]
theorem tl_tl (s : ByteArray) (o k : Nat) : (tl s o).extract k (tl s o).size = tl s (o + k) := by
  unfold tl
  apply ByteArray.ext
  simp only [ByteArray.data_extract, Array.extract_extract, ByteArray.size_extract]
  congr 1
  omega
theorem tl_mid (s : ByteArray) (o k : Nat) (h : o + k ≤ s.size) : (tl s o).extract 0 k = mid s o k := by
  unfold tl mid
  apply ByteArray.ext
  simp only [ByteArray.data_extract, Array.extract_extract]
  congr 1
  omega
def numTo (l : List UInt8) : Nat := l.foldl (fun n c => n * 256 + c.toNat) 0
theorem numTo_snoc (l : List UInt8) (x : UInt8) : numTo (l ++ [x]) = numTo l * 256 + x.toNat := by simp [numTo]
theorem numTo_lt (l : List UInt8) (h : l.length ≤ 4) : numTo l < 4294967296 := by
  have aux : ∀ (l : List UInt8) (n : Nat), l.foldl (fun n c => n * 256 + c.toNat) n < (n + 1) * 256 ^ l.length := by
    intro l
    induction l with
    | nil => intro n; simp
    | cons x l ih =>
      intro n
      have h1 := ih (n * 256 + x.toNat)
      have h2 := x.toNat_lt
      have h3 : (n * 256 + x.toNat + 1) * 256 ^ l.length ≤ (n + 1) * 256 * 256 ^ l.length := Nat.mul_le_mul_right _ (by omega)
      rw [List.foldl_cons, List.length_cons, Nat.pow_succ, Nat.mul_comm (256 ^ l.length) 256, ← Nat.mul_assoc]
      omega
  have h1 : numTo l < 256 ^ l.length := by have := aux l 0; simpa [numTo] using this
  have : 256 ^ l.length ≤ 256 ^ 4 := Nat.pow_le_pow_right (by omega) h
  omega
theorem or_add {m b : Nat} (hm : m < 1000000000000) (hb : b < 256) : IntKind.i64.wrap (((IntKind.i64.wrap ((m : Int) * 2 ^ min 8 IntKind.i64.bits) % 2 ^ IntKind.i64.bits).toNat ||| (IntKind.i64.wrap (b : Int) % 2 ^ IntKind.i64.bits).toNat : Nat) : Int) = (m : Int) * 256 + b := by
  have h1 : (m : Int) * 2 ^ min 8 IntKind.i64.bits = ((m * 256 : Nat) : Int) := by
    rw [show (2 : Int) ^ min 8 IntKind.i64.bits = 256 by decide]; omega
  have h2 : (2 : Int) ^ IntKind.i64.bits = 18446744073709551616 := by decide
  rw [h1, h2, wrp (n := ((m * 256 : Nat) : Int)) (by omega) (by omega), wrp (n := (b : Int)) (by omega) (by omega), Int.emod_eq_of_lt (by omega) (by omega), Int.emod_eq_of_lt (by omega) (by omega), Int.toNat_natCast, Int.toNat_natCast]
  have h3 := Nat.shiftLeft_add_eq_or_of_lt (i := 8) (a := m) (b := b) (by omega)
  rw [Nat.shiftLeft_eq] at h3
  rw [← h3, wrp (by omega) (by omega)]
  omega
set_option maxHeartbeats 1000000 in
theorem c_rnum (s : ByteArray) (o k : Nat) (hk : k ≤ 4) (h : o + k ≤ s.size) (hs : s.size ≤ 1000000000000000) : CSpec Tryz.prog 104 [.ptr 0 0, I k] [rdB (tl s o)] (I (numTo (mid s o k).data.toList)) [rdB (tl s (o + k))] := by
  have hT := c_take (tl s o) k (by omega) (by rw [tl_size]; omega) (by rw [tl_size]; omega)
  rw [tl_tl, Int.toNat_natCast, tl_mid s o k h] at hT
  have hml : (mid s o k).data.toList.length = k := by
    rw [Array.length_toList]; show (mid s o k).size = k; simp [mid]; omega
  refine v_cspec Tryz.func104 rfl Tryz.ntmps104 Tryz.results104 (by simp) (k := 1) rfl ?_
  repeat' (first
 | (with_reducible first | apply qz0 | (refine h0 _ _ ?_; clear h0 hw) | (refine hw _ _ _ ?_; clear h0 hw) | apply qz3 )
 | refine p_reg fun K1 hK => ?_
 | apply go_seq
 | (refine p_op Tryz.tab fun K' h0 hw => ?_; conv => whnf)
 | (refine p_nil (hK _ ?_); clear hK)
 | ((with_reducible refine callV_id (f := 123) ?_); (with_reducible apply w_callO [0] own123 (hT)); (case hx => rfl); (case he => rfl); (case hle => first | ((repeat constructor); done) ); (case hm => rfl); (case hnd => decide); (case' hK => conv => whnf); (any_goals (simp; done)))
 | ((with_reducible apply And.intro); (case' right => try (conv => whnf)); (case' left => try first | rfl ))
 )
  refine w_loop (X := Nat) [5, 7, 13, 14, 15, 16, 17, 18, 19, 20, 21, 22] (fun i => [(13, I i), (5, I (numTo ((mid s o k).data.toList.take i)))]) (fun _ => []) (fun i => i ≤ k) (fun i => k - i) 0 (by simp) ?_ ?_
  · refine ⟨kt_refl, ko_refl, ?_, ?_, ?_, ?_, Nat.le_refl _⟩ <;> simp [numTo]
  intro i hi
  repeat' (first
 | (with_reducible first | apply qz0 | (refine h0 _ _ ?_; clear h0 hw) | apply qz1 | apply qz2 | apply qz3 | apply qz4 | apply qz6 | apply qz7 | apply qz9 | apply qza | apply qzc )
 | refine p_reg fun K1 hK => ?_ | refine p_regE fun K1 hK => ?_
 | apply go_seq
 | (refine p_op Tryz.tab fun K' h0 hw => ?_; conv => whnf)
 | (refine p_nil (hK _ ?_); clear hK)
 | ((with_reducible apply go_cond); (case hb => rfl))
 | ((with_reducible apply And.intro); (case' right => try (conv => whnf)); (case' left => try first | decide | (simp; done) ))
 | exact p_side
 | ((with_reducible refine all_row ?_); (first | intro x1 hx1); conv => whnf)
 | (first  | intro g1; try simp at g1))
  · rw [Int.toNat_natCast] at hx1
    have hil : i < k := by have := (List.getElem?_eq_some_iff.1 hx1).1; omega
    have e1 : numTo ((mid s o k).data.toList.take (i + 1)) = numTo ((mid s o k).data.toList.take i) * 256 + x1.toNat := by rw [take_at hx1, numTo_snoc]
    have h9 := numTo_lt ((mid s o k).data.toList.take i) (by simp; omega)
    have e2 := or_add (m := numTo ((mid s o k).data.toList.take i)) (b := x1.toNat) (by omega) x1.toNat_lt
    ((refine w_nx ((i + 1)) ?_ ?_ ?_ ?_ ?_ ?_); (case refine_1 => simp [e1, e2]); (case refine_2 => simp [e1, e2]); (case refine_3 => simp (disch := omega) [e1, e2, wrp]); (case refine_4 => simp [e1, e2]); (case refine_5 => first | (simp; omega) | (simp; done) | omega | (simp only; omega)); (case' refine_6 => (try simp only); (try exact trivial)))
    omega
  · have e : (mid s o k).data.toList.take i = (mid s o k).data.toList := List.take_of_length_le (by rw [hml]; have : (mid s o k).size = k := hml; omega)
    ((first | refine w_retO Tryz.tab [] (by rfl) (by simp) (by simp) (fun K' hL => ?_) ?_ ?_ ?_ | refine w_retO_end Tryz.tab [] (by rfl) (by simp) (by simp) (fun K' hL => ?_) ?_ ?_ ?_); (conv => whnf); (refine hL _ ?_; clear hL); all_goals simp [e])
set_option maxHeartbeats 1000000 in
theorem x_rnum (s : ByteArray) (o k : Nat) (h : ¬ o + k ≤ s.size) (ho : o ≤ s.size) : XSpec Tryz.prog 104 [.ptr 0 0, I k] [rdB (tl s o)] shortP [rdB (tl s o)] := by
  have hT := x_take (tl s o) k (by rw [tl_size]; omega)
  refine v_xspec Tryz.func104 rfl Tryz.ntmps104 (by simp) (k := 1) rfl ?_
  repeat' (first
 | ((with_reducible first | refine w_regX (id := 2) 2 _ (by decide +kernel) rfl rfl fun K1 hK => ?_ ); (simp only [List.take_succ_cons, List.take_zero]))
 | (with_reducible first | apply qz0 | (refine h0 _ _ ?_; clear h0 hw) | apply qzf )
 | refine p_reg fun K1 hK => ?_
 | apply go_seq
 | (refine p_op Tryz.tab fun K' h0 hw => ?_; conv => whnf)
 | (refine p_nil (hK _ ?_); clear hK)
 | ((with_reducible apply v_nil); (case hm => (try simp only [Nat.reduceAdd, Nat.reduceMul]); exact rfl); (case' h => refine hK _ _ _ _ _ (panOp_call [0] own123 (hT) (by rfl) (by decide) (by simp) (by simp) (by rfl) (by rfl) ?_ ?_ ?_ ?_) ?_; clear hK); (any_goals first | ((repeat constructor); done) ))
 )
  (refine w_xend rfl ?_ ?_; all_goals simp [obsRet, callWs, callφ, backN, updG, obF, ObLe, ObLeG, Ob.opt])
theorem c_takeT (s : ByteArray) (o n : Nat) (h : o + n ≤ s.size) (hs : s.size ≤ 1000000000000000) : CSpec Tryz.prog 123 [.ptr 0 0, I n] [rdB (tl s o)] (Tx (mid s o n)) [rdB (tl s (o + n))] := by
  have hT := c_take (tl s o) n (by omega) (by rw [tl_size]; omega) (by rw [tl_size]; omega)
  rwa [tl_tl, Int.toNat_natCast, tl_mid s o n h] at hT
theorem x_takeT (s : ByteArray) (o n : Nat) (h : ¬ o + n ≤ s.size) (ho : o ≤ s.size) : XSpec Tryz.prog 123 [.ptr 0 0, I n] [rdB (tl s o)] shortP [rdB (tl s o)] := x_take (tl s o) n (by rw [tl_size]; omega)
def at1 (s : ByteArray) (o : Nat) : Nat := numTo (mid s o 1).data.toList
set_option maxHeartbeats 1000000 in
theorem c_text (s : ByteArray) (o : Nat) (h1 : o + 1 ≤ s.size) (h2 : o + 1 + at1 s o ≤ s.size) (hs : s.size ≤ 1000000000000000) : CSpec Tryz.prog 105 [.ptr 0 0] [rdB (tl s o)] (Tx (mid s (o + 1) (at1 s o))) [rdB (tl s (o + 1 + at1 s o))] := by
  have hN := c_rnum s o 1 (by omega) h1 hs
  have hT := c_takeT s (o + 1) (at1 s o) h2 hs
  refine v_cspec Tryz.func105 rfl Tryz.ntmps105 Tryz.results105 (by simp) (k := 1) rfl ?_
  repeat' (first
 | (with_reducible first | apply qz0 | (refine h0 _ _ ?_; clear h0 hw) | (refine hw _ _ _ ?_; clear h0 hw) | apply qz1 )
 | refine p_reg fun K1 hK => ?_
 | (refine p_op Tryz.tab fun K' h0 hw => ?_; conv => whnf)
 | (refine p_nil (hK _ ?_); clear hK)
 | ((with_reducible refine callV_id (f := 104) ?_); (with_reducible apply w_callO [0] own104 (hN)); (case hx => rfl); (case he => rfl); (case hle => first | ((repeat constructor); done) ); (case hm => rfl); (case hnd => decide); (case' hK => conv => whnf); (any_goals (simp; done)))
 | ((with_reducible refine callV_id (f := 123) ?_); (with_reducible apply w_callO [0] own123 (hT)); (case hx => rfl); (case he => rfl); (case hle => first | ((repeat constructor); done) ); (case hm => rfl); (case hnd => decide); (case' hK => conv => whnf); (any_goals (simp; done)))
 )
  ((first | refine w_retO Tryz.tab [] (by rfl) (by simp) (by simp) (fun K' hL => ?_) ?_ ?_ ?_ | refine w_retO_end Tryz.tab [] (by rfl) (by simp) (by simp) (fun K' hL => ?_) ?_ ?_ ?_); (conv => whnf); (refine hL _ ?_; clear hL); all_goals simp)
theorem x_text1 (s : ByteArray) (o : Nat) (h1 : ¬ o + 1 ≤ s.size) (ho : o ≤ s.size) : XSpec Tryz.prog 105 [.ptr 0 0] [rdB (tl s o)] shortP [.box [.junk]] := by
  have hN := x_rnum s o 1 h1 ho
  refine v_xspec Tryz.func105 rfl Tryz.ntmps105 (by simp) (k := 1) rfl ?_
  repeat' (first
 | ((with_reducible first | refine w_regX (id := 1) 1 _ (by decide +kernel) rfl rfl fun K1 hK => ?_ ); (simp only [List.take_succ_cons, List.take_zero]))
 | (with_reducible first | apply qz0 | (refine h0 _ _ ?_; clear h0 hw) )
 | refine p_reg fun K1 hK => ?_
 | (refine p_op Tryz.tab fun K' h0 hw => ?_; conv => whnf)
 | (refine p_nil (hK _ ?_); clear hK)
 | ((with_reducible apply v_nil); (case hm => (try simp only [Nat.reduceAdd, Nat.reduceMul]); exact rfl); (case' h => refine hK _ _ _ _ _ (panOp_call [0] own104 (hN) (by rfl) (by decide) (by simp) (by simp) (by rfl) (by rfl) ?_ ?_ ?_ ?_) ?_; clear hK); (any_goals first | ((repeat constructor); done) ))
 )
  (refine w_xend rfl ?_ ?_; all_goals simp [obsRet, callWs, callφ, backN, updG, obF, ObLe, ObLeG, Ob.opt])
theorem x_text2 (s : ByteArray) (o : Nat) (h1 : o + 1 ≤ s.size) (h2 : ¬ o + 1 + at1 s o ≤ s.size) (hs : s.size ≤ 1000000000000000) : XSpec Tryz.prog 105 [.ptr 0 0] [rdB (tl s o)] shortP [.box [.junk]] := by
  have hN := c_rnum s o 1 (by omega) h1 hs
  have hT := x_takeT s (o + 1) (at1 s o) h2 h1
  refine v_xspec Tryz.func105 rfl Tryz.ntmps105 (by simp) (k := 1) rfl ?_
  repeat' (first
 | ((with_reducible first | refine w_regX (id := 2) 2 _ (by decide +kernel) rfl rfl fun K1 hK => ?_ ); (simp only [List.take_succ_cons, List.take_zero]))
 | (with_reducible first | apply qz0 | (refine h0 _ _ ?_; clear h0 hw) | (refine hw _ _ _ ?_; clear h0 hw) )
 | refine p_reg fun K1 hK => ?_
 | (refine p_op Tryz.tab fun K' h0 hw => ?_; conv => whnf)
 | (refine p_nil (hK _ ?_); clear hK)
 | ((with_reducible refine callV_id (f := 104) ?_); (with_reducible apply w_callO [0] own104 (hN)); (case hx => rfl); (case he => rfl); (case hle => first | ((repeat constructor); done) ); (case hm => rfl); (case hnd => decide); (case' hK => conv => whnf); (any_goals (simp; done)))
 | ((with_reducible apply v_nil); (case hm => (try simp only [Nat.reduceAdd, Nat.reduceMul]); exact rfl); (case' h => refine hK _ _ _ _ _ (panOp_call [0] own123 (hT) (by rfl) (by decide) (by simp) (by simp) (by rfl) (by rfl) ?_ ?_ ?_ ?_) ?_; clear hK); (any_goals first | ((repeat constructor); done) ))
 )
  (refine w_xend rfl ?_ ?_; all_goals simp [obsRet, callWs, callφ, backN, updG, obF, ObLe, ObLeG, Ob.opt])
set_option maxHeartbeats 1000000 in
theorem c_done (s : ByteArray) : CSpec Tryz.prog 106 [.ptr 0 0] [rdB s] (B (decide (s = ByteArray.empty))) [rdB s] := by
  refine v_cspec Tryz.func106 rfl Tryz.ntmps106 Tryz.results106 (by simp) (k := 1) rfl ?_
  repeat' (first
 | (with_reducible first | apply qz0 | (refine h0 _ _ ?_; clear h0 hw) | apply qz1 )
 | refine p_reg fun K1 hK => ?_
 | (refine p_op Tryz.tab fun K' h0 hw => ?_; conv => whnf)
 | (refine p_nil (hK _ ?_); clear hK)
 | ((with_reducible apply And.intro); (case' right => try (conv => whnf)); (case' left => try first | rfl | decide | (simp; done) ))
 )
  rw [show ByteArray.empty = ⟨#[]⟩ from rfl]
  ((first | refine w_retO Tryz.tab [] (by rfl) (by simp) (by simp) (fun K' hL => ?_) ?_ ?_ ?_ | refine w_retO_end Tryz.tab [] (by rfl) (by simp) (by simp) (fun K' hL => ?_) ?_ ?_ ?_); (conv => whnf); (refine hL _ ?_; clear hL); all_goals simp)
end Go.Proofs.YtokkencbpmjdaaaGreat
end
section
namespace Go.Proofs.YtokkencbpmjdaaaGreat
open Go Go.Sy
set_option maxRecDepth 4000
set_option linter.unusedSimpArgs false
set_option linter.unusedVariables false
attribute [local irreducible] Reg RegD Later Out CallV Tri Side EqV Pause
def fl (f m : Nat) : Bool := decide (IntKind.i64.wrap ((BitVec.ofInt IntKind.i64.bits (f : Int) &&& BitVec.ofInt IntKind.i64.bits (m : Int)).toNat : Int) ≠ 0)
def decP (s : ByteArray) : Pkt := ⟨numTo (mid s 1 2).data.toList, numTo (mid s 3 4).data.toList, fl (at1 s 0) 1, fl (at1 s 0) 2, fl (at1 s 0) 4, mid s 8 (at1 s 7)⟩
def okD (s : ByteArray) : Bool := decide (128 ≤ at1 s 0 ∧ at1 s 0 ≤ 135) && decide (tl s (8 + at1 s 7) = ByteArray.empty)
set_option maxHeartbeats 2000000 in
theorem c_dec1 (s : ByteArray) (p0 : Pkt) (h1 : 8 ≤ s.size) (h2 : 8 + at1 s 7 ≤ s.size) (hs : s.size ≤ 1000000000000000) :
    CSpec Tryz.prog 103 [.ptr 0 0, .ptr 1 0] [rdB s, .box (pktC p0)] (B (okD s)) [rdB (tl s (8 + at1 s 7)), .box (pktC (decP s))] := by
  have hN1 := c_rnum s 0 1 (by omega) (by omega) hs
  rw [tl_zero] at hN1
  have hN2 := c_rnum s 1 2 (by omega) (by omega) hs
  have hN3 := c_rnum s 3 4 (by omega) (by omega) hs
  have hT := c_text s 7 (by omega) h2 hs
  have hD := c_done (tl s (8 + at1 s 7))
  refine v_cspec Tryz.func103 rfl Tryz.ntmps103 Tryz.results103 (by simp) (k := 2) rfl ?_
  repeat' (first
 | (with_reducible first | apply qz0 | (refine h0 _ _ ?_; clear h0 hw) | (refine hw _ _ _ ?_; clear h0 hw) | apply qz1 )
 | refine p_reg fun K1 hK => ?_
 | ((first | refine p_op Tryz.tab fun K' h0 hw => ?_ | refine p_op0 Tryz.tab fun K' h0 hw => ?_); conv => whnf)
 | (refine p_nil (hK _ ?_); clear hK)
 | (first | refine v_grd_yes (by rfl) (by rfl) ?_)
 | ((first | (apply v_grd_no; (case hg => rfl); (case hb => rfl)) | (apply v_grd; (case hg => rfl); (case hb => rfl))); (case hi => (simp only [Nat.reduceAdd, Nat.reduceMul]; rfl)))
 | ((with_reducible refine callV_id (f := 104) ?_); (with_reducible apply w_callO [0] own104 (hN1)); (case hx => rfl); (case he => rfl); (case hle => first | ((repeat constructor); done) ); (case hm => rfl); (case hnd => decide); (case' hK => conv => whnf); (any_goals (simp; done)))
 | ((with_reducible refine callV_id (f := 104) ?_); (with_reducible apply w_callO [0] own104 (hN2)); (case hx => rfl); (case he => rfl); (case hle => first | ((repeat constructor); done) ); (case hm => rfl); (case hnd => decide); (case' hK => conv => whnf); (any_goals (simp; done)))
 | ((with_reducible refine callV_id (f := 104) ?_); (with_reducible apply w_callO [0] own104 (hN3)); (case hx => rfl); (case he => rfl); (case hle => first | ((repeat constructor); done) ); (case hm => rfl); (case hnd => decide); (case' hK => conv => whnf); (any_goals (simp; done)))
 | ((with_reducible refine callV_id (f := 105) ?_); (with_reducible apply w_callO [0] own105 (hT)); (case hx => rfl); (case he => rfl); (case hle => first | ((repeat constructor); done) ); (case hm => rfl); (case hnd => decide); (case' hK => conv => whnf); (any_goals (simp; done)))
 | ((with_reducible refine callV_id (f := 106) ?_); (with_reducible apply w_callO [0] own106 (hD)); (case hx => rfl); (case he => rfl); (case hle => first | ((repeat constructor); done) ); (case hm => rfl); (case hnd => decide); (case' hK => conv => whnf); (any_goals (simp; done)))
 | (refine p_call own77 (c_withinW _ _ _) ?_; conv => whnf)
 | ((with_reducible apply And.intro); (case' right => try (conv => whnf)); (case' left => try first | rfl | decide | (simp; done) ))
 | (first | (guard_hyp g9; intro g10; try simp at g10) | (guard_hyp g8; intro g9; try simp at g9) | (guard_hyp g7; intro g8; try simp at g8) | (guard_hyp g6; intro g7; try simp at g7) | (guard_hyp g5; intro g6; try simp at g6) | (guard_hyp g4; intro g5; try simp at g5) | (guard_hyp g3; intro g4; try simp at g4) | (guard_hyp g2; intro g3; try simp at g3) | (guard_hyp g1; intro g2; try simp at g2) | intro g1; try simp at g1))
  · have g9 : 128 ≤ at1 s 0 ∧ at1 s 0 ≤ 135 := by unfold at1; omega
    have e : okD s = decide (tl s (8 + at1 s 7) = ByteArray.empty) := by rw [okD, decide_eq_true g9, Bool.true_and]
    rw [e]
    ((first | refine w_retO Tryz.tab [] (by rfl) (by simp) (by simp) (fun K' hL => ?_) ?_ ?_ ?_ | refine w_retO_end Tryz.tab [] (by rfl) (by simp) (by simp) (fun K' hL => ?_) ?_ ?_ ?_); (conv => whnf); (refine hL _ ?_; clear hL); all_goals simp [decP, fl, at1])
  · have g9 : ¬ (128 ≤ at1 s 0 ∧ at1 s 0 ≤ 135) := by unfold at1; omega
    have e : okD s = false := by rw [okD, decide_eq_false g9, Bool.false_and]
    rw [e]
    ((first | refine w_retO Tryz.tab [] (by rfl) (by simp) (by simp) (fun K' hL => ?_) ?_ ?_ ?_ | refine w_retO_end Tryz.tab [] (by rfl) (by simp) (by simp) (fun K' hL => ?_) ?_ ?_ ?_); (conv => whnf); (refine hL _ ?_; clear hL); all_goals simp [decP, fl, at1])
abbrev jk6 : Ob := .box [.junk, .junk, .junk, .junk, .junk, .junk]
set_option maxHeartbeats 2000000 in
theorem x_dec1 (s : ByteArray) (p0 : Pkt) (h : ¬ (8 ≤ s.size ∧ 8 + at1 s 7 ≤ s.size)) (hs : s.size ≤ 1000000000000000) :
    XSpec Tryz.prog 103 [.ptr 0 0, .ptr 1 0] [rdB s, .box (pktC p0)] shortP [.box [.junk], jk6] := by
  by_cases q1 : 1 ≤ s.size
  · have hN1 := c_rnum s 0 1 (by omega) (by omega) hs
    rw [tl_zero] at hN1
    by_cases q2 : 3 ≤ s.size
    · have hN2 := c_rnum s 1 2 (by omega) (by omega) hs
      by_cases q3 : 7 ≤ s.size
      · have hN3 := c_rnum s 3 4 (by omega) (by omega) hs
        have hT : XSpec Tryz.prog 105 [.ptr 0 0] [rdB (tl s 7)] shortP [.box [.junk]] := by
          by_cases q4 : 8 ≤ s.size
          · exact x_text2 s 7 q4 (by omega) hs
          · exact x_text1 s 7 q4 q3
        refine v_xspec Tryz.func103 rfl Tryz.ntmps103 (by simp) (k := 2) rfl ?_
        repeat' (first
 | ((with_reducible first | refine w_regX (id := 5) 1 _ (by decide +kernel) rfl rfl fun K1 hK => ?_ ); (simp only [List.take_succ_cons, List.take_zero]))
 | (with_reducible first | apply qz0 | (refine h0 _ _ ?_; clear h0 hw) | (refine hw _ _ _ ?_; clear h0 hw) )
 | refine p_reg fun K1 hK => ?_
 | ((first | refine p_op Tryz.tab fun K' h0 hw => ?_ | refine p_op0 Tryz.tab fun K' h0 hw => ?_); conv => whnf)
 | (refine p_nil (hK _ ?_); clear hK)
 | ((with_reducible refine callV_id (f := 104) ?_); (with_reducible apply w_callO [0] own104 (hN1)); (case hx => rfl); (case he => rfl); (case hle => first | ((repeat constructor); done) ); (case hm => rfl); (case hnd => decide); (case' hK => conv => whnf); (any_goals (simp; done)))
 | ((with_reducible refine callV_id (f := 104) ?_); (with_reducible apply w_callO [0] own104 (hN2)); (case hx => rfl); (case he => rfl); (case hle => first | ((repeat constructor); done) ); (case hm => rfl); (case hnd => decide); (case' hK => conv => whnf); (any_goals (simp; done)))
 | ((with_reducible refine callV_id (f := 104) ?_); (with_reducible apply w_callO [0] own104 (hN3)); (case hx => rfl); (case he => rfl); (case hle => first | ((repeat constructor); done) ); (case hm => rfl); (case hnd => decide); (case' hK => conv => whnf); (any_goals (simp; done)))
 | ((with_reducible apply And.intro); (case' right => try (conv => whnf)); (case' left => try first | rfl | decide | (simp; done) ))
 | ((with_reducible apply v_nil); (case hm => (try simp only [Nat.reduceAdd, Nat.reduceMul]); exact rfl); (case' h => refine hK _ _ _ _ _ (panOp_call [0] own105 (hT) (by rfl) (by decide) (by simp) (by simp) (by rfl) (by rfl) ?_ ?_ ?_ ?_) ?_; clear hK); (any_goals first | ((repeat constructor); done) ))
 )
        (refine w_xend rfl ?_ ?_; all_goals simp [obsRet, callWs, callφ, backN, updG, obF, ObLe, ObLeG, Ob.opt])
      · have hN3 := x_rnum s 3 4 (by omega) (by omega)
        refine v_xspec Tryz.func103 rfl Tryz.ntmps103 (by simp) (k := 2) rfl ?_
        repeat' (first
 | ((with_reducible first | refine w_regX (id := 4) 1 _ (by decide +kernel) rfl rfl fun K1 hK => ?_ ); (simp only [List.take_succ_cons, List.take_zero]))
 | (with_reducible first | apply qz0 | (refine h0 _ _ ?_; clear h0 hw) | (refine hw _ _ _ ?_; clear h0 hw) )
 | refine p_reg fun K1 hK => ?_
 | ((first | refine p_op Tryz.tab fun K' h0 hw => ?_ | refine p_op0 Tryz.tab fun K' h0 hw => ?_); conv => whnf)
 | (refine p_nil (hK _ ?_); clear hK)
 | ((with_reducible refine callV_id (f := 104) ?_); (with_reducible apply w_callO [0] own104 (hN1)); (case hx => rfl); (case he => rfl); (case hle => first | ((repeat constructor); done) ); (case hm => rfl); (case hnd => decide); (case' hK => conv => whnf); (any_goals (simp; done)))
 | ((with_reducible refine callV_id (f := 104) ?_); (with_reducible apply w_callO [0] own104 (hN2)); (case hx => rfl); (case he => rfl); (case hle => first | ((repeat constructor); done) ); (case hm => rfl); (case hnd => decide); (case' hK => conv => whnf); (any_goals (simp; done)))
 | ((with_reducible apply And.intro); (case' right => try (conv => whnf)); (case' left => try first | rfl | decide | (simp; done) ))
 | ((with_reducible apply v_nil); (case hm => (try simp only [Nat.reduceAdd, Nat.reduceMul]); exact rfl); (case' h => refine hK _ _ _ _ _ (panOp_call [0] own104 (hN3) (by rfl) (by decide) (by simp) (by simp) (by rfl) (by rfl) ?_ ?_ ?_ ?_) ?_; clear hK); (any_goals first | ((repeat constructor); done) ))
 )
        (refine w_xend rfl ?_ ?_; all_goals simp [obsRet, callWs, callφ, backN, updG, obF, ObLe, ObLeG, Ob.opt])
    · have hN2 := x_rnum s 1 2 (by omega) (by omega)
      refine v_xspec Tryz.func103 rfl Tryz.ntmps103 (by simp) (k := 2) rfl ?_
      repeat' (first
 | ((with_reducible first | refine w_regX (id := 3) 1 _ (by decide +kernel) rfl rfl fun K1 hK => ?_ ); (simp only [List.take_succ_cons, List.take_zero]))
 | (with_reducible first | apply qz0 | (refine h0 _ _ ?_; clear h0 hw) | (refine hw _ _ _ ?_; clear h0 hw) )
 | refine p_reg fun K1 hK => ?_
 | ((first | refine p_op Tryz.tab fun K' h0 hw => ?_ | refine p_op0 Tryz.tab fun K' h0 hw => ?_); conv => whnf)
 | (refine p_nil (hK _ ?_); clear hK)
 | ((with_reducible refine callV_id (f := 104) ?_); (with_reducible apply w_callO [0] own104 (hN1)); (case hx => rfl); (case he => rfl); (case hle => first | ((repeat constructor); done) ); (case hm => rfl); (case hnd => decide); (case' hK => conv => whnf); (any_goals (simp; done)))
 | ((with_reducible apply And.intro); (case' right => try (conv => whnf)); (case' left => try first | rfl | decide | (simp; done) ))
 | ((with_reducible apply v_nil); (case hm => (try simp only [Nat.reduceAdd, Nat.reduceMul]); exact rfl); (case' h => refine hK _ _ _ _ _ (panOp_call [0] own104 (hN2) (by rfl) (by decide) (by simp) (by simp) (by rfl) (by rfl) ?_ ?_ ?_ ?_) ?_; clear hK); (any_goals first | ((repeat constructor); done) ))
 )
      (refine w_xend rfl ?_ ?_; all_goals simp [obsRet, callWs, callφ, backN, updG, obF, ObLe, ObLeG, Ob.opt])
  · have hN1 := x_rnum s 0 1 (by omega) (by omega)
    rw [tl_zero] at hN1
    refine v_xspec Tryz.func103 rfl Tryz.ntmps103 (by simp) (k := 2) rfl ?_
    repeat' (first
 | ((with_reducible first | refine w_regX (id := 1) 1 _ (by decide +kernel) rfl rfl fun K1 hK => ?_ ); (simp only [List.take_succ_cons, List.take_zero]))
 | (with_reducible first | apply qz0 | (refine h0 _ _ ?_; clear h0 hw) )
 | refine p_reg fun K1 hK => ?_
 | (refine p_op Tryz.tab fun K' h0 hw => ?_; conv => whnf)
 | (refine p_nil (hK _ ?_); clear hK)
 | ((with_reducible apply v_nil); (case hm => (try simp only [Nat.reduceAdd, Nat.reduceMul]); exact rfl); (case' h => refine hK _ _ _ _ _ (panOp_call [0] own104 (hN1) (by rfl) (by decide) (by simp) (by simp) (by rfl) (by rfl) ?_ ?_ ?_ ?_) ?_; clear hK); (any_goals first | ((repeat constructor); done) ))
 )
    (refine w_xend rfl ?_ ?_; all_goals simp [obsRet, callWs, callφ, backN, updG, obF, ObLe, ObLeG, Ob.opt])
end Go.Proofs.YtokkencbpmjdaaaGreat
end
section
namespace Go.Proofs.YtokkencbpmjdaaaGreat
open Go Go.Sy
set_option linter.unusedSimpArgs false
set_option linter.unusedVariables false
theorem catch_idle (p : Addr) (w : World) :
    CallsD Tryz.prog 122 #[.pointer (some p)] .returning w fun e u' w' => e = .returned (.tuple #[]) ∧ u' = .returning ∧ w' = w := by
  refine callsD_of_wpS Tryz.func122 rfl fun c₀ cs hu => ?_
  apply wpS_seq
  apply wpS_region
  simp [wpOpsS, go_sem, recoverD, hu, Tryz.ntmps122, Exit.thenS]
  apply wpS_seq
  apply wpS_region
  simp [wpOpsS, go_sem, recoverD, hu, Tryz.ntmps122, Exit.thenS]
  refine wpS_cond (t := false) (by simp [Act.eval, Array.replicate]) ?_
  simp only [Bool.false_eq_true, if_false]
  refine wpS_of_wp (wp_skip ?_)
  cases c₀
  simp_all [bodyPostS, results, Tryz.results122]
theorem catch_pan (p : Addr) (w : World) (x : Value) (hc : w.cell? p = some x) (hz : w.frozen? p = false) :
    CallsD Tryz.prog 122 #[.pointer (some p)] (.panicking shortP) w fun e u' w' =>
      e = .returned (.tuple #[]) ∧ u' = .panicking [{ v := .iface 172 (.agg #[]), recovered := true }] ∧ w' = (w.alloc (.cells #[] 172)).setCell p (.bool false) := by
  have hb := World.block_lt_of_cell? w p hc
  have hc2 : (w.alloc (.cells #[] 172)).cell? p = some x := by rw [World.cell?_alloc_lt w _ p hb]; exact hc
  have hz2 : (w.alloc (.cells #[] 172)).frozen? p = false := by
    unfold World.frozen? at hz ⊢
    rw [heap_old w _ _ hb]; exact hz
  refine callsD_of_wpS Tryz.func122 rfl fun c₀ cs hu => ?_
  apply wpS_seq
  apply wpS_region
  simp [wpOpsS, go_sem, recoverD, hu, shortP, Tryz.ntmps122, Exit.thenS]
  apply wpS_seq
  apply wpS_region
  simp [wpOpsS, go_sem, recoverD, hu, Tryz.ntmps122, Exit.thenS]
  refine wpS_cond (t := true) (by simp [Act.eval, Array.replicate]) ?_
  simp only [if_true]
  refine wpS_of_wp ?_
  have hta : ∀ (w : World), (Instr.typeAssert (.iface 172 (.agg #[])) 20 172 true).run Tryz.prog w = .ok (.tuple #[.agg #[], .bool true]) w := fun w => by
    simp [Instr.typeAssert, run_underlying (Tryz.underlying172)]
  apply wp_seq
  apply wp_seq
  apply wp_region
  simp [wpOps, Oper.wp, go_sem, hta, Tryz.ntmps122, Exit.then]
  repeat (with_reducible refine Or.inl ?_)
  apply wp_seq
  apply wp_region
  simp [wpOps, Oper.wp, go_sem, Tryz.ntmps122, Exit.then]
  repeat (with_reducible refine Or.inl ?_)
  refine wp_cond (t := false) (by simp [Act.eval, Array.replicate]) ?_
  simp only [Bool.false_eq_true, if_false]
  refine wp_skip ?_
  apply wp_region
  simp [wpOps, Oper.wp, go_sem, Tryz.ntmps122, Exit.then, hc2, hz2]
  repeat (with_reducible refine Or.inl ?_)
  cases c₀
  simp_all [bodyPostS, results, Tryz.results122]
end Go.Proofs.YtokkencbpmjdaaaGreat
end
section
namespace Go.Proofs.YtokkencbpmjdaaaGreat
open Go Go.Sy
set_option maxRecDepth 4000
set_option linter.unusedSimpArgs false
set_option linter.unusedVariables false
attribute [local irreducible] Reg RegD Later Out CallV Tri Side EqV Pause
theorem _root_.Go.Sy.tri_use {P : Program} {N : Nat} {code : Code} {σ : St} (K : Exit → St → Prop) {c : Ctx} {H : View} {ε : Env} {a : Act} {w : World} {Q : Exit → Act → World → Prop} (h : Tri P N code σ K) (hc : c.N = N) (hi : Inv c H ε σ a w)
    (hQ : ∀ e σ' H' ε' a' w', K e σ' → Inv c H' ε' σ' a' w' → Q e a' w') (hro : c.ro = none := by rfl) : code.wp P Q a w := by
  unfold Tri at h
  have h := h c H ε a w hc hi Q hQ
  rw [hro] at h
  exact (wpIn_wide (n := 0)).1 h
theorem setCell_same (w : World) (p : Addr) (v : Value) (h : w.cell? p = some v) (hs : p.spot = none) : w.setCell p v = w := by
  unfold World.cell? at h
  unfold World.setCell
  refine congrArg (fun h => ({ w with heap := h } : World)) (a₂ := w.heap) ?_
  · skip
    apply Array.ext
    · simp
    · intro i h1 h2
      rw [Array.getElem_modify]
      split
      · rename_i hi
        subst hi
        rw [Array.getElem?_eq_getElem h2] at h
        generalize w.heap[p.block] = ob at h ⊢
        cases ob <;> simp [hs] at h ⊢
        apply Array.ext
        · simp
        · intro j h3 h4
          rw [Array.getElem_setIfInBounds]
          split
          · rename_i hj
            subst hj
            rw [Array.getElem?_eq_getElem h4] at h
            simpa using h.symm
          · rfl
      · rfl
def Flat (cs : List AV) : Prop := (∀ φ, renL φ cs = cs) ∧ ∀ n, ltL n cs
theorem flat_pkt (p : Pkt) : Flat (pktC p) := ⟨fun φ => by simp [renL, AV.ren], fun n => by simp [ltL, AV.lt]⟩
theorem flat_jk6 : Flat [.junk, .junk, .junk, .junk, .junk, .junk] := ⟨fun φ => by simp [renL, AV.ren], fun n => by simp [ltL, AV.lt]⟩
def rdK0 (s : ByteArray) (g : FuncId) (c0 : List AV) : Exit → St → Prop := fun e σ => e = .normal ∧ σ.tm 0 = Tx s ∧ σ.tm 1 = .fn (.func g) [] [.ptr 0 0] ∧ σ.tm 4 = .ptr 1 0 ∧ (∀ i, σ.ob i = if i = 0 then some (.box c0) else if i = 1 then some (.box [B false]) else none) ∧ σ.nx = 17
def rdK2 (c1 : List AV) (b : Bool) (ex : Exit) : Exit → St → Prop := fun e σ => e = ex ∧ σ.tm 4 = .ptr 1 0 ∧ ObLe (σ.ob 0) (.box c1) ∧ σ.ob 1 = some (.box [B b])
def rdS (s : ByteArray) (g : FuncId) (c0 : List AV) : St := ⟨wr (wr (wr (fun _ => .junk) 0 (Tx s)) 1 (.fn (.func g) [] [.ptr 0 0])) 4 (.ptr 1 0), wo (wo (fun _ => none) 0 (.box c0)) 1 (.box [B false]), 17⟩
set_option maxHeartbeats 2000000 in
theorem c_readG_ok (g : FuncId) (ho : Own Tryz.prog g) (s s' : ByteArray) (c0 c1 : List AV) (hc0 : Flat c0) (hc1 : Flat c1) (b : Bool) (hdo : CSpec Tryz.prog g [.ptr 0 0, .ptr 1 0] [rdB s, .box c0] (B b) [rdB s', .box c1]) :
    CSpec Tryz.prog 102 [Tx s, .fn (.func g) [] [.ptr 0 0]] [.box c0] (B b) [.box c1] := by
  intro w H ε vs hm hvs hdom
  refine calls_of_wp_defers Tryz.func102 rfl ?_
  have hinv := start_inv (P := Tryz.prog) (fn := Tryz.f102) (N := 11) Tryz.ntmps102 (by simp) hm hvs hdom
  refine wp_seq ?_
  refine tri_use (N := 11) (rdK0 s g c0) ?_ rfl hinv ?_
  · rw [show St.startO [Tx s, .fn (.func g) [] [.ptr 0 0]] [Ob.box c0] = ⟨slots [Tx s, .fn (.func g) [] [.ptr 0 0]], obF [.box c0], 1⟩ by unfold St.startO; congr 1; funext i; exact slots_get _ i]
    repeat' (first
 | (with_reducible first | (refine hw _ _ _ ?_; clear h0 hw) )
 | refine p_regE fun K1 hK => ?_
 | (refine p_op Tryz.tab fun K' h0 hw => ?_; conv => whnf)
 | (refine p_nil (hK _ ?_); clear hK)
 | ((with_reducible apply And.intro); (case' right => try (conv => whnf)); (case' left => try first | rfl ))
 )
    rw [out_iff]
    refine ⟨rfl, rfl, rfl, rfl, fun i => ?_, rfl⟩
    match i with
    | 0 => rfl
    | 1 => rfl
    | _ + 2 => rfl
  rintro e σ1 H1 ε1 a1 w1 ⟨rfl, k0, k1, k4, kob, knx⟩ hi1
  refine wp_seq ?_
  refine wp_region ?_
  obtain ⟨bk, hv4, hε4⟩ := R.ptr_inv (k4 ▸ hi1.tm 4)
  have hv4' : a1.tmps[4]?.getD undef = .pointer (some ⟨bk, 0, none⟩) := by rw [← Array.getD_eq_getD_getElem?]; exact hv4
  have hmf : ∀ (fn : Fn) (first cap : Array Value) (w : World), (Instr.makeFunc fn first cap).run Tryz.prog w = .ok (.func fn first cap) w := fun _ _ _ _ => rfl
  have hsz : 5 < a1.tmps.size := by rw [hi1.sz]; show 5 < 11; omega
  have hset : (a1.tmps.setIfInBounds 5 (.func (.func 122) #[] #[.pointer (some ⟨bk, 0, none⟩)]))[5]?.getD undef = .func (.func 122) #[] #[.pointer (some ⟨bk, 0, none⟩)] := by simp [hsz]
  simp [wpOps, Oper.wp, go_sem, Region.wanted, hv4', hmf, resolve, Deferred.ofValue, Act.put, hset, hsz]
  repeat (with_reducible refine Or.inl ?_)
  have hi2 : Inv { callCtx w H ε 1 with N := 11, D := [{ target := .fn (.func 122) #[.pointer (some ⟨bk, 0, none⟩)], args := #[] }] } H1 ε1 (rdS s g c0) { tmps := a1.tmps.setIfInBounds 5 (.func (.func 122) #[] #[.pointer (some ⟨bk, 0, none⟩)]), defers := { target := .fn (.func 122) #[.pointer (some ⟨bk, 0, none⟩)], args := #[] } :: a1.defers } w1 := by
    have hm1 := hi1.mem
    have hob : σ1.ob = (rdS s g c0).ob := by
      funext i
      rw [kob i]
      match i with
      | 0 => rfl
      | 1 => rfl
      | _ + 2 => rfl
    rw [hob] at hm1
    refine ⟨by simp [hi1.sz], by simp [hi1.df, callCtx], fun i => ?_, ⟨hm1.view, hm1.objs, hm1.dj, hm1.own, hm1.os, hm1.tape, hm1.output, hm1.size, hm1.block, hm1.hle, hm1.hold, hm1.ele, hm1.low, hm1.top, hm1.lo, hm1.fz, hm1.wr⟩, fun id hid => hi1.dom id (by rw [knx]; exact hid)⟩
    have hne : ∀ j, j ≠ 5 → (a1.tmps.setIfInBounds 5 (.func (.func 122) #[] #[.pointer (some ⟨bk, 0, none⟩)])).getD j undef = a1.tmps.getD j undef := fun j hj => by
      simp only [Array.getD_eq_getD_getElem?, Array.getElem?_setIfInBounds, if_neg (Ne.symm hj)]
    match i with
    | 0 => rw [hne 0 (by decide)]; have := hi1.tm 0; rw [k0] at this; exact this
    | 1 => rw [hne 1 (by decide)]; have := hi1.tm 1; rw [k1] at this; exact this
    | 2 => exact .junk _
    | 3 => exact .junk _
    | 4 => rw [hne 4 (by decide)]; have := hi1.tm 4; rw [k4] at this; exact this
    | _ + 5 => exact .junk _
  refine tri_use (N := 11) (rdK2 c1 b .ret) ?_ rfl hi2 ?_
  · unfold rdS
    repeat' (first
 | (with_reducible first | apply qz0 | (refine h0 _ _ ?_; clear h0 hw) | (refine hw _ _ _ ?_; clear h0 hw) | apply qz1 )
 | refine p_reg fun K1 hK => ?_
 | ((first | refine p_op Tryz.tab fun K' h0 hw => ?_ | refine p_op0 Tryz.tab fun K' h0 hw => ?_); conv => whnf)
 | (refine p_nil (hK _ ?_); clear hK)
 | ((with_reducible apply And.intro); (case' right => try (conv => whnf)); (case' left => try first | rfl | decide ))
 | ((with_reducible apply w_callO [65, 0] ho hdo); (case hx => rfl); (case he => rfl); (case hle => simp); (case hm => rfl); (case hnd => decide); (case' hK => conv => whnf); (any_goals (simp [hc0.1, hc0.2, hc1.1, hc1.2, LeL.rfl']; done)))
 | (simp only [hc1.1, nfL_eq]; conv => whnf)
 )
    rw [out_iff]
    refine ⟨rfl, rfl, ?_, rfl⟩
    show ObLe (some (.box c1)) (.box c1)
    simp [ObLe, LeL.rfl']
  rintro e σ3 H3 ε3 a3 w3 ⟨rfl, h4, h5, h6⟩ hi3
  have ht := Tryz.tab 4 _ rfl
  have hres : resL Tryz.prog σ3 Tryz.f102.results.toList = some [B b] := by
    rw [show Tryz.f102.results = #[.cell 4 4] from Tryz.results102]
    simp [resL, resAV, ht, h4, h6, ofCells, Kd.agg]
  obtain ⟨vs', q1, q2⟩ := res_run hi3 hres
  obtain ⟨v, rfl, q3⟩ : ∃ v, vs' = [v] ∧ R H3 ε3 v (B b) := by
    cases q2 with
    | cons v _ _ _ q3 q4 => cases q4; exact ⟨v, rfl, q3⟩
  have hrr : (results Tryz.f102 a3.tmps).run Tryz.prog w3 = .ok v w3 := by
    rw [results_eq]
    simp only [Sem.run_bind, q1, Result.andThen_ok, Sem.run_pure]
  obtain ⟨hel, hmem⟩ := back_mem (w := w) (H := H) (ε := ε) (obs := [.box c0]) (obs' := [.box c1]) [] hdom rfl (by simp) (by simp) (by
    have : backN 1 [] 0 = 0 := rfl
    refine ⟨?_, trivial⟩
    rw [show backN [Ob.box c0].length [] 0 = 0 from rfl]
    simpa [ObLeG, Ob.ren, AV.ren, renL, hc1.1] using h5) (by simp [hc1.2]) hi3
  have hd3 := hi3.df
  show Leaves Tryz.prog Tryz.f102 a3.tmps _ a3.defers .returning w3
  rw [hd3]
  refine leaves_cons (f := 122) (args := #[.pointer (some ⟨bk, 0, none⟩)]) (by simp) (by simp [go_sem]) ?_
  refine (catch_idle _ _).mono ?_
  rintro e u' w'' ⟨rfl, rfl, rfl⟩
  refine ⟨v, hrr, v, rfl, H3, hi3.mem.hle, _, hel, fun id hid => if_neg (by simp; omega), ?_, hmem⟩
  obtain ⟨rfl, h⟩ := q3.s_inv
  exact .d _ _ (.s _ rfl)
set_option maxHeartbeats 2000000 in
theorem c_readG_pan (g : FuncId) (ho : Own Tryz.prog g) (s : ByteArray) (c0 c1 : List AV) (hc0 : Flat c0) (hc1 : Flat c1) (hdo : XSpec Tryz.prog g [.ptr 0 0, .ptr 1 0] [rdB s, .box c0] shortP [.box [.junk], .box c1]) :
    CSpec Tryz.prog 102 [Tx s, .fn (.func g) [] [.ptr 0 0]] [.box c0] (B false) [.box c1] := by
  intro w H ε vs hm hvs hdom
  refine calls_of_wp_defers Tryz.func102 rfl ?_
  have hinv := start_inv (P := Tryz.prog) (fn := Tryz.f102) (N := 11) Tryz.ntmps102 (by simp) hm hvs hdom
  refine wp_seq ?_
  refine tri_use (N := 11) (rdK0 s g c0) ?_ rfl hinv ?_
  · rw [show St.startO [Tx s, .fn (.func g) [] [.ptr 0 0]] [Ob.box c0] = ⟨slots [Tx s, .fn (.func g) [] [.ptr 0 0]], obF [.box c0], 1⟩ by unfold St.startO; congr 1; funext i; exact slots_get _ i]
    repeat' (first
 | (with_reducible first | (refine hw _ _ _ ?_; clear h0 hw) )
 | refine p_regE fun K1 hK => ?_
 | (refine p_op Tryz.tab fun K' h0 hw => ?_; conv => whnf)
 | (refine p_nil (hK _ ?_); clear hK)
 | ((with_reducible apply And.intro); (case' right => try (conv => whnf)); (case' left => try first | rfl ))
 )
    rw [out_iff]
    refine ⟨rfl, rfl, rfl, rfl, fun i => ?_, rfl⟩
    match i with
    | 0 => rfl
    | 1 => rfl
    | _ + 2 => rfl
  rintro e σ1 H1 ε1 a1 w1 ⟨rfl, k0, k1, k4, kob, knx⟩ hi1
  refine wp_seq ?_
  refine wp_region ?_
  obtain ⟨bk, hv4, hε4⟩ := R.ptr_inv (k4 ▸ hi1.tm 4)
  have hv4' : a1.tmps[4]?.getD undef = .pointer (some ⟨bk, 0, none⟩) := by rw [← Array.getD_eq_getD_getElem?]; exact hv4
  have hmf : ∀ (fn : Fn) (first cap : Array Value) (w : World), (Instr.makeFunc fn first cap).run Tryz.prog w = .ok (.func fn first cap) w := fun _ _ _ _ => rfl
  have hsz : 5 < a1.tmps.size := by rw [hi1.sz]; show 5 < 11; omega
  have hset : (a1.tmps.setIfInBounds 5 (.func (.func 122) #[] #[.pointer (some ⟨bk, 0, none⟩)]))[5]?.getD undef = .func (.func 122) #[] #[.pointer (some ⟨bk, 0, none⟩)] := by simp [hsz]
  simp [wpOps, Oper.wp, go_sem, Region.wanted, hv4', hmf, resolve, Deferred.ofValue, Act.put, hset, hsz]
  repeat (with_reducible refine Or.inl ?_)
  have hi2 : Inv { callCtx w H ε 1 with N := 11, E0 := fun id => if id < 2 then ε1 id else none, D := [{ target := .fn (.func 122) #[.pointer (some ⟨bk, 0, none⟩)], args := #[] }] } H1 ε1 (rdS s g c0) { tmps := a1.tmps.setIfInBounds 5 (.func (.func 122) #[] #[.pointer (some ⟨bk, 0, none⟩)]), defers := { target := .fn (.func 122) #[.pointer (some ⟨bk, 0, none⟩)], args := #[] } :: a1.defers } w1 := by
    have hm1 := hi1.mem
    have hob : σ1.ob = (rdS s g c0).ob := by
      funext i
      rw [kob i]
      match i with
      | 0 => rfl
      | 1 => rfl
      | _ + 2 => rfl
    rw [hob] at hm1
    have hlt2 : ∀ i, (rdS s g c0).ob i ≠ none → i < 2 := fun i hi => by
      match i, hi with
      | 0, _ => omega
      | 1, _ => omega
      | i + 2, hi => exact absurd rfl hi
    have hele2 : Env.le (fun id => if id < 2 then ε1 id else none) ε1 := fun i l hl => by
      simp only at hl
      split at hl
      · exact Env.le_refl ε1 i l hl
      · cases hl
    refine ⟨by simp [hi1.sz], by simp [hi1.df, callCtx], fun i => ?_, ⟨hm1.view, hm1.objs, hm1.dj, fun i hi b hb => (hm1.own i hi b hb).imp id fun h => ⟨h.1, by simp only; rw [if_pos (hlt2 i hi)]; exact hb⟩, hm1.os, hm1.tape, hm1.output, hm1.size, hm1.block, hm1.hle, hm1.hold, hele2, fun i hi => by simp only; rw [if_neg (by omega)], hm1.top, hm1.lo, hm1.fz, hm1.wr⟩, fun id hid => hi1.dom id (by rw [knx]; exact hid)⟩
    have hne : ∀ j, j ≠ 5 → (a1.tmps.setIfInBounds 5 (.func (.func 122) #[] #[.pointer (some ⟨bk, 0, none⟩)])).getD j undef = a1.tmps.getD j undef := fun j hj => by
      simp only [Array.getD_eq_getD_getElem?, Array.getElem?_setIfInBounds, if_neg (Ne.symm hj)]
    match i with
    | 0 => rw [hne 0 (by decide)]; have := hi1.tm 0; rw [k0] at this; exact this
    | 1 => rw [hne 1 (by decide)]; have := hi1.tm 1; rw [k1] at this; exact this
    | 2 => exact .junk _
    | 3 => exact .junk _
    | 4 => rw [hne 4 (by decide)]; have := hi1.tm 4; rw [k4] at this; exact this
    | _ + 5 => exact .junk _
  refine tri_use (N := 11) (rdK2 c1 false (.panic shortP)) ?_ rfl hi2 ?_
  · unfold rdS
    repeat' (first
 | ((with_reducible first | refine w_regX (id := 2) 4 _ (by decide +kernel) rfl rfl fun K1 hK => ?_ ); (simp only [List.take_succ_cons, List.take_zero]))
 | (with_reducible first | (refine h0 _ _ ?_; clear h0 hw) | (refine hw _ _ _ ?_; clear h0 hw) )
 | (refine p_op Tryz.tab fun K' h0 hw => ?_; conv => whnf)
 | ((with_reducible apply And.intro); (case' right => try (conv => whnf)); (case' left => try first | rfl ))
 | ((with_reducible apply v_nil); (case hm => (try simp only [Nat.reduceAdd, Nat.reduceMul]); exact rfl); (case' h => refine hK _ _ _ _ _ (panOp_call [65, 0] ho hdo (by rfl) (by decide) (by simp) (by simp) (by rfl) (by rfl) ?_ ?_ ?_ ?_) ?_; clear hK); (any_goals first | ((repeat constructor); done) | (simp [hc0.1, hc0.2, hc1.1, hc1.2, LeL.rfl']; done)))
 | (simp only [hc1.1, nfL_eq]; conv => whnf)
 )
    rw [out_iff]
    refine ⟨rfl, rfl, ?_, rfl⟩
    show ObLe (some (.box (renL _ c1))) (.box c1)
    rw [hc1.1]; simp [ObLe, LeL.rfl']
  rintro e σ3 H3 ε3 a3 w3 ⟨rfl, h4, h5, h6⟩ hi3
  have hε0 : ∀ l, ε 0 = some l → ∃ b0, l = .blk b0 ∧ ε1 0 = some (.blk b0) := fun l hl => by
    have h1 := hi1.mem.ele 0 l hl
    obtain ⟨b0, _, _, q1, _⟩ := hi1.mem.objs 0 (.box c0) (by rw [kob 0]; rfl)
    cases l with
    | blk b' => exact ⟨b', rfl, h1⟩
    | row v n => obtain ⟨v', n', e1, _⟩ := h1; rw [q1] at e1; cases e1
  have hele : ε.le ε3 := fun id l hl => by
    by_cases h0 : id = 0
    · subst h0
      obtain ⟨b0, rfl, h1⟩ := hε0 l hl
      exact hi3.mem.ele 0 (.blk b0) (by simp only; rw [if_pos (by omega)]; exact h1)
    · rw [hdom id (show [Ob.box c0].length ≤ id by simp; omega)] at hl; cases hl
  have hown : ∀ id, σ3.ob id ≠ none → ∀ b, blkOf (ε3 id) = some b → w.heap.size ≤ b ∨ ((callCtx w H ε 1).S b ∧ blkOf (ε id) = some b) := fun id hid b hb => by
    rcases hi3.mem.own id hid b hb with h | ⟨h, h'⟩
    · exact .inl h
    · obtain ⟨k, hk, hkb⟩ := h
      have hk0 : k = 0 := by omega
      subst hk0
      refine .inr ⟨⟨0, hk, hkb⟩, ?_⟩
      simp only at h'
      split at h'
      · by_cases hq : id = 0
        · subst hq; exact hkb
        · have hid1 : id = 1 := by omega
          subst hid1
          exfalso
          cases hl : ε 0 with
          | none => rw [hl] at hkb; cases hkb
          | some l =>
            obtain ⟨b0, rfl, h1⟩ := hε0 l hl
            rw [hl] at hkb
            cases hkb
            exact hi1.mem.dj 0 1 (by rw [kob 0]; simp) (by rw [kob 1]; simp) (by omega) b (by rw [h1]; rfl) h'
      · cases h'
  have hi3' : Inv { callCtx w H ε 1 with N := 11, D := [{ target := .fn (.func 122) #[.pointer (some ⟨bk, 0, none⟩)], args := #[] }] } H3 ε3 σ3 a3 w3 := ⟨hi3.sz, hi3.df, hi3.tm, ⟨hi3.mem.view, hi3.mem.objs, hi3.mem.dj, hown, hi3.mem.os, hi3.mem.tape, hi3.mem.output, hi3.mem.size, hi3.mem.block, hi3.mem.hle, hi3.mem.hold, hele, hi1.mem.low, hi1.mem.top, hi3.mem.lo, hi3.mem.fz, hi3.mem.wr⟩, hi3.dom⟩
  have hε3 : ε3 1 = some (.blk bk) := hi3.mem.ele 1 (.blk bk) hε4
  obtain ⟨arr, T', hh, hrl, _, _⟩ := (hi3.mem.objs 1 _ h6).box hε3
  have harr : arr = #[.bool false] := by
    cases hq : arr.toList with
    | nil => rw [hq] at hrl; cases hrl
    | cons v l =>
      rw [hq] at hrl
      cases hrl with
      | cons _ _ _ _ h t =>
        cases t
        rw [h.s_inv.1] at hq
        rw [← Array.toArray_toList (xs := arr), hq]
  subst harr
  have hc : w3.cell? ⟨bk, 0, none⟩ = some (.bool false) := by rw [cell_of_row _ _ _ _ T' (0, 0) hh]; rfl
  have hz : w3.frozen? ⟨bk, 0, none⟩ = false := by
    unfold World.frozen?
    rw [hh]; simp
  have hi4 : Inv { callCtx w H ε 1 with N := 11, D := [{ target := .fn (.func 122) #[.pointer (some ⟨bk, 0, none⟩)], args := #[] }] } H3 ε3 σ3 a3 (w3.alloc (.cells #[] 172)) := ⟨hi3'.sz, hi3'.df, hi3'.tm, hi3'.mem.ext (View.le_refl H3) (fun _ _ _ => rfl) (fun b o v h => cell_alloc_lt (hi3'.mem.view b o v h)) (fun b o v hb h => absurd (View.lt hi3'.mem.view h) (Nat.not_lt.2 hb)) (fun k hk => heap_old w3 _ k hk) (by simp) rfl rfl rfl, hi3'.dom⟩
  have ht := Tryz.tab 4 _ rfl
  have hres : resL Tryz.prog σ3 Tryz.f102.results.toList = some [B false] := by
    rw [show Tryz.f102.results = #[.cell 4 4] from Tryz.results102]
    simp [resL, resAV, ht, h4, h6, ofCells, Kd.agg]
  obtain ⟨vs', q1, q2⟩ := res_run hi4 hres
  obtain ⟨v, rfl, q3⟩ : ∃ v, vs' = [v] ∧ R H3 ε3 v (B false) := by
    cases q2 with
    | cons v _ _ _ q3 q4 => cases q4; exact ⟨v, rfl, q3⟩
  have hrr : (results Tryz.f102 a3.tmps).run Tryz.prog (w3.alloc (.cells #[] 172)) = .ok v (w3.alloc (.cells #[] 172)) := by
    rw [results_eq]
    simp only [Sem.run_bind, q1, Result.andThen_ok, Sem.run_pure]
  obtain ⟨hel, hmem⟩ := back_mem (w := w) (H := H) (ε := ε) (obs := [.box c0]) (obs' := [.box c1]) [] hdom rfl (by simp) (by simp) (by
    refine ⟨?_, trivial⟩
    rw [show backN [Ob.box c0].length [] 0 = 0 from rfl]
    simpa [ObLeG, Ob.ren, AV.ren, renL, hc1.1] using h5) (by simp [hc1.2]) hi4
  have hd3 := hi3.df
  show Leaves Tryz.prog Tryz.f102 a3.tmps _ a3.defers (.panicking shortP) w3
  rw [hd3]
  refine leaves_cons (f := 122) (args := #[.pointer (some ⟨bk, 0, none⟩)]) (by simp) (by simp [go_sem]) ?_
  refine (catch_pan _ _ _ hc hz).mono ?_
  rintro e u' w'' ⟨rfl, rfl, rfl⟩
  rw [setCell_same _ _ _ (cell_alloc_lt hc) rfl]
  refine ⟨v, hrr, v, rfl, H3, hi3'.mem.hle, _, hel, fun id hid => if_neg (by simp; omega), ?_, hmem⟩
  obtain ⟨rfl, h⟩ := q3.s_inv
  exact .d _ _ (.s _ rfl)
theorem c_read_ok (g : FuncId) (ho : Own Tryz.prog g) (s s' : ByteArray) (p0 p1 : Pkt) (b : Bool) (hdo : CSpec Tryz.prog g [.ptr 0 0, .ptr 1 0] [rdB s, .box (pktC p0)] (B b) [rdB s', .box (pktC p1)]) :
    CSpec Tryz.prog 102 [Tx s, .fn (.func g) [] [.ptr 0 0]] [.box (pktC p0)] (B b) [.box (pktC p1)] := c_readG_ok g ho s s' _ _ (flat_pkt p0) (flat_pkt p1) b hdo
theorem c_read_pan (g : FuncId) (ho : Own Tryz.prog g) (s : ByteArray) (p0 : Pkt) (hdo : XSpec Tryz.prog g [.ptr 0 0, .ptr 1 0] [rdB s, .box (pktC p0)] shortP [.box [.junk], jk6]) :
    CSpec Tryz.prog 102 [Tx s, .fn (.func g) [] [.ptr 0 0]] [.box (pktC p0)] (B false) [jk6] := c_readG_pan g ho s _ _ (flat_pkt p0) flat_jk6 hdo
end Go.Proofs.YtokkencbpmjdaaaGreat
end
section
namespace Go.Proofs.YtokkencbpmjdaaaGreat
open Go Go.Sy
set_option maxRecDepth 4000
set_option linter.unusedSimpArgs false
set_option linter.unusedVariables false
attribute [local irreducible] Reg RegD Later Out CallV Tri Side EqV Pause
def pk0 : Pkt := ⟨0, 0, false, false, false, ByteArray.empty⟩
def formB (s : ByteArray) : Bool := decide (8 ≤ s.size) && decide (s.size = 8 + at1 s 7) && decide (128 ≤ at1 s 0 ∧ at1 s 0 ≤ 135)
def decS (s : ByteArray) : Pkt × Int := if formB s = true then (if pktE (decP s) = 0 then (decP s, 0) else (pk0, pktE (decP s))) else (pk0, 1)
abbrev decT (r : Pkt × Int) : AV := .tup [.agg (pktC r.1), I r.2]
theorem tl_empty (s : ByteArray) (o : Nat) : tl s o = ByteArray.empty ↔ s.size ≤ o := by
  constructor
  · intro h
    have := congrArg ByteArray.size h
    rw [tl_size] at this
    have h0 : ByteArray.empty.size = 0 := rfl
    omega
  · intro h
    have h1 : (tl s o).size = 0 := by rw [tl_size]; omega
    apply ByteArray.ext
    exact Array.eq_empty_of_size_eq_zero h1
theorem formB_eq {s : ByteArray} (h1 : 8 ≤ s.size) (h2 : 8 + at1 s 7 ≤ s.size) : formB s = okD s := by
  rw [Bool.eq_iff_iff]
  simp only [formB, okD, Bool.and_eq_true, decide_eq_true_eq, tl_empty]
  omega
set_option maxHeartbeats 2000000 in
theorem c_decode (s : ByteArray) (hs : s.size ≤ 1000000000000000) : PSpec Tryz.prog 69 [Tx s] (decT (decS s)) := by
  refine p_pspec Tryz.func69 Tryz.ntmps69 Tryz.results69 ?_
  by_cases h : 8 ≤ s.size ∧ 8 + at1 s 7 ≤ s.size
  · have hR := c_read_ok 103 own103 s _ pk0 (decP s) (okD s) (c_dec1 s pk0 h.1 h.2 hs)
    have hf := formB_eq h.1 h.2
    repeat' (first
 | (with_reducible first | apply qz0 | (refine h0 _ _ ?_; clear h0 hw) | (refine hw _ _ _ ?_; clear h0 hw) | apply qz1 | apply qz2 | apply qz5 | apply qz6 | (refine hL _ ?_; clear hL))
 | refine p_reg fun K1 hK => ?_
 | apply go_seq
 | ((first | refine p_op Tryz.tab fun K' h0 hw => ?_ | refine p_op0 Tryz.tab fun K' h0 hw => ?_); conv => whnf)
 | (refine p_nil (hK _ ?_); clear hK)
 | ((with_reducible refine callV_id (f := 102) ?_); (with_reducible apply w_callO [32] own102 (hR)); (case hx => rfl); (case he => rfl); (case hle => first | ((repeat constructor); done) ); (case hm => rfl); (case hnd => decide); (case' hK => conv => whnf); (any_goals (simp [pk0]; done)))
 | ((with_reducible refine callV_id (f := 46) ?_); have hcs_ := c_wireCheck (decP s); (with_reducible apply callV_f own46 (hcs_)); (case hx => rfl); (case he => rfl); (case hle => first | ((repeat constructor); done) ); (case hpu => repeat constructor); (case' hK => (try clear hcs_); conv => whnf))
 | ((with_reducible apply go_cond); (case hb => rfl))
 | ((with_reducible first | refine w_ret Tryz.tab fun K' hL => ?_ ); (conv => whnf))
 | ((with_reducible apply And.intro); (case' right => try (conv => whnf)); (case' left => try first | rfl | decide | (simp [pk0]; done) ))
 | (first | (guard_hyp g2; intro g3; try simp at g3) | (guard_hyp g1; intro g2; try simp at g2) | intro g1; try simp at g1))
    · have e : decS s = (pk0, 1) := by rw [decS, hf, if_neg (by simp [g1])]
      rw [e]; simp [pk0]
    · have e : decS s = (pk0, pktE (decP s)) := by rw [decS, hf, if_pos g1, if_neg g2]
      rw [e]; simp [pk0]
    · have e : decS s = (decP s, 0) := by rw [decS, hf, if_pos g1, if_pos g2]
      rw [e]; simp
  · have hR := c_read_pan 103 own103 s pk0 (x_dec1 s pk0 h hs)
    have hf : formB s = false := by
      rw [Bool.eq_false_iff]
      intro hq
      simp only [formB, Bool.and_eq_true, decide_eq_true_eq] at hq
      omega
    repeat' (first
 | (with_reducible first | apply qz0 | (refine h0 _ _ ?_; clear h0 hw) | (refine hw _ _ _ ?_; clear h0 hw) | apply qz1 | apply qz5 | (refine hL _ ?_; clear hL))
 | refine p_reg fun K1 hK => ?_
 | apply go_seq
 | ((first | refine p_op Tryz.tab fun K' h0 hw => ?_ | refine p_op0 Tryz.tab fun K' h0 hw => ?_); conv => whnf)
 | (refine p_nil (hK _ ?_); clear hK)
 | ((with_reducible refine callV_id (f := 102) ?_); (with_reducible apply w_callO [32] own102 (hR)); (case hx => rfl); (case he => rfl); (case hle => first | ((repeat constructor); done) ); (case hm => rfl); (case hnd => decide); (case' hK => conv => whnf); (any_goals (simp [pk0]; done)))
 | ((with_reducible apply go_cond); (case hb => rfl))
 | ((with_reducible first | refine w_ret Tryz.tab fun K' hL => ?_ ); (conv => whnf))
 | ((with_reducible apply And.intro); (case' right => try (conv => whnf)); (case' left => try first | rfl | decide ))
 | (first | (guard_hyp g2; intro g3; try simp at g3) | (guard_hyp g1; intro g2; try simp at g2) | intro g1; try simp at g1))
    have e : decS s = (pk0, 1) := by rw [decS, hf, if_neg (by simp)]
    rw [e]; simp [pk0]
end Go.Proofs.YtokkencbpmjdaaaGreat
end

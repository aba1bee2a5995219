/- Walks of the document's disks: groups read. No condition. -/
import Derived.Test.YtbhcjgobapnajaaDisk9
import Derived.Test.YtbhcjgobapnajaaWiB
namespace Go.Proofs.Ytbhcjgobapnajaa
open Go Go.Sy
set_option maxRecDepth 4000
set_option linter.unusedSimpArgs false
set_option linter.unusedVariables false
attribute [local irreducible] Reg RegD Later Out CallV YieldV Tri Side EqV
set_option maxHeartbeats 1000000 in
theorem c_numberAt2 (s : ByteArray) (o k : Nat) (hk : k ≤ 4) (h : o + k ≤ s.size) (ho : o ≤ 100000) : PSpec Try.prog 119 [Tx s, I o, I k] (I (numTo (mid s o k).data.toList)) := by
  refine v_pspec Try.func119 rfl Try.ntmps119 Try.results119 (by simp) (by first | exact .s _ | repeat constructor) ?_
  have e1 := wrp (n := (o : Int) + k) (by omega) (by omega)
  repeat' (first
 | (with_reducible first | apply qz0 | (refine h0 _ _ ?_; clear h0 hw) | (refine hw _ _ _ ?_; clear h0 hw) | apply qz1 | apply qz2 | apply qz3 | apply qz4 | apply qz5 | apply qz6 | apply qz7 | apply qz8 | apply qz9 | apply qza | apply qzb | apply qzc | apply qzd | apply qze | (refine hL _ ?_; clear hL))
 | (with_reducible first | refine w_reg (by decide +kernel) fun K1 hK => ?_ | refine w_reg_end (by decide +kernel) fun K1 hK => ?_)
 | with_reducible refine go_seq ?_
 | ((with_reducible first | apply v_op Try.tab | apply v_op0 Try.tab) <;> first | (intro K' h0 hw; conv => whnf) | (simp only [Nat.reduceAdd, Nat.reduceMul]; rfl))
 | ((with_reducible apply v_nil); (case hm => (simp only [Nat.reduceAdd, Nat.reduceMul]; rfl)); (case' h => with_reducible refine hK _ ?_; clear hK))
 | ((with_reducible apply go_cond); (case hb => rfl))
 | ((with_reducible apply out_block_there); (case hne => rfl))
 | ((with_reducible first | refine w_ret Try.tab fun K' hL => ?_ | refine w_ret_end Try.tab fun K' hL => ?_); (conv => whnf))
 | ((with_reducible apply And.intro); (case' right => try (conv => whnf)); (case' left => try first | rfl | decide | (simp; done) | (simp (disch := omega) only [wrp]; omega) | (simp (disch := omega) [wrp]; (try omega); done)))
 | ((with_reducible apply Side.mk); (try simp (disch := omega) only [wrp]); (try simp); (try simp (disch := omega) only [wrp]); (try omega))
 | ((with_reducible apply all_rk); (case hx => with_reducible assumption); (conv => whnf))
 | ((with_reducible refine all_row ?_); (first  | intro x1 hx1); conv => whnf)
 | (first | (guard_hyp g1; intro g2; try simp at g2) | intro g1; try simp at g1))
  refine w_loop (X := Nat) [7, 8, 10, 11, 12, 13, 14, 15, 16, 17, 18, 19, 20, 21, 22, 23] (fun i => [(8, I (o + i : Nat)), (7, I (numTo (mid s o i).data.toList))]) (fun _ => []) (fun i => i ≤ k) (fun i => k - i) 0 (by simp) ?_ ?_
  · refine ⟨kt_refl, ko_refl, ?_, ?_, ?_, ?_, Nat.le_refl _⟩ <;> simp [numTo, mid]
  intro i hi
  repeat' (first
 | (with_reducible first | apply qz0 | (refine h0 _ _ ?_; clear h0 hw) | (refine hw _ _ _ ?_; clear h0 hw) | apply qz1 | apply qz2 | apply qz3 | apply qz4 | apply qz5 | apply qz6 | apply qz7 | apply qz8 | apply qz9 | apply qza | apply qzb | apply qzc | apply qzd | apply qze | (refine hL _ ?_; clear hL))
 | (with_reducible first | refine w_reg (by decide +kernel) fun K1 hK => ?_ | refine w_reg_end (by decide +kernel) fun K1 hK => ?_)
 | with_reducible refine go_seq ?_
 | ((with_reducible first | apply v_op Try.tab | apply v_op0 Try.tab) <;> first | (intro K' h0 hw; conv => whnf) | (simp only [Nat.reduceAdd, Nat.reduceMul]; rfl))
 | ((with_reducible apply v_nil); (case hm => (simp only [Nat.reduceAdd, Nat.reduceMul]; rfl)); (case' h => with_reducible refine hK _ ?_; clear hK))
 | ((with_reducible apply go_cond); (case hb => rfl))
 | ((with_reducible apply out_block_there); (case hne => rfl))
 | ((with_reducible first | refine w_ret Try.tab fun K' hL => ?_ | refine w_ret_end Try.tab fun K' hL => ?_); (conv => whnf))
 | ((with_reducible apply And.intro); (case' right => try (conv => whnf)); (case' left => try first | rfl | decide | (simp [e1]; done) | (simp (disch := omega) only [wrp]; omega) | (simp (disch := omega) [e1, wrp]; (try omega); done)))
 | ((with_reducible apply Side.mk); (try simp (disch := omega) only [wrp]); (try simp); (try simp (disch := omega) only [wrp]); (try omega))
 | ((with_reducible apply all_rk); (case hx => with_reducible assumption); (conv => whnf))
 | ((with_reducible refine all_row ?_); (first  | intro x1 hx1); conv => whnf)
 | ((with_reducible refine all_byte ?_); (first | (have _y := hb7; clear _y; intro b8 hb8) | (have _y := hb6; clear _y; intro b7 hb7) | (have _y := hb5; clear _y; intro b6 hb6) | (have _y := hb4; clear _y; intro b5 hb5) | (have _y := hb3; clear _y; intro b4 hb4) | (have _y := hb2; clear _y; intro b3 hb3) | (have _y := hb1; clear _y; intro b2 hb2) | (intro b1 hb1)); conv => whnf)
 | (first | (guard_hyp g1; intro g2; try simp at g2) | intro g1; try simp at g1))
  all_goals (try rw [e1] at g1)
  · have hb := hb1
    rw [Int.toNat_natCast] at hb
    have e2 : numTo (mid s o (i + 1)).data.toList = numTo (mid s o i).data.toList * 256 + b1.toNat := by rw [mid_snoc hb, numTo_snoc]
    have hl : (mid s o i).data.toList.length ≤ 4 := by
      rw [Array.length_toList]; show (mid s o i).size ≤ 4; simp [mid]; omega
    have h9 := numTo_lt _ hl
    have h8 := b1.toNat_lt
    have e3 := wrp (n := (256 : Int) * numTo (mid s o i).data.toList) (by omega) (by omega)
    have e4 := wrp (n := (b1.toNat : Int)) (by omega) (by omega)
    have e5 := wrp (n := (256 : Int) * numTo (mid s o i).data.toList + b1.toNat) (by omega) (by omega)
    have e6 : (256 : Int) * numTo (mid s o i).data.toList + b1.toNat = ((numTo (mid s o i).data.toList * 256 + b1.toNat : Nat) : Int) := by omega
    have e7 := wrp (n := (o : Int) + i + 1) (by omega) (by omega)
    have e8 : (o : Int) + (i + 1) = o + i + 1 := by omega
    have e9 : (256 : Int) * numTo (mid s o i).data.toList + b1.toNat = numTo (mid s o i).data.toList * 256 + b1.toNat := by omega
    ((refine w_nx ((i + 1)) ?_ ?_ ?_ ?_ ?_ ?_); (case refine_1 => simp [e2, e3, e4, e5, e7, e8, e9]); (case refine_2 => simp [e2, e3, e4, e5, e7, e8, e9]); (case refine_3 => simp (disch := omega) [e2, e3, e4, e5, e7, e8, e9, wrp]); (case refine_4 => simp [e2, e3, e4, e5, e7, e8, e9]); (case refine_5 => first | (simp; omega) | (simp; done) | omega | (simp only; omega)); (case' refine_6 => (try simp only); (try exact trivial)))
    omega
  · obtain rfl : i = k := by omega
    exact .refl _
theorem c_checkRecord (n : Int) (g : List Fr) (hf : Fits g) : PSpec Try.prog 21 [I n, .agg (grC g)] (I (encE n g)) := by
  have h1 := c_checkGroup g hf
  refine v_pspec Try.func21 rfl Try.ntmps21 Try.results21 (by simp) (by first | exact .s _ | repeat constructor) ?_
  repeat' (first
 | (with_reducible first | apply qz0 | (refine h0 _ _ ?_; clear h0 hw) | (refine hw _ _ _ ?_; clear h0 hw) | apply qz1 | apply qz2 | apply qz5 | apply qz6 | (refine hL _ ?_; clear hL))
 | (with_reducible first | refine w_reg (by decide +kernel) fun K1 hK => ?_ | refine w_reg_end (by decide +kernel) fun K1 hK => ?_)
 | with_reducible refine go_seq ?_
 | ((with_reducible first | apply v_op Try.tab | apply v_op0 Try.tab) <;> first | (intro K' h0 hw; conv => whnf) | (simp only [Nat.reduceAdd, Nat.reduceMul]; rfl))
 | ((with_reducible apply v_nil); (case hm => (simp only [Nat.reduceAdd, Nat.reduceMul]; rfl)); (case' h => with_reducible refine hK _ ?_; clear hK))
 | ((with_reducible refine callV_id (f := 65) ?_); (with_reducible apply callV_f own65 (c_between _ _ _)); (case hx => rfl); (case he => rfl); (case hle => first | ((repeat constructor); done) | (simp; done)); (case hpu => repeat constructor); (case' hK => conv => whnf))
 | ((with_reducible refine callV_id (f := 66) ?_); (with_reducible apply callV_f own66 (h1)); (case hx => rfl); (case he => rfl); (case hle => first | ((repeat constructor); done) | (simp; done)); (case hpu => repeat constructor); (case' hK => conv => whnf))
 | ((with_reducible apply go_cond); (case hb => rfl))
 | ((with_reducible first | refine w_ret Try.tab fun K' hL => ?_ | refine w_ret_end Try.tab fun K' hL => ?_); (conv => whnf))
 | ((with_reducible apply And.intro); (case' right => try (conv => whnf)); (case' left => try first | rfl | decide | (simp; done) | (simp (disch := omega) only [wrp]; omega) | (simp (disch := omega) [wrp]; (try omega); done)))
 | ((with_reducible apply Side.mk); (try simp (disch := omega) only [wrp]); (try simp); (try simp (disch := omega) only [wrp]); (try omega))
 | (first | (guard_hyp g1; intro g2; try simp at g2) | intro g1; try simp at g1))
  · exact le_of_eq (congrArg (fun n : Int => I n) (show (3 : Int) = encE n g by unfold encE; rw [if_pos g1]))
  · exact le_of_eq (congrArg (fun n : Int => I n) (show groupE g = encE n g by unfold encE; rw [if_neg (by omega)]))
def gaR (s : ByteArray) : Int × List Fr × Bool := if s.size < 5 then (0, [], false) else match (rdFrames s (at1 s 4) 5 true).2 with
  | none => (0, (rdFrames s (at1 s 4) 5 true).1, false)
  | some e => (num s 0 4, (rdFrames s (at1 s 4) 5 true).1, decide (e = s.size) && decide (encE (num s 0 4) (rdFrames s (at1 s 4) 5 true).1 = 0))
abbrev gaT (r : Int × List Fr × Bool) : AV := .tup [I r.1, .agg (grC r.2.1), B r.2.2]
theorem byte_at {s : ByteArray} {o : Nat} (h : o < s.size) : ∃ b, s[o]? = some b ∧ at1 s o = b.toNat := ⟨s[o], by simp [h], at1_byte (by simp [h])⟩
structure GInv (s : ByteArray) (fl : List Fr) (res : Option Nat) (m : Nat) (x : Nat × Nat × List Fr) : Prop where
  i : x.1 ≤ m
  o : x.2.1 ≤ s.size
  n : x.2.2.length = x.1
  rest : ∃ r, rdFrames s (m - x.1) x.2.1 (decide (x.2.2.length = 0)) = (r, res) ∧ fl = x.2.2 ++ r
structure PG (s : ByteArray) (m : Nat) (T : Option (List ByteArray × Nat)) (y : Nat × Nat × List ByteArray) : Prop where
  i : y.1 ≤ m
  o : y.2.1 ≤ s.size
  n : y.2.2.length = y.1
  rest : ∃ R, rdParts s (m - y.1) y.2.1 = R ∧ T = R.map fun x => (y.2.2 ++ x.1, x.2)
set_option maxHeartbeats 8000000 in
theorem c_groupAt (s : ByteArray) (hs : s.size ≤ 100000) : PSpec Try.prog 120 [Tx s] (gaT (gaR s)) := by
  rcases Nat.lt_or_ge s.size 5 with h5 | h5
  · rw [gaR, if_pos h5]
    refine v_pspec Try.func120 rfl Try.ntmps120 Try.results120 (by simp) (by first | exact .s _ | repeat constructor) ?_
    repeat' (first
 | (with_reducible first | apply qz0 | (refine h0 _ _ ?_; clear h0 hw) | (refine hw _ _ _ ?_; clear h0 hw) | apply qz1 | apply qz2 | apply qz3 | apply qz4 | apply qz5 | apply qz6 | apply qz7 | apply qz8 | apply qz9 | apply qza | apply qzb | apply qzc | apply qzd | apply qze | (refine hL _ ?_; clear hL))
 | (with_reducible first | refine w_reg (by decide +kernel) fun K1 hK => ?_ | refine w_reg_end (by decide +kernel) fun K1 hK => ?_)
 | ((with_reducible first | apply d_reg Try.mix (by decide +kernel) | apply d_reg_end Try.mix (by decide +kernel)); (case hm => simp only [List.length_cons, List.length_nil, Nat.reduceAdd, Nat.reduceMul]; rfl); (case' h => intro K1 hK))
 | with_reducible refine go_seq ?_
 | ((with_reducible first | apply v_op Try.tab | apply v_op0 Try.tab | apply d_op Try.tab | apply d_op0 Try.tab) <;> first | (intro K' h0 hw; conv => whnf) | (simp only [Nat.reduceAdd, Nat.reduceMul]; rfl))
 | ((with_reducible apply v_nil); (case hm => (simp only [Nat.reduceAdd, Nat.reduceMul]; rfl)); (case' h => with_reducible refine hK _ ?_; clear hK))
 | ((with_reducible apply d_nil); (refine hK _ _ _ _ (by first | decide +kernel | (simp only [List.map_cons, List.map_nil, List.nil_append, List.cons_append]; decide +kernel) | rfl) ?_; clear hK))
 | (first | refine d_grd_yes (by rfl) (by rfl) ?_ | refine v_grd_yes (by rfl) (by rfl) ?_)
 | ((first | (apply d_grd_no; (case hg => rfl); (case hb => rfl)) | (apply d_grd_undef; (case hg => rfl); (case hb => rfl)) | (apply d_grd; (case hg => rfl); (case hb => rfl)) | (apply v_grd_no; (case hg => rfl); (case hb => rfl)) | (apply v_grd_undef; (case hg => rfl); (case hb => rfl)) | (apply v_grd; (case hg => rfl); (case hb => rfl))); (case hi => (simp only [Nat.reduceAdd, Nat.reduceMul]; rfl)))
 | ((with_reducible apply go_cond); (case hb => rfl))
 | ((with_reducible apply out_block_there); (case hne => rfl))
 | ((with_reducible first | refine w_ret Try.tab fun K' hL => ?_ | refine w_ret_end Try.tab fun K' hL => ?_); (conv => whnf))
 | ((with_reducible apply And.intro); (case' right => try (conv => whnf)); (case' left => try first | rfl | decide | (simp; done) | (simp (disch := omega) only [wrp]; omega) | (simp (disch := omega) [wrp]; (try omega); done)))
 | ((with_reducible apply Side.mk); (try simp (disch := omega) only [wrp]); (try simp); (try simp (disch := omega) only [wrp]); (try omega))
 | ((with_reducible apply all_rk); (case hx => with_reducible assumption); (conv => whnf))
 | ((with_reducible refine all_row ?_); (first  | intro x1 hx1); conv => whnf)
 | (first | (guard_hyp g6; intro g7; try simp at g7) | (guard_hyp g5; intro g6; try simp at g6) | (guard_hyp g4; intro g5; try simp at g5) | (guard_hyp g3; intro g4; try simp at g4) | (guard_hyp g2; intro g3; try simp at g3) | (guard_hyp g1; intro g2; try simp at g2) | intro g1; try simp at g1))
    all_goals first | (exfalso; omega) | (simp; done)
  have hN := c_numberAt2 s 0 4 (by omega) (by omega) (by omega)
  rw [num_def] at hN
  obtain ⟨b4, hb4, ha4⟩ := byte_at (s := s) (o := 4) (by omega)
  have hb4l := b4.toNat_lt
  have w4 := wrp (n := (b4.toNat : Int)) (by omega) (by omega)
  rw [gaR, if_neg (by omega)]
  obtain ⟨fl, res, hfr⟩ : ∃ fl res, rdFrames s (at1 s 4) 5 true = (fl, res) := ⟨_, _, rfl⟩
  have hfits := rdFrames_fits s (at1 s 4) 5 true
  rw [hfr] at hfits ⊢
  refine v_pspec Try.func120 rfl Try.ntmps120 Try.results120 (by simp) (by first | exact .s _ | repeat constructor) ?_
  repeat' (first
 | ((with_reducible apply w_ownCell 48 0 78 3); (case hb => rfl); (case hj => rfl); (case hsz => decide); (case hm => (try simp only [Nat.reduceAdd, Nat.reduceMul]); exact rfl))
 | ((with_reducible refine all_byte ?_); intro z hz; (try simp only [Int.reduceToNat, Int.toNat_zero] at hz); (first | (rw [show z = b4 from Option.some.inj (hz.symm.trans hb4)])); conv => whnf)
 | (with_reducible first | apply qz0 | (refine h0 _ _ ?_; clear h0 hw) | (refine hw _ _ _ ?_; clear h0 hw) | apply qz1 | apply qz2 | apply qz3 | apply qz4 | apply qz5 | apply qz6 | apply qz7 | apply qz8 | apply qz9 | apply qza | apply qzb | apply qzc | apply qzd | apply qze | (refine hL _ ?_; clear hL))
 | (with_reducible first | refine w_reg (by decide +kernel) fun K1 hK => ?_ | refine w_reg_end (by decide +kernel) fun K1 hK => ?_)
 | ((with_reducible first | apply d_reg Try.mix (by decide +kernel) | apply d_reg_end Try.mix (by decide +kernel)); (case hm => simp only [List.length_cons, List.length_nil, Nat.reduceAdd, Nat.reduceMul]; rfl); (case' h => intro K1 hK))
 | with_reducible refine go_seq ?_
 | ((with_reducible first | apply v_op Try.tab | apply v_op0 Try.tab | apply d_op Try.tab | apply d_op0 Try.tab) <;> first | (intro K' h0 hw; conv => whnf) | (simp only [Nat.reduceAdd, Nat.reduceMul]; rfl))
 | ((with_reducible apply v_nil); (case hm => (simp only [Nat.reduceAdd, Nat.reduceMul]; rfl)); (case' h => with_reducible refine hK _ ?_; clear hK))
 | ((with_reducible apply d_nil); (refine hK _ _ _ _ (by first | decide +kernel | (simp only [List.map_cons, List.map_nil, List.nil_append, List.cons_append]; decide +kernel) | rfl) ?_; clear hK))
 | (first | refine d_grd_yes (by rfl) (by rfl) ?_ | refine v_grd_yes (by rfl) (by rfl) ?_)
 | ((first | (apply d_grd_no; (case hg => rfl); (case hb => rfl)) | (apply d_grd_undef; (case hg => rfl); (case hb => rfl)) | (apply d_grd; (case hg => rfl); (case hb => rfl)) | (apply v_grd_no; (case hg => rfl); (case hb => rfl)) | (apply v_grd_undef; (case hg => rfl); (case hb => rfl)) | (apply v_grd; (case hg => rfl); (case hb => rfl))); (case hi => (simp only [Nat.reduceAdd, Nat.reduceMul]; rfl)))
 | ((with_reducible refine callV_id (f := 119) ?_); (with_reducible apply callV_f own119 (hN)); (case hx => rfl); (case he => rfl); (case hle => first | ((repeat constructor); done) | (simp [w4]; done)); (case hpu => repeat constructor); (case' hK => conv => whnf))
 | ((with_reducible apply go_cond); (case hb => rfl))
 | ((with_reducible apply out_block_there); (case hne => rfl))
 | ((with_reducible first | refine w_ret Try.tab fun K' hL => ?_ | refine w_ret_end Try.tab fun K' hL => ?_); (conv => whnf))
 | ((with_reducible apply And.intro); (case' right => try (conv => whnf)); (case' left => try first | rfl | decide | (simp [w4]; done) | (simp (disch := omega) only [wrp]; omega) | (simp (disch := omega) [w4, wrp]; (try omega); done)))
 | ((with_reducible apply Side.mk); (try simp (disch := omega) only [wrp]); (try simp); (try simp (disch := omega) only [wrp]); (try omega))
 | ((with_reducible apply all_rk); (case hx => with_reducible assumption); (conv => whnf))
 | ((with_reducible refine all_row ?_); (first  | intro x1 hx1); conv => whnf)
 | (first | (guard_hyp g6; intro g7; try simp at g7) | (guard_hyp g5; intro g6; try simp at g6) | (guard_hyp g4; intro g5; try simp at g5) | (guard_hyp g3; intro g4; try simp at g4) | (guard_hyp g2; intro g3; try simp at g3) | (guard_hyp g1; intro g2; try simp at g2) | intro g1; try simp at g1))
  · exfalso; omega
  have hm : (b4.toNat : Int) = ((at1 s 4 : Nat) : Int) := by rw [ha4]
  refine w_loop (X := Nat × Nat × List Fr) [2, 4, 8, 9, 10, 11, 12, 22, 23, 24, 25, 26, 27, 28, 29, 30, 31, 32, 33, 34, 35, 36, 37, 38, 39, 40, 41, 42, 43, 44, 45, 46, 47, 48, 49, 50, 51, 52, 53, 54, 55, 56, 57, 58, 59, 60, 61, 62, 63, 64, 65, 66, 67, 68, 69, 70, 71, 72, 73, 74, 75, 76, 77, 78, 79, 80, 81, 82, 83, 84, 85, 86, 87, 88, 89, 90, 91, 92, 93, 94, 95, 96] (fun x => [(9, I x.1), (8, I x.2.1)]) (fun x => [(48, .box [.osl 64 3 (rowF x.2.2)]), (64, .perm 78 3 x.2.2.length)]) (GInv s fl res (at1 s 4)) (fun x => at1 s 4 - x.1) (0, 5, []) ?_ ?_ ?_
  · exact ⟨Nat.zero_le _, h5, rfl, fl, hfr, rfl⟩
  · refine ⟨kt_refl, ko_refl, ?_, ?_, ?_, ?_, Nat.le_refl _⟩ <;> simp
  rintro ⟨i, o, done⟩ ⟨i1, i2, i3, r, i4, i5⟩
  simp only at i1 i2 i3 i4 i5
  rcases Nat.lt_or_ge i (at1 s 4) with hi | hi
  · obtain ⟨k, hk⟩ : ∃ k, at1 s 4 - i = k + 1 := ⟨at1 s 4 - i - 1, by omega⟩
    rw [hk] at i4
    have w1 := wrp (n := (s.size : Int) - o) (by omega) (by omega)
    by_cases c5 : o + 5 ≤ s.size
    · have hN2 := c_numberAt2 s o 4 (by omega) (by omega) (by omega)
      rw [num_def] at hN2
      obtain ⟨b5, hb5, ha5⟩ := byte_at (s := s) (o := o + 4) (by omega)
      have hb5l := b5.toNat_lt
      have w5 : IntKind.i64.wrap ((o : Int) + 4) = ((o + 4 : Nat) : Int) := by rw [wrp (by omega) (by omega)]; omega
      have w6 := wrp (n := (b5.toNat : Int)) (by omega) (by omega)
      rw [rdFrames, if_pos c5] at i4
      repeat' (first
 | ((with_reducible apply w_ownCell 496 2 9 1); (case hb => rfl); (case hj => rfl); (case hsz => decide); (case hm => (try simp only [Nat.reduceAdd, Nat.reduceMul]); exact rfl))
 | ((with_reducible refine all_byte ?_); intro z hz; (try simp only [Int.reduceToNat, Int.toNat_natCast, w5] at hz); rw [hb5] at hz; cases hz; conv => whnf)
 | (with_reducible first | apply qz0 | (refine h0 _ _ ?_; clear h0 hw) | (refine hw _ _ _ ?_; clear h0 hw) | apply qz1 | apply qz2 | apply qz3 | apply qz4 | apply qz5 | apply qz6 | apply qz7 | apply qz8 | apply qz9 | apply qza | apply qzb | apply qzc | apply qzd | apply qze | (refine hL _ ?_; clear hL))
 | (with_reducible first | refine w_reg (by decide +kernel) fun K1 hK => ?_ | refine w_reg_end (by decide +kernel) fun K1 hK => ?_)
 | ((with_reducible first | apply d_reg Try.mix (by decide +kernel) | apply d_reg_end Try.mix (by decide +kernel)); (case hm => simp only [List.length_cons, List.length_nil, Nat.reduceAdd, Nat.reduceMul]; rfl); (case' h => intro K1 hK))
 | with_reducible refine go_seq ?_
 | ((with_reducible first | apply v_op Try.tab | apply v_op0 Try.tab | apply d_op Try.tab | apply d_op0 Try.tab) <;> first | (intro K' h0 hw; conv => whnf) | (simp only [Nat.reduceAdd, Nat.reduceMul]; rfl))
 | ((with_reducible apply v_nil); (case hm => (simp only [Nat.reduceAdd, Nat.reduceMul]; rfl)); (case' h => with_reducible refine hK _ ?_; clear hK))
 | ((with_reducible apply d_nil); (refine hK _ _ _ _ (by first | decide +kernel | (simp only [List.map_cons, List.map_nil, List.nil_append, List.cons_append]; decide +kernel) | rfl) ?_; clear hK))
 | (first | refine d_grd_yes (by rfl) (by rfl) ?_ | refine v_grd_yes (by rfl) (by rfl) ?_)
 | ((first | (apply d_grd_no; (case hg => rfl); (case hb => rfl)) | (apply d_grd_undef; (case hg => rfl); (case hb => rfl)) | (apply d_grd; (case hg => rfl); (case hb => rfl)) | (apply v_grd_no; (case hg => rfl); (case hb => rfl)) | (apply v_grd_undef; (case hg => rfl); (case hb => rfl)) | (apply v_grd; (case hg => rfl); (case hb => rfl))); (case hi => (simp only [Nat.reduceAdd, Nat.reduceMul]; rfl)))
 | ((with_reducible refine callV_id (f := 119) ?_); (with_reducible apply callV_f own119 (hN2)); (case hx => rfl); (case he => rfl); (case hle => first | ((repeat constructor); done) | (simp [w4, w1, w5, w6]; done)); (case hpu => repeat constructor); (case' hK => conv => whnf))
 | ((with_reducible apply go_cond); (case hb => rfl))
 | ((with_reducible apply out_block_there); (case hne => rfl))
 | ((with_reducible first | refine w_ret Try.tab fun K' hL => ?_ | refine w_ret_end Try.tab fun K' hL => ?_); (conv => whnf))
 | ((with_reducible apply And.intro); (case' right => try (conv => whnf)); (case' left => try first | rfl | decide | (simp [w4, w1, w5, w6]; done) | (simp (disch := omega) only [wrp]; omega) | (simp (disch := omega) [w4, w1, w5, w6, wrp]; (try omega); done)))
 | ((with_reducible apply Side.mk); (try simp (disch := omega) only [wrp]); (try simp); (try simp (disch := omega) only [wrp]); (try omega))
 | ((with_reducible apply all_rk); (case hx => with_reducible assumption); (conv => whnf))
 | ((with_reducible refine all_row ?_); (first  | intro x1 hx1); conv => whnf)
 | (first | (guard_hyp g6; intro g7; try simp at g7) | (guard_hyp g5; intro g6; try simp at g6) | (guard_hyp g4; intro g5; try simp at g5) | (guard_hyp g3; intro g4; try simp at g4) | (guard_hyp g2; intro g3; try simp at g3) | (guard_hyp g1; intro g2; try simp at g2) | intro g1; try simp at g1))
      all_goals (try (exfalso; omega))
      have hm5 : (b5.toNat : Int) = ((at1 s (o + 4) : Nat) : Int) := by rw [ha5]
      refine w_loop (X := Nat × Nat × List ByteArray) [2, 4, 8, 12, 46, 47, 48, 49, 50, 51, 52, 53, 54, 55, 56, 57, 58, 59, 60, 61, 62, 63, 64, 65, 66, 67, 68, 69, 70, 71, 72, 73, 74, 75, 76, 77, 78, 79, 80, 81, 82, 83, 84, 85, 86, 87, 88, 89, 90] (fun y => [(12, I y.1), (8, I y.2.1)]) (fun y => [(496, .box [I (num s o 4), B (decide (done.length = 0)), .osl 528 1 (rowS y.2.2)]), (528, .perm 9 1 y.2.2.length)]) (PG s (at1 s (o + 4)) (rdParts s (at1 s (o + 4)) (o + 5))) (fun y => at1 s (o + 4) - y.1) (0, o + 5, []) ?_ ?_ ?_
      · exact ⟨Nat.zero_le _, c5, rfl, rdParts s (at1 s (o + 4)) (o + 5), rfl, by cases rdParts s (at1 s (o + 4)) (o + 5) <;> rfl⟩
      · refine ⟨kt_refl, ko_refl, ?_, ?_, ?_, ?_, Nat.le_refl _⟩ <;> simp (disch := omega) [wrp, i3]
      rintro ⟨j, o2, pd⟩ ⟨j1, j2, j3, R, j4, j5⟩
      simp only at j1 j2 j3 j4 j5
      rcases Nat.lt_or_ge j (at1 s (o + 4)) with hj | hj
      · obtain ⟨k2, hk2⟩ : ∃ k2, at1 s (o + 4) - j = k2 + 1 := ⟨at1 s (o + 4) - j - 1, by omega⟩
        rw [hk2] at j4
        by_cases c6 : o2 < s.size
        · obtain ⟨b6, hb6, ha6⟩ := byte_at (s := s) (o := o2) c6
          have hb6l := b6.toNat_lt
          have w7 := wrp (n := (b6.toNat : Int)) (by omega) (by omega)
          have w8 := wrp (n := (s.size : Int) - o2) (by omega) (by omega)
          have w9 := wrp (n := (s.size : Int) - o2 - 1) (by omega) (by omega)
          have w10 := wrp (n := (o2 : Int) + 1) (by omega) (by omega)
          have w11 := wrp (n := (o2 : Int) + 1 + b6.toNat) (by omega) (by omega)
          by_cases c7 : o2 + 1 + at1 s o2 ≤ s.size
          · rw [rdParts, if_pos ⟨by omega, c7⟩] at j4
            repeat' (first
 | ((with_reducible refine all_byte ?_); intro z hz; (try simp only [Int.reduceToNat, Int.toNat_natCast, Int.toNat_natCast] at hz); rw [hb6] at hz; cases hz; conv => whnf)
 | (with_reducible first | apply qz0 | (refine h0 _ _ ?_; clear h0 hw) | (refine hw _ _ _ ?_; clear h0 hw) | apply qz1 | apply qz2 | apply qz3 | apply qz4 | apply qz5 | apply qz6 | apply qz7 | apply qz8 | apply qz9 | apply qza | apply qzb | apply qzc | apply qzd | apply qze | (refine hL _ ?_; clear hL))
 | (with_reducible first | refine w_reg (by decide +kernel) fun K1 hK => ?_ | refine w_reg_end (by decide +kernel) fun K1 hK => ?_)
 | ((with_reducible first | apply d_reg Try.mix (by decide +kernel) | apply d_reg_end Try.mix (by decide +kernel)); (case hm => simp only [List.length_cons, List.length_nil, Nat.reduceAdd, Nat.reduceMul]; rfl); (case' h => intro K1 hK))
 | with_reducible refine go_seq ?_
 | ((with_reducible first | apply v_op Try.tab | apply v_op0 Try.tab | apply d_op Try.tab | apply d_op0 Try.tab) <;> first | (intro K' h0 hw; conv => whnf) | (simp only [Nat.reduceAdd, Nat.reduceMul]; rfl))
 | ((with_reducible apply v_nil); (case hm => (simp only [Nat.reduceAdd, Nat.reduceMul]; rfl)); (case' h => with_reducible refine hK _ ?_; clear hK))
 | ((with_reducible apply d_nil); (refine hK _ _ _ _ (by first | decide +kernel | (simp only [List.map_cons, List.map_nil, List.nil_append, List.cons_append]; decide +kernel) | rfl) ?_; clear hK))
 | (first | refine d_grd_yes (by rfl) (by rfl) ?_ | refine v_grd_yes (by rfl) (by rfl) ?_)
 | ((first | (apply d_grd_no; (case hg => rfl); (case hb => rfl)) | (apply d_grd_undef; (case hg => rfl); (case hb => rfl)) | (apply d_grd; (case hg => rfl); (case hb => rfl)) | (apply v_grd_no; (case hg => rfl); (case hb => rfl)) | (apply v_grd_undef; (case hg => rfl); (case hb => rfl)) | (apply v_grd; (case hg => rfl); (case hb => rfl))); (case hi => (simp only [Nat.reduceAdd, Nat.reduceMul]; rfl)))
 | ((with_reducible apply go_cond); (case hb => rfl))
 | ((with_reducible apply out_block_there); (case hne => rfl))
 | ((with_reducible first | refine w_ret Try.tab fun K' hL => ?_ | refine w_ret_end Try.tab fun K' hL => ?_); (conv => whnf))
 | ((with_reducible apply And.intro); (case' right => try (conv => whnf)); (case' left => try first | rfl | decide | (simp [w4, w6, w7, w8, w9, w10, w11]; done) | (simp (disch := omega) only [wrp]; omega) | (simp (disch := omega) [w4, w6, w7, w8, w9, w10, w11, wrp]; (try omega); done)))
 | ((with_reducible apply Side.mk); (try simp (disch := omega) only [wrp]); (try simp); (try simp (disch := omega) only [wrp]); (try omega))
 | ((with_reducible apply all_rk); (case hx => with_reducible assumption); (conv => whnf))
 | ((with_reducible refine all_row ?_); (first  | intro x1 hx1); conv => whnf)
 | (first | (guard_hyp g6; intro g7; try simp at g7) | (guard_hyp g5; intro g6; try simp at g6) | (guard_hyp g4; intro g5; try simp at g5) | (guard_hyp g3; intro g4; try simp at g4) | (guard_hyp g2; intro g3; try simp at g3) | (guard_hyp g1; intro g2; try simp at g2) | intro g1; try simp at g1))
            all_goals (try (exfalso; omega))
            · exfalso
              rw [w8, w9, w7] at g6
              omega
            · refine w_nx (ko := ?ko) (j + 1, o2 + 1 + at1 s o2, pd ++ [mid s (o2 + 1) (at1 s o2)]) ?_ ?_ ?_ ?_ ?_ ?_
              case ko => repeat (first | (with_reducible exact ko_refl) | ((with_reducible refine ko_wos ?_ ?_); focus (simp; done)) | ((with_reducible refine ko_wo ?_ ?_); focus (simp; done)) | ((with_reducible refine ko_wor4 ?_ ?_); focus (simp; done)))
              case refine_1 => simp
              case refine_2 => simp
              case refine_3 => simp (disch := omega) [wrp]; rw [ha6]; omega
              case refine_4 => simp; rw [w10, w7, w11, mid, ha6]; congr 1 <;> omega
              case refine_5 => simp only; omega
              refine ⟨by simp only; omega, c7, by simp [j3], _, rfl, ?_⟩
              simp only
              rw [show at1 s (o + 4) - (j + 1) = k2 by omega, j5, ← j4]
              cases rdParts s k2 (o2 + 1 + at1 s o2) <;> simp
          · rw [rdParts, if_neg (by omega)] at j4
            subst j4
            rw [j5] at i4
            obtain ⟨q1, q2⟩ := Prod.mk.inj i4
            rw [← q1, List.append_nil] at i5
            subst i5
            rw [← q2]
            repeat' (first
 | ((with_reducible refine all_byte ?_); intro z hz; (try simp only [Int.reduceToNat, Int.toNat_natCast, Int.toNat_natCast] at hz); rw [hb6] at hz; cases hz; conv => whnf)
 | (with_reducible first | apply qz0 | (refine h0 _ _ ?_; clear h0 hw) | (refine hw _ _ _ ?_; clear h0 hw) | apply qz1 | apply qz2 | apply qz3 | apply qz4 | apply qz5 | apply qz6 | apply qz7 | apply qz8 | apply qz9 | apply qza | apply qzb | apply qzc | apply qzd | apply qze | (refine hL _ ?_; clear hL))
 | (with_reducible first | refine w_reg (by decide +kernel) fun K1 hK => ?_ | refine w_reg_end (by decide +kernel) fun K1 hK => ?_)
 | ((with_reducible first | apply d_reg Try.mix (by decide +kernel) | apply d_reg_end Try.mix (by decide +kernel)); (case hm => simp only [List.length_cons, List.length_nil, Nat.reduceAdd, Nat.reduceMul]; rfl); (case' h => intro K1 hK))
 | with_reducible refine go_seq ?_
 | ((with_reducible first | apply v_op Try.tab | apply v_op0 Try.tab | apply d_op Try.tab | apply d_op0 Try.tab) <;> first | (intro K' h0 hw; conv => whnf) | (simp only [Nat.reduceAdd, Nat.reduceMul]; rfl))
 | ((with_reducible apply v_nil); (case hm => (simp only [Nat.reduceAdd, Nat.reduceMul]; rfl)); (case' h => with_reducible refine hK _ ?_; clear hK))
 | ((with_reducible apply d_nil); (refine hK _ _ _ _ (by first | decide +kernel | (simp only [List.map_cons, List.map_nil, List.nil_append, List.cons_append]; decide +kernel) | rfl) ?_; clear hK))
 | (first | refine d_grd_yes (by rfl) (by rfl) ?_ | refine v_grd_yes (by rfl) (by rfl) ?_)
 | ((first | (apply d_grd_no; (case hg => rfl); (case hb => rfl)) | (apply d_grd_undef; (case hg => rfl); (case hb => rfl)) | (apply d_grd; (case hg => rfl); (case hb => rfl)) | (apply v_grd_no; (case hg => rfl); (case hb => rfl)) | (apply v_grd_undef; (case hg => rfl); (case hb => rfl)) | (apply v_grd; (case hg => rfl); (case hb => rfl))); (case hi => (simp only [Nat.reduceAdd, Nat.reduceMul]; rfl)))
 | ((with_reducible apply go_cond); (case hb => rfl))
 | ((with_reducible apply out_block_there); (case hne => rfl))
 | ((with_reducible first | refine w_ret Try.tab fun K' hL => ?_ | refine w_ret_end Try.tab fun K' hL => ?_); (conv => whnf))
 | ((with_reducible apply And.intro); (case' right => try (conv => whnf)); (case' left => try first | rfl | decide | (simp [w4, w6, w7, w8, w9, w10, w11]; done) | (simp (disch := omega) only [wrp]; omega) | (simp (disch := omega) [w4, w6, w7, w8, w9, w10, w11, wrp]; (try omega); done)))
 | ((with_reducible apply Side.mk); (try simp (disch := omega) only [wrp]); (try simp); (try simp (disch := omega) only [wrp]); (try omega))
 | ((with_reducible apply all_rk); (case hx => with_reducible assumption); (conv => whnf))
 | ((with_reducible refine all_row ?_); (first  | intro x1 hx1); conv => whnf)
 | (first | (guard_hyp g6; intro g7; try simp at g7) | (guard_hyp g5; intro g6; try simp at g6) | (guard_hyp g4; intro g5; try simp at g5) | (guard_hyp g3; intro g4; try simp at g4) | (guard_hyp g2; intro g3; try simp at g3) | (guard_hyp g1; intro g2; try simp at g2) | intro g1; try simp at g1))
            all_goals (try (exfalso; omega))
            all_goals first | (simp; done) | (exfalso; rw [w8, w9, w7] at g6; omega)
        · rw [rdParts, if_neg (by omega)] at j4
          subst j4
          rw [j5] at i4
          obtain ⟨q1, q2⟩ := Prod.mk.inj i4
          rw [← q1, List.append_nil] at i5
          subst i5
          rw [← q2]
          repeat' (first
 | (with_reducible first | apply qz0 | (refine h0 _ _ ?_; clear h0 hw) | (refine hw _ _ _ ?_; clear h0 hw) | apply qz1 | apply qz2 | apply qz3 | apply qz4 | apply qz5 | apply qz6 | apply qz7 | apply qz8 | apply qz9 | apply qza | apply qzb | apply qzc | apply qzd | apply qze | (refine hL _ ?_; clear hL))
 | (with_reducible first | refine w_reg (by decide +kernel) fun K1 hK => ?_ | refine w_reg_end (by decide +kernel) fun K1 hK => ?_)
 | ((with_reducible first | apply d_reg Try.mix (by decide +kernel) | apply d_reg_end Try.mix (by decide +kernel)); (case hm => simp only [List.length_cons, List.length_nil, Nat.reduceAdd, Nat.reduceMul]; rfl); (case' h => intro K1 hK))
 | with_reducible refine go_seq ?_
 | ((with_reducible first | apply v_op Try.tab | apply v_op0 Try.tab | apply d_op Try.tab | apply d_op0 Try.tab) <;> first | (intro K' h0 hw; conv => whnf) | (simp only [Nat.reduceAdd, Nat.reduceMul]; rfl))
 | ((with_reducible apply v_nil); (case hm => (simp only [Nat.reduceAdd, Nat.reduceMul]; rfl)); (case' h => with_reducible refine hK _ ?_; clear hK))
 | ((with_reducible apply d_nil); (refine hK _ _ _ _ (by first | decide +kernel | (simp only [List.map_cons, List.map_nil, List.nil_append, List.cons_append]; decide +kernel) | rfl) ?_; clear hK))
 | (first | refine d_grd_yes (by rfl) (by rfl) ?_ | refine v_grd_yes (by rfl) (by rfl) ?_)
 | ((first | (apply d_grd_no; (case hg => rfl); (case hb => rfl)) | (apply d_grd_undef; (case hg => rfl); (case hb => rfl)) | (apply d_grd; (case hg => rfl); (case hb => rfl)) | (apply v_grd_no; (case hg => rfl); (case hb => rfl)) | (apply v_grd_undef; (case hg => rfl); (case hb => rfl)) | (apply v_grd; (case hg => rfl); (case hb => rfl))); (case hi => (simp only [Nat.reduceAdd, Nat.reduceMul]; rfl)))
 | ((with_reducible apply go_cond); (case hb => rfl))
 | ((with_reducible apply out_block_there); (case hne => rfl))
 | ((with_reducible first | refine w_ret Try.tab fun K' hL => ?_ | refine w_ret_end Try.tab fun K' hL => ?_); (conv => whnf))
 | ((with_reducible apply And.intro); (case' right => try (conv => whnf)); (case' left => try first | rfl | decide | (simp [w4, w6]; done) | (simp (disch := omega) only [wrp]; omega) | (simp (disch := omega) [w4, w6, wrp]; (try omega); done)))
 | ((with_reducible apply Side.mk); (try simp (disch := omega) only [wrp]); (try simp); (try simp (disch := omega) only [wrp]); (try omega))
 | ((with_reducible apply all_rk); (case hx => with_reducible assumption); (conv => whnf))
 | ((with_reducible refine all_row ?_); (first  | intro x1 hx1); conv => whnf)
 | (first | (guard_hyp g6; intro g7; try simp at g7) | (guard_hyp g5; intro g6; try simp at g6) | (guard_hyp g4; intro g5; try simp at g5) | (guard_hyp g3; intro g4; try simp at g4) | (guard_hyp g2; intro g3; try simp at g3) | (guard_hyp g1; intro g2; try simp at g2) | intro g1; try simp at g1))
          all_goals (try (exfalso; omega))
          all_goals (simp; done)
      · have hz : at1 s (o + 4) - j = 0 := by omega
        rw [hz] at j4
        have hR : R = some ([], o2) := j4.symm
        subst hR
        rw [j5] at i4
        simp only [Option.map_some, List.append_nil] at i4
        repeat' (first
 | (with_reducible first | apply qz0 | (refine h0 _ _ ?_; clear h0 hw) | (refine hw _ _ _ ?_; clear h0 hw) | apply qz1 | apply qz2 | apply qz3 | apply qz4 | apply qz5 | apply qz6 | apply qz7 | apply qz8 | apply qz9 | apply qza | apply qzb | apply qzc | apply qzd | apply qze | (refine hL _ ?_; clear hL))
 | (with_reducible first | refine w_reg (by decide +kernel) fun K1 hK => ?_ | refine w_reg_end (by decide +kernel) fun K1 hK => ?_)
 | ((with_reducible first | apply d_reg Try.mix (by decide +kernel) | apply d_reg_end Try.mix (by decide +kernel)); (case hm => simp only [List.length_cons, List.length_nil, Nat.reduceAdd, Nat.reduceMul]; rfl); (case' h => intro K1 hK))
 | with_reducible refine go_seq ?_
 | ((with_reducible first | apply v_op Try.tab | apply v_op0 Try.tab | apply d_op Try.tab | apply d_op0 Try.tab) <;> first | (intro K' h0 hw; conv => whnf) | (simp only [Nat.reduceAdd, Nat.reduceMul]; rfl))
 | ((with_reducible apply v_nil); (case hm => (simp only [Nat.reduceAdd, Nat.reduceMul]; rfl)); (case' h => with_reducible refine hK _ ?_; clear hK))
 | ((with_reducible apply d_nil); (refine hK _ _ _ _ (by first | decide +kernel | (simp only [List.map_cons, List.map_nil, List.nil_append, List.cons_append]; decide +kernel) | rfl) ?_; clear hK))
 | (first | refine d_grd_yes (by rfl) (by rfl) ?_ | refine v_grd_yes (by rfl) (by rfl) ?_)
 | ((first | (apply d_grd_no; (case hg => rfl); (case hb => rfl)) | (apply d_grd_undef; (case hg => rfl); (case hb => rfl)) | (apply d_grd; (case hg => rfl); (case hb => rfl)) | (apply v_grd_no; (case hg => rfl); (case hb => rfl)) | (apply v_grd_undef; (case hg => rfl); (case hb => rfl)) | (apply v_grd; (case hg => rfl); (case hb => rfl))); (case hi => (simp only [Nat.reduceAdd, Nat.reduceMul]; rfl)))
 | ((with_reducible apply go_cond); (case hb => rfl))
 | ((with_reducible apply out_block_there); (case hne => rfl))
 | ((with_reducible first | refine w_ret Try.tab fun K' hL => ?_ | refine w_ret_end Try.tab fun K' hL => ?_); (conv => whnf))
 | ((with_reducible apply And.intro); (case' right => try (conv => whnf)); (case' left => try first | rfl | decide | (simp [w4, w6]; done) | (simp (disch := omega) only [wrp]; omega) | (simp (disch := omega) [w4, w6, wrp]; (try omega); done)))
 | ((with_reducible apply Side.mk); (try simp (disch := omega) only [wrp]); (try simp); (try simp (disch := omega) only [wrp]); (try omega))
 | ((with_reducible apply all_rk); (case hx => with_reducible assumption); (conv => whnf))
 | ((with_reducible refine all_row ?_); (first  | intro x1 hx1); conv => whnf)
 | (first | (guard_hyp g6; intro g7; try simp at g7) | (guard_hyp g5; intro g6; try simp at g6) | (guard_hyp g4; intro g5; try simp at g5) | (guard_hyp g3; intro g4; try simp at g4) | (guard_hyp g2; intro g3; try simp at g3) | (guard_hyp g1; intro g2; try simp at g2) | intro g1; try simp at g1))
        all_goals (try (exfalso; omega))
        refine w_nx (ko := ?ko) (i + 1, o2, done ++ [⟨num s o 4, decide (done.length = 0), pd⟩]) ?_ ?_ ?_ ?_ ?_ ?_
        case ko => repeat (first | (with_reducible exact ko_refl) | ((with_reducible refine ko_wos ?_ ?_); focus (simp; done)) | ((with_reducible refine ko_wo ?_ ?_); focus (simp; done)) | ((with_reducible refine ko_wor4 ?_ ?_); focus (simp; done)))
        case refine_1 => simp
        case refine_2 => simp
        case refine_3 => simp (disch := omega) [wrp]
        case refine_4 => simp
        case refine_5 => simp only; omega
        obtain ⟨q1, q2⟩ := Prod.mk.inj i4
        refine ⟨by simp only; omega, ?_, by simp [i3], (rdFrames s k o2 false).1, ?_, by simp only; rw [i5, ← q1]; simp⟩
        · exact j2
        · rw [show decide ((done ++ [(⟨num s o 4, decide (done.length = 0), pd⟩ : Fr)]).length = 0) = false by simp, ← q2]
          simp only
          rw [show at1 s 4 - (i + 1) = k by omega]
    · rw [rdFrames, if_neg c5] at i4
      obtain ⟨q1, q2⟩ := Prod.mk.inj i4
      rw [← q1, List.append_nil] at i5
      subst i5
      rw [← q2]
      repeat' (first
 | (with_reducible first | apply qz0 | (refine h0 _ _ ?_; clear h0 hw) | (refine hw _ _ _ ?_; clear h0 hw) | apply qz1 | apply qz2 | apply qz3 | apply qz4 | apply qz5 | apply qz6 | apply qz7 | apply qz8 | apply qz9 | apply qza | apply qzb | apply qzc | apply qzd | apply qze | (refine hL _ ?_; clear hL))
 | (with_reducible first | refine w_reg (by decide +kernel) fun K1 hK => ?_ | refine w_reg_end (by decide +kernel) fun K1 hK => ?_)
 | ((with_reducible first | apply d_reg Try.mix (by decide +kernel) | apply d_reg_end Try.mix (by decide +kernel)); (case hm => simp only [List.length_cons, List.length_nil, Nat.reduceAdd, Nat.reduceMul]; rfl); (case' h => intro K1 hK))
 | with_reducible refine go_seq ?_
 | ((with_reducible first | apply v_op Try.tab | apply v_op0 Try.tab | apply d_op Try.tab | apply d_op0 Try.tab) <;> first | (intro K' h0 hw; conv => whnf) | (simp only [Nat.reduceAdd, Nat.reduceMul]; rfl))
 | ((with_reducible apply v_nil); (case hm => (simp only [Nat.reduceAdd, Nat.reduceMul]; rfl)); (case' h => with_reducible refine hK _ ?_; clear hK))
 | ((with_reducible apply d_nil); (refine hK _ _ _ _ (by first | decide +kernel | (simp only [List.map_cons, List.map_nil, List.nil_append, List.cons_append]; decide +kernel) | rfl) ?_; clear hK))
 | (first | refine d_grd_yes (by rfl) (by rfl) ?_ | refine v_grd_yes (by rfl) (by rfl) ?_)
 | ((first | (apply d_grd_no; (case hg => rfl); (case hb => rfl)) | (apply d_grd_undef; (case hg => rfl); (case hb => rfl)) | (apply d_grd; (case hg => rfl); (case hb => rfl)) | (apply v_grd_no; (case hg => rfl); (case hb => rfl)) | (apply v_grd_undef; (case hg => rfl); (case hb => rfl)) | (apply v_grd; (case hg => rfl); (case hb => rfl))); (case hi => (simp only [Nat.reduceAdd, Nat.reduceMul]; rfl)))
 | ((with_reducible apply go_cond); (case hb => rfl))
 | ((with_reducible apply out_block_there); (case hne => rfl))
 | ((with_reducible first | refine w_ret Try.tab fun K' hL => ?_ | refine w_ret_end Try.tab fun K' hL => ?_); (conv => whnf))
 | ((with_reducible apply And.intro); (case' right => try (conv => whnf)); (case' left => try first | rfl | decide | (simp [w4, w1]; done) | (simp (disch := omega) only [wrp]; omega) | (simp (disch := omega) [w4, w1, wrp]; (try omega); done)))
 | ((with_reducible apply Side.mk); (try simp (disch := omega) only [wrp]); (try simp); (try simp (disch := omega) only [wrp]); (try omega))
 | ((with_reducible apply all_rk); (case hx => with_reducible assumption); (conv => whnf))
 | ((with_reducible refine all_row ?_); (first  | intro x1 hx1); conv => whnf)
 | (first | (guard_hyp g6; intro g7; try simp at g7) | (guard_hyp g5; intro g6; try simp at g6) | (guard_hyp g4; intro g5; try simp at g5) | (guard_hyp g3; intro g4; try simp at g4) | (guard_hyp g2; intro g3; try simp at g3) | (guard_hyp g1; intro g2; try simp at g2) | intro g1; try simp at g1))
      all_goals (try (exfalso; omega))
      all_goals (simp; done)
  · have hz : at1 s 4 - i = 0 := by omega
    rw [hz] at i4
    obtain ⟨q1, q2⟩ : r = [] ∧ res = some o := by
      have := Prod.mk.inj i4
      exact ⟨this.1.symm, this.2.symm⟩
    subst q1
    rw [List.append_nil] at i5
    subst i5
    subst q2
    have hC := c_checkRecord (num s 0 4) fl ⟨by have := hfits.1; have := at1_lt s 4; omega, fun f hf => by have := hfits.2 f hf; omega⟩
    repeat' (first
 | (with_reducible first | apply qz0 | (refine h0 _ _ ?_; clear h0 hw) | (refine hw _ _ _ ?_; clear h0 hw) | apply qz1 | apply qz2 | apply qz3 | apply qz4 | apply qz5 | apply qz6 | apply qz7 | apply qz8 | apply qz9 | apply qza | apply qzb | apply qzc | apply qzd | apply qze | (refine hL _ ?_; clear hL))
 | (with_reducible first | refine w_reg (by decide +kernel) fun K1 hK => ?_ | refine w_reg_end (by decide +kernel) fun K1 hK => ?_)
 | ((with_reducible first | apply d_reg Try.mix (by decide +kernel) | apply d_reg_end Try.mix (by decide +kernel)); (case hm => simp only [List.length_cons, List.length_nil, Nat.reduceAdd, Nat.reduceMul]; rfl); (case' h => intro K1 hK))
 | with_reducible refine go_seq ?_
 | ((with_reducible first | apply v_op Try.tab | apply v_op0 Try.tab | apply d_op Try.tab | apply d_op0 Try.tab) <;> first | (intro K' h0 hw; conv => whnf) | (simp only [Nat.reduceAdd, Nat.reduceMul]; rfl))
 | ((with_reducible apply v_nil); (case hm => (simp only [Nat.reduceAdd, Nat.reduceMul]; rfl)); (case' h => with_reducible refine hK _ ?_; clear hK))
 | ((with_reducible apply d_nil); (refine hK _ _ _ _ (by first | decide +kernel | (simp only [List.map_cons, List.map_nil, List.nil_append, List.cons_append]; decide +kernel) | rfl) ?_; clear hK))
 | (first | refine d_grd_yes (by rfl) (by rfl) ?_ | refine v_grd_yes (by rfl) (by rfl) ?_)
 | ((first | (apply d_grd_no; (case hg => rfl); (case hb => rfl)) | (apply d_grd_undef; (case hg => rfl); (case hb => rfl)) | (apply d_grd; (case hg => rfl); (case hb => rfl)) | (apply v_grd_no; (case hg => rfl); (case hb => rfl)) | (apply v_grd_undef; (case hg => rfl); (case hb => rfl)) | (apply v_grd; (case hg => rfl); (case hb => rfl))); (case hi => (simp only [Nat.reduceAdd, Nat.reduceMul]; rfl)))
 | ((with_reducible refine callV_id (f := 21) ?_); (with_reducible apply callV_f own21 (hC)); (case hx => rfl); (case he => rfl); (case hle => first | ((repeat constructor); done) | (simp [w4]; done)); (case hpu => repeat constructor); (case' hK => conv => whnf))
 | ((with_reducible apply go_cond); (case hb => rfl))
 | ((with_reducible apply out_block_there); (case hne => rfl))
 | ((with_reducible first | refine w_ret Try.tab fun K' hL => ?_ | refine w_ret_end Try.tab fun K' hL => ?_); (conv => whnf))
 | ((with_reducible apply And.intro); (case' right => try (conv => whnf)); (case' left => try first | rfl | decide | (simp [w4]; done) | (simp (disch := omega) only [wrp]; omega) | (simp (disch := omega) [w4, wrp]; (try omega); done)))
 | ((with_reducible apply Side.mk); (try simp (disch := omega) only [wrp]); (try simp); (try simp (disch := omega) only [wrp]); (try omega))
 | ((with_reducible apply all_rk); (case hx => with_reducible assumption); (conv => whnf))
 | ((with_reducible refine all_row ?_); (first  | intro x1 hx1); conv => whnf)
 | (first | (guard_hyp g6; intro g7; try simp at g7) | (guard_hyp g5; intro g6; try simp at g6) | (guard_hyp g4; intro g5; try simp at g5) | (guard_hyp g3; intro g4; try simp at g4) | (guard_hyp g2; intro g3; try simp at g3) | (guard_hyp g1; intro g2; try simp at g2) | intro g1; try simp at g1))
    all_goals (try (exfalso; omega))
    · simp [show o = s.size by omega]
    · simp [show ¬ o = s.size by omega]
end Go.Proofs.Ytbhcjgobapnajaa

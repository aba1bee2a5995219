/- Walks of the document's packets, read. No condition. -/
import Derived.Test.YtlehonipilpfdaaWireDec
namespace Go.Proofs.Ytlehonipilpfdaa
open Go Go.Sy
set_option maxRecDepth 4000
set_option linter.unusedSimpArgs false
set_option linter.unusedVariables false
attribute [local irreducible] Reg RegD Later Out CallV Tri Side EqV
theorem mid_byte {s : ByteArray} {i : Nat} {x : UInt8} (h : s[i]? = some x) : (mid s i 1).data.toList = [x] := by
  have hi : i < s.size := by
    rcases Nat.lt_or_ge i s.size with q | q
    · exact q
    · simp [q] at h
  have hx : s[i] = x := by simpa [hi] using h
  unfold mid
  rw [ByteArray.data_extract, Array.toList_extract, List.extract_eq_take_drop]
  have hd : s.data.toList[i]? = some x := by
    rw [Array.getElem?_toList, Array.getElem?_eq_getElem hi]; exact congrArg some hx
  rw [drop_at hd]
  simp
theorem mid_snoc {s : ByteArray} {o k : Nat} {x : UInt8} (h : s[o + k]? = some x) : (mid s o (k + 1)).data.toList = (mid s o k).data.toList ++ [x] := by
  have hi : o + k < s.size := by
    rcases Nat.lt_or_ge (o + k) s.size with q | q
    · exact q
    · simp [q] at h
  have hx : s[o + k] = x := by simpa [hi] using h
  unfold mid
  rw [ByteArray.data_extract, ByteArray.data_extract, Array.toList_extract, Array.toList_extract, List.extract_eq_take_drop, List.extract_eq_take_drop]
  have hd : s.data.toList[o + k]? = some x := by
    rw [Array.getElem?_toList, Array.getElem?_eq_getElem hi]; exact congrArg some hx
  rw [show o + (k + 1) - o = (o + k - o) + 1 by omega, take_at (l := s.data.toList.drop o) (x := x) (by rw [List.getElem?_drop, ← hd]; congr 1; omega)]
theorem at1_byte {s : ByteArray} {i : Nat} {x : UInt8} (h : s[i]? = some x) : at1 s i = x.toNat := by
  unfold at1; rw [mid_byte h]; simp [numTo]
set_option maxHeartbeats 1000000 in
theorem c_numberAt (s : ByteArray) (o k : Nat) (hk : k ≤ 4) (h : o + k ≤ s.size) (ho : o ≤ 1000) : PSpec Try.prog 57 [Tx s, I o, I k] (I (numTo (mid s o k).data.toList)) := by
  refine v_pspec Try.func57 rfl Try.ntmps57 Try.results57 (by simp) (by first | exact .s _ | repeat constructor) ?_
  have e1 := wrp (n := (o : Int) + k) (by omega) (by omega)
  repeat' (first
    | (with_reducible first | refine go_later ?_ | (refine h0 _ _ ?_; clear h0 hw) | (refine hw _ _ _ ?_; clear h0 hw) | refine go_ret ?_ | refine go_skip ?_ | refine go_block ?_ | refine go_exit ?_ | refine out_seq_ret ?_ | refine out_seq_normal ?_ | refine out_seq_exit ?_ | refine out_block_ret ?_ | refine out_block_normal ?_ | refine out_block_here ?_ | refine out_loop_ret ?_ | refine out_loop_exit ?_ | refine out_loopR_ret ?_ | refine out_loopR_exit ?_ | refine out_seq_panic ?_ | refine out_block_panic ?_ | refine out_loop_panic ?_ | (refine hL _ ?_; clear hL))
    | (with_reducible first | refine w_reg (by decide +kernel) fun K1 hK => ?_ | refine w_reg_end (by decide +kernel) fun K1 hK => ?_)
    | ((with_reducible first | apply d_reg Try.mix (by decide +kernel) | apply d_reg_end Try.mix (by decide +kernel)); (case hm => simp only [List.length_cons, List.length_nil, Nat.reduceAdd, Nat.reduceMul]; rfl); (case' h => intro K1 hK))
    | with_reducible refine go_seq ?_
    | ((with_reducible first | apply v_op Try.tab | apply v_op0 Try.tab | apply d_op Try.tab | apply d_op0 Try.tab) <;> first | (intro K' h0 hw; conv => whnf) | (simp only [Nat.reduceAdd, Nat.reduceMul]; rfl))
    | ((with_reducible apply v_nil); (case hm => (simp only [Nat.reduceAdd, Nat.reduceMul]; rfl)); (case' h => with_reducible refine hK _ ?_; clear hK))
    | ((with_reducible apply d_nil); (refine hK _ _ _ _ (by first | decide +kernel | (simp only [List.map_cons, List.map_nil, List.nil_append, List.cons_append]; decide +kernel) | rfl) ?_; clear hK))
    | (first | refine d_grd_yes (by rfl) (by rfl) ?_ | refine v_grd_yes (by rfl) (by rfl) ?_)
    | (apply d_grd_no; (case hg => rfl); (case hb => rfl); (case hi => (simp only [Nat.reduceAdd, Nat.reduceMul]; rfl)))
    | (apply d_grd_undef; (case hg => rfl); (case hb => rfl); (case hi => (simp only [Nat.reduceAdd, Nat.reduceMul]; rfl)))
    | (apply d_grd; (case hg => rfl); (case hb => rfl); (case hi => (simp only [Nat.reduceAdd, Nat.reduceMul]; rfl)))
    | (apply v_grd_no; (case hg => rfl); (case hb => rfl); (case hi => (simp only [Nat.reduceAdd, Nat.reduceMul]; rfl)))
    | (apply v_grd_undef; (case hg => rfl); (case hb => rfl); (case hi => (simp only [Nat.reduceAdd, Nat.reduceMul]; rfl)))
    | (apply v_grd; (case hg => rfl); (case hb => rfl); (case hi => (simp only [Nat.reduceAdd, Nat.reduceMul]; rfl)))
    | ((with_reducible apply go_cond); (case hb => rfl))
    | ((with_reducible apply out_block_there); (case hne => rfl))
    | ((with_reducible first | refine w_ret Try.tab fun K' hL => ?_ | refine w_ret_end Try.tab fun K' hL => ?_); (conv => whnf))
    | ((with_reducible apply And.intro); (case' right => try (conv => whnf)); (case' left => try first | rfl | decide | (simp; done)))
    | ((with_reducible apply Side.mk); (try simp (disch := omega) only [wrp]); (try simp); (try omega))
    | ((with_reducible apply all_rk); (case hx => with_reducible assumption); (conv => whnf))
    | ((with_reducible refine all_row ?_); (first | (have _y := hx5; clear _y; intro x6 hx6) | (have _y := hx4; clear _y; intro x5 hx5) | (have _y := hx3; clear _y; intro x4 hx4) | (have _y := hx2; clear _y; intro x3 hx3) | (have _y := hx1; clear _y; intro x2 hx2) | (intro x1 hx1)); conv => whnf)
    | (refine ⟨_, eqAT (by rfl) (by rfl) (by rfl) (by rfl), ?_⟩; conv => whnf)
    | ((first | (have _y := g9; clear _y; intro g10; try simp at g10) | (have _y := g8; clear _y; intro g9; try simp at g9) | (have _y := g7; clear _y; intro g8; try simp at g8) | (have _y := g6; clear _y; intro g7; try simp at g7) | (have _y := g5; clear _y; intro g6; try simp at g6) | (have _y := g4; clear _y; intro g5; try simp at g5) | (have _y := g3; clear _y; intro g4; try simp at g4) | (have _y := g2; clear _y; intro g3; try simp at g3) | (have _y := g1; clear _y; intro g2; try simp at g2) | (intro g1; try simp at g1))))
  refine w_loop (X := Nat) [7, 8, 10, 11, 12, 13, 14, 15, 16, 17, 18, 19, 20, 21, 22, 23] (fun i => [(8, I (o + i : Nat)), (7, I (numTo (mid s o i).data.toList))]) (fun _ => []) (fun i => i ≤ k) (fun i => k - i) 0 (by simp) ?_ ?_
  · refine ⟨kt_refl, ko_refl, ?_, ?_, ?_, ?_, Nat.le_refl _⟩ <;> simp [numTo, mid]
  intro i hi
  repeat' (first
    | (with_reducible first | refine go_later ?_ | (refine h0 _ _ ?_; clear h0 hw) | (refine hw _ _ _ ?_; clear h0 hw) | refine go_ret ?_ | refine go_skip ?_ | refine go_block ?_ | refine go_exit ?_ | refine out_seq_ret ?_ | refine out_seq_normal ?_ | refine out_seq_exit ?_ | refine out_block_ret ?_ | refine out_block_normal ?_ | refine out_block_here ?_ | refine out_loop_ret ?_ | refine out_loop_exit ?_ | refine out_loopR_ret ?_ | refine out_loopR_exit ?_ | refine out_seq_panic ?_ | refine out_block_panic ?_ | refine out_loop_panic ?_ | (refine hL _ ?_; clear hL))
    | (with_reducible first | refine w_reg (by decide +kernel) fun K1 hK => ?_ | refine w_reg_end (by decide +kernel) fun K1 hK => ?_)
    | ((with_reducible first | apply d_reg Try.mix (by decide +kernel) | apply d_reg_end Try.mix (by decide +kernel)); (case hm => simp only [List.length_cons, List.length_nil, Nat.reduceAdd, Nat.reduceMul]; rfl); (case' h => intro K1 hK))
    | with_reducible refine go_seq ?_
    | ((with_reducible first | apply v_op Try.tab | apply v_op0 Try.tab | apply d_op Try.tab | apply d_op0 Try.tab) <;> first | (intro K' h0 hw; conv => whnf) | (simp only [Nat.reduceAdd, Nat.reduceMul]; rfl))
    | ((with_reducible apply v_nil); (case hm => (simp only [Nat.reduceAdd, Nat.reduceMul]; rfl)); (case' h => with_reducible refine hK _ ?_; clear hK))
    | ((with_reducible apply d_nil); (refine hK _ _ _ _ (by first | decide +kernel | (simp only [List.map_cons, List.map_nil, List.nil_append, List.cons_append]; decide +kernel) | rfl) ?_; clear hK))
    | (first | refine d_grd_yes (by rfl) (by rfl) ?_ | refine v_grd_yes (by rfl) (by rfl) ?_)
    | (apply d_grd_no; (case hg => rfl); (case hb => rfl); (case hi => (simp only [Nat.reduceAdd, Nat.reduceMul]; rfl)))
    | (apply d_grd_undef; (case hg => rfl); (case hb => rfl); (case hi => (simp only [Nat.reduceAdd, Nat.reduceMul]; rfl)))
    | (apply d_grd; (case hg => rfl); (case hb => rfl); (case hi => (simp only [Nat.reduceAdd, Nat.reduceMul]; rfl)))
    | (apply v_grd_no; (case hg => rfl); (case hb => rfl); (case hi => (simp only [Nat.reduceAdd, Nat.reduceMul]; rfl)))
    | (apply v_grd_undef; (case hg => rfl); (case hb => rfl); (case hi => (simp only [Nat.reduceAdd, Nat.reduceMul]; rfl)))
    | (apply v_grd; (case hg => rfl); (case hb => rfl); (case hi => (simp only [Nat.reduceAdd, Nat.reduceMul]; rfl)))
    | ((with_reducible apply go_cond); (case hb => rfl))
    | ((with_reducible apply out_block_there); (case hne => rfl))
    | ((with_reducible first | refine w_ret Try.tab fun K' hL => ?_ | refine w_ret_end Try.tab fun K' hL => ?_); (conv => whnf))
    | ((with_reducible apply And.intro); (case' right => try (conv => whnf)); (case' left => try first | rfl | decide | (simp [e1]; done)))
    | ((with_reducible apply Side.mk); (try simp (disch := omega) only [wrp]); (try simp); (try omega))
    | ((with_reducible apply all_rk); (case hx => with_reducible assumption); (conv => whnf))
    | ((with_reducible refine all_row ?_); (first | (have _y := hx5; clear _y; intro x6 hx6) | (have _y := hx4; clear _y; intro x5 hx5) | (have _y := hx3; clear _y; intro x4 hx4) | (have _y := hx2; clear _y; intro x3 hx3) | (have _y := hx1; clear _y; intro x2 hx2) | (intro x1 hx1)); conv => whnf)
    | (refine ⟨_, eqAT (by rfl) (by rfl) (by rfl) (by rfl), ?_⟩; conv => whnf)
    | ((with_reducible refine all_byte ?_); (first | (have _y := hb7; clear _y; intro b8 hb8) | (have _y := hb6; clear _y; intro b7 hb7) | (have _y := hb5; clear _y; intro b6 hb6) | (have _y := hb4; clear _y; intro b5 hb5) | (have _y := hb3; clear _y; intro b4 hb4) | (have _y := hb2; clear _y; intro b3 hb3) | (have _y := hb1; clear _y; intro b2 hb2) | (intro b1 hb1)); conv => whnf)
    | ((first | (have _y := g9; clear _y; intro g10; try simp at g10) | (have _y := g8; clear _y; intro g9; try simp at g9) | (have _y := g7; clear _y; intro g8; try simp at g8) | (have _y := g6; clear _y; intro g7; try simp at g7) | (have _y := g5; clear _y; intro g6; try simp at g6) | (have _y := g4; clear _y; intro g5; try simp at g5) | (have _y := g3; clear _y; intro g4; try simp at g4) | (have _y := g2; clear _y; intro g3; try simp at g3) | (have _y := g1; clear _y; intro g2; try simp at g2) | (intro g1; try simp at g1))))
  all_goals (try rw [e1] at g1)
  · omega
  · show Nat.succ _ ≤ _; omega
  · have hb := hb1
    rw [Int.toNat_natCast] at hb
    have e2 : numTo (mid s o (i + 1)).data.toList = numTo (mid s o i).data.toList * 256 + b1.toNat := by rw [mid_snoc hb, numTo_snoc]
    have hl : (mid s o i).data.toList.length ≤ 4 := by
      rw [Array.length_toList]; show (mid s o i).size ≤ 4; simp [mid]; omega
    have h9 := numTo_lt _ hl
    have h8 := b1.toNat_lt
    have e3 := wrp (n := (256 : Int) * numTo (mid s o i).data.toList) (by omega) (by omega)
    have e4 := wrp (n := (b1.toNat : Int)) (by omega) (by omega)
    have e5 := wrp (n := (256 : Int) * numTo (mid s o i).data.toList + b1.toNat) (by omega) (by omega)
    have e6 : (256 : Int) * numTo (mid s o i).data.toList + b1.toNat = ((numTo (mid s o i).data.toList * 256 + b1.toNat : Nat) : Int) := by omega
    have e7 := wrp (n := (o : Int) + i + 1) (by omega) (by omega)
    have e8 : (o : Int) + (i + 1) = o + i + 1 := by omega
    have e9 : (256 : Int) * numTo (mid s o i).data.toList + b1.toNat = numTo (mid s o i).data.toList * 256 + b1.toNat := by omega
    ((with_reducible apply w_next ((i + 1))); (case kt => first | exact kt_refl | (repeat (first | exact kt_refl | refine kt_wr (by rfl) ?_ | refine kt_jnk (by rfl) ?_ | refine kt_wrs (by rfl) ?_))); (case ko => repeat (first | exact ko_refl | refine ko_wo (by first | exact .inl (by rfl) | exact .inr (by simp) | exact .inr (by omega)) ?_ | refine ko_wor (by rfl) ?_ | refine ko_wos (by simp) ?_)); (case hn => first | exact Nat.le_refl _ | (simp; done) | (simp; omega)); (case hs => simp [e2, e3, e4, e5, e7, e8, e9]); (case hb => simp [e2, e3, e4, e5, e7, e8, e9]); (case ls => simp (disch := omega) [e2, e3, e4, e5, e7, e8, e9, wrp]); (case lb => simp [e2, e3, e4, e5, e7, e8, e9]); (case mu => first | (simp; omega) | (simp; done) | omega | (simp only; omega)); (case' rel' => (try simp only); (try exact trivial)))
    omega
  · obtain rfl : i = k := by omega
    exact .refl _
theorem fl_all : ∀ j : Fin 8, (decide ((IntKind.i64.wrap (IntKind.i64.wrap ((128 + j.val : Nat) : Int) - 128)).tmod 2 = 1) = fl (128 + j.val) 1) ∧ (decide ((IntKind.i64.wrap ((IntKind.i64.wrap (IntKind.i64.wrap ((128 + j.val : Nat) : Int) - 128)).tdiv 2)).tmod 2 = 1) = fl (128 + j.val) 2) ∧ (decide (IntKind.i64.wrap ((IntKind.i64.wrap (IntKind.i64.wrap ((128 + j.val : Nat) : Int) - 128)).tdiv 4) = 1) = fl (128 + j.val) 4) := by decide +kernel
theorem fl_of {n : Nat} (h : 128 ≤ n ∧ n ≤ 135) : (decide ((IntKind.i64.wrap (IntKind.i64.wrap (n : Int) - 128)).tmod 2 = 1) = fl n 1) ∧ (decide ((IntKind.i64.wrap ((IntKind.i64.wrap (IntKind.i64.wrap (n : Int) - 128)).tdiv 2)).tmod 2 = 1) = fl n 2) ∧ (decide (IntKind.i64.wrap ((IntKind.i64.wrap (IntKind.i64.wrap (n : Int) - 128)).tdiv 4) = 1) = fl n 4) := by
  have := fl_all ⟨n - 128, by omega⟩
  simp only [show 128 + (n - 128) = n by omega] at this
  exact this
theorem dec_of {s : ByteArray} {p : Pkt} (hf : formB s = true) (hp : p = decP s) : (pktE p = 0 → decS s = (p, 0)) ∧ (¬ pktE p = 0 → decS s = (pk0, pktE p)) := by
  subst hp
  exact ⟨fun h => by rw [decS, if_pos hf, if_pos h], fun h => by rw [decS, if_pos hf, if_neg h]⟩
theorem form_no {s : ByteArray} (h : formB s = false) : decS s = (pk0, 1) := by rw [decS, if_neg (by simp [h])]
theorem dec_eq {s : ByteArray} {b : UInt8} (hb : s[0]? = some b) (h1 : 128 ≤ b.toNat ∧ b.toNat ≤ 135) (h2 : s.size = 8 + at1 s 7) :
    (⟨numTo (mid s 1 2).data.toList, numTo (mid s 3 4).data.toList, decide ((IntKind.i64.wrap (IntKind.i64.wrap (b.toNat : Int) - 128)).tmod 2 = 1), decide ((IntKind.i64.wrap ((IntKind.i64.wrap (IntKind.i64.wrap (b.toNat : Int) - 128)).tdiv 2)).tmod 2 = 1), decide (IntKind.i64.wrap ((IntKind.i64.wrap (IntKind.i64.wrap (b.toNat : Int) - 128)).tdiv 4) = 1), s.extract 8 s.size⟩ : Pkt) = decP s := by
  obtain ⟨e1, e2, e3⟩ := fl_of h1
  have e4 : mid s 8 (at1 s 7) = s.extract 8 s.size := by rw [mid, ← h2]
  rw [e1, e2, e3, decP, at1_byte hb, e4]
set_option maxHeartbeats 2000000 in
theorem c_packetOf (s : ByteArray) : PSpec Try.prog 19 [Tx s] (decT (decS s)) := by
  refine v_pspec Try.func19 rfl Try.ntmps19 Try.results19 (by simp) (by repeat constructor) ?_
  repeat' (first
    | (with_reducible first | refine go_later ?_ | (refine h0 _ _ ?_; clear h0 hw) | (refine hw _ _ _ ?_; clear h0 hw) | refine go_ret ?_ | refine go_skip ?_ | refine go_block ?_ | refine go_exit ?_ | refine out_seq_ret ?_ | refine out_seq_normal ?_ | refine out_seq_exit ?_ | refine out_block_ret ?_ | refine out_block_normal ?_ | refine out_block_here ?_ | refine out_loop_ret ?_ | refine out_loop_exit ?_ | refine out_loopR_ret ?_ | refine out_loopR_exit ?_ | refine out_seq_panic ?_ | refine out_block_panic ?_ | refine out_loop_panic ?_ | (refine hL _ ?_; clear hL))
    | (with_reducible first | refine w_reg (by decide +kernel) fun K1 hK => ?_ | refine w_reg_end (by decide +kernel) fun K1 hK => ?_)
    | ((with_reducible first | apply d_reg Try.mix (by decide +kernel) | apply d_reg_end Try.mix (by decide +kernel)); (case hm => simp only [List.length_cons, List.length_nil, Nat.reduceAdd, Nat.reduceMul]; rfl); (case' h => intro K1 hK))
    | with_reducible refine go_seq ?_
    | ((with_reducible first | apply v_op Try.tab | apply v_op0 Try.tab | apply d_op Try.tab | apply d_op0 Try.tab) <;> first | (intro K' h0 hw; conv => whnf) | (simp only [Nat.reduceAdd, Nat.reduceMul]; rfl))
    | ((with_reducible apply v_nil); (case hm => (simp only [Nat.reduceAdd, Nat.reduceMul]; rfl)); (case' h => with_reducible refine hK _ ?_; clear hK))
    | ((with_reducible apply d_nil); (refine hK _ _ _ _ (by first | decide +kernel | (simp only [List.map_cons, List.map_nil, List.nil_append, List.cons_append]; decide +kernel) | rfl) ?_; clear hK))
    | (first | refine d_grd_yes (by rfl) (by rfl) ?_ | refine v_grd_yes (by rfl) (by rfl) ?_)
    | (apply d_grd_no; (case hg => rfl); (case hb => rfl); (case hi => (simp only [Nat.reduceAdd, Nat.reduceMul]; rfl)))
    | (apply d_grd_undef; (case hg => rfl); (case hb => rfl); (case hi => (simp only [Nat.reduceAdd, Nat.reduceMul]; rfl)))
    | (apply d_grd; (case hg => rfl); (case hb => rfl); (case hi => (simp only [Nat.reduceAdd, Nat.reduceMul]; rfl)))
    | (apply v_grd_no; (case hg => rfl); (case hb => rfl); (case hi => (simp only [Nat.reduceAdd, Nat.reduceMul]; rfl)))
    | (apply v_grd_undef; (case hg => rfl); (case hb => rfl); (case hi => (simp only [Nat.reduceAdd, Nat.reduceMul]; rfl)))
    | (apply v_grd; (case hg => rfl); (case hb => rfl); (case hi => (simp only [Nat.reduceAdd, Nat.reduceMul]; rfl)))
    | ((with_reducible refine callV_id (f := 57) ?_); have hcs_ := c_numberAt s 1 2 (by omega) (by omega) (by omega); (with_reducible apply callV_f own57 (hcs_)); (case hx => rfl); (case he => rfl); (case hle => first | ((repeat constructor); done) | (simp; done)); (case hpu => repeat constructor); (case' hK => (try clear hcs_); conv => whnf))
    | ((with_reducible refine callV_id (f := 57) ?_); have hcs_ := c_numberAt s 3 4 (by omega) (by omega) (by omega); (with_reducible apply callV_f own57 (hcs_)); (case hx => rfl); (case he => rfl); (case hle => first | ((repeat constructor); done) | (simp; done)); (case hpu => repeat constructor); (case' hK => (try clear hcs_); conv => whnf))
    | ((with_reducible refine callV_id (f := 17) ?_); (with_reducible apply callV_f own17 (c_checkPacket ⟨_, _, _, _, _, _⟩)); (case hx => rfl); (case he => rfl); (case hle => first | ((repeat constructor); done) | (simp; done)); (case hpu => repeat constructor); (case' hK => (try clear hcs_); conv => whnf))
    | ((with_reducible apply go_cond); (case hb => rfl))
    | ((with_reducible apply out_block_there); (case hne => rfl))
    | ((with_reducible first | refine w_ret Try.tab fun K' hL => ?_ | refine w_ret_end Try.tab fun K' hL => ?_); (conv => whnf))
    | ((with_reducible apply And.intro); (case' right => try (conv => whnf)); (case' left => try first | rfl | decide | (simp; done)))
    | ((with_reducible apply Side.mk); (try simp (disch := omega) only [wrp]); (try simp); (try omega))
    | ((with_reducible apply all_rk); (case hx => with_reducible assumption); (conv => whnf))
    | ((with_reducible refine all_row ?_); (first | (have _y := hx5; clear _y; intro x6 hx6) | (have _y := hx4; clear _y; intro x5 hx5) | (have _y := hx3; clear _y; intro x4 hx4) | (have _y := hx2; clear _y; intro x3 hx3) | (have _y := hx1; clear _y; intro x2 hx2) | (intro x1 hx1)); conv => whnf)
    | (refine ⟨_, eqAT (by rfl) (by rfl) (by rfl) (by rfl), ?_⟩; conv => whnf)
    | ((with_reducible refine all_byte ?_); (first | (have _y := hb7; clear _y; intro b8 hb8) | (have _y := hb6; clear _y; intro b7 hb7) | (have _y := hb5; clear _y; intro b6 hb6) | (have _y := hb4; clear _y; intro b5 hb5) | (have _y := hb3; clear _y; intro b4 hb4) | (have _y := hb2; clear _y; intro b3 hb3) | (have _y := hb1; clear _y; intro b2 hb2) | (intro b1 hb1)); conv => whnf)
    | ((first | (have _y := g15; clear _y; intro g16; try simp at g16) | (have _y := g14; clear _y; intro g15; try simp at g15) | (have _y := g13; clear _y; intro g14; try simp at g14) | (have _y := g12; clear _y; intro g13; try simp at g13) | (have _y := g11; clear _y; intro g12; try simp at g12) | (have _y := g10; clear _y; intro g11; try simp at g11) | (have _y := g9; clear _y; intro g10; try simp at g10) | (have _y := g8; clear _y; intro g9; try simp at g9) | (have _y := g7; clear _y; intro g8; try simp at g8) | (have _y := g6; clear _y; intro g7; try simp at g7) | (have _y := g5; clear _y; intro g6; try simp at g6) | (have _y := g4; clear _y; intro g5; try simp at g5) | (have _y := g3; clear _y; intro g4; try simp at g4) | (have _y := g2; clear _y; intro g3; try simp at g3) | (have _y := g1; clear _y; intro g2; try simp at g2) | (intro g1; try simp at g1))))
  · show Nat.succ _ ≤ _; omega
  · show Nat.succ _ ≤ _; omega
  · show Nat.succ _ ≤ _; omega
  · have a7 : at1 s 7 = b3.toNat := at1_byte hb3
    have hl := b3.toNat_lt
    rw [wrp (n := (b3.toNat : Int)) (by omega) (by omega), wrp (by omega) (by omega)] at g4
    have e := form_no (s := s) (by rw [Bool.eq_false_iff]; intro hq; simp only [formB, Bool.and_eq_true, decide_eq_true_eq] at hq; omega)
    refine le_of_eq ?_; rw [e]; rfl
  · show Nat.succ _ ≤ _; omega
  · have a7 : at1 s 7 = b3.toNat := at1_byte hb3
    have a0 : at1 s 0 = b1.toNat := at1_byte hb1
    have a1 : at1 s 0 = b2.toNat := at1_byte hb2
    have a4 : at1 s 0 = b4.toNat := at1_byte hb4
    have hl := b3.toNat_lt
    rw [wrp (n := (b3.toNat : Int)) (by omega) (by omega), wrp (by omega) (by omega)] at g4
    have hf : formB s = true := by simp only [formB, Bool.and_eq_true, decide_eq_true_eq]; omega
    have hp := dec_eq (b := b4) hb4 (by omega) (by omega)
    have hx : (⟨s.data.extract 8 (8 + (s.size - 8))⟩ : ByteArray) = s.extract 8 s.size := by
      apply ByteArray.ext
      simp only [ByteArray.data_extract]
      congr 1; omega
    have e := fun hpp => (dec_of hf hpp).2 g5
    have e := e (by rw [← hp]; exact Pkt.ext' rfl rfl rfl rfl rfl hx)
    rw [e]; simp [pk0]
  · have a7 : at1 s 7 = b3.toNat := at1_byte hb3
    have a0 : at1 s 0 = b1.toNat := at1_byte hb1
    have a1 : at1 s 0 = b2.toNat := at1_byte hb2
    have a4 : at1 s 0 = b4.toNat := at1_byte hb4
    have hl := b3.toNat_lt
    rw [wrp (n := (b3.toNat : Int)) (by omega) (by omega), wrp (by omega) (by omega)] at g4
    have hf : formB s = true := by simp only [formB, Bool.and_eq_true, decide_eq_true_eq]; omega
    have hp := dec_eq (b := b4) hb4 (by omega) (by omega)
    have hx : (⟨s.data.extract 8 (8 + (s.size - 8))⟩ : ByteArray) = s.extract 8 s.size := by
      apply ByteArray.ext
      simp only [ByteArray.data_extract]
      congr 1; omega
    have e := fun hpp => (dec_of hf hpp).1 g5
    have e := e (by rw [← hp]; exact Pkt.ext' rfl rfl rfl rfl rfl hx)
    rw [e]; simp [pk0]
    exact ⟨⟨rfl, rfl, rfl, hx.symm⟩, g5⟩
  · have a1 : at1 s 0 = b2.toNat := at1_byte hb2
    have e := form_no (s := s) (by rw [Bool.eq_false_iff]; intro hq; simp only [formB, Bool.and_eq_true, decide_eq_true_eq] at hq; omega)
    refine le_of_eq ?_; rw [e]; rfl
  · have a1 : at1 s 0 = b1.toNat := at1_byte hb1
    have e := form_no (s := s) (by rw [Bool.eq_false_iff]; intro hq; simp only [formB, Bool.and_eq_true, decide_eq_true_eq] at hq; omega)
    refine le_of_eq ?_; rw [e]; rfl
  · have e := form_no (s := s) (by rw [Bool.eq_false_iff]; intro hq; simp only [formB, Bool.and_eq_true, decide_eq_true_eq] at hq; omega)
    refine le_of_eq ?_; rw [e]; rfl
end Go.Proofs.Ytlehonipilpfdaa

/- Walks of the document's disks: RecordOf, CheckDisk, EndOf, AppendOf, OpenOf. No condition. -/
import Derived.Test.YtbhcjgobapnajaaDisk11
namespace Go.Proofs.Ytbhcjgobapnajaa
open Go Go.Sy
set_option maxRecDepth 4000
set_option linter.unusedSimpArgs false
set_option linter.unusedVariables false
attribute [local irreducible] Reg RegD Later Out CallV YieldV Tri Side EqV
theorem cat_two (a b : ByteArray) : cat [a, b] = a ++ b := by simp [cat]
set_option maxHeartbeats 4000000 in
theorem c_recordOf (n : Int) (g : List Fr) (hn : 0 ≤ n ∧ n ≤ 100000) (hg : groupE g = 0) : PSpec Try.prog 22 [I n, .agg (grC g)] (Tx (recB n g)) := by
  obtain ⟨_, hg6, _, hgf⟩ := groupE_ok hg
  obtain ⟨hb1, hb2⟩ := bodyCk_ok n hg
  have hcs : ∀ c, (∃ d, bodyCk n g = c ++ d) → (cat c).size ≤ 255000 := fun c ⟨d, e⟩ => CkOK.size (CkOK.left (d := d) (by rw [← e]; exact ⟨fun a ha => by have := hb1 a ha; omega, by omega⟩))
  have n1 := c_numberBytes 4 n (by omega) (by omega) (by omega)
  have n2 := c_numberBytes 1 (g.length : Int) (by omega) (by omega) (by omega)
  have z1 := beN_size 4 n
  have z2 := beN_size 1 (g.length : Int)
  refine v_pspec Try.func22 rfl Try.ntmps22 Try.results22 (by simp) (by first | exact .s _ | repeat constructor) ?_
  repeat' (first
 | (with_reducible first | apply qz0 | (refine h0 _ _ ?_; clear h0 hw) | (refine hw _ _ _ ?_; clear h0 hw) | apply qz1 | apply qz2 | apply qz3 | apply qz4 | apply qz5 | apply qz6 | apply qz7 | apply qz8 | apply qz9 | apply qza | apply qzb | apply qzc | apply qzd | apply qze | (refine hL _ ?_; clear hL))
 | (with_reducible first | refine w_reg (by decide +kernel) fun K1 hK => ?_ | refine w_reg_end (by decide +kernel) fun K1 hK => ?_)
 | ((with_reducible first | apply d_reg Try.mix (by decide +kernel) | apply d_reg_end Try.mix (by decide +kernel)); (case hm => simp only [List.length_cons, List.length_nil, Nat.reduceAdd, Nat.reduceMul]; rfl); (case' h => intro K1 hK))
 | with_reducible refine go_seq ?_
 | ((with_reducible first | apply v_op Try.tab | apply v_op0 Try.tab | apply d_op Try.tab | apply d_op0 Try.tab) <;> first | (intro K' h0 hw; conv => whnf) | (simp only [Nat.reduceAdd, Nat.reduceMul]; rfl))
 | ((with_reducible apply v_nil); (case hm => (simp only [Nat.reduceAdd, Nat.reduceMul]; rfl)); (case' h => with_reducible refine hK _ ?_; clear hK))
 | ((with_reducible apply d_nil); (refine hK _ _ _ _ (by first | decide +kernel | (simp only [List.map_cons, List.map_nil, List.nil_append, List.cons_append]; decide +kernel) | rfl) ?_; clear hK))
 | ((with_reducible refine callV_id (f := 67) ?_); (with_reducible apply callV_f own67 (n1)); (case hx => rfl); (case he => rfl); (case hle => first | ((repeat constructor); done) | (simp; done)); (case hpu => repeat constructor); (case' hK => conv => whnf))
 | ((with_reducible refine callV_id (f := 67) ?_); (with_reducible apply callV_f own67 (n2)); (case hx => rfl); (case he => rfl); (case hle => first | ((repeat constructor); done) | (simp; done)); (case hpu => repeat constructor); (case' hK => conv => whnf))
 | ((with_reducible apply go_cond); (case hb => rfl))
 | ((with_reducible apply out_block_there); (case hne => rfl))
 | ((with_reducible first | refine w_ret Try.tab fun K' hL => ?_ | refine w_ret_end Try.tab fun K' hL => ?_); (conv => whnf))
 | ((with_reducible apply And.intro); (case' right => try (conv => whnf)); (case' left => try first | rfl | decide | (simp; done) | (simp (disch := omega) only [wrp]; omega) | (simp (disch := omega) [wrp]; (try omega); done)))
 | ((with_reducible apply Side.mk); (try simp (disch := omega) only [wrp]); (try simp); (try simp (disch := omega) only [wrp]); (try omega))
 | ((with_reducible apply all_rk); (case hx => with_reducible assumption); (conv => whnf))
 | ((with_reducible refine all_row ?_); (first  | intro x1 hx1); conv => whnf)
 | (rw [strAdd (by (try simp only [ByteArray.size_append]); omega)]; conv => whnf)
 | (first  | intro g1; try simp at g1))
  refine w_loop (X := Nat) (5 :: [5, 6, 7, 8, 16, 17, 18, 19, 20, 21, 22, 23, 24, 25, 26, 27, 28, 29, 30, 31, 32, 33, 34, 35, 36, 37, 38, 39, 40, 41, 42, 43, 44, 45, 46, 47, 48, 49, 50, 51, 52, 53, 54, 55, 56, 57, 58, 59]) (fun i => [(6, I i), (5, Tx (cat (preC n g i)))]) (fun _ => []) (fun i => i ≤ g.length) (fun i => g.length - i) 0 (Nat.zero_le _) ?_ ?_
  · refine ⟨kt_refl, ko_refl, ?_, ?_, ?_, ?_, Nat.le_refl _⟩ <;> simp [preC, cat_two]
  intro i hi
  have s1 := hcs (preC n g i) ⟨(g.drop i).flatMap frameCk, by rw [preC, bodyCk, List.append_assoc, ← List.flatMap_append, List.take_append_drop]⟩
  rcases Nat.lt_or_ge i g.length with hil | hil
  · obtain ⟨f, hf⟩ : ∃ f, g[i]? = some f := ⟨_, List.getElem?_eq_getElem hil⟩
    have hff := frameE_ok (hgf f (List.mem_of_getElem? hf))
    have n3 := c_numberBytes 4 f.time (by omega) (by omega) (by omega)
    have n4 := c_numberBytes 1 (f.parts.length : Int) (by omega) (by omega) (by omega)
    have z3 := beN_size 4 f.time
    have z4 := beN_size 1 (f.parts.length : Int)
    have hbody : bodyCk n g = preC n g i ++ (frameCk f ++ (g.drop (i + 1)).flatMap frameCk) := by
      rw [preC, bodyCk, List.append_assoc, ← List.flatMap_cons, ← drop_at hf, ← List.flatMap_append, List.take_append_drop]
    repeat' (first
 | ((with_reducible refine all_row ?_); intro z hz; obtain rfl : f = z := Option.some.inj (hf.symm.trans hz); conv => whnf)
 | (with_reducible first | apply qz0 | (refine h0 _ _ ?_; clear h0 hw) | (refine hw _ _ _ ?_; clear h0 hw) | apply qz1 | apply qz2 | apply qz3 | apply qz4 | apply qz5 | apply qz6 | apply qz7 | apply qz8 | apply qz9 | apply qza | apply qzb | apply qzc | apply qzd | apply qze | (refine hL _ ?_; clear hL))
 | (with_reducible first | refine w_reg (by decide +kernel) fun K1 hK => ?_ | refine w_reg_end (by decide +kernel) fun K1 hK => ?_)
 | ((with_reducible first | apply d_reg Try.mix (by decide +kernel) | apply d_reg_end Try.mix (by decide +kernel)); (case hm => simp only [List.length_cons, List.length_nil, Nat.reduceAdd, Nat.reduceMul]; rfl); (case' h => intro K1 hK))
 | with_reducible refine go_seq ?_
 | ((with_reducible first | apply v_op Try.tab | apply v_op0 Try.tab | apply d_op Try.tab | apply d_op0 Try.tab) <;> first | (intro K' h0 hw; conv => whnf) | (simp only [Nat.reduceAdd, Nat.reduceMul]; rfl))
 | ((with_reducible apply v_nil); (case hm => (simp only [Nat.reduceAdd, Nat.reduceMul]; rfl)); (case' h => with_reducible refine hK _ ?_; clear hK))
 | ((with_reducible apply d_nil); (refine hK _ _ _ _ (by first | decide +kernel | (simp only [List.map_cons, List.map_nil, List.nil_append, List.cons_append]; decide +kernel) | rfl) ?_; clear hK))
 | ((with_reducible refine callV_id (f := 67) ?_); (with_reducible apply callV_f own67 (n3)); (case hx => rfl); (case he => rfl); (case hle => first | ((repeat constructor); done) | (simp; done)); (case hpu => repeat constructor); (case' hK => conv => whnf))
 | ((with_reducible refine callV_id (f := 67) ?_); (with_reducible apply callV_f own67 (n4)); (case hx => rfl); (case he => rfl); (case hle => first | ((repeat constructor); done) | (simp; done)); (case hpu => repeat constructor); (case' hK => conv => whnf))
 | ((with_reducible apply go_cond); (case hb => rfl))
 | ((with_reducible apply out_block_there); (case hne => rfl))
 | ((with_reducible first | refine w_ret Try.tab fun K' hL => ?_ | refine w_ret_end Try.tab fun K' hL => ?_); (conv => whnf))
 | ((with_reducible apply And.intro); (case' right => try (conv => whnf)); (case' left => try first | rfl | decide | (simp; done) | (simp (disch := omega) only [wrp]; omega) | (simp (disch := omega) [wrp]; (try omega); done)))
 | ((with_reducible apply Side.mk); (try simp (disch := omega) only [wrp]); (try simp); (try simp (disch := omega) only [wrp]); (try omega))
 | ((with_reducible apply all_rk); (case hx => with_reducible assumption); (conv => whnf))
 | ((with_reducible refine all_row ?_); (first  | intro x1 hx1); conv => whnf)
 | (rw [strAdd (by (try simp only [ByteArray.size_append]); omega)]; conv => whnf)
 | (first  | intro g1; try simp at g1))
    · refine w_loop (X := Nat) (5 :: [5, 8, 38, 39, 40, 41, 42, 43, 44, 45, 46, 47, 48, 49, 50, 51, 52, 53, 54, 55, 56, 57, 58, 59]) (fun j => [(8, I j), (5, Tx (cat (preF n g i f j)))]) (fun _ => []) (fun j => j ≤ f.parts.length) (fun j => f.parts.length - j) 0 (Nat.zero_le _) ?_ ?_
      · refine ⟨kt_refl, ko_refl, ?_, ?_, ?_, ?_, Nat.le_refl _⟩ <;> simp [preF, cat_append, cat_two]
      intro j hj
      have s2 := hcs (preF n g i f j) ⟨(f.parts.drop j).flatMap partC ++ (g.drop (i + 1)).flatMap frameCk, by
        rw [hbody, frameCk, preF]
        rw [show f.parts.flatMap partC = (f.parts.take j).flatMap partC ++ (f.parts.drop j).flatMap partC by
          rw [← List.flatMap_append, List.take_append_drop]]
        simp⟩
      rcases Nat.lt_or_ge j f.parts.length with hjl | hjl
      · obtain ⟨p, hp⟩ : ∃ p, f.parts[j]? = some p := ⟨_, List.getElem?_eq_getElem hjl⟩
        have hps : p.size ≤ 8 := big_no hff.2.2.2.2 p (List.mem_of_getElem? hp)
        have n5 := c_numberBytes 1 (p.size : Int) (by omega) (by omega) (by omega)
        have z5 := beN_size 1 (p.size : Int)
        have e3 : cat (preF n g i f j) ++ (beN p.size 1 ++ p) = cat (preF n g i f (j + 1)) := by
          rw [preF, preF, flat_take hp, partC, ← cat_two (beN p.size 1) p, ← cat_append]; simp
        repeat' (first
 | ((with_reducible refine all_row ?_); intro z hz; obtain rfl : p = z := Option.some.inj (hp.symm.trans hz); conv => whnf)
 | (with_reducible first | apply qz0 | (refine h0 _ _ ?_; clear h0 hw) | (refine hw _ _ _ ?_; clear h0 hw) | apply qz1 | apply qz2 | apply qz3 | apply qz4 | apply qz5 | apply qz6 | apply qz7 | apply qz8 | apply qz9 | apply qza | apply qzb | apply qzc | apply qzd | apply qze | (refine hL _ ?_; clear hL))
 | (with_reducible first | refine w_reg (by decide +kernel) fun K1 hK => ?_ | refine w_reg_end (by decide +kernel) fun K1 hK => ?_)
 | ((with_reducible first | apply d_reg Try.mix (by decide +kernel) | apply d_reg_end Try.mix (by decide +kernel)); (case hm => simp only [List.length_cons, List.length_nil, Nat.reduceAdd, Nat.reduceMul]; rfl); (case' h => intro K1 hK))
 | with_reducible refine go_seq ?_
 | ((with_reducible first | apply v_op Try.tab | apply v_op0 Try.tab | apply d_op Try.tab | apply d_op0 Try.tab) <;> first | (intro K' h0 hw; conv => whnf) | (simp only [Nat.reduceAdd, Nat.reduceMul]; rfl))
 | ((with_reducible apply v_nil); (case hm => (simp only [Nat.reduceAdd, Nat.reduceMul]; rfl)); (case' h => with_reducible refine hK _ ?_; clear hK))
 | ((with_reducible apply d_nil); (refine hK _ _ _ _ (by first | decide +kernel | (simp only [List.map_cons, List.map_nil, List.nil_append, List.cons_append]; decide +kernel) | rfl) ?_; clear hK))
 | ((with_reducible refine callV_id (f := 67) ?_); (with_reducible apply callV_f own67 (n5)); (case hx => rfl); (case he => rfl); (case hle => first | ((repeat constructor); done) | (simp; done)); (case hpu => repeat constructor); (case' hK => conv => whnf))
 | ((with_reducible apply go_cond); (case hb => rfl))
 | ((with_reducible apply out_block_there); (case hne => rfl))
 | ((with_reducible first | refine w_ret Try.tab fun K' hL => ?_ | refine w_ret_end Try.tab fun K' hL => ?_); (conv => whnf))
 | ((with_reducible apply And.intro); (case' right => try (conv => whnf)); (case' left => try first | rfl | decide | (simp; done) | (simp (disch := omega) only [wrp]; omega) | (simp (disch := omega) [wrp]; (try omega); done)))
 | ((with_reducible apply Side.mk); (try simp (disch := omega) only [wrp]); (try simp); (try simp (disch := omega) only [wrp]); (try omega))
 | ((with_reducible apply all_rk); (case hx => with_reducible assumption); (conv => whnf))
 | ((with_reducible refine all_row ?_); (first  | intro x1 hx1); conv => whnf)
 | (rw [strAdd (by (try simp only [ByteArray.size_append]); omega)]; conv => whnf)
 | (first  | intro g1; try simp at g1))
        all_goals (try (exfalso; omega))
        refine w_nx (ko := ?ko) (j + 1) ?_ ?_ ?_ ?_ ?_ ?_
        case ko => repeat (first | (with_reducible exact ko_refl) | ((with_reducible refine ko_wos ?_ ?_); focus (simp; done)) | ((with_reducible refine ko_wo ?_ ?_); focus (simp; done)) | ((with_reducible refine ko_wor4 ?_ ?_); focus (simp; done)))
        case refine_1 => simp
        case refine_2 => simp
        case refine_3 => simp (disch := omega) [wrp, e3]
        case refine_4 => simp
        case refine_5 => first | omega | (simp only; omega)
        omega
      · have e4 : preF n g i f j = preC n g (i + 1) := by
          rw [preF, List.take_of_length_le (by omega), preC, preC, flat_take hf, frameCk]; simp
        repeat' (first
 | (with_reducible first | apply qz0 | (refine h0 _ _ ?_; clear h0 hw) | (refine hw _ _ _ ?_; clear h0 hw) | apply qz1 | apply qz2 | apply qz3 | apply qz4 | apply qz5 | apply qz6 | apply qz7 | apply qz8 | apply qz9 | apply qza | apply qzb | apply qzc | apply qzd | apply qze | (refine hL _ ?_; clear hL))
 | (with_reducible first | refine w_reg (by decide +kernel) fun K1 hK => ?_ | refine w_reg_end (by decide +kernel) fun K1 hK => ?_)
 | ((with_reducible first | apply d_reg Try.mix (by decide +kernel) | apply d_reg_end Try.mix (by decide +kernel)); (case hm => simp only [List.length_cons, List.length_nil, Nat.reduceAdd, Nat.reduceMul]; rfl); (case' h => intro K1 hK))
 | with_reducible refine go_seq ?_
 | ((with_reducible first | apply v_op Try.tab | apply v_op0 Try.tab | apply d_op Try.tab | apply d_op0 Try.tab) <;> first | (intro K' h0 hw; conv => whnf) | (simp only [Nat.reduceAdd, Nat.reduceMul]; rfl))
 | ((with_reducible apply v_nil); (case hm => (simp only [Nat.reduceAdd, Nat.reduceMul]; rfl)); (case' h => with_reducible refine hK _ ?_; clear hK))
 | ((with_reducible apply d_nil); (refine hK _ _ _ _ (by first | decide +kernel | (simp only [List.map_cons, List.map_nil, List.nil_append, List.cons_append]; decide +kernel) | rfl) ?_; clear hK))
 | ((with_reducible apply go_cond); (case hb => rfl))
 | ((with_reducible apply out_block_there); (case hne => rfl))
 | ((with_reducible first | refine w_ret Try.tab fun K' hL => ?_ | refine w_ret_end Try.tab fun K' hL => ?_); (conv => whnf))
 | ((with_reducible apply And.intro); (case' right => try (conv => whnf)); (case' left => try first | rfl | decide | (simp; done) | (simp (disch := omega) only [wrp]; omega) | (simp (disch := omega) [wrp]; (try omega); done)))
 | ((with_reducible apply Side.mk); (try simp (disch := omega) only [wrp]); (try simp); (try simp (disch := omega) only [wrp]); (try omega))
 | ((with_reducible apply all_rk); (case hx => with_reducible assumption); (conv => whnf))
 | ((with_reducible refine all_row ?_); (first  | intro x1 hx1); conv => whnf)
 | (first  | intro g1; try simp at g1))
        all_goals (try (exfalso; omega))
        refine w_nx (ko := ?ko) (i + 1) ?_ ?_ ?_ ?_ ?_ ?_
        case ko => repeat (first | (with_reducible exact ko_refl) | ((with_reducible refine ko_wos ?_ ?_); focus (simp; done)) | ((with_reducible refine ko_wo ?_ ?_); focus (simp; done)) | ((with_reducible refine ko_wor4 ?_ ?_); focus (simp; done)))
        case refine_1 => simp
        case refine_2 => simp
        case refine_3 => simp (disch := omega) [wrp, e4]
        case refine_4 => simp
        case refine_5 => first | omega | (simp only; omega)
        omega
    all_goals (exfalso; omega)
  · have e5 : cat (preC n g i) = cat (bodyCk n g) := by rw [preC, bodyCk, List.take_of_length_le hil]
    rw [e5] at s1
    have n6 := c_numberBytes 2 ((cat (bodyCk n g)).size : Int) (by omega) (by omega) (by omega)
    have z6 := beN_size 2 ((cat (bodyCk n g)).size : Int)
    rw [e5]
    repeat' (first
 | (with_reducible first | apply qz0 | (refine h0 _ _ ?_; clear h0 hw) | (refine hw _ _ _ ?_; clear h0 hw) | apply qz1 | apply qz2 | apply qz3 | apply qz4 | apply qz5 | apply qz6 | apply qz7 | apply qz8 | apply qz9 | apply qza | apply qzb | apply qzc | apply qzd | apply qze | (refine hL _ ?_; clear hL))
 | (with_reducible first | refine w_reg (by decide +kernel) fun K1 hK => ?_ | refine w_reg_end (by decide +kernel) fun K1 hK => ?_)
 | ((with_reducible first | apply d_reg Try.mix (by decide +kernel) | apply d_reg_end Try.mix (by decide +kernel)); (case hm => simp only [List.length_cons, List.length_nil, Nat.reduceAdd, Nat.reduceMul]; rfl); (case' h => intro K1 hK))
 | with_reducible refine go_seq ?_
 | ((with_reducible first | apply v_op Try.tab | apply v_op0 Try.tab | apply d_op Try.tab | apply d_op0 Try.tab) <;> first | (intro K' h0 hw; conv => whnf) | (simp only [Nat.reduceAdd, Nat.reduceMul]; rfl))
 | ((with_reducible apply v_nil); (case hm => (simp only [Nat.reduceAdd, Nat.reduceMul]; rfl)); (case' h => with_reducible refine hK _ ?_; clear hK))
 | ((with_reducible apply d_nil); (refine hK _ _ _ _ (by first | decide +kernel | (simp only [List.map_cons, List.map_nil, List.nil_append, List.cons_append]; decide +kernel) | rfl) ?_; clear hK))
 | ((with_reducible refine callV_id (f := 67) ?_); (with_reducible apply callV_f own67 (n6)); (case hx => rfl); (case he => rfl); (case hle => first | ((repeat constructor); done) | (simp; done)); (case hpu => repeat constructor); (case' hK => conv => whnf))
 | ((with_reducible apply go_cond); (case hb => rfl))
 | ((with_reducible apply out_block_there); (case hne => rfl))
 | ((with_reducible first | refine w_ret Try.tab fun K' hL => ?_ | refine w_ret_end Try.tab fun K' hL => ?_); (conv => whnf))
 | ((with_reducible apply And.intro); (case' right => try (conv => whnf)); (case' left => try first | rfl | decide | (simp; done) | (simp (disch := omega) only [wrp]; omega) | (simp (disch := omega) [wrp]; (try omega); done)))
 | ((with_reducible apply Side.mk); (try simp (disch := omega) only [wrp]); (try simp); (try simp (disch := omega) only [wrp]); (try omega))
 | ((with_reducible apply all_rk); (case hx => with_reducible assumption); (conv => whnf))
 | ((with_reducible refine all_row ?_); (first  | intro x1 hx1); conv => whnf)
 | (rw [strAdd (by (try simp only [ByteArray.size_append]); omega)]; conv => whnf)
 | (first  | intro g1; try simp at g1))
    all_goals first | (exfalso; omega) | exact .refl _
theorem c_checkDisk (d : Dk) : PSpec Try.prog 20 [.agg (dkC d)] (I (dkE d)) := by
  have h := c_diskOf d
  by_cases hz : 2000 < d.data.size
  · have e : doR d = (([], [], []), 2) := by rw [doR, if_pos hz]
    rw [e] at h
    rw [dkE, readR, if_pos hz]
    refine v_pspec Try.func20 rfl Try.ntmps20 Try.results20 (by simp) (by first | exact .s _ | repeat constructor) ?_
    repeat' (first
 | (with_reducible first | apply qz0 | (refine h0 _ _ ?_; clear h0 hw) | (refine hw _ _ _ ?_; clear h0 hw) | apply qz1 | apply qz2 | apply qz3 | apply qz4 | apply qz5 | apply qz6 | apply qz7 | apply qz8 | apply qz9 | apply qza | apply qzb | apply qzc | apply qzd | apply qze | (refine hL _ ?_; clear hL))
 | (with_reducible first | refine w_reg (by decide +kernel) fun K1 hK => ?_ | refine w_reg_end (by decide +kernel) fun K1 hK => ?_)
 | ((with_reducible first | apply d_reg Try.mix (by decide +kernel) | apply d_reg_end Try.mix (by decide +kernel)); (case hm => simp only [List.length_cons, List.length_nil, Nat.reduceAdd, Nat.reduceMul]; rfl); (case' h => intro K1 hK))
 | with_reducible refine go_seq ?_
 | ((with_reducible first | apply v_op Try.tab | apply v_op0 Try.tab | apply d_op Try.tab | apply d_op0 Try.tab) <;> first | (intro K' h0 hw; conv => whnf) | (simp only [Nat.reduceAdd, Nat.reduceMul]; rfl))
 | ((with_reducible apply v_nil); (case hm => (simp only [Nat.reduceAdd, Nat.reduceMul]; rfl)); (case' h => with_reducible refine hK _ ?_; clear hK))
 | ((with_reducible apply d_nil); (refine hK _ _ _ _ (by first | decide +kernel | (simp only [List.map_cons, List.map_nil, List.nil_append, List.cons_append]; decide +kernel) | rfl) ?_; clear hK))
 | ((with_reducible refine callV_id (f := 64) ?_); (with_reducible apply callV_f own64 (h)); (case hx => rfl); (case he => rfl); (case hle => first | ((repeat constructor); done) | (simp; done)); (case hpu => repeat constructor); (case' hK => conv => whnf))
 | ((with_reducible apply go_cond); (case hb => rfl))
 | ((with_reducible apply out_block_there); (case hne => rfl))
 | ((with_reducible first | refine w_ret Try.tab fun K' hL => ?_ | refine w_ret_end Try.tab fun K' hL => ?_); (conv => whnf))
 | ((with_reducible apply And.intro); (case' right => try (conv => whnf)); (case' left => try first | rfl | decide | (simp; done) | (simp (disch := omega) only [wrp]; omega) | (simp (disch := omega) [wrp]; (try omega); done)))
 | ((with_reducible apply Side.mk); (try simp (disch := omega) only [wrp]); (try simp); (try simp (disch := omega) only [wrp]); (try omega))
 | ((with_reducible apply all_rk); (case hx => with_reducible assumption); (conv => whnf))
 | ((with_reducible refine all_row ?_); (first | (guard_hyp hx1; intro x2 hx2) | intro x1 hx1); conv => whnf)
 | (first | (guard_hyp g3; intro g4; try simp at g4) | (guard_hyp g2; intro g3; try simp at g3) | (guard_hyp g1; intro g2; try simp at g2) | intro g1; try simp at g1))
    all_goals (simp; done)
  cases hd : diskL d.data d.data.size 0 none with
  | none =>
    have e : doR d = (([], [], []), 1) := by rw [doR, if_neg hz, hd]
    rw [e] at h
    rw [dkE, readR, if_neg hz, hd]
    refine v_pspec Try.func20 rfl Try.ntmps20 Try.results20 (by simp) (by first | exact .s _ | repeat constructor) ?_
    repeat' (first
 | (with_reducible first | apply qz0 | (refine h0 _ _ ?_; clear h0 hw) | (refine hw _ _ _ ?_; clear h0 hw) | apply qz1 | apply qz2 | apply qz3 | apply qz4 | apply qz5 | apply qz6 | apply qz7 | apply qz8 | apply qz9 | apply qza | apply qzb | apply qzc | apply qzd | apply qze | (refine hL _ ?_; clear hL))
 | (with_reducible first | refine w_reg (by decide +kernel) fun K1 hK => ?_ | refine w_reg_end (by decide +kernel) fun K1 hK => ?_)
 | ((with_reducible first | apply d_reg Try.mix (by decide +kernel) | apply d_reg_end Try.mix (by decide +kernel)); (case hm => simp only [List.length_cons, List.length_nil, Nat.reduceAdd, Nat.reduceMul]; rfl); (case' h => intro K1 hK))
 | with_reducible refine go_seq ?_
 | ((with_reducible first | apply v_op Try.tab | apply v_op0 Try.tab | apply d_op Try.tab | apply d_op0 Try.tab) <;> first | (intro K' h0 hw; conv => whnf) | (simp only [Nat.reduceAdd, Nat.reduceMul]; rfl))
 | ((with_reducible apply v_nil); (case hm => (simp only [Nat.reduceAdd, Nat.reduceMul]; rfl)); (case' h => with_reducible refine hK _ ?_; clear hK))
 | ((with_reducible apply d_nil); (refine hK _ _ _ _ (by first | decide +kernel | (simp only [List.map_cons, List.map_nil, List.nil_append, List.cons_append]; decide +kernel) | rfl) ?_; clear hK))
 | ((with_reducible refine callV_id (f := 64) ?_); (with_reducible apply callV_f own64 (h)); (case hx => rfl); (case he => rfl); (case hle => first | ((repeat constructor); done) | (simp; done)); (case hpu => repeat constructor); (case' hK => conv => whnf))
 | ((with_reducible apply go_cond); (case hb => rfl))
 | ((with_reducible apply out_block_there); (case hne => rfl))
 | ((with_reducible first | refine w_ret Try.tab fun K' hL => ?_ | refine w_ret_end Try.tab fun K' hL => ?_); (conv => whnf))
 | ((with_reducible apply And.intro); (case' right => try (conv => whnf)); (case' left => try first | rfl | decide | (simp; done) | (simp (disch := omega) only [wrp]; omega) | (simp (disch := omega) [wrp]; (try omega); done)))
 | ((with_reducible apply Side.mk); (try simp (disch := omega) only [wrp]); (try simp); (try simp (disch := omega) only [wrp]); (try omega))
 | ((with_reducible apply all_rk); (case hx => with_reducible assumption); (conv => whnf))
 | ((with_reducible refine all_row ?_); (first | (guard_hyp hx1; intro x2 hx2) | intro x1 hx1); conv => whnf)
 | (first | (guard_hyp g3; intro g4; try simp at g4) | (guard_hyp g2; intro g3; try simp at g3) | (guard_hyp g1; intro g2; try simp at g2) | intro g1; try simp at g1))
    all_goals (simp; done)
  | some l =>
    have e : doR d = ((l.map (·.n), gsOf l, endsL 0 l), 0) := by rw [doR, if_neg hz, hd]
    rw [e] at h
    have hlen : (endsL 0 l).length ≤ 2001 := by rw [endsL_len]; have := diskL_len _ _ _ _ _ hd; omega
    have hE : dkE d = if d.sync ∈ endsL 0 l then 0 else 3 := by
      rw [dkE, readR, if_neg hz, hd]
      simp only
      split <;> rfl
    rw [hE]
    refine v_pspec Try.func20 rfl Try.ntmps20 Try.results20 (by simp) (by first | exact .s _ | repeat constructor) ?_
    repeat' (first
 | (with_reducible first | apply qz0 | (refine h0 _ _ ?_; clear h0 hw) | (refine hw _ _ _ ?_; clear h0 hw) | apply qz1 | apply qz2 | apply qz3 | apply qz4 | apply qz5 | apply qz6 | apply qz7 | apply qz8 | apply qz9 | apply qza | apply qzb | apply qzc | apply qzd | apply qze | (refine hL _ ?_; clear hL))
 | (with_reducible first | refine w_reg (by decide +kernel) fun K1 hK => ?_ | refine w_reg_end (by decide +kernel) fun K1 hK => ?_)
 | ((with_reducible first | apply d_reg Try.mix (by decide +kernel) | apply d_reg_end Try.mix (by decide +kernel)); (case hm => simp only [List.length_cons, List.length_nil, Nat.reduceAdd, Nat.reduceMul]; rfl); (case' h => intro K1 hK))
 | with_reducible refine go_seq ?_
 | ((with_reducible first | apply v_op Try.tab | apply v_op0 Try.tab | apply d_op Try.tab | apply d_op0 Try.tab) <;> first | (intro K' h0 hw; conv => whnf) | (simp only [Nat.reduceAdd, Nat.reduceMul]; rfl))
 | ((with_reducible apply v_nil); (case hm => (simp only [Nat.reduceAdd, Nat.reduceMul]; rfl)); (case' h => with_reducible refine hK _ ?_; clear hK))
 | ((with_reducible apply d_nil); (refine hK _ _ _ _ (by first | decide +kernel | (simp only [List.map_cons, List.map_nil, List.nil_append, List.cons_append]; decide +kernel) | rfl) ?_; clear hK))
 | ((with_reducible refine callV_id (f := 64) ?_); (with_reducible apply callV_f own64 (h)); (case hx => rfl); (case he => rfl); (case hle => first | ((repeat constructor); done) | (simp; done)); (case hpu => repeat constructor); (case' hK => conv => whnf))
 | ((with_reducible apply go_cond); (case hb => rfl))
 | ((with_reducible apply out_block_there); (case hne => rfl))
 | ((with_reducible first | refine w_ret Try.tab fun K' hL => ?_ | refine w_ret_end Try.tab fun K' hL => ?_); (conv => whnf))
 | ((with_reducible apply And.intro); (case' right => try (conv => whnf)); (case' left => try first | rfl | decide | (simp; done) | (simp (disch := omega) only [wrp]; omega) | (simp (disch := omega) [wrp]; (try omega); done)))
 | ((with_reducible apply Side.mk); (try simp (disch := omega) only [wrp]); (try simp); (try simp (disch := omega) only [wrp]); (try omega))
 | ((with_reducible apply all_rk); (case hx => with_reducible assumption); (conv => whnf))
 | ((with_reducible refine all_row ?_); (first | (guard_hyp hx1; intro x2 hx2) | intro x1 hx1); conv => whnf)
 | (first | (guard_hyp g3; intro g4; try simp at g4) | (guard_hyp g2; intro g3; try simp at g3) | (guard_hyp g1; intro g2; try simp at g2) | intro g1; try simp at g1))
    refine w_loop (X := Nat) [2, 7, 18, 19, 20, 21, 22, 23, 24, 25, 26, 27, 28, 29, 30] (fun i => [(7, I i)]) (fun _ => []) (fun i => i ≤ (endsL 0 l).length ∧ ∀ j, j < i → (endsL 0 l)[j]? ≠ some d.sync) (fun i => (endsL 0 l).length - i) 0 (by simp) ?_ ?_
    · refine ⟨kt_refl, ko_refl, ?_, ?_, ?_, ?_, Nat.le_refl _⟩ <;> simp
    rintro i ⟨h1, h2⟩
    repeat' (first
 | (with_reducible first | apply qz0 | (refine h0 _ _ ?_; clear h0 hw) | (refine hw _ _ _ ?_; clear h0 hw) | apply qz1 | apply qz2 | apply qz3 | apply qz4 | apply qz5 | apply qz6 | apply qz7 | apply qz8 | apply qz9 | apply qza | apply qzb | apply qzc | apply qzd | apply qze | (refine hL _ ?_; clear hL))
 | (with_reducible first | refine w_reg (by decide +kernel) fun K1 hK => ?_ | refine w_reg_end (by decide +kernel) fun K1 hK => ?_)
 | ((with_reducible first | apply d_reg Try.mix (by decide +kernel) | apply d_reg_end Try.mix (by decide +kernel)); (case hm => simp only [List.length_cons, List.length_nil, Nat.reduceAdd, Nat.reduceMul]; rfl); (case' h => intro K1 hK))
 | with_reducible refine go_seq ?_
 | ((with_reducible first | apply v_op Try.tab | apply v_op0 Try.tab | apply d_op Try.tab | apply d_op0 Try.tab) <;> first | (intro K' h0 hw; conv => whnf) | (simp only [Nat.reduceAdd, Nat.reduceMul]; rfl))
 | ((with_reducible apply v_nil); (case hm => (simp only [Nat.reduceAdd, Nat.reduceMul]; rfl)); (case' h => with_reducible refine hK _ ?_; clear hK))
 | ((with_reducible apply d_nil); (refine hK _ _ _ _ (by first | decide +kernel | (simp only [List.map_cons, List.map_nil, List.nil_append, List.cons_append]; decide +kernel) | rfl) ?_; clear hK))
 | ((with_reducible apply go_cond); (case hb => rfl))
 | ((with_reducible apply out_block_there); (case hne => rfl))
 | ((with_reducible first | refine w_ret Try.tab fun K' hL => ?_ | refine w_ret_end Try.tab fun K' hL => ?_); (conv => whnf))
 | ((with_reducible apply And.intro); (case' right => try (conv => whnf)); (case' left => try first | rfl | decide | (simp; done) | (simp (disch := omega) only [wrp]; omega) | (simp (disch := omega) [wrp]; (try omega); done)))
 | ((with_reducible apply Side.mk); (try simp (disch := omega) only [wrp]); (try simp); (try simp (disch := omega) only [wrp]); (try omega))
 | ((with_reducible apply all_rk); (case hx => with_reducible assumption); (conv => whnf))
 | ((with_reducible refine all_row ?_); (first | (guard_hyp hx1; intro x2 hx2) | intro x1 hx1); conv => whnf)
 | (first | (guard_hyp g3; intro g4; try simp at g4) | (guard_hyp g2; intro g3; try simp at g3) | (guard_hyp g1; intro g2; try simp at g2) | intro g1; try simp at g1))
    · rw [if_pos (by rw [Int.toNat_natCast] at hx1; exact g3 ▸ List.mem_of_getElem? hx1)]
      exact .refl _
    · rw [Int.toNat_natCast] at hx1
      ((refine w_nx ((i + 1)) ?_ ?_ ?_ ?_ ?_ ?_); (case refine_1 => simp); (case refine_2 => simp); (case refine_3 => simp (disch := omega) [wrp]); (case refine_4 => simp); (case refine_5 => first | (simp; omega) | (simp; done) | omega | (simp only; omega)); (case' refine_6 => (try simp only); (try exact trivial)))
      refine ⟨by omega, fun j hj => ?_⟩
      by_cases hji : j = i
      · subst hji; intro e; exact g3 (Option.some.inj (hx1.symm.trans e))
      · exact h2 j (by omega)
    · rw [if_neg (idx_none fun j hj => h2 j (by omega))]
      exact .refl _
theorem c_endOf (d : Dk) (h : dkE d = 0) : PSpec Try.prog 25 [.agg (dkC d)] (I (endR 0 (readR d).1.1)) := by
  obtain ⟨hz, l, hd, hs, e⟩ := readR_ok h
  have h1 := c_diskOf d
  have e1 : doR d = ((l.map (·.n), gsOf l, endsL 0 l), 0) := by rw [doR, if_neg (by omega), hd]
  rw [e1] at h1
  rw [e]
  have hlen : (endsL 0 l).length ≤ 2001 := by rw [endsL_len]; have := diskL_len _ _ _ _ _ hd; omega
  have hei := last_row (endsL_last 0 l) (by omega)
  have hp : 0 < (endsL 0 l).length := by rw [endsL_len]; omega
  have w3 := wrp (n := ((endsL 0 l).length : Int) - 1) (by omega) (by omega)
  refine v_pspec Try.func25 rfl Try.ntmps25 Try.results25 (by simp) (by first | exact .s _ | repeat constructor) ?_
  repeat' (first
 | ((with_reducible refine all_row ?_); intro z hz; obtain rfl : endR 0 l = z := Option.some.inj (hei.symm.trans hz); conv => whnf)
 | (with_reducible first | apply qz0 | (refine h0 _ _ ?_; clear h0 hw) | (refine hw _ _ _ ?_; clear h0 hw) | apply qz1 | apply qz2 | apply qz5 | apply qz6 | (refine hL _ ?_; clear hL))
 | (with_reducible first | refine w_reg (by decide +kernel) fun K1 hK => ?_ | refine w_reg_end (by decide +kernel) fun K1 hK => ?_)
 | with_reducible refine go_seq ?_
 | ((with_reducible first | apply v_op Try.tab | apply v_op0 Try.tab) <;> first | (intro K' h0 hw; conv => whnf) | (simp only [Nat.reduceAdd, Nat.reduceMul]; rfl))
 | ((with_reducible apply v_nil); (case hm => (simp only [Nat.reduceAdd, Nat.reduceMul]; rfl)); (case' h => with_reducible refine hK _ ?_; clear hK))
 | ((with_reducible refine callV_id (f := 64) ?_); (with_reducible apply callV_f own64 (h1)); (case hx => rfl); (case he => rfl); (case hle => first | ((repeat constructor); done) | (simp [w3]; done)); (case hpu => repeat constructor); (case' hK => conv => whnf))
 | ((with_reducible first | refine w_ret Try.tab fun K' hL => ?_ | refine w_ret_end Try.tab fun K' hL => ?_); (conv => whnf))
 | ((with_reducible apply And.intro); (case' right => try (conv => whnf)); (case' left => try first | rfl | decide | (simp [w3]; done) | (simp (disch := omega) only [wrp]; omega) | (simp (disch := omega) [w3, wrp]; (try omega); done)))
 | ((with_reducible apply Side.mk); (try simp (disch := omega) only [wrp]); (try simp); (try simp (disch := omega) only [wrp]); (try omega))
 | ((with_reducible apply all_rk); (case hx => with_reducible assumption); (conv => whnf))
 | ((with_reducible refine all_row ?_); (first  | intro x1 hx1); conv => whnf)
 | (first  | intro g1; try simp at g1))
  all_goals first | omega | exact .refl _
theorem c_openOf (d : Dk) (h : dkE d = 0) : PSpec Try.prog 24 [.agg (dkC d)] (.tup [.agg (stC (openS d).1.1), .agg (dkC (openS d).1.2)]) := by
  have h2 := c_endOf d h
  obtain ⟨hz, l, hd, hs, e⟩ := readR_ok h
  have h1 := c_diskOf d
  have e1 : doR d = ((l.map (·.n), gsOf l, endsL 0 l), 0) := by rw [doR, if_neg (by omega), hd]
  rw [e1] at h1
  obtain ⟨hr1, hr2⟩ := diskL_right _ _ _ _ _ (Nat.zero_le _) hd
  obtain ⟨he1, he2, _⟩ := diskL_end _ _ _ _ _ (Nat.zero_le _) hd
  rw [show ((0 : Nat) : Int) = 0 from rfl] at he1 he2
  have hrg : Rg (gsOf l) := ⟨by simp [gsOf]; omega, fun g hg => by
    obtain ⟨r, hr, rfl⟩ := List.mem_map.1 hg
    exact (hr1 r hr).1⟩
  have hfo : 0 ≤ firstOf l ∧ firstOf l ≤ 100000 := by
    cases l with
    | nil => simp [firstOf]
    | cons r l => exact (hr1 r List.mem_cons_self).2
  have hgl : (gsOf l).length = l.length := List.length_map _
  have h3 := c_trimmed _ (gsOf l) (firstOf l) rfl hrg ⟨by omega, by omega⟩
  rw [e] at h2
  rw [openS, if_pos h, e]
  cases l with
  | nil =>
    refine v_pspec Try.func24 rfl Try.ntmps24 Try.results24 (by simp) (by first | exact .s _ | repeat constructor) ?_
    repeat' (first
 | (with_reducible first | apply qz0 | (refine h0 _ _ ?_; clear h0 hw) | (refine hw _ _ _ ?_; clear h0 hw) | apply qz1 | apply qz2 | apply qz5 | apply qz6 | (refine hL _ ?_; clear hL))
 | (with_reducible first | refine w_reg (by decide +kernel) fun K1 hK => ?_ | refine w_reg_end (by decide +kernel) fun K1 hK => ?_)
 | ((with_reducible first | apply d_reg Try.mix (by decide +kernel) | apply d_reg_end Try.mix (by decide +kernel)); (case hm => simp only [List.length_cons, List.length_nil, Nat.reduceAdd, Nat.reduceMul]; rfl); (case' h => intro K1 hK))
 | with_reducible refine go_seq ?_
 | ((with_reducible first | apply v_op Try.tab | apply v_op0 Try.tab | apply d_op Try.tab | apply d_op0 Try.tab) <;> first | (intro K' h0 hw; conv => whnf) | (simp only [Nat.reduceAdd, Nat.reduceMul]; rfl))
 | ((with_reducible apply v_nil); (case hm => (simp only [Nat.reduceAdd, Nat.reduceMul]; rfl)); (case' h => with_reducible refine hK _ ?_; clear hK))
 | ((with_reducible apply d_nil); (refine hK _ _ _ _ (by first | decide +kernel | (simp only [List.map_cons, List.map_nil, List.nil_append, List.cons_append]; decide +kernel) | rfl) ?_; clear hK))
 | ((with_reducible refine callV_id (f := 64) ?_); (with_reducible apply callV_f own64 (h1)); (case hx => rfl); (case he => rfl); (case hle => first | ((repeat constructor); done) | (simp; done)); (case hpu => repeat constructor); (case' hK => conv => whnf))
 | ((with_reducible refine callV_id (f := 68) ?_); (with_reducible apply callV_f own68 (h3)); (case hx => rfl); (case he => rfl); (case hle => first | ((repeat constructor); done) | (simp; done)); (case hpu => repeat constructor); (case' hK => conv => whnf))
 | ((with_reducible refine callV_id (f := 25) ?_); (with_reducible apply callV_f own25 (h2)); (case hx => rfl); (case he => rfl); (case hle => first | ((repeat constructor); done) | (simp; done)); (case hpu => repeat constructor); (case' hK => conv => whnf))
 | ((with_reducible apply go_cond); (case hb => rfl))
 | ((with_reducible first | refine w_ret Try.tab fun K' hL => ?_ | refine w_ret_end Try.tab fun K' hL => ?_); (conv => whnf))
 | ((with_reducible apply And.intro); (case' right => try (conv => whnf)); (case' left => try first | rfl | decide | (simp; done) | (simp (disch := omega) only [wrp]; omega) | (simp (disch := omega) [wrp]; (try omega); done)))
 | ((with_reducible apply Side.mk); (try simp (disch := omega) only [wrp]); (try simp); (try simp (disch := omega) only [wrp]); (try omega))
 | ((with_reducible apply all_rk); (case hx => with_reducible assumption); (conv => whnf))
 | ((with_reducible refine all_row ?_); (first  | intro x1 hx1); conv => whnf)
 | (first  | intro g1; try simp at g1))
    all_goals first | omega | exact .refl _ | (simp; done)
  | cons r l =>
    refine v_pspec Try.func24 rfl Try.ntmps24 Try.results24 (by simp) (by first | exact .s _ | repeat constructor) ?_
    repeat' (first
 | ((with_reducible refine all_row ?_); intro z hz; obtain rfl : r.n = z := Option.some.inj hz; conv => whnf)
 | (with_reducible first | apply qz0 | (refine h0 _ _ ?_; clear h0 hw) | (refine hw _ _ _ ?_; clear h0 hw) | apply qz1 | apply qz2 | apply qz5 | apply qz6 | (refine hL _ ?_; clear hL))
 | (with_reducible first | refine w_reg (by decide +kernel) fun K1 hK => ?_ | refine w_reg_end (by decide +kernel) fun K1 hK => ?_)
 | ((with_reducible first | apply d_reg Try.mix (by decide +kernel) | apply d_reg_end Try.mix (by decide +kernel)); (case hm => simp only [List.length_cons, List.length_nil, Nat.reduceAdd, Nat.reduceMul]; rfl); (case' h => intro K1 hK))
 | with_reducible refine go_seq ?_
 | ((with_reducible first | apply v_op Try.tab | apply v_op0 Try.tab | apply d_op Try.tab | apply d_op0 Try.tab) <;> first | (intro K' h0 hw; conv => whnf) | (simp only [Nat.reduceAdd, Nat.reduceMul]; rfl))
 | ((with_reducible apply v_nil); (case hm => (simp only [Nat.reduceAdd, Nat.reduceMul]; rfl)); (case' h => with_reducible refine hK _ ?_; clear hK))
 | ((with_reducible apply d_nil); (refine hK _ _ _ _ (by first | decide +kernel | (simp only [List.map_cons, List.map_nil, List.nil_append, List.cons_append]; decide +kernel) | rfl) ?_; clear hK))
 | ((with_reducible refine callV_id (f := 64) ?_); (with_reducible apply callV_f own64 (h1)); (case hx => rfl); (case he => rfl); (case hle => first | ((repeat constructor); done) | (simp; done)); (case hpu => repeat constructor); (case' hK => conv => whnf))
 | ((with_reducible refine callV_id (f := 68) ?_); (with_reducible apply callV_f own68 (h3)); (case hx => rfl); (case he => rfl); (case hle => first | ((repeat constructor); done) | (simp; done)); (case hpu => repeat constructor); (case' hK => conv => whnf))
 | ((with_reducible refine callV_id (f := 25) ?_); (with_reducible apply callV_f own25 (h2)); (case hx => rfl); (case he => rfl); (case hle => first | ((repeat constructor); done) | (simp; done)); (case hpu => repeat constructor); (case' hK => conv => whnf))
 | ((with_reducible apply go_cond); (case hb => rfl))
 | ((with_reducible first | refine w_ret Try.tab fun K' hL => ?_ | refine w_ret_end Try.tab fun K' hL => ?_); (conv => whnf))
 | ((with_reducible apply And.intro); (case' right => try (conv => whnf)); (case' left => try first | rfl | decide | (simp; done) | (simp (disch := omega) only [wrp]; omega) | (simp (disch := omega) [wrp]; (try omega); done)))
 | ((with_reducible apply Side.mk); (try simp (disch := omega) only [wrp]); (try simp); (try simp (disch := omega) only [wrp]); (try omega))
 | ((with_reducible apply all_rk); (case hx => with_reducible assumption); (conv => whnf))
 | ((with_reducible refine all_row ?_); (first  | intro x1 hx1); conv => whnf)
 | (first  | intro g1; try simp at g1))
    all_goals first | omega | exact .refl _ | (simp; done)
set_option maxHeartbeats 4000000 in
theorem c_appendOf (d : Dk) (n : Int) (g : List Fr) (hf : Fits g) : PSpec Try.prog 23 [.agg (dkC d), I n, .agg (grC g)] (dkT (appR d n g)) := by
  have h1 := c_checkDisk d
  have h2 := c_checkRecord n g hf
  by_cases c1 : dkE d = 0
  · rw [c1] at h1
    by_cases c2 : encE n g = 0
    · rw [c2] at h2
      obtain ⟨hn, hgE⟩ := (encE_zero n g).1 c2
      have hsz := recB_size (n := n) hgE
      have h5 := c_recordOf n g hn hgE
      have h4 := c_endOf d c1
      obtain ⟨hz, l, hd, hs, e⟩ := readR_ok c1
      obtain ⟨hr1, hr2⟩ := diskL_right _ _ _ _ _ (Nat.zero_le _) hd
      obtain ⟨he1, he2, _⟩ := diskL_end _ _ _ _ _ (Nat.zero_le _) hd
      have h3 := c_diskOf d
      have e1 : doR d = ((l.map (·.n), gsOf l, endsL 0 l), 0) := by rw [doR, if_neg (by omega), hd]
      rw [e1] at h3
      rw [e] at h4
      have h4 : PSpec Try.prog 25 [.agg (dkC d)] (I (endR 0 l)) := h4
      have hwe : wholeR d = ((l, endR 0 l), if endR 0 l < d.data.size then 4 else 0) := by rw [wholeR, show (readR d).2 = 0 from c1, if_pos rfl, e]
      have hlen : (l.map (·.n)).length = l.length := List.length_map _
      by_cases c3 : endR 0 l < d.data.size
      · have hA : appE d n g = 4 := by rw [appE, if_neg (by simp [c1]), if_neg (by simp [c2]), hwe, if_pos c3]; rfl
        rw [appR, hA]
        refine v_pspec Try.func23 rfl Try.ntmps23 Try.results23 (by simp) (by first | exact .s _ | repeat constructor) ?_
        repeat' (first
 | (with_reducible first | apply qz0 | (refine h0 _ _ ?_; clear h0 hw) | (refine hw _ _ _ ?_; clear h0 hw) | apply qz1 | apply qz2 | apply qz5 | apply qz6 | (refine hL _ ?_; clear hL))
 | (with_reducible first | refine w_reg (by decide +kernel) fun K1 hK => ?_ | refine w_reg_end (by decide +kernel) fun K1 hK => ?_)
 | ((with_reducible first | apply d_reg Try.mix (by decide +kernel) | apply d_reg_end Try.mix (by decide +kernel)); (case hm => simp only [List.length_cons, List.length_nil, Nat.reduceAdd, Nat.reduceMul]; rfl); (case' h => intro K1 hK))
 | with_reducible refine go_seq ?_
 | ((with_reducible first | apply v_op Try.tab | apply v_op0 Try.tab | apply d_op Try.tab | apply d_op0 Try.tab) <;> first | (intro K' h0 hw; conv => whnf) | (simp only [Nat.reduceAdd, Nat.reduceMul]; rfl))
 | ((with_reducible apply v_nil); (case hm => (simp only [Nat.reduceAdd, Nat.reduceMul]; rfl)); (case' h => with_reducible refine hK _ ?_; clear hK))
 | ((with_reducible apply d_nil); (refine hK _ _ _ _ (by first | decide +kernel | (simp only [List.map_cons, List.map_nil, List.nil_append, List.cons_append]; decide +kernel) | rfl) ?_; clear hK))
 | (first | refine d_grd_yes (by rfl) (by rfl) ?_ | refine v_grd_yes (by rfl) (by rfl) ?_)
 | ((first | (apply d_grd_no; (case hg => rfl); (case hb => rfl)) | (apply d_grd_undef; (case hg => rfl); (case hb => rfl)) | (apply d_grd; (case hg => rfl); (case hb => rfl)) | (apply v_grd_no; (case hg => rfl); (case hb => rfl)) | (apply v_grd_undef; (case hg => rfl); (case hb => rfl)) | (apply v_grd; (case hg => rfl); (case hb => rfl))); (case hi => (simp only [Nat.reduceAdd, Nat.reduceMul]; rfl)))
 | ((with_reducible refine callV_id (f := 20) ?_); (with_reducible apply callV_f own20 (h1)); (case hx => rfl); (case he => rfl); (case hle => first | ((repeat constructor); done) | (simp; done)); (case hpu => repeat constructor); (case' hK => conv => whnf))
 | ((with_reducible refine callV_id (f := 21) ?_); (with_reducible apply callV_f own21 (h2)); (case hx => rfl); (case he => rfl); (case hle => first | ((repeat constructor); done) | (simp; done)); (case hpu => repeat constructor); (case' hK => conv => whnf))
 | ((with_reducible refine callV_id (f := 64) ?_); (with_reducible apply callV_f own64 (h3)); (case hx => rfl); (case he => rfl); (case hle => first | ((repeat constructor); done) | (simp; done)); (case hpu => repeat constructor); (case' hK => conv => whnf))
 | ((with_reducible refine callV_id (f := 25) ?_); (with_reducible apply callV_f own25 (h4)); (case hx => rfl); (case he => rfl); (case hle => first | ((repeat constructor); done) | (simp; done)); (case hpu => repeat constructor); (case' hK => conv => whnf))
 | ((with_reducible apply go_cond); (case hb => rfl))
 | ((with_reducible first | refine w_ret Try.tab fun K' hL => ?_ | refine w_ret_end Try.tab fun K' hL => ?_); (conv => whnf))
 | ((with_reducible apply And.intro); (case' right => try (conv => whnf)); (case' left => try first | rfl | decide | (simp; done) | (simp (disch := omega) only [wrp]; omega) | (simp (disch := omega) [wrp]; (try omega); done)))
 | ((with_reducible apply Side.mk); (try simp (disch := omega) only [wrp]); (try simp); (try simp (disch := omega) only [wrp]); (try omega))
 | ((with_reducible apply all_rk); (case hx => with_reducible assumption); (conv => whnf))
 | ((with_reducible refine all_row ?_); (first  | intro x1 hx1); conv => whnf)
 | (first | (guard_hyp g6; intro g7; try simp at g7) | (guard_hyp g5; intro g6; try simp at g6) | (guard_hyp g4; intro g5; try simp at g5) | (guard_hyp g3; intro g4; try simp at g4) | (guard_hyp g2; intro g3; try simp at g3) | (guard_hyp g1; intro g2; try simp at g2) | intro g1; try simp at g1))
        all_goals (try (exfalso; omega))
        all_goals (simp [dk0]; done)
      · have hA : appE d n g = if goesB (lastN l) n = false then 4 else if 2000 < d.data.size + (recB n g).size then 2 else 0 := by
          rw [appE, if_neg (by simp [c1]), if_neg (by simp [c2]), hwe, if_neg c3, if_neg (by simp), e]
        have w1 := wrp (n := (d.data.size : Int) + (recB n g).size) (by omega) (by omega)
        have hA4 : goesB (lastN l) n = true → 2000 < d.data.size + (recB n g).size → appR d n g = (dk0, 2) := fun q1 q2 => by
          rw [appR, hA, q1, if_pos q2]; rfl
        have hA5 : goesB (lastN l) n = true → ¬ 2000 < d.data.size + (recB n g).size → appR d n g = (⟨d.data ++ recB n g, d.sync⟩, 0) := fun q1 q2 => by
          rw [appR, hA, q1, if_neg q2]; rfl
        have hA6 : goesB (lastN l) n = false → appR d n g = (dk0, 4) := fun q1 => by
          rw [appR, hA, q1]; rfl
        cases hq : l.getLast? with
        | none =>
          obtain rfl : l = [] := List.getLast?_eq_none_iff.1 hq
          have hgo : goesB (lastN []) n = true := rfl
          refine v_pspec Try.func23 rfl Try.ntmps23 Try.results23 (by simp) (by first | exact .s _ | repeat constructor) ?_
          repeat' (first
 | (with_reducible first | apply qz0 | (refine h0 _ _ ?_; clear h0 hw) | (refine hw _ _ _ ?_; clear h0 hw) | apply qz1 | apply qz2 | apply qz5 | apply qz6 | (refine hL _ ?_; clear hL))
 | (with_reducible first | refine w_reg (by decide +kernel) fun K1 hK => ?_ | refine w_reg_end (by decide +kernel) fun K1 hK => ?_)
 | ((with_reducible first | apply d_reg Try.mix (by decide +kernel) | apply d_reg_end Try.mix (by decide +kernel)); (case hm => simp only [List.length_cons, List.length_nil, Nat.reduceAdd, Nat.reduceMul]; rfl); (case' h => intro K1 hK))
 | with_reducible refine go_seq ?_
 | ((with_reducible first | apply v_op Try.tab | apply v_op0 Try.tab | apply d_op Try.tab | apply d_op0 Try.tab) <;> first | (intro K' h0 hw; conv => whnf) | (simp only [Nat.reduceAdd, Nat.reduceMul]; rfl))
 | ((with_reducible apply v_nil); (case hm => (simp only [Nat.reduceAdd, Nat.reduceMul]; rfl)); (case' h => with_reducible refine hK _ ?_; clear hK))
 | ((with_reducible apply d_nil); (refine hK _ _ _ _ (by first | decide +kernel | (simp only [List.map_cons, List.map_nil, List.nil_append, List.cons_append]; decide +kernel) | rfl) ?_; clear hK))
 | (first | refine d_grd_yes (by rfl) (by rfl) ?_ | refine v_grd_yes (by rfl) (by rfl) ?_)
 | ((first | (apply d_grd_no; (case hg => rfl); (case hb => rfl)) | (apply d_grd_undef; (case hg => rfl); (case hb => rfl)) | (apply d_grd; (case hg => rfl); (case hb => rfl)) | (apply v_grd_no; (case hg => rfl); (case hb => rfl)) | (apply v_grd_undef; (case hg => rfl); (case hb => rfl)) | (apply v_grd; (case hg => rfl); (case hb => rfl))); (case hi => (simp only [Nat.reduceAdd, Nat.reduceMul]; rfl)))
 | ((with_reducible refine callV_id (f := 20) ?_); (with_reducible apply callV_f own20 (h1)); (case hx => rfl); (case he => rfl); (case hle => first | ((repeat constructor); done) | (simp [w1]; done)); (case hpu => repeat constructor); (case' hK => conv => whnf))
 | ((with_reducible refine callV_id (f := 21) ?_); (with_reducible apply callV_f own21 (h2)); (case hx => rfl); (case he => rfl); (case hle => first | ((repeat constructor); done) | (simp [w1]; done)); (case hpu => repeat constructor); (case' hK => conv => whnf))
 | ((with_reducible refine callV_id (f := 64) ?_); (with_reducible apply callV_f own64 (h3)); (case hx => rfl); (case he => rfl); (case hle => first | ((repeat constructor); done) | (simp [w1]; done)); (case hpu => repeat constructor); (case' hK => conv => whnf))
 | ((with_reducible refine callV_id (f := 25) ?_); (with_reducible apply callV_f own25 (h4)); (case hx => rfl); (case he => rfl); (case hle => first | ((repeat constructor); done) | (simp [w1]; done)); (case hpu => repeat constructor); (case' hK => conv => whnf))
 | ((with_reducible refine callV_id (f := 22) ?_); (with_reducible apply callV_f own22 (h5)); (case hx => rfl); (case he => rfl); (case hle => first | ((repeat constructor); done) | (simp [w1]; done)); (case hpu => repeat constructor); (case' hK => conv => whnf))
 | ((with_reducible apply go_cond); (case hb => rfl))
 | ((with_reducible first | refine w_ret Try.tab fun K' hL => ?_ | refine w_ret_end Try.tab fun K' hL => ?_); (conv => whnf))
 | ((with_reducible apply And.intro); (case' right => try (conv => whnf)); (case' left => try first | rfl | decide | (simp [w1]; done) | (simp (disch := omega) only [wrp]; omega) | (simp (disch := omega) [w1, wrp]; (try omega); done)))
 | ((with_reducible apply Side.mk); (try simp (disch := omega) only [wrp]); (try simp); (try simp (disch := omega) only [wrp]); (try omega))
 | ((with_reducible apply all_rk); (case hx => with_reducible assumption); (conv => whnf))
 | ((with_reducible refine all_row ?_); (first  | intro x1 hx1); conv => whnf)
 | (rw [strAdd (by omega)]; conv => whnf)
 | (first | (guard_hyp g6; intro g7; try simp at g7) | (guard_hyp g5; intro g6; try simp at g6) | (guard_hyp g4; intro g5; try simp at g5) | (guard_hyp g3; intro g4; try simp at g4) | (guard_hyp g2; intro g3; try simp at g3) | (guard_hyp g1; intro g2; try simp at g2) | intro g1; try simp at g1))
          all_goals (try (exfalso; omega))
          · rw [hA4 hgo (by rw [w1] at g5; omega)]; simp [dk0]
          · rw [hA5 hgo (by rw [w1] at g5; omega)]; simp
        | some y =>
          have hpos : 0 < l.length := by
            rcases Nat.eq_zero_or_pos l.length with h | h
            · rw [List.length_eq_zero_iff.1 h] at hq; cases hq
            · exact h
          have hne : ¬ l = [] := fun h => by rw [h] at hpos; simp at hpos
          have hyn := (hr1 y (List.mem_of_getLast? hq)).2
          have w3 := wrp (n := y.n + 1) (by omega) (by omega)
          have hyi := last_row (E := l.map (·.n)) (e := y.n) (by rw [List.getLast?_map, hq]; rfl) (by omega)
          refine v_pspec Try.func23 rfl Try.ntmps23 Try.results23 (by simp) (by first | exact .s _ | repeat constructor) ?_
          repeat' (first
 | ((with_reducible refine all_row ?_); intro z hz; obtain rfl : y.n = z := Option.some.inj (hyi.symm.trans hz); conv => whnf)
 | (with_reducible first | apply qz0 | (refine h0 _ _ ?_; clear h0 hw) | (refine hw _ _ _ ?_; clear h0 hw) | apply qz1 | apply qz2 | apply qz5 | apply qz6 | (refine hL _ ?_; clear hL))
 | (with_reducible first | refine w_reg (by decide +kernel) fun K1 hK => ?_ | refine w_reg_end (by decide +kernel) fun K1 hK => ?_)
 | ((with_reducible first | apply d_reg Try.mix (by decide +kernel) | apply d_reg_end Try.mix (by decide +kernel)); (case hm => simp only [List.length_cons, List.length_nil, Nat.reduceAdd, Nat.reduceMul]; rfl); (case' h => intro K1 hK))
 | with_reducible refine go_seq ?_
 | ((with_reducible first | apply v_op Try.tab | apply v_op0 Try.tab | apply d_op Try.tab | apply d_op0 Try.tab) <;> first | (intro K' h0 hw; conv => whnf) | (simp only [Nat.reduceAdd, Nat.reduceMul]; rfl))
 | ((with_reducible apply v_nil); (case hm => (simp only [Nat.reduceAdd, Nat.reduceMul]; rfl)); (case' h => with_reducible refine hK _ ?_; clear hK))
 | ((with_reducible apply d_nil); (refine hK _ _ _ _ (by first | decide +kernel | (simp only [List.map_cons, List.map_nil, List.nil_append, List.cons_append]; decide +kernel) | rfl) ?_; clear hK))
 | (first | refine d_grd_yes (by rfl) (by rfl) ?_ | refine v_grd_yes (by rfl) (by rfl) ?_)
 | ((first | (apply d_grd_no; (case hg => rfl); (case hb => rfl)) | (apply d_grd_undef; (case hg => rfl); (case hb => rfl)) | (apply d_grd; (case hg => rfl); (case hb => rfl)) | (apply v_grd_no; (case hg => rfl); (case hb => rfl)) | (apply v_grd_undef; (case hg => rfl); (case hb => rfl)) | (apply v_grd; (case hg => rfl); (case hb => rfl))); (case hi => (simp only [Nat.reduceAdd, Nat.reduceMul]; rfl)))
 | ((with_reducible refine callV_id (f := 20) ?_); (with_reducible apply callV_f own20 (h1)); (case hx => rfl); (case he => rfl); (case hle => first | ((repeat constructor); done) | (simp [w1, w3]; done)); (case hpu => repeat constructor); (case' hK => conv => whnf))
 | ((with_reducible refine callV_id (f := 21) ?_); (with_reducible apply callV_f own21 (h2)); (case hx => rfl); (case he => rfl); (case hle => first | ((repeat constructor); done) | (simp [w1, w3]; done)); (case hpu => repeat constructor); (case' hK => conv => whnf))
 | ((with_reducible refine callV_id (f := 64) ?_); (with_reducible apply callV_f own64 (h3)); (case hx => rfl); (case he => rfl); (case hle => first | ((repeat constructor); done) | (simp [w1, w3]; done)); (case hpu => repeat constructor); (case' hK => conv => whnf))
 | ((with_reducible refine callV_id (f := 25) ?_); (with_reducible apply callV_f own25 (h4)); (case hx => rfl); (case he => rfl); (case hle => first | ((repeat constructor); done) | (simp [w1, w3]; done)); (case hpu => repeat constructor); (case' hK => conv => whnf))
 | ((with_reducible refine callV_id (f := 22) ?_); (with_reducible apply callV_f own22 (h5)); (case hx => rfl); (case he => rfl); (case hle => first | ((repeat constructor); done) | (simp [w1, w3]; done)); (case hpu => repeat constructor); (case' hK => conv => whnf))
 | ((with_reducible apply go_cond); (case hb => rfl))
 | ((with_reducible first | refine w_ret Try.tab fun K' hL => ?_ | refine w_ret_end Try.tab fun K' hL => ?_); (conv => whnf))
 | ((with_reducible apply And.intro); (case' right => try (conv => whnf)); (case' left => try first | rfl | decide | (simp [w1, w3]; done) | (simp (disch := omega) only [wrp]; omega) | (simp (disch := omega) [w1, w3, wrp]; (try omega); done)))
 | ((with_reducible apply Side.mk); (try simp (disch := omega) only [wrp]); (try simp); (try simp (disch := omega) only [wrp]); (try omega))
 | ((with_reducible apply all_rk); (case hx => with_reducible assumption); (conv => whnf))
 | ((with_reducible refine all_row ?_); (first  | intro x1 hx1); conv => whnf)
 | (rw [strAdd (by omega)]; conv => whnf)
 | (first | (guard_hyp g6; intro g7; try simp at g7) | (guard_hyp g5; intro g6; try simp at g6) | (guard_hyp g4; intro g5; try simp at g5) | (guard_hyp g3; intro g4; try simp at g4) | (guard_hyp g2; intro g3; try simp at g3) | (guard_hyp g1; intro g2; try simp at g2) | intro g1; try simp at g1))
          all_goals (try (exfalso; omega))
          all_goals (try (exfalso; exact absurd (by assumption) hne))
          · rw [hA6 (by have h9 : ¬ n = y.n + 1 := fun h => g5 (by rw [w3, h]); simp [lastN, hq, goesB, h9])]; simp [dk0]
          · rw [hA4 (by have h9 : n = y.n + 1 := (by rw [← g5, w3]); simp [lastN, hq, goesB, h9]) (by rw [w1] at g6; omega)]; simp [dk0]
          · rw [hA5 (by have h9 : n = y.n + 1 := (by rw [← g5, w3]); simp [lastN, hq, goesB, h9]) (by rw [w1] at g6; omega)]; simp
    · have hA : appE d n g = encE n g := by rw [appE, if_neg (by simp [c1]), if_pos c2]
      rw [appR, hA, if_neg c2]
      refine v_pspec Try.func23 rfl Try.ntmps23 Try.results23 (by simp) (by first | exact .s _ | repeat constructor) ?_
      repeat' (first
 | (with_reducible first | apply qz0 | (refine h0 _ _ ?_; clear h0 hw) | (refine hw _ _ _ ?_; clear h0 hw) | apply qz1 | apply qz2 | apply qz5 | apply qz6 | (refine hL _ ?_; clear hL))
 | (with_reducible first | refine w_reg (by decide +kernel) fun K1 hK => ?_ | refine w_reg_end (by decide +kernel) fun K1 hK => ?_)
 | ((with_reducible first | apply d_reg Try.mix (by decide +kernel) | apply d_reg_end Try.mix (by decide +kernel)); (case hm => simp only [List.length_cons, List.length_nil, Nat.reduceAdd, Nat.reduceMul]; rfl); (case' h => intro K1 hK))
 | with_reducible refine go_seq ?_
 | ((with_reducible first | apply v_op Try.tab | apply v_op0 Try.tab | apply d_op Try.tab | apply d_op0 Try.tab) <;> first | (intro K' h0 hw; conv => whnf) | (simp only [Nat.reduceAdd, Nat.reduceMul]; rfl))
 | ((with_reducible apply v_nil); (case hm => (simp only [Nat.reduceAdd, Nat.reduceMul]; rfl)); (case' h => with_reducible refine hK _ ?_; clear hK))
 | ((with_reducible apply d_nil); (refine hK _ _ _ _ (by first | decide +kernel | (simp only [List.map_cons, List.map_nil, List.nil_append, List.cons_append]; decide +kernel) | rfl) ?_; clear hK))
 | (first | refine d_grd_yes (by rfl) (by rfl) ?_ | refine v_grd_yes (by rfl) (by rfl) ?_)
 | ((first | (apply d_grd_no; (case hg => rfl); (case hb => rfl)) | (apply d_grd_undef; (case hg => rfl); (case hb => rfl)) | (apply d_grd; (case hg => rfl); (case hb => rfl)) | (apply v_grd_no; (case hg => rfl); (case hb => rfl)) | (apply v_grd_undef; (case hg => rfl); (case hb => rfl)) | (apply v_grd; (case hg => rfl); (case hb => rfl))); (case hi => (simp only [Nat.reduceAdd, Nat.reduceMul]; rfl)))
 | ((with_reducible refine callV_id (f := 20) ?_); (with_reducible apply callV_f own20 (h1)); (case hx => rfl); (case he => rfl); (case hle => first | ((repeat constructor); done) | (simp; done)); (case hpu => repeat constructor); (case' hK => conv => whnf))
 | ((with_reducible refine callV_id (f := 21) ?_); (with_reducible apply callV_f own21 (h2)); (case hx => rfl); (case he => rfl); (case hle => first | ((repeat constructor); done) | (simp; done)); (case hpu => repeat constructor); (case' hK => conv => whnf))
 | ((with_reducible apply go_cond); (case hb => rfl))
 | ((with_reducible first | refine w_ret Try.tab fun K' hL => ?_ | refine w_ret_end Try.tab fun K' hL => ?_); (conv => whnf))
 | ((with_reducible apply And.intro); (case' right => try (conv => whnf)); (case' left => try first | rfl | decide | (simp; done) | (simp (disch := omega) only [wrp]; omega) | (simp (disch := omega) [wrp]; (try omega); done)))
 | ((with_reducible apply Side.mk); (try simp (disch := omega) only [wrp]); (try simp); (try simp (disch := omega) only [wrp]); (try omega))
 | ((with_reducible apply all_rk); (case hx => with_reducible assumption); (conv => whnf))
 | ((with_reducible refine all_row ?_); (first  | intro x1 hx1); conv => whnf)
 | (first | (guard_hyp g6; intro g7; try simp at g7) | (guard_hyp g5; intro g6; try simp at g6) | (guard_hyp g4; intro g5; try simp at g5) | (guard_hyp g3; intro g4; try simp at g4) | (guard_hyp g2; intro g3; try simp at g3) | (guard_hyp g1; intro g2; try simp at g2) | intro g1; try simp at g1))
      all_goals first | (exfalso; exact c2 (by assumption)) | (simp [dk0]; done)
  · have hA : appE d n g = dkE d := by rw [appE, if_pos c1]
    rw [appR, hA, if_neg c1]
    refine v_pspec Try.func23 rfl Try.ntmps23 Try.results23 (by simp) (by first | exact .s _ | repeat constructor) ?_
    repeat' (first
 | (with_reducible first | apply qz0 | (refine h0 _ _ ?_; clear h0 hw) | (refine hw _ _ _ ?_; clear h0 hw) | apply qz1 | apply qz2 | apply qz5 | apply qz6 | (refine hL _ ?_; clear hL))
 | (with_reducible first | refine w_reg (by decide +kernel) fun K1 hK => ?_ | refine w_reg_end (by decide +kernel) fun K1 hK => ?_)
 | ((with_reducible first | apply d_reg Try.mix (by decide +kernel) | apply d_reg_end Try.mix (by decide +kernel)); (case hm => simp only [List.length_cons, List.length_nil, Nat.reduceAdd, Nat.reduceMul]; rfl); (case' h => intro K1 hK))
 | with_reducible refine go_seq ?_
 | ((with_reducible first | apply v_op Try.tab | apply v_op0 Try.tab | apply d_op Try.tab | apply d_op0 Try.tab) <;> first | (intro K' h0 hw; conv => whnf) | (simp only [Nat.reduceAdd, Nat.reduceMul]; rfl))
 | ((with_reducible apply v_nil); (case hm => (simp only [Nat.reduceAdd, Nat.reduceMul]; rfl)); (case' h => with_reducible refine hK _ ?_; clear hK))
 | ((with_reducible apply d_nil); (refine hK _ _ _ _ (by first | decide +kernel | (simp only [List.map_cons, List.map_nil, List.nil_append, List.cons_append]; decide +kernel) | rfl) ?_; clear hK))
 | (first | refine d_grd_yes (by rfl) (by rfl) ?_ | refine v_grd_yes (by rfl) (by rfl) ?_)
 | ((first | (apply d_grd_no; (case hg => rfl); (case hb => rfl)) | (apply d_grd_undef; (case hg => rfl); (case hb => rfl)) | (apply d_grd; (case hg => rfl); (case hb => rfl)) | (apply v_grd_no; (case hg => rfl); (case hb => rfl)) | (apply v_grd_undef; (case hg => rfl); (case hb => rfl)) | (apply v_grd; (case hg => rfl); (case hb => rfl))); (case hi => (simp only [Nat.reduceAdd, Nat.reduceMul]; rfl)))
 | ((with_reducible refine callV_id (f := 20) ?_); (with_reducible apply callV_f own20 (h1)); (case hx => rfl); (case he => rfl); (case hle => first | ((repeat constructor); done) | (simp; done)); (case hpu => repeat constructor); (case' hK => conv => whnf))
 | ((with_reducible apply go_cond); (case hb => rfl))
 | ((with_reducible first | refine w_ret Try.tab fun K' hL => ?_ | refine w_ret_end Try.tab fun K' hL => ?_); (conv => whnf))
 | ((with_reducible apply And.intro); (case' right => try (conv => whnf)); (case' left => try first | rfl | decide | (simp; done) | (simp (disch := omega) only [wrp]; omega) | (simp (disch := omega) [wrp]; (try omega); done)))
 | ((with_reducible apply Side.mk); (try simp (disch := omega) only [wrp]); (try simp); (try simp (disch := omega) only [wrp]); (try omega))
 | ((with_reducible apply all_rk); (case hx => with_reducible assumption); (conv => whnf))
 | ((with_reducible refine all_row ?_); (first  | intro x1 hx1); conv => whnf)
 | (first | (guard_hyp g6; intro g7; try simp at g7) | (guard_hyp g5; intro g6; try simp at g6) | (guard_hyp g4; intro g5; try simp at g5) | (guard_hyp g3; intro g4; try simp at g4) | (guard_hyp g2; intro g3; try simp at g3) | (guard_hyp g1; intro g2; try simp at g2) | intro g1; try simp at g1))
    all_goals first | (exfalso; exact c1 (by assumption)) | (simp [dk0]; done)
end Go.Proofs.Ytbhcjgobapnajaa

/- The walk of disk.one. No condition. -/
import Derived.Test.YtbhcjgobapnajaaDisk3
namespace Go.Proofs.Ytbhcjgobapnajaa
open Go Go.Sy
set_option maxRecDepth 4000
set_option linter.unusedSimpArgs false
set_option linter.unusedVariables false
attribute [local irreducible] Reg RegD Later Out CallV YieldV Tri Side EqV
theorem rdParts_end {s : ByteArray} : ∀ {m o : Nat} {l : List ByteArray} {e : Nat}, rdParts s m o = some (l, e) → o ≤ e ∧ l.length = m ∧ (o ≤ s.size → e ≤ s.size)
  | 0, o, l, e, h => by simp [rdParts] at h; obtain ⟨rfl, rfl⟩ := h; exact ⟨Nat.le_refl _, rfl, id⟩
  | m + 1, o, l, e, h => by
    unfold rdParts at h
    split at h
    · rename_i hc
      split at h
      · rename_i l' e' h2
        cases h
        obtain ⟨q1, q2, q3⟩ := rdParts_end h2
        exact ⟨by omega, by simp [q2], fun _ => q3 hc.2⟩
      · cases h
    · cases h
theorem ko_wor4 {n : Nat} {Bs : List Nat} {ob ob0 : Nat → Option Ob} : ∀ {B : List (Nat × Ob)}, (∀ x ∈ B, Bs.contains x.1 = true ∨ n ≤ x.1) → KeepOb n Bs ob ob0 → KeepOb n Bs (wor ob B) ob0
  | [], _, h => h
  | (d, x) :: l, hd, h => by
    intro i hi hn
    simp only [wor, beq_dec, Bool.cond_decide]
    rw [if_neg (fun e => by
      subst e
      rcases hd _ List.mem_cons_self with hd | hd
      · rw [hd] at hi; cases hi
      · simp only at hd; omega)]
    exact ko_wor4 (fun y hy => hd y (List.mem_cons_of_mem _ hy)) h i hi hn
theorem num_at (s : ByteArray) (o : Nat) : numTo (mid s o 1).data.toList = at1 s o := rfl
theorem num_def (s : ByteArray) (o k : Nat) : numTo (mid s o k).data.toList = num s o k := rfl
structure FInv (s : ByteArray) (fl : List Fr) (e : Nat) (x : Nat × Nat × List Fr) : Prop where
  o : x.2.1 ≤ s.size
  n : x.1 ≤ 255 ∧ x.2.2.length + x.1 ≤ 255
  rest : ∃ r, rdFrames s x.1 x.2.1 (decide (x.2.2.length = 0)) = (r, some e) ∧ fl = x.2.2 ++ r
structure PInv (s : ByteArray) (pl : List ByteArray) (e : Nat) (x : Nat × Nat × List ByteArray) : Prop where
  o : x.2.1 ≤ s.size
  n : x.1 ≤ 255 ∧ x.2.2.length + x.1 ≤ 255
  rest : ∃ r, rdParts s x.1 x.2.1 = some (r, e) ∧ pl = x.2.2 ++ r
set_option maxHeartbeats 4000000 in
theorem c_one1 (s : ByteArray) (fl : List Fr) (e : Nat) (b0 : Int) (h5 : 5 ≤ s.size) (hs : s.size ≤ 100000) (hr : rdFrames s (at1 s 4) 5 true = (fl, some e)) :
    CSpec Try.prog 175 [.ptr 0 0, .ptr 1 0] [rdB s, .box [I 0, I b0, .s (.slice none 0 0)]] (B (decide (e = s.size))) [rdB (tl s e), .box [I (num s 0 4), I b0, frs fl]] := by
  have hN1 := c_rnum s 0 4 (by omega) (by omega) (by omega)
  rw [tl_zero, num_def] at hN1
  have hN2 := c_rnum s 4 1 (by omega) (by omega) (by omega)
  rw [num_at] at hN2
  have ha4 := at1_lt s 4
  refine v_cspec Try.func175 rfl Try.ntmps175 Try.results175 (by simp) (k := 2) rfl ?_
  repeat' (first
 | ((with_reducible apply w_ownCell 1 2 78 3); (case hb => rfl); (case hj => rfl); (case hsz => decide); (case hm => (try simp only [Nat.reduceAdd, Nat.reduceMul]); exact rfl))
 | (with_reducible first | apply qz0 | (refine h0 _ _ ?_; clear h0 hw) | (refine hw _ _ _ ?_; clear h0 hw) | apply qz3 )
 | (with_reducible first | refine w_reg (by decide +kernel) fun K1 hK => ?_ )
 | with_reducible refine go_seq ?_
 | ((with_reducible first | apply v_op Try.tab | apply v_op0 Try.tab ) <;> first | (intro K' h0 hw; conv => whnf) | (simp only [Nat.reduceAdd, Nat.reduceMul]; rfl))
 | ((with_reducible apply v_nil); (case hm => (simp only [Nat.reduceAdd, Nat.reduceMul]; rfl)); (case' h => with_reducible refine hK _ ?_; clear hK))
 | ((with_reducible refine callV_id (f := 159) ?_); (with_reducible apply w_callO [0] own159 (hN1)); (case hx => rfl); (case he => rfl); (case hle => first | ((repeat constructor); done) ); (case hm => rfl); (case hnd => decide); (case' hK => conv => whnf); (any_goals (simp; done)))
 | ((with_reducible refine callV_id (f := 159) ?_); (with_reducible apply w_callO [0] own159 (hN2)); (case hx => rfl); (case he => rfl); (case hle => first | ((repeat constructor); done) ); (case hm => rfl); (case hnd => decide); (case' hK => conv => whnf); (any_goals (simp; done)))
 | ((with_reducible apply And.intro); (case' right => try (conv => whnf)); (case' left => try first | rfl | decide | (simp; done) ))
 )
  refine w_loop (X := Nat × Nat × List Fr) [4, 5, 6, 12, 13, 14, 15, 16, 17, 18, 19, 20, 21, 22, 23, 24, 25, 26, 27, 28, 29, 30, 31, 32, 33, 34, 35, 36, 37, 38, 39, 40, 41, 42, 43, 44] (fun x => [(4, I x.1)]) (fun x => [(0, rdB (tl s x.2.1)), (1, .box [I (num s 0 4), I b0, .osl 2 3 (rowF x.2.2)]), (2, .perm 78 3 x.2.2.length)]) (FInv s fl e) (fun x => x.1) (at1 s 4, 5, []) ?_ ?_ ?_
  · exact ⟨h5, ⟨by simp only; omega, by simp only [List.length_nil]; omega⟩, fl, hr, rfl⟩
  · refine ⟨kt_refl, ko_refl, ?_, ?_, ?_, ?_, Nat.le_refl _⟩ <;> simp
  rintro ⟨k, o, done⟩ ⟨i1, ⟨i2, i2'⟩, r, i3, i4⟩
  simp only at i1 i2 i2' i3 i4
  have hD := c_done (tl s o)
  cases k with
  | zero =>
    obtain ⟨rfl, h9⟩ : r = [] ∧ o = e := by simpa [rdFrames] using i3
    subst h9
    rw [List.append_nil] at i4
    subst i4
    have hb : decide (tl s o = ByteArray.empty) = decide (o = s.size) := decide_eq_decide.2 ((tl_empty s o).trans (by omega))
    rw [hb] at hD
    repeat' (first
 | (with_reducible first | apply qz0 | (refine h0 _ _ ?_; clear h0 hw) | (refine hw _ _ _ ?_; clear h0 hw) | apply qz1 | apply qz4 | apply qz6 | apply qz7 | apply qza | apply qzc )
 | (with_reducible first | refine w_reg (by decide +kernel) fun K1 hK => ?_ )
 | with_reducible refine go_seq ?_
 | ((with_reducible first | apply v_op Try.tab ) <;> first | (intro K' h0 hw; conv => whnf) | (simp only [Nat.reduceAdd, Nat.reduceMul]; rfl))
 | ((with_reducible apply v_nil); (case hm => (simp only [Nat.reduceAdd, Nat.reduceMul]; rfl)); (case' h => with_reducible refine hK _ ?_; clear hK))
 | ((with_reducible refine callV_id (f := 162) ?_); (with_reducible apply w_callO [0] own162 (hD)); (case hx => rfl); (case he => rfl); (case hle => first | ((repeat constructor); done) ); (case hm => rfl); (case hnd => decide); (case' hK => conv => whnf); (any_goals (simp; done)))
 | ((with_reducible apply go_cond); (case hb => rfl))
 | (first  | intro g1; try simp at g1))
    ((first | refine w_retO Try.tab [] (by rfl) (by simp) (by simp) (fun K' hL => ?_) ?_ ?_ ?_ | refine w_retO_end Try.tab [] (by rfl) (by simp) (by simp) (fun K' hL => ?_) ?_ ?_ ?_); (conv => whnf); (refine hL _ ?_; clear hL); all_goals simp)
  | succ k =>
    obtain ⟨ps, e1, h6, h7⟩ : ∃ ps e1, o + 5 ≤ s.size ∧ rdParts s (at1 s (o + 4)) (o + 5) = some (ps, e1) := by
      unfold rdFrames at i3
      split at i3
      · rename_i hc
        split at i3
        · rename_i ps e1 h2; exact ⟨ps, e1, hc, h2⟩
        · simp at i3
      · simp at i3
    rw [rdFrames, if_pos h6, h7] at i3
    simp only at i3
    have hN3 := c_rnum s o 4 (by omega) (by omega) (by omega)
    rw [num_def] at hN3
    have hN4 := c_rnum s (o + 4) 1 (by omega) (by omega) (by omega)
    rw [num_at] at hN4
    have ha := at1_lt s (o + 4)
    have w1 := wrp (n := ((k + 1 : Nat) : Int) - 1) (by omega) (by omega)
    repeat' (first
 | ((with_reducible apply w_ownCell 306 2 9 1); (case hb => rfl); (case hj => rfl); (case hsz => decide); (case hm => (try simp only [Nat.reduceAdd, Nat.reduceMul]); exact rfl))
 | (with_reducible first | apply qz0 | (refine h0 _ _ ?_; clear h0 hw) | (refine hw _ _ _ ?_; clear h0 hw) | apply qz2 | apply qz3 | apply qz6 )
 | (with_reducible first | refine w_reg (by decide +kernel) fun K1 hK => ?_ )
 | ((with_reducible first | apply d_reg Try.mix (by decide +kernel) ); (case hm => simp only [List.length_cons, List.length_nil, Nat.reduceAdd, Nat.reduceMul]; rfl); (case' h => intro K1 hK))
 | with_reducible refine go_seq ?_
 | ((with_reducible first | apply v_op Try.tab | apply d_op Try.tab | apply d_op0 Try.tab) <;> first | (intro K' h0 hw; conv => whnf) | (simp only [Nat.reduceAdd, Nat.reduceMul]; rfl))
 | ((with_reducible apply v_nil); (case hm => (simp only [Nat.reduceAdd, Nat.reduceMul]; rfl)); (case' h => with_reducible refine hK _ ?_; clear hK))
 | ((with_reducible apply d_nil); (refine hK _ _ _ _ (by first | (simp only [List.map_cons, List.map_nil, List.nil_append, List.cons_append]; decide +kernel) ) ?_; clear hK))
 | ((with_reducible refine callV_id (f := 159) ?_); (with_reducible apply w_callO [0] own159 (hN3)); (case hx => rfl); (case he => rfl); (case hle => first | ((repeat constructor); done) ); (case hm => rfl); (case hnd => decide); (case' hK => conv => whnf); (any_goals (simp; done)))
 | ((with_reducible refine callV_id (f := 159) ?_); (with_reducible apply w_callO [0] own159 (hN4)); (case hx => rfl); (case he => rfl); (case hle => first | ((repeat constructor); done) ); (case hm => rfl); (case hnd => decide); (case' hK => conv => whnf); (any_goals (simp; done)))
 | ((with_reducible apply go_cond); (case hb => rfl))
 | ((with_reducible apply And.intro); (case' right => try (conv => whnf)); (case' left => try first | rfl | decide | (simp; done) ))
 | (first  | intro g1; try simp at g1))
    refine w_loop (X := Nat × Nat × List ByteArray) [6, 26, 27, 28, 29, 30, 31, 32, 33, 34, 35, 36] (fun y => [(6, I y.1)]) (fun y => [(0, rdB (tl s y.2.1)), (306, .box [I (num s o 4), B (decide (done.length = 0)), .osl 338 1 (rowS y.2.2)]), (338, .perm 9 1 y.2.2.length)]) (PInv s ps e1) (fun y => y.1) (at1 s (o + 4), o + 5, []) ?_ ?_ ?_
    · exact ⟨h6, ⟨by simp only; omega, by simp only [List.length_nil]; omega⟩, ps, h7, rfl⟩
    · refine ⟨kt_refl, ko_refl, ?_, ?_, ?_, ?_, Nat.le_refl _⟩ <;> simp
    rintro ⟨m, o2, pd⟩ ⟨j1, ⟨j2, j2'⟩, r2, j3, j4⟩
    simp only at j1 j2 j2' j3 j4
    cases m with
    | zero =>
      obtain ⟨rfl, rfl⟩ : r2 = [] ∧ o2 = e1 := by simpa [rdParts] using j3
      rw [List.append_nil] at j4
      subst j4
      repeat' (first
 | (with_reducible first | apply qz0 | (refine h0 _ _ ?_; clear h0 hw) | (refine hw _ _ _ ?_; clear h0 hw) | apply qz4 | apply qz6 | apply qz7 | apply qz9 | apply qza | apply qzc )
 | (with_reducible first | refine w_reg (by decide +kernel) fun K1 hK => ?_ | refine w_reg_end (by decide +kernel) fun K1 hK => ?_)
 | with_reducible refine go_seq ?_
 | ((with_reducible first | apply v_op Try.tab | apply v_op0 Try.tab ) <;> first | (intro K' h0 hw; conv => whnf) | (simp only [Nat.reduceAdd, Nat.reduceMul]; rfl))
 | ((with_reducible apply v_nil); (case hm => (simp only [Nat.reduceAdd, Nat.reduceMul]; rfl)); (case' h => with_reducible refine hK _ ?_; clear hK))
 | ((with_reducible apply go_cond); (case hb => rfl))
 | ((with_reducible apply And.intro); (case' right => try (conv => whnf)); (case' left => try first | rfl | decide | (simp; done) ))
 | ((with_reducible apply Side.mk); (try simp (disch := omega) only [wrp]); (try simp); (try simp (disch := omega) only [wrp]); (try omega))
 | (first  | intro g1; try simp at g1))
      refine w_nx (ko := ?ko) (k, o2, done ++ [⟨num s o 4, decide (done.length = 0), ps⟩]) ?_ ?_ ?_ ?_ ?_ ?_
      case ko => repeat (first | (with_reducible exact ko_refl) | ((with_reducible refine ko_wos ?_ ?_); focus (simp; done)) | ((with_reducible refine ko_wo ?_ ?_); focus (simp; done)) | ((with_reducible refine ko_wor4 ?_ ?_); focus (simp; done)))
      case refine_1 => simp
      case refine_2 => simp
      case refine_3 => simp (disch := omega) [w1, wrp]
      case refine_4 => simp
      case refine_5 => simp only; omega
      obtain ⟨q1, q2⟩ := Prod.mk.inj i3
      exact ⟨j1, ⟨by simp only; omega, by simp only [List.length_append, List.length_cons, List.length_nil]; omega⟩, (rdFrames s k o2 false).1, by rw [show decide ((done ++ [(⟨num s o 4, decide (done.length = 0), ps⟩ : Fr)]).length = 0) = false by simp]; rw [← q2], by simp only; rw [i4, ← q1]; simp⟩
    | succ m =>
      have h8 : o2 + 1 ≤ s.size ∧ o2 + 1 + at1 s o2 ≤ s.size := by
        unfold rdParts at j3
        split at j3
        · assumption
        · cases j3
      obtain ⟨r3, h9, h10⟩ : ∃ r3, rdParts s m (o2 + 1 + at1 s o2) = some (r3, e1) ∧ r2 = mid s (o2 + 1) (at1 s o2) :: r3 := by
        rw [rdParts, if_pos h8] at j3
        split at j3
        · rename_i l e h; cases j3; exact ⟨l, h, rfl⟩
        · cases j3
      have hT := c_text s o2 h8.1 h8.2 (by omega)
      have w2 := wrp (n := ((m + 1 : Nat) : Int) - 1) (by omega) (by omega)
      repeat' (first
 | (with_reducible first | apply qz0 | (refine h0 _ _ ?_; clear h0 hw) | (refine hw _ _ _ ?_; clear h0 hw) | apply qz2 | apply qz3 | apply qz6 | apply qz9 )
 | (with_reducible first | refine w_reg (by decide +kernel) fun K1 hK => ?_ | refine w_reg_end (by decide +kernel) fun K1 hK => ?_)
 | ((with_reducible first | apply d_reg_end Try.mix (by decide +kernel)); (case hm => simp only [List.length_cons, List.length_nil, Nat.reduceAdd, Nat.reduceMul]; rfl); (case' h => intro K1 hK))
 | with_reducible refine go_seq ?_
 | ((with_reducible first | apply v_op Try.tab | apply d_op Try.tab | apply d_op0 Try.tab) <;> first | (intro K' h0 hw; conv => whnf) | (simp only [Nat.reduceAdd, Nat.reduceMul]; rfl))
 | ((with_reducible apply v_nil); (case hm => (simp only [Nat.reduceAdd, Nat.reduceMul]; rfl)); (case' h => with_reducible refine hK _ ?_; clear hK))
 | ((with_reducible apply d_nil); (refine hK _ _ _ _ (by first | (simp only [List.map_cons, List.map_nil, List.nil_append, List.cons_append]; decide +kernel) ) ?_; clear hK))
 | ((with_reducible refine callV_id (f := 160) ?_); (with_reducible apply w_callO [0] own160 (hT)); (case hx => rfl); (case he => rfl); (case hle => first | ((repeat constructor); done) ); (case hm => rfl); (case hnd => decide); (case' hK => conv => whnf); (any_goals (simp; done)))
 | ((with_reducible apply go_cond); (case hb => rfl))
 | ((with_reducible apply And.intro); (case' right => try (conv => whnf)); (case' left => try first | rfl | decide | (simp; done) ))
 | ((with_reducible apply Side.mk); (try simp (disch := omega) only [wrp]); (try simp); (try simp (disch := omega) only [wrp]); (try omega))
 | (first  | intro g1; try simp at g1))
      refine w_nx (ko := ?ko) (m, o2 + 1 + at1 s o2, pd ++ [mid s (o2 + 1) (at1 s o2)]) ?_ ?_ ?_ ?_ ?_ ?_
      case ko => repeat (first | (with_reducible exact ko_refl) | ((with_reducible refine ko_wos ?_ ?_); focus (simp; done)) | ((with_reducible refine ko_wo ?_ ?_); focus (simp; done)) | ((with_reducible refine ko_wor4 ?_ ?_); focus (simp; done)))
      case refine_1 => simp
      case refine_2 => simp
      case refine_3 => simp (disch := omega) [w2, wrp]
      case refine_4 => simp
      case refine_5 => simp only; omega
      exact ⟨h8.2, ⟨by simp only; omega, by simp only [List.length_append, List.length_cons, List.length_nil]; omega⟩, r3, h9, by simp only; rw [j4, h10]; simp⟩
end Go.Proofs.Ytbhcjgobapnajaa

/- Watch and WatchOf for lists of any length, walked. No condition. -/
import Derived.Test.YtdanlpkclkjkcaaGreatDeskW
namespace Go.Proofs.YtdanlpkclkjkcaaGreat
open Go Go.Sy
set_option maxRecDepth 4000
set_option linter.unusedSimpArgs false
set_option linter.unusedVariables false
attribute [local irreducible] Reg RegD Later Out CallV Tri Side EqV
def chkP : List Pkt → Int
  | [] => 0
  | p :: l => if pktE p = 0 then chkP l else pktE p
def wrapsP : List Slt → List Pkt → List Slt × Int
  | out, [] => (out, 0)
  | out, p :: l => match out.getLast? with
    | none => wrapsP (out ++ [⟨p.seq + 65536, p⟩]) l
    | some y => if (unwrapS y.n p.seq).2 = 0 then wrapsP (out ++ [⟨(unwrapS y.n p.seq).1, p⟩]) l else ([], (unwrapS y.n p.seq).2)
def watchR (l : List Pkt) : List Fr × Int := if 100 < l.length then ([], 2) else if chkP l ≠ 0 then ([], chkP l) else if (wrapsP [] l).2 ≠ 0 then ([], (wrapsP [] l).2) else allF (wrapsP [] l).1
theorem chkP_at {l : List Pkt} (h : chkP l = 0) : ∀ p ∈ l, pktE p = 0 := by
  induction l with
  | nil => simp
  | cons p l ih =>
    rw [chkP] at h
    by_cases hp : pktE p = 0
    · rw [if_pos hp] at h
      intro q hq
      rcases List.mem_cons.1 hq with rfl | hq
      · exact hp
      · exact ih h q hq
    · rw [if_neg hp] at h; exact absurd h hp
theorem wrapsP_first {p : Pkt} {l : List Pkt} : wrapsP [] (p :: l) = wrapsP [⟨p.seq + 65536, p⟩] l := rfl
theorem wrapsP_next {out : List Slt} {y : Slt} {p : Pkt} {l : List Pkt} (h : out.getLast? = some y) : wrapsP out (p :: l) = if (unwrapS y.n p.seq).2 = 0 then wrapsP (out ++ [⟨(unwrapS y.n p.seq).1, p⟩]) l else ([], (unwrapS y.n p.seq).2) := by
  rw [wrapsP, h]
theorem getLast_at {out : List Slt} {y : Slt} {i : Nat} (h : out[i]? = some y) (hl : out.length = i + 1) : out.getLast? = some y := by
  rw [List.getLast?_eq_getElem?, hl]; exact h
set_option maxHeartbeats 4000000 in
theorem c_watchOf (l : List Pkt) : PSpec Tryz.prog 21 [pkts l] (framesT (watchR l)) := by
  have hc1 : ∀ (i : Nat) (p : Pkt), l[i]? = some p → chkP (l.drop i) = chkP l → pktE p = 0 → chkP (l.drop (i + 1)) = chkP l := fun i p hp h g => by rw [← h, drop_at hp, chkP, if_pos g]
  have hc2 : ∀ (i : Nat) (p : Pkt), l[i]? = some p → chkP (l.drop i) = chkP l → ¬ pktE p = 0 → chkP l = pktE p := fun i p hp h g => by rw [← h, drop_at hp, chkP, if_neg g]
  refine v_pspec Tryz.func21 rfl Tryz.ntmps21 Tryz.results21 (by simp) (by first | exact .s _ | repeat constructor) ?_
  repeat' (first
 | (with_reducible first | apply qz0 | (refine h0 _ _ ?_; clear h0 hw) | apply qz1 | apply qz2 | apply qz3 | apply qz5 | apply qz6 | (refine hL _ ?_; clear hL))
 | (with_reducible first | refine w_reg (by decide +kernel) fun K1 hK => ?_ )
 | with_reducible refine go_seq ?_
 | ((with_reducible first | apply v_op Tryz.tab ) <;> first | (intro K' h0 hw; conv => whnf) | (simp only [Nat.reduceAdd, Nat.reduceMul]; rfl))
 | ((with_reducible apply v_nil); (case hm => (simp only [Nat.reduceAdd, Nat.reduceMul]; rfl)); (case' h => with_reducible refine hK _ ?_; clear hK))
 | ((with_reducible apply go_cond); (case hb => rfl))
 | ((with_reducible first | refine w_ret Tryz.tab fun K' hL => ?_ ); (conv => whnf))
 | (first | (guard_hyp g3; intro g4; try simp at g4) | (guard_hyp g2; intro g3; try simp at g3) | (guard_hyp g1; intro g2; try simp at g2) | intro g1; try simp at g1))
  · have e : watchR l = ([], 2) := if_pos (by omega)
    simp [framesT, e]
  have hl : ¬ 100 < l.length := by omega
  refine w_loop (X := Nat) [2, 3, 4, 5, 14, 15, 16, 17, 18, 19, 20, 21, 22, 23, 24, 25, 26, 27] (fun i => [(4, I i)]) (fun _ => []) (fun i => i ≤ l.length ∧ chkP (l.drop i) = chkP l) (fun i => l.length - i) 0 (by simp) ?_ ?_
  · refine ⟨kt_refl, ko_refl, ?_, ?_, ?_, ?_, Nat.le_refl _⟩ <;> simp
  rintro i ⟨h1, h2⟩
  repeat' (first
 | ((with_reducible apply w_ownNil 6 106 7); (case hs => rfl); (case hsz => decide); (case hm => (try simp only [Nat.reduceAdd, Nat.reduceMul]); exact rfl))
 | (with_reducible first | apply qz0 | (refine h0 _ _ ?_; clear h0 hw) | apply qz1 | apply qz2 | apply qz3 | apply qz4 | apply qz5 | apply qz6 | apply qz7 | apply qz8 | apply qz9 | apply qza | apply qzb | apply qzc | (refine hL _ ?_; clear hL))
 | (with_reducible first | refine w_reg (by decide +kernel) fun K1 hK => ?_ | refine w_reg_end (by decide +kernel) fun K1 hK => ?_)
 | with_reducible refine go_seq ?_
 | ((with_reducible first | apply v_op Tryz.tab ) <;> first | (intro K' h0 hw; conv => whnf) | (simp only [Nat.reduceAdd, Nat.reduceMul]; rfl))
 | ((with_reducible apply v_nil); (case hm => (simp only [Nat.reduceAdd, Nat.reduceMul]; rfl)); (case' h => with_reducible refine hK _ ?_; clear hK))
 | ((with_reducible refine callV_id (f := 55) ?_); have hcs_ := c_checkPacket x1; (with_reducible apply callV_f own55 (hcs_)); (case hx => rfl); (case he => rfl); (case hle => first | ((repeat constructor); done) ); (case hpu => repeat constructor); (case' hK => (try clear hcs_); conv => whnf))
 | ((with_reducible apply go_cond); (case hb => rfl))
 | ((with_reducible first | refine w_ret Tryz.tab fun K' hL => ?_ ); (conv => whnf))
 | ((with_reducible apply And.intro); (case' right => try (conv => whnf)); (case' left => try first | decide | (simp; done) ))
 | ((with_reducible apply Side.mk); (try simp (disch := omega) only [wrp]); (try simp); (try simp (disch := omega) only [wrp]); (try omega))
 | ((with_reducible refine all_row ?_); (first | intro x1 hx1); conv => whnf)
 | (first | (guard_hyp g3; intro g4; try simp at g4) | (guard_hyp g2; intro g3; try simp at g3) | (guard_hyp g1; intro g2; try simp at g2) | intro g1; try simp at g1))
  · simp at hx1
    have e : watchR l = ([], chkP l) := by rw [watchR, if_neg hl, if_pos (by rw [hc2 i x1 hx1 h2 g3]; exact g3)]
    simp [framesT, e, hc2 i x1 hx1 h2 g3]
  · simp at hx1
    ((refine w_nx ((i + 1)) ?_ ?_ ?_ ?_ ?_ ?_); (case refine_1 => simp); (case refine_2 => simp); (case refine_3 => simp (disch := omega) [wrp]); (case refine_4 => simp); (case refine_5 => first | (simp; omega) | (simp; done) | omega | (simp only; omega)); (case' refine_6 => (try simp only); (try exact trivial)))
    exact ⟨by omega, hc1 i x1 hx1 h2 g3⟩
  have hch : chkP l = 0 := by rw [← h2, List.drop_eq_nil_of_le (by omega)]; rfl
  have hpk := chkP_at hch
  have e0 : watchR l = if (wrapsP [] l).2 ≠ 0 then ([], (wrapsP [] l).2) else allF (wrapsP [] l).1 := by rw [watchR, if_neg hl, if_neg (by simp [hch])]
  clear h1 h2 g2 hc1 hc2
  refine w_loop (X := Nat × List Slt) [2, 3, 6, 7, 8, 9, 10, 28, 29, 30, 31, 32, 33, 34, 35, 36, 37, 38, 39, 40, 41, 42, 43, 44, 45, 46, 47, 48, 49, 50, 51, 52, 53, 54, 55, 56, 57, 58, 59, 60, 61, 62, 63, 64, 65, 66, 67, 68, 69] (fun x => [(7, I x.1), (6, .osl 176 7 (rowL x.2))]) (fun x => [(176, .perm 106 7 x.2.length)]) (fun x => x.1 ≤ l.length ∧ x.2.length = x.1 ∧ wrapsP x.2 (l.drop x.1) = wrapsP [] l) (fun x => l.length - x.1) (0, []) (by simp) ?_ ?_
  · refine ⟨kt_refl, ko_refl, ?_, ?_, ?_, ?_, Nat.le_refl _⟩ <;> simp
  rintro ⟨i, out⟩ ⟨h1, h2, h3⟩
  simp only at h1 h2 h3
  have q := c_framesOf out (by omega)
  rcases Nat.lt_or_ge i l.length with hil | hil
  · obtain ⟨p, hp⟩ : ∃ p, l[i]? = some p := ⟨_, List.getElem?_eq_getElem hil⟩
    have hps := (pktE_ok (hpk p (List.mem_of_getElem? hp))).1
    have w1 := wrp (n := p.seq + 65536) (by omega) (by omega)
    have w2 := wrp (n := (i : Int) - 1) (by omega) (by omega)
    rw [drop_at hp] at h3
    rcases Nat.eq_zero_or_pos i with hi0 | hi0
    · subst hi0
      have ho : out = [] := List.length_eq_zero_iff.1 h2
      subst ho
      rw [wrapsP_first] at h3
      have hp0 : l[0]? = some p := hp
      repeat' (first
 | ((with_reducible refine all_row ?_); intro z hz; obtain rfl : p = z := Option.some.inj (hp.symm.trans hz); conv => whnf)
 | (with_reducible first | apply qz0 | (refine h0 _ _ ?_; clear h0 hw) | (refine hw _ _ _ ?_; clear h0 hw) | apply qz1 | apply qz2 | apply qz3 | apply qz4 | apply qz6 | apply qz7 | apply qz9 | apply qza | apply qzc | (refine hL _ ?_; clear hL))
 | (with_reducible first | refine w_reg (by decide +kernel) fun K1 hK => ?_ | refine w_reg_end (by decide +kernel) fun K1 hK => ?_)
 | with_reducible refine go_seq ?_
 | ((with_reducible first | apply v_op Tryz.tab ) <;> first | (intro K' h0 hw; conv => whnf) | (simp only [Nat.reduceAdd, Nat.reduceMul]; rfl))
 | ((with_reducible apply v_nil); (case hm => (simp only [Nat.reduceAdd, Nat.reduceMul]; rfl)); (case' h => with_reducible refine hK _ ?_; clear hK))
 | ((with_reducible refine callV_id (f := 57) ?_); (with_reducible apply callV_f own57 (q)); (case hx => rfl); (case he => rfl); (case hle => first | ((repeat constructor); done) ); (case hpu => repeat constructor); (case' hK => conv => whnf))
 | ((with_reducible apply go_cond); (case hb => rfl))
 | ((with_reducible first | refine w_ret Tryz.tab fun K' hL => ?_ ); (conv => whnf))
 | ((with_reducible apply And.intro); (case' right => try (conv => whnf)); (case' left => try first | rfl | decide | (simp; done) ))
 | ((with_reducible apply Side.mk); (try simp (disch := omega) only [wrp]); (try simp); (try simp (disch := omega) only [wrp]); (try omega))
 | (first | (guard_hyp g3; intro g4; try simp at g4) | (guard_hyp g2; intro g3; try simp at g3) | (guard_hyp g1; intro g2; try simp at g2) | intro g1; try simp at g1))
      · ((refine w_nx ((1, [⟨p.seq + 65536, p⟩])) ?_ ?_ ?_ ?_ ?_ ?_); (case refine_1 => simp [w1]); (case refine_2 => simp [w1]); (case refine_3 => simp (disch := omega) [w1, wrp]); (case refine_4 => simp [w1]); (case refine_5 => first | (simp; omega) | (simp; done) | omega | (simp only; omega)); (case' refine_6 => (try simp only); (try exact trivial)))
        exact ⟨by omega, by simp, h3⟩
      · exfalso; simp_all
    · obtain ⟨y, hy⟩ : ∃ y, out[i - 1]? = some y := ⟨_, List.getElem?_eq_getElem (by omega)⟩
      rw [wrapsP_next (getLast_at hy (by omega))] at h3
      have hyi : out[(IntKind.i64.wrap ((i : Int) - 1)).toNat]? = some y := by rw [w2, show ((i : Int) - 1).toNat = i - 1 by omega]; exact hy
      repeat' (first
 | ((with_reducible refine all_row ?_); intro z hz; obtain rfl : p = z := Option.some.inj (hp.symm.trans hz); conv => whnf)
 | ((with_reducible refine all_row ?_); intro z hz; obtain rfl : y = z := Option.some.inj (hyi.symm.trans hz); conv => whnf)
 | (with_reducible first | apply qz0 | (refine h0 _ _ ?_; clear h0 hw) | (refine hw _ _ _ ?_; clear h0 hw) | apply qz1 | apply qz2 | apply qz3 | apply qz4 | apply qz5 | apply qz6 | apply qz7 | apply qz8 | apply qz9 | apply qza | apply qzb | apply qzc | (refine hL _ ?_; clear hL))
 | (with_reducible first | refine w_reg (by decide +kernel) fun K1 hK => ?_ | refine w_reg_end (by decide +kernel) fun K1 hK => ?_)
 | ((with_reducible first | apply d_reg Tryz.mix (by decide +kernel) ); (case hm => simp only [List.length_cons, List.length_nil, Nat.reduceAdd, Nat.reduceMul]; rfl); (case' h => intro K1 hK))
 | with_reducible refine go_seq ?_
 | ((with_reducible first | apply v_op Tryz.tab | apply d_op Tryz.tab ) <;> first | (intro K' h0 hw; conv => whnf) | (simp only [Nat.reduceAdd, Nat.reduceMul]; rfl))
 | ((with_reducible apply v_nil); (case hm => (simp only [Nat.reduceAdd, Nat.reduceMul]; rfl)); (case' h => with_reducible refine hK _ ?_; clear hK))
 | ((with_reducible apply d_nil); (refine hK _ _ _ _ (by first | decide +kernel ) ?_; clear hK))
 | ((with_reducible refine callV_id (f := 57) ?_); (with_reducible apply callV_f own57 (q)); (case hx => rfl); (case he => rfl); (case hle => first | ((repeat constructor); done) ); (case hpu => repeat constructor); (case' hK => conv => whnf))
 | ((with_reducible refine callV_id (f := 56) ?_); have hcs_ := c_unwrapOf y.n p.seq; (with_reducible apply callV_f own56 (hcs_)); (case hx => rfl); (case he => rfl); (case hle => first | ((repeat constructor); done) ); (case hpu => repeat constructor); (case' hK => (try clear hcs_); conv => whnf))
 | ((with_reducible apply go_cond); (case hb => rfl))
 | ((with_reducible first | refine w_ret Tryz.tab fun K' hL => ?_ ); (conv => whnf))
 | ((with_reducible apply And.intro); (case' right => try (conv => whnf)); (case' left => try first | rfl | decide | (simp [w2]; done) | (simp (disch := omega) only [wrp]; omega) ))
 | ((with_reducible apply Side.mk); (try simp (disch := omega) only [wrp]); (try simp); (try simp (disch := omega) only [wrp]); (try omega))
 | (first | (guard_hyp g3; intro g4; try simp at g4) | (guard_hyp g2; intro g3; try simp at g3) | (guard_hyp g1; intro g2; try simp at g2) | intro g1; try simp at g1))
      all_goals (try (exfalso; omega))
      · rw [if_neg (by assumption)] at h3
        have e : watchR l = ([], (unwrapS y.n p.seq).2) := by rw [e0, ← h3]; exact if_pos (by assumption)
        simp [framesT, e]
      · rw [if_pos (by assumption)] at h3
        ((refine w_nx ((i + 1, out ++ [⟨(unwrapS y.n p.seq).1, p⟩])) ?_ ?_ ?_ ?_ ?_ ?_); (case refine_1 => simp); (case refine_2 => simp); (case refine_3 => simp (disch := omega) [wrp]); (case refine_4 => simp); (case refine_5 => first | (simp; omega) | (simp; done) | omega | (simp only; omega)); (case' refine_6 => (try simp only); (try exact trivial)))
        exact ⟨by omega, by simp; omega, h3⟩
  · have e : wrapsP [] l = (out, 0) := by rw [← h3, List.drop_eq_nil_of_le (by omega)]; rfl
    repeat' (first
 | (with_reducible first | apply qz0 | (refine h0 _ _ ?_; clear h0 hw) | (refine hw _ _ _ ?_; clear h0 hw) | apply qz1 | apply qz2 | apply qz3 | apply qz4 | apply qz6 | apply qz7 | apply qz9 | apply qza | apply qzc | (refine hL _ ?_; clear hL))
 | (with_reducible first | refine w_reg (by decide +kernel) fun K1 hK => ?_ | refine w_reg_end (by decide +kernel) fun K1 hK => ?_)
 | ((with_reducible first | apply d_reg Tryz.mix (by decide +kernel) ); (case hm => simp only [List.length_cons, List.length_nil, Nat.reduceAdd, Nat.reduceMul]; rfl); (case' h => intro K1 hK))
 | with_reducible refine go_seq ?_
 | ((with_reducible first | apply v_op Tryz.tab | apply d_op Tryz.tab ) <;> first | (intro K' h0 hw; conv => whnf) | (simp only [Nat.reduceAdd, Nat.reduceMul]; rfl))
 | ((with_reducible apply v_nil); (case hm => (simp only [Nat.reduceAdd, Nat.reduceMul]; rfl)); (case' h => with_reducible refine hK _ ?_; clear hK))
 | ((with_reducible refine callV_id (f := 57) ?_); (with_reducible apply callV_f own57 (q)); (case hx => rfl); (case he => rfl); (case hle => first | ((repeat constructor); done) ); (case hpu => repeat constructor); (case' hK => conv => whnf))
 | ((with_reducible apply go_cond); (case hb => rfl))
 | ((with_reducible first | refine w_ret Tryz.tab fun K' hL => ?_ ); (conv => whnf))
 | ((with_reducible apply And.intro); (case' right => try (conv => whnf)); (case' left => try first | rfl | decide | (simp; done) | (simp (disch := omega) only [wrp]; omega) ))
 | ((with_reducible apply all_rk); (case hx => with_reducible assumption); (conv => whnf))
 | ((with_reducible refine all_row ?_); (first | (guard_hyp hx1; intro x2 hx2) | intro x1 hx1); conv => whnf)
 | (first | (guard_hyp g3; intro g4; try simp at g4) | (guard_hyp g2; intro g3; try simp at g3) | (guard_hyp g1; intro g2; try simp at g2) | intro g1; try simp at g1))
    all_goals (try (exfalso; omega))
    have e' : watchR l = allF out := by rw [e0, e]; exact if_neg (by simp)
    simp [framesT, e']
theorem flat_len (cur : List Slt) : (rowL cur).flatten.length = cur.length * 7 := by
  induction cur with
  | nil => rfl
  | cons x l ih =>
    have h7 : (sltC x).length = 7 := rfl
    show (sltC x ++ (rowL l).flatten).length = _
    rw [List.length_append, ih, h7]; simp only [List.length_cons]; omega
theorem split_at {cur : List Slt} {i : Nat} {x : Slt} (h : cur[i]? = some x) : cur = cur.take i ++ x :: cur.drop (i + 1) := by rw [← drop_at h, List.take_append_drop]
theorem drop_flat {cur : List Slt} {i : Nat} {x : Slt} {rest : List AV} (h : cur[i]? = some x) : ((rowL cur).flatten ++ rest).drop (i * 7) = sltC x ++ ((rowL (cur.drop (i + 1))).flatten ++ rest) := by
  have hi := (List.getElem?_eq_some_iff.1 h).1
  conv => lhs; rw [split_at h]
  simp only [rowL, List.map_append, List.flatten_append, List.map_cons, List.flatten_cons, List.append_assoc]
  exact List.drop_left' (by rw [flat_len, List.length_take]; omega)
theorem take_flat {cur : List Slt} {i : Nat} {x : Slt} {rest : List AV} (h : cur[i]? = some x) : ((rowL cur).flatten ++ rest).take (i * 7) = (rowL (cur.take i)).flatten := by
  have hi := (List.getElem?_eq_some_iff.1 h).1
  conv => lhs; rw [split_at h]
  simp only [rowL, List.map_append, List.flatten_append, List.append_assoc]
  exact List.take_left' (by rw [flat_len, List.length_take]; omega)
theorem rd0 {cur : List Slt} {i off : Nat} {x : Slt} {rest : List AV} (h : cur[i]? = some x) (ho : off = i * 7) : List.take 1 (List.drop off ((rowL cur).flatten ++ rest)) = [I x.n] := by rw [ho, drop_flat h]; rfl
theorem rd1 {cur : List Slt} {i off : Nat} {x : Slt} {rest : List AV} (h : cur[i]? = some x) (ho : off = i * 7 + 1) : List.take 1 (List.drop off ((rowL cur).flatten ++ rest)) = [I x.p.seq] := by rw [ho, ← List.drop_drop, drop_flat h]; rfl
theorem wr0 {cur : List Slt} {i off : Nat} {x : Slt} {rest : List AV} {n : Int} (h : cur[i]? = some x) (ho : off = i * 7) : List.take off ((rowL cur).flatten ++ rest) ++ [I n] ++ List.drop (off + 1) ((rowL cur).flatten ++ rest) = (rowL (cur.set i ⟨n, x.p⟩)).flatten ++ rest := by
  have hi := (List.getElem?_eq_some_iff.1 h).1
  rw [ho, ← List.drop_drop, drop_flat h, take_flat h, List.set_eq_take_append_cons_drop, if_pos hi]
  simp [sltC]
theorem scal_rows (cur : List Slt) : ∀ a ∈ (rowL cur).flatten, ∃ v, a = AV.s v := by
  intro a ha
  obtain ⟨r, hr, ha⟩ := List.mem_flatten.1 ha
  obtain ⟨x, _, rfl⟩ := List.mem_map.1 hr
  simp [sltC, pktC] at ha
  rcases ha with rfl | rfl | rfl | rfl | rfl | rfl | rfl <;> exact ⟨_, rfl⟩
theorem pul_rows (cur : List Slt) : PuL (rowL cur).flatten := by
  induction cur with
  | nil => exact .nil
  | cons x l ih =>
    show PuL (sltC x ++ (rowL l).flatten)
    simp only [sltC, pktC, List.cons_append, List.nil_append]
    repeat (first | exact ih | constructor)
theorem one_rows (cur : List Slt) : ∀ a ∈ (rowL cur).flatten, a.one = true := by
  intro a ha
  obtain ⟨r, hr, ha⟩ := List.mem_flatten.1 ha
  obtain ⟨x, _, rfl⟩ := List.mem_map.1 hr
  simp [sltC, pktC] at ha
  rcases ha with rfl | rfl | rfl | rfl | rfl | rfl | rfl <;> rfl
theorem take_rows (cur : List Slt) (rest : List AV) : (((rowL cur).flatten ++ rest).drop 0).take ((rowL cur).length * 7) = (rowL cur).flatten := by
  rw [List.drop_zero]; exact List.take_left' (by rw [flat_len, List.length_map])
abbrev raw1 (p : Pkt) : Slt := ⟨p.seq + 65536, p⟩
set_option maxHeartbeats 4000000 in
theorem c_watch (l : List Pkt) : PSpec Tryz.prog 16 [pkts l] (framesT (watchR l)) := by
  have hc1 : ∀ (i : Nat) (p : Pkt), l[i]? = some p → chkP (l.drop i) = chkP l → pktE p = 0 → chkP (l.drop (i + 1)) = chkP l := fun i p hp h g => by rw [← h, drop_at hp, chkP, if_pos g]
  have hc2 : ∀ (i : Nat) (p : Pkt), l[i]? = some p → chkP (l.drop i) = chkP l → ¬ pktE p = 0 → chkP l = pktE p := fun i p hp h g => by rw [← h, drop_at hp, chkP, if_neg g]
  refine v_pspec Tryz.func16 rfl Tryz.ntmps16 Tryz.results16 (by simp) (by first | exact .s _ | repeat constructor) ?_
  repeat' (first
 | ((with_reducible apply w_ownNil 4 106 7); (case hs => rfl); (case hsz => decide); (case hm => (try simp only [Nat.reduceAdd, Nat.reduceMul]); exact rfl))
 | (with_reducible first | apply qz0 | (refine h0 _ _ ?_; clear h0 hw) | apply qz1 | apply qz2 | apply qz3 | apply qz5 | apply qz6 | (refine hL _ ?_; clear hL))
 | (with_reducible first | refine w_reg (by decide +kernel) fun K1 hK => ?_ )
 | with_reducible refine go_seq ?_
 | ((with_reducible first | apply v_op Tryz.tab ) <;> first | (intro K' h0 hw; conv => whnf) | (simp only [Nat.reduceAdd, Nat.reduceMul]; rfl))
 | ((with_reducible apply v_nil); (case hm => (simp only [Nat.reduceAdd, Nat.reduceMul]; rfl)); (case' h => with_reducible refine hK _ ?_; clear hK))
 | ((with_reducible apply go_cond); (case hb => rfl))
 | ((with_reducible first | refine w_ret Tryz.tab fun K' hL => ?_ ); (conv => whnf))
 | (first | (guard_hyp g13; intro g14; try simp at g14) | (guard_hyp g12; intro g13; try simp at g13) | (guard_hyp g11; intro g12; try simp at g12) | (guard_hyp g10; intro g11; try simp at g11) | (guard_hyp g9; intro g10; try simp at g10) | (guard_hyp g8; intro g9; try simp at g9) | (guard_hyp g7; intro g8; try simp at g8) | (guard_hyp g6; intro g7; try simp at g7) | (guard_hyp g5; intro g6; try simp at g6) | (guard_hyp g4; intro g5; try simp at g5) | (guard_hyp g3; intro g4; try simp at g4) | (guard_hyp g2; intro g3; try simp at g3) | (guard_hyp g1; intro g2; try simp at g2) | intro g1; try simp at g1))
  · have e : watchR l = ([], 2) := if_pos (by omega)
    simp [framesT, e]
  have hl : ¬ 100 < l.length := by omega
  refine w_loop (X := Nat) [2, 3, 4, 6, 7, 16, 17, 18, 19, 20, 21, 22, 23, 24, 25, 26, 27, 28, 29, 30, 31, 32, 33] (fun i => [(16, I i), (4, .osl 96 7 (rowL ((l.take i).map raw1)))]) (fun i => [(96, .perm 106 7 ((l.take i).map raw1).length)]) (fun i => i ≤ l.length ∧ chkP (l.drop i) = chkP l) (fun i => l.length - i) 0 (by simp) ?_ ?_
  · refine ⟨kt_refl, ko_refl, ?_, ?_, ?_, ?_, Nat.le_refl _⟩ <;> simp
  rintro i ⟨h1, h2⟩
  rcases Nat.lt_or_ge i l.length with hil | hil
  · obtain ⟨p, hp⟩ : ∃ p, l[i]? = some p := ⟨_, List.getElem?_eq_getElem hil⟩
    have htk : (l.take (i + 1)).map raw1 = (l.take i).map raw1 ++ [raw1 p] := by rw [List.take_add_one, hp]; simp
    have hlt : (l.take i).length = i := by rw [List.length_take]; omega
    repeat' (first
 | ((with_reducible refine all_row ?_); intro z hz; obtain rfl : p = z := Option.some.inj (hp.symm.trans hz); conv => whnf)
 | (with_reducible first | apply qz0 | (refine h0 _ _ ?_; clear h0 hw) | (refine hw _ _ _ ?_; clear h0 hw) | apply qz1 | apply qz2 | apply qz3 | apply qz4 | apply qz5 | apply qz6 | apply qz7 | apply qz8 | apply qz9 | apply qza | apply qzb | apply qzc | (refine hL _ ?_; clear hL))
 | (with_reducible first | refine w_reg (by decide +kernel) fun K1 hK => ?_ | refine w_reg_end (by decide +kernel) fun K1 hK => ?_)
 | with_reducible refine go_seq ?_
 | ((with_reducible first | apply v_op Tryz.tab | apply v_op0 Tryz.tab ) <;> first | (intro K' h0 hw; conv => whnf) | (simp only [Nat.reduceAdd, Nat.reduceMul]; rfl))
 | ((with_reducible apply v_nil); (case hm => (simp only [Nat.reduceAdd, Nat.reduceMul]; rfl)); (case' h => with_reducible refine hK _ ?_; clear hK))
 | ((with_reducible refine callV_id (f := 52) ?_); have hcs_ := c_wireCheck p; (with_reducible apply callV_f own52 (hcs_)); (case hx => rfl); (case he => rfl); (case hle => first | ((repeat constructor); done) ); (case hpu => repeat constructor); (case' hK => (try clear hcs_); conv => whnf))
 | ((with_reducible apply go_cond); (case hb => rfl))
 | ((with_reducible first | refine w_ret Tryz.tab fun K' hL => ?_ ); (conv => whnf))
 | ((with_reducible apply And.intro); (case' right => try (conv => whnf)); (case' left => try first | rfl | decide | (simp; done) ))
 | ((with_reducible apply Side.mk); (try simp (disch := omega) only [wrp]); (try simp); (try simp (disch := omega) only [wrp]); (try omega))
 | (first | (guard_hyp g13; intro g14; try simp at g14) | (guard_hyp g12; intro g13; try simp at g13) | (guard_hyp g11; intro g12; try simp at g12) | (guard_hyp g10; intro g11; try simp at g11) | (guard_hyp g9; intro g10; try simp at g10) | (guard_hyp g8; intro g9; try simp at g9) | (guard_hyp g7; intro g8; try simp at g8) | (guard_hyp g6; intro g7; try simp at g7) | (guard_hyp g5; intro g6; try simp at g6) | (guard_hyp g4; intro g5; try simp at g5) | (guard_hyp g3; intro g4; try simp at g4) | (guard_hyp g2; intro g3; try simp at g3) | (guard_hyp g1; intro g2; try simp at g2) | intro g1; try simp at g1))
    all_goals (try (exfalso; omega))
    · have e : watchR l = ([], chkP l) := by rw [watchR, if_neg hl, if_pos (by rw [hc2 i p hp h2 (by assumption)]; assumption)]
      simp [framesT, e, hc2 i p hp h2 (by assumption)]
    · have hg : pktE p = 0 := by assumption
      have hps := (pktE_ok hg).1
      have w1 := wrp (n := p.seq + 65536) (by omega) (by omega)
      ((refine w_nx ((i + 1)) ?_ ?_ ?_ ?_ ?_ ?_); (case refine_1 => simp [htk, w1]); (case refine_2 => simp [htk, w1]); (case refine_3 => simp (disch := omega) [htk, w1, wrp]); (case refine_4 => simp [htk, w1]); (case refine_5 => first | (simp; omega) | (simp; done) | omega | (simp only; omega)); (case' refine_6 => (try simp only); (try exact trivial)))
      exact ⟨by omega, hc1 i p hp h2 hg⟩
  obtain rfl : i = l.length := by omega
  have hch : chkP l = 0 := by rw [← h2, List.drop_eq_nil_of_le (by omega)]; rfl
  have hpk := chkP_at hch
  have e0 : watchR l = if (wrapsP [] l).2 ≠ 0 then ([], (wrapsP [] l).2) else allF (wrapsP [] l).1 := by rw [watchR, if_neg hl, if_neg (by simp [hch])]
  rw [List.take_length]
  rcases Nat.eq_zero_or_pos l.length with hz0 | hz0
  · have hn : l = [] := List.length_eq_zero_iff.1 hz0
    subst hn
    have q := c_frameAll [] (by simp)
    repeat' (first
 | (with_reducible first | apply qz0 | (refine h0 _ _ ?_; clear h0 hw) | apply qz3 | apply qz4 | apply qz6 | apply qz7 | apply qza | apply qzc )
 | (with_reducible first | refine w_reg (by decide +kernel) fun K1 hK => ?_ )
 | with_reducible refine go_seq ?_
 | ((with_reducible first | apply v_op Tryz.tab ) <;> first | (intro K' h0 hw; conv => whnf) | (simp only [Nat.reduceAdd, Nat.reduceMul]; rfl))
 | ((with_reducible apply v_nil); (case hm => (simp only [Nat.reduceAdd, Nat.reduceMul]; rfl)); (case' h => with_reducible refine hK _ ?_; clear hK))
 | ((with_reducible apply go_cond); (case hb => rfl))
 | (first | (guard_hyp g13; intro g14; try simp at g14) | (guard_hyp g12; intro g13; try simp at g13) | (guard_hyp g11; intro g12; try simp at g12) | (guard_hyp g10; intro g11; try simp at g11) | (guard_hyp g9; intro g10; try simp at g10) | (guard_hyp g8; intro g9; try simp at g9) | (guard_hyp g7; intro g8; try simp at g8) | (guard_hyp g6; intro g7; try simp at g7) | (guard_hyp g5; intro g6; try simp at g6) | (guard_hyp g4; intro g5; try simp at g5) | (guard_hyp g3; intro g4; try simp at g4) | (guard_hyp g2; intro g3; try simp at g3) | (guard_hyp g1; intro g2; try simp at g2) | intro g1; try simp at g1))
    all_goals (try (exfalso; omega))
    refine w_loop (X := Unit) [2, 3, 8, 9, 10, 34, 35, 36, 37, 38, 39, 40, 41, 42, 43, 44, 45, 46, 47, 48, 49, 50, 51, 52, 53, 54, 55, 56, 57, 58, 59, 60, 61, 62, 63] (fun _ => [(8, I 1)]) (fun _ => []) (fun _ => True) (fun _ => 0) () trivial ?_ ?_
    · refine ⟨kt_refl, ko_refl, ?_, ?_, ?_, ?_, Nat.le_refl _⟩ <;> simp
    intro _ _
    have e' : watchR [] = allF [] := by rw [e0]; rfl
    repeat' (first
 | (with_reducible first | apply qz0 | (refine h0 _ _ ?_; clear h0 hw) | apply qz1 | apply qz4 | apply qz6 | apply qz7 | apply qza | apply qzc | (refine hL _ ?_; clear hL))
 | (with_reducible first | refine w_reg (by decide +kernel) fun K1 hK => ?_ )
 | with_reducible refine go_seq ?_
 | ((with_reducible first | apply v_op Tryz.tab ) <;> first | (intro K' h0 hw; conv => whnf) | (simp only [Nat.reduceAdd, Nat.reduceMul]; rfl))
 | ((with_reducible apply v_nil); (case hm => (simp only [Nat.reduceAdd, Nat.reduceMul]; rfl)); (case' h => with_reducible refine hK _ ?_; clear hK))
 | ((with_reducible refine callV_id (f := 54) ?_); (with_reducible apply callV_f own54 (q)); (case hx => rfl); (case he => rfl); (case hle => first | ((repeat constructor); done) ); (case hpu => repeat constructor); (case' hK => conv => whnf))
 | ((with_reducible apply go_cond); (case hb => rfl))
 | ((with_reducible first | refine w_ret Tryz.tab fun K' hL => ?_ ); (conv => whnf))
 | (first | (guard_hyp g13; intro g14; try simp at g14) | (guard_hyp g12; intro g13; try simp at g13) | (guard_hyp g11; intro g12; try simp at g12) | (guard_hyp g10; intro g11; try simp at g11) | (guard_hyp g9; intro g10; try simp at g10) | (guard_hyp g8; intro g9; try simp at g9) | (guard_hyp g7; intro g8; try simp at g8) | (guard_hyp g6; intro g7; try simp at g7) | (guard_hyp g5; intro g6; try simp at g6) | (guard_hyp g4; intro g5; try simp at g5) | (guard_hyp g3; intro g4; try simp at g4) | (guard_hyp g2; intro g3; try simp at g3) | (guard_hyp g1; intro g2; try simp at g2) | intro g1; try simp at g1))
    all_goals (try (exfalso; omega))
    all_goals simp [framesT, e']
  · repeat' (first
 | ((with_reducible apply w_thaw (code := .seq (.region 12 _ _) _) 96 7 (rowL (l.map raw1)) ([(4, .osl 96 7 (rowL (l.map raw1)))]) ([])); (case hat => exact .inl ⟨4, rfl⟩); (case hp16 => decide); (case hpe => rfl); (case hn0 => first | (simp; done)); (case h0 => first | (simp [List.length_map]; omega)); (case hsc => simp [thokS, thokB, Ob.thok, AV.thok, thokL, permIs, scalR, List.length_map]); (case hS => simp [List.length_map]); (case hB => simp [List.length_map]); (case hSk => simp [thokS, thokB, Ob.thok, AV.thok, thokL, permIs, scalR, List.length_map]); (case hBk => simp [thokS, thokB, Ob.thok, AV.thok, thokL, permIs, scalR, List.length_map]); (case hm => (try simp only [Nat.reduceAdd, Nat.reduceMul]); exact rfl); (case' h => intro cap hc1 hc2))
 | (with_reducible first | apply qz0 | (refine h0 _ _ ?_; clear h0 hw) | apply qz3 | apply qz4 | apply qz6 | apply qz7 | apply qza | apply qzc )
 | (with_reducible first | refine w_reg (by decide +kernel) fun K1 hK => ?_ )
 | with_reducible refine go_seq ?_
 | ((with_reducible first | apply v_op Tryz.tab ) <;> first | (intro K' h0 hw; conv => whnf) | (simp only [Nat.reduceAdd, Nat.reduceMul]; rfl))
 | ((with_reducible apply v_nil); (case hm => (simp only [Nat.reduceAdd, Nat.reduceMul]; rfl)); (case' h => with_reducible refine hK _ ?_; clear hK))
 | ((with_reducible apply go_cond); (case hb => rfl))
 | (first | (guard_hyp g13; intro g14; try simp at g14) | (guard_hyp g12; intro g13; try simp at g13) | (guard_hyp g11; intro g12; try simp at g12) | (guard_hyp g10; intro g11; try simp at g11) | (guard_hyp g9; intro g10; try simp at g10) | (guard_hyp g8; intro g9; try simp at g9) | (guard_hyp g7; intro g8; try simp at g8) | (guard_hyp g6; intro g7; try simp at g7) | (guard_hyp g5; intro g6; try simp at g6) | (guard_hyp g4; intro g5; try simp at g5) | (guard_hyp g3; intro g4; try simp at g4) | (guard_hyp g2; intro g3; try simp at g3) | (guard_hyp g1; intro g2; try simp at g2) | intro g1; try simp at g1))
    all_goals (try (exfalso; omega))
    have hcap : l.length ≤ cap := by simpa using (by assumption : (rowL (l.map raw1)).length ≤ cap)
    refine w_loop (X := Nat × List Slt) (4 :: [2, 3, 8, 9, 10, 34, 35, 36, 37, 38, 39, 40, 41, 42, 43, 44, 45, 46, 47, 48, 49, 50, 51, 52, 53, 54, 55, 56, 57, 58, 59, 60, 61, 62, 63]) (fun x => [(8, I x.1), (4, .bsl 176 0 7 l.length cap)]) (fun x => [(176, .box ((rowL x.2).flatten ++ List.replicate ((cap - l.length) * 7) AV.junk))]) (fun x => 1 ≤ x.1 ∧ x.1 ≤ l.length ∧ x.2.length = l.length ∧ wrapsP (x.2.take x.1) (l.drop x.1) = wrapsP [] l ∧ ∀ k p, x.1 ≤ k → l[k]? = some p → x.2[k]? = some (raw1 p)) (fun x => l.length - x.1) (1, l.map raw1) ?_ ?_ ?_
    · obtain ⟨p, l', rfl⟩ : ∃ p l', l = p :: l' := by cases l with | nil => simp at hz0 | cons p l' => exact ⟨p, l', rfl⟩
      exact ⟨Nat.le_refl _, by simp, by simp, by simp [wrapsP_first], fun k p' _ hk => by rw [List.getElem?_map, hk]; rfl⟩
    · refine ⟨kt_refl, ko_refl, ?_, ?_, ?_, ?_, Nat.le_refl _⟩ <;> simp [thS, thB, AV.th, Ob.th, -List.map_map]
      all_goals first | exact LeL.rfl' _ | exact ltL_append (ltL_scal (scal_rows _)) (ltL_junk _)
    rintro ⟨j, cur⟩ ⟨h1, h3, h4, h5, h6⟩
    simp only at h1 h3 h4 h5 h6
    rcases Nat.lt_or_ge j l.length with hjl | hjl
    · obtain ⟨p, hp⟩ : ∃ p, l[j]? = some p := ⟨_, List.getElem?_eq_getElem hjl⟩
      have hx := h6 j p (Nat.le_refl _) hp
      obtain ⟨y, hy⟩ : ∃ y, cur[j - 1]? = some y := ⟨_, List.getElem?_eq_getElem (by omega)⟩
      have w2 := wrp (n := (j : Int) - 1) (by omega) (by omega)
      have hfl := flat_len cur
      repeat' (first
 | (with_reducible first | apply qz0 | (refine h0 _ _ ?_; clear h0 hw) | (refine hw _ _ _ ?_; clear h0 hw) | apply qz1 | apply qz2 | apply qz3 | apply qz4 | apply qz5 | apply qz6 | apply qz7 | apply qz8 | apply qz9 | apply qza | apply qzb | apply qzc | (refine hL _ ?_; clear hL))
 | (with_reducible first | refine w_reg (by decide +kernel) fun K1 hK => ?_ | refine w_reg_end (by decide +kernel) fun K1 hK => ?_)
 | ((with_reducible first | apply d_reg Tryz.mix (by decide +kernel) ); (case hm => simp only [List.length_cons, List.length_nil, Nat.reduceAdd, Nat.reduceMul]; rfl); (case' h => intro K1 hK))
 | with_reducible refine go_seq ?_
 | ((with_reducible first | apply v_op Tryz.tab | apply v_op0 Tryz.tab | apply d_op Tryz.tab ) <;> first | (intro K' h0 hw; conv => whnf) | (simp only [Nat.reduceAdd, Nat.reduceMul]; rfl))
 | ((with_reducible apply v_nil); (case hm => (simp only [Nat.reduceAdd, Nat.reduceMul]; rfl)); (case' h => with_reducible refine hK _ ?_; clear hK))
 | ((with_reducible apply d_nil); (refine hK _ _ _ _ (by first | decide +kernel ) ?_; clear hK))
 | ((with_reducible refine callV_id (f := 53) ?_); have hcs_ := c_unwrap y.n p.seq; (with_reducible apply callV_f own53 (hcs_)); (case hx => rfl); (case he => rfl); (case hle => first | ((repeat constructor); done) ); (case hpu => repeat constructor); (case' hK => (try clear hcs_); conv => whnf))
 | ((with_reducible apply go_cond); (case hb => rfl))
 | ((with_reducible first | refine w_ret Tryz.tab fun K' hL => ?_ ); (conv => whnf))
 | ((with_reducible apply And.intro); (case' right => try (conv => whnf)); (case' left => try first | rfl | decide ))
 | ((with_reducible apply Side.mk); (try simp (disch := omega) only [wrp]); (try simp); (try simp (disch := omega) only [wrp]); (try omega))
 | (rw [rd0 hy (by simp only [w2]; omega)]; conv => whnf)
 | (rw [rd1 hx (by simp only; omega)]; conv => whnf)
 | (rw [nfL_eq]; conv => whnf)
 | (first | (guard_hyp g13; intro g14; try simp at g14) | (guard_hyp g12; intro g13; try simp at g13) | (guard_hyp g11; intro g12; try simp at g12) | (guard_hyp g10; intro g11; try simp at g11) | (guard_hyp g9; intro g10; try simp at g10) | (guard_hyp g8; intro g9; try simp at g9) | (guard_hyp g7; intro g8; try simp at g8) | (guard_hyp g6; intro g7; try simp at g7) | (guard_hyp g5; intro g6; try simp at g6) | (guard_hyp g4; intro g5; try simp at g5) | (guard_hyp g3; intro g4; try simp at g4) | (guard_hyp g2; intro g3; try simp at g3) | (guard_hyp g1; intro g2; try simp at g2) | intro g1; try simp at g1))
      all_goals (try (exfalso; omega))
      all_goals try (simp only [w2, List.length_append, flat_len, List.length_replicate]; omega)
      all_goals have hgl : (cur.take j).getLast? = some y := getLast_at (i := j - 1) (by rw [List.getElem?_take, if_pos (by omega)]; exact hy) (by rw [List.length_take]; omega)
      all_goals rw [drop_at hp, wrapsP_next hgl] at h5
      · rw [if_neg (by assumption)] at h5
        have e : watchR l = ([], (unwrapS y.n p.seq).2) := by rw [e0, ← h5]; exact if_pos (by assumption)
        simp [framesT, e]
      · rw [if_pos (by assumption)] at h5
        refine w_nx (j + 1, cur.set j ⟨(unwrapS y.n p.seq).1, p⟩) ?_ ?_ ?_ ?_ ?_ ?_
        case refine_1 => simp
        case refine_2 => simp [-List.map_map, -List.flatten_append, -List.map_set]; exact ltL_append (ltL_scal (scal_rows _)) (ltL_junk _)
        case refine_3 => simp (disch := omega) [wrp]
        case refine_4 =>
          have hwr := wr0 (rest := List.replicate ((cap - l.length) * 7) AV.junk) (n := (unwrapS y.n p.seq).1) (off := 0 + j * 7 + 0) hx (by omega)
          have h9 : LeL (List.take (0 + j * 7 + 0) ((rowL cur).flatten ++ List.replicate ((cap - l.length) * 7) AV.junk) ++ [I (unwrapS y.n p.seq).1] ++ List.drop (0 + j * 7 + 0 + 1) ((rowL cur).flatten ++ List.replicate ((cap - l.length) * 7) AV.junk)) ((rowL (cur.set j ⟨(unwrapS y.n p.seq).1, p⟩)).flatten ++ List.replicate ((cap - l.length) * 7) AV.junk) := by rw [hwr]; exact LeL.rfl' _
          exact ⟨h9, trivial⟩
        case refine_5 => simp only; omega
        have hset : (cur.set j ⟨(unwrapS y.n p.seq).1, p⟩).take (j + 1) = cur.take j ++ [⟨(unwrapS y.n p.seq).1, p⟩] := by
          rw [List.set_eq_take_append_cons_drop, if_pos (by omega), show cur.take j ++ (⟨(unwrapS y.n p.seq).1, p⟩ : Slt) :: cur.drop (j + 1) = (cur.take j ++ [⟨(unwrapS y.n p.seq).1, p⟩]) ++ cur.drop (j + 1) by simp]
          exact List.take_left' (by rw [List.length_append, List.length_take]; simp only [List.length_cons, List.length_nil]; omega)
        refine ⟨by simp only; omega, by simp only; omega, by simp only [List.length_set]; exact h4, by simp only; rw [hset]; exact h5, fun k p' hk hp' => ?_⟩
        simp only at hk ⊢
        rw [List.getElem?_set_ne (by omega)]
        exact h6 k p' (by omega) hp'
    · have hnn : l.length = (rowL cur).length := by rw [List.length_map]; exact h4.symm
      have hl7 : ∀ x ∈ rowL cur, x.length = 7 := fun r hr => by obtain ⟨x, _, rfl⟩ := List.mem_map.1 hr; rfl
      have hw5 : wrapsP [] l = (cur, 0) := by rw [← h5, List.drop_eq_nil_of_le (by omega), List.take_of_length_le (by omega)]; rfl
      have e' : watchR l = allF cur := by rw [e0, hw5]; exact if_neg (by simp)
      repeat' (first
 | ((with_reducible apply w_freeze (code := .seq (.region 19 _ _) _) 4 (rowL cur)); (case hs => rfl); (case hq => rfl); (case hn => exact hnn); (case hes => exact take_rows _ _); (case hl => exact hl7); (case hpu => exact pul_rows _); (case hone => exact one_rows _))
 | (with_reducible first | apply qz0 | (refine h0 _ _ ?_; clear h0 hw) | apply qz1 | apply qz2 | apply qz3 | apply qz4 | apply qz6 | apply qz7 | apply qza | apply qzc | (refine hL _ ?_; clear hL))
 | (with_reducible first | refine w_reg (by decide +kernel) fun K1 hK => ?_ )
 | ((with_reducible first | apply d_reg Tryz.mix (by decide +kernel) ); (case hm => simp only [List.length_cons, List.length_nil, Nat.reduceAdd, Nat.reduceMul]; rfl); (case' h => intro K1 hK))
 | with_reducible refine go_seq ?_
 | ((with_reducible first | apply v_op Tryz.tab | apply d_op Tryz.tab ) <;> first | (intro K' h0 hw; conv => whnf) | (simp only [Nat.reduceAdd, Nat.reduceMul]; rfl))
 | ((with_reducible apply v_nil); (case hm => (simp only [Nat.reduceAdd, Nat.reduceMul]; rfl)); (case' h => with_reducible refine hK _ ?_; clear hK))
 | ((with_reducible refine callV_id (f := 54) ?_); have hcs_ := c_frameAll cur (by omega); (with_reducible apply callV_f own54 (hcs_)); (case hx => rfl); (case he => rfl); (case hle => first | ((repeat constructor); done) ); (case hpu => repeat constructor); (case' hK => (try clear hcs_); conv => whnf))
 | ((with_reducible apply go_cond); (case hb => rfl))
 | ((with_reducible first | refine w_ret Tryz.tab fun K' hL => ?_ ); (conv => whnf))
 | ((with_reducible apply And.intro); (case' right => try (conv => whnf)); (case' left => try first | rfl | decide | (simp (disch := omega) only [wrp]; omega) ))
 | (first | (guard_hyp g13; intro g14; try simp at g14) | (guard_hyp g12; intro g13; try simp at g13) | (guard_hyp g11; intro g12; try simp at g12) | (guard_hyp g10; intro g11; try simp at g11) | (guard_hyp g9; intro g10; try simp at g10) | (guard_hyp g8; intro g9; try simp at g9) | (guard_hyp g7; intro g8; try simp at g8) | (guard_hyp g6; intro g7; try simp at g7) | (guard_hyp g5; intro g6; try simp at g6) | (guard_hyp g4; intro g5; try simp at g5) | (guard_hyp g3; intro g4; try simp at g4) | (guard_hyp g2; intro g3; try simp at g3) | (guard_hyp g1; intro g2; try simp at g2) | intro g1; try simp at g1))
      all_goals (try (exfalso; omega))
      all_goals (try (simp [framesT, e']; done))
end Go.Proofs.YtdanlpkclkjkcaaGreat

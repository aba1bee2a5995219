/- Walks of package disk: Append, Open. No condition. -/
import Derived.Test.YtbhcjgobapnajaaDisk8
namespace Go.Proofs.Ytbhcjgobapnajaa
open Go Go.Sy
set_option maxRecDepth 4000
set_option linter.unusedSimpArgs false
set_option linter.unusedVariables false
attribute [local irreducible] Reg RegD Later Out CallV YieldV Tri Side EqV
theorem oneX_right {s : ByteArray} (h : (oneX s).2 = true) : groupE (oneX s).1.g = 0 := by
  unfold oneX at h ⊢
  split
  · rename_i h1; rw [if_pos h1] at h; cases h
  · rename_i h1
    rw [if_neg h1] at h
    split
    · rename_i h2; rw [if_pos h2] at h; cases h
    · rename_i h2
      rw [if_neg h2] at h
      simp only [Bool.and_eq_true, decide_eq_true_eq] at h ⊢
      exact h.2
theorem diskL_right (s : ByteArray) : ∀ (f o : Nat) (last : Option Int) (l : List Rc), o ≤ s.size → diskL s f o last = some l → (∀ r ∈ l, groupE r.g = 0 ∧ 0 ≤ r.n ∧ r.n ≤ 100000) ∧ 2 * l.length + o ≤ s.size
  | 0, o, last, l, ho, h => by simp [diskL] at h; subst h; simpa using ho
  | f + 1, o, last, l, ho, h => by
    unfold diskL at h
    split at h
    · cases h; simpa using ho
    split at h
    · cases h; simpa using ho
    split at h
    · rename_i hg
      split at h
      · rename_i l' h2
        cases h
        obtain ⟨q1, q2⟩ := diskL_right s f _ _ _ (by omega) h2
        have hg1 := (Bool.and_eq_true_iff.1 hg).1
        refine ⟨fun r hr => ?_, by rw [List.length_cons]; omega⟩
        rcases List.mem_cons.1 hr with rfl | hr
        · exact ⟨oneX_right hg1, oneX_n hg1⟩
        · exact q1 r hr
      · cases h
    · cases h
theorem c_storeTrim (first : Int) (l : List (List Fr)) (hr : Rg l) (hf : -1000000 ≤ first ∧ first + l.length ≤ 1000000) : PSpec Try.prog 59 [I first, grs l] (.tup [I (trimS first l).1, grs (trimS first l).2]) := by
  have h := c_trim first l [] hr hf
  refine v_pspec Try.func59 rfl Try.ntmps59 Try.results59 (by simp) (by first | exact .s _ | repeat constructor) ?_
  repeat' (first
 | (with_reducible first | apply qz0 | (refine h0 _ _ ?_; clear h0 hw) | (refine hw _ _ _ ?_; clear h0 hw) | apply qz1 | (refine hL _ ?_; clear hL))
 | (with_reducible first | refine w_reg (by decide +kernel) fun K1 hK => ?_ )
 | ((with_reducible first | apply d_reg Try.mix (by decide +kernel) ); (case hm => simp only [List.length_cons, List.length_nil, Nat.reduceAdd, Nat.reduceMul]; rfl); (case' h => intro K1 hK))
 | ((with_reducible first | apply v_op Try.tab | apply d_op Try.tab ) <;> first | (intro K' h0 hw; conv => whnf) | (simp only [Nat.reduceAdd, Nat.reduceMul]; rfl))
 | ((with_reducible apply v_nil); (case hm => (simp only [Nat.reduceAdd, Nat.reduceMul]; rfl)); (case' h => with_reducible refine hK _ ?_; clear hK))
 | ((with_reducible apply d_nil); (refine hK _ _ _ _ (by first | decide +kernel ) ?_; clear hK))
 | ((with_reducible refine callV_id (f := 116) ?_); (with_reducible apply w_callO [96] own116 (h)); (case hx => rfl); (case he => rfl); (case hle => first | ((repeat constructor); done) ); (case hm => rfl); (case hnd => decide); (case' hK => conv => whnf); (any_goals (simp; done)))
 | ((with_reducible first | refine w_ret Try.tab fun K' hL => ?_ ); (conv => whnf))
 | ((with_reducible apply And.intro); (case' right => try (conv => whnf)); (case' left => try first | rfl | decide | (simp; done) ))
 )
  exact .refl _
def gsOf (l : List Rc) : List (List Fr) := l.map (·.g)
def firstOf : List Rc → Int
  | [] => 0
  | r :: _ => r.n
def dopS (d : Dk) : (Sto × Dk) × Int := if dkE d = 0 then ((⟨(trimS (firstOf (readR d).1.1) (gsOf (readR d).1.1)).1, (trimS (firstOf (readR d).1.1) (gsOf (readR d).1.1)).2, []⟩, ⟨d.data.extract 0 (endR 0 (readR d).1.1).toNat, endR 0 (readR d).1.1⟩), 0) else ((st0, dk0), dkE d)
abbrev openT (r : (Sto × Dk) × Int) : AV := .tup [.agg (stC r.1.1), .agg (dkC r.1.2), I r.2]
set_option maxHeartbeats 4000000 in
theorem c_dkOpen (d : Dk) : PSpec Try.prog 14 [.agg (dkC d)] (openT (dopS d)) := by
  have h := c_readD d
  by_cases c : (readR d).2 = 0
  · obtain ⟨hz, l, hd, hs, e⟩ := readR_ok c
    obtain ⟨hr1, hr2⟩ := diskL_right _ _ _ _ _ (Nat.zero_le _) hd
    obtain ⟨he1, he2, _⟩ := diskL_end _ _ _ _ _ (Nat.zero_le _) hd
    rw [show ((0 : Nat) : Int) = 0 from rfl] at he1 he2
    have hlen : (endsL 0 l).length ≤ 2001 := by rw [endsL_len]; omega
    have hei := last_row (endsL_last 0 l) (by omega)
    have w3 := wrp (n := ((endsL 0 l).length : Int) - 1) (by omega) (by omega)
    have hp : 0 < (endsL 0 l).length := by rw [endsL_len]; omega
    rw [dopS, show dkE d = (readR d).2 from rfl, if_pos c]
    rw [e] at h ⊢
    have hrg : Rg (gsOf l) := ⟨by simp [gsOf]; omega, fun g hg => by
      obtain ⟨r, hr, rfl⟩ := List.mem_map.1 hg
      exact (hr1 r hr).1⟩
    have hfo : 0 ≤ firstOf l ∧ firstOf l ≤ 100000 := by
      cases l with
      | nil => simp [firstOf]
      | cons r l => exact (hr1 r List.mem_cons_self).2
    have hT := c_storeTrim (firstOf l) (gsOf l) hrg ⟨by omega, by simp only [gsOf, List.length_map]; omega⟩
    refine v_pspec Try.func14 rfl Try.ntmps14 Try.results14 (by simp) (by first | exact .s _ | repeat constructor) ?_
    repeat' (first
 | ((with_reducible apply w_ownNil 8 30 1); (case hs => rfl); (case hsz => decide); (case hm => (try simp only [Nat.reduceAdd, Nat.reduceMul]); exact rfl))
 | (with_reducible first | apply qz0 | (refine h0 _ _ ?_; clear h0 hw) | (refine hw _ _ _ ?_; clear h0 hw) | apply qz2 | apply qz3 | apply qz6 )
 | (with_reducible first | refine w_reg (by decide +kernel) fun K1 hK => ?_ )
 | with_reducible refine go_seq ?_
 | ((with_reducible first | apply v_op Try.tab ) <;> first | (intro K' h0 hw; conv => whnf) | (simp only [Nat.reduceAdd, Nat.reduceMul]; rfl))
 | ((with_reducible apply v_nil); (case hm => (simp only [Nat.reduceAdd, Nat.reduceMul]; rfl)); (case' h => with_reducible refine hK _ ?_; clear hK))
 | ((with_reducible refine callV_id (f := 58) ?_); (with_reducible apply callV_f own58 (h)); (case hx => rfl); (case he => rfl); (case hle => first | ((repeat constructor); done) ); (case hpu => repeat constructor); (case' hK => conv => whnf))
 | ((with_reducible apply go_cond); (case hb => rfl))
 | ((with_reducible apply And.intro); (case' right => try (conv => whnf)); (case' left => try first | rfl | decide | (simp; done) ))
 | (first  | intro g1; try simp at g1))
    refine w_loop (X := Nat) (8 :: 9 :: [8, 9, 10, 11, 26, 27, 28, 29, 30, 31, 32, 33, 34, 35, 36, 37, 38, 39, 40]) (fun i => [(26, I i), (8, .osl 256 1 (rowG (gsOf (l.take i)))), (9, I (firstOf (l.take i)))]) (fun i => [(256, .perm 30 1 (gsOf (l.take i)).length)]) (fun i => i ≤ l.length) (fun i => l.length - i) 0 (Nat.zero_le _) ?_ ?_
    · refine ⟨kt_refl, ko_refl, ?_, ?_, ?_, ?_, Nat.le_refl _⟩ <;> simp [gsOf, firstOf]
    intro i hi
    rcases Nat.lt_or_ge i l.length with hil | hil
    · obtain ⟨r, hr⟩ : ∃ r, l[i]? = some r := ⟨_, List.getElem?_eq_getElem hil⟩
      have e2 : gsOf (l.take (i + 1)) = gsOf (l.take i) ++ [r.g] := by rw [take_at hr, gsOf, List.map_append]; rfl
      have hgl : (gsOf (l.take i)).length ≤ 2000 := by simp [gsOf, List.length_take]; omega
      repeat' (first
 | ((with_reducible refine all_row ?_); intro z hz; obtain rfl : r = z := Option.some.inj (hr.symm.trans hz); conv => whnf)
 | (with_reducible first | apply qz0 | (refine h0 _ _ ?_; clear h0 hw) | (refine hw _ _ _ ?_; clear h0 hw) | apply qz2 | apply qz3 | apply qz4 | apply qz6 | apply qz7 | apply qz9 | apply qza | apply qzc )
 | (with_reducible first | refine w_reg (by decide +kernel) fun K1 hK => ?_ | refine w_reg_end (by decide +kernel) fun K1 hK => ?_)
 | with_reducible refine go_seq ?_
 | ((with_reducible first | apply v_op Try.tab | apply v_op0 Try.tab ) <;> first | (intro K' h0 hw; conv => whnf) | (simp only [Nat.reduceAdd, Nat.reduceMul]; rfl))
 | ((with_reducible apply v_nil); (case hm => (simp only [Nat.reduceAdd, Nat.reduceMul]; rfl)); (case' h => with_reducible refine hK _ ?_; clear hK))
 | ((with_reducible apply go_cond); (case hb => rfl))
 | ((with_reducible apply And.intro); (case' right => try (conv => whnf)); (case' left => try first | rfl | decide | (simp; done) ))
 | ((with_reducible apply Side.mk); (try simp (disch := omega) only [wrp]); (try simp); (try simp (disch := omega) only [wrp]); (try omega))
 | (first  | intro g1; try simp at g1))
      all_goals (try (exfalso; omega))
      · have e3 : firstOf (l.take (i + 1)) = r.n := by
          have h0 : i = 0 := by omega
          subst h0
          rw [take_at hr]; rfl
        refine w_nx (ko := ?ko) (i + 1) ?_ ?_ ?_ ?_ ?_ ?_
        case ko => repeat (first | (with_reducible exact ko_refl) | ((with_reducible refine ko_wos ?_ ?_); focus (simp; done)) | ((with_reducible refine ko_wo ?_ ?_); focus (simp; done)) | ((with_reducible refine ko_wor4 ?_ ?_); focus (simp; done)))
        case refine_1 => simp
        case refine_2 => simp
        case refine_3 => simp (disch := omega) [wrp, e2, e3]
        case refine_4 => simp [e2, gsOf, List.length_take]; omega
        case refine_5 => first | omega | (simp only; omega)
        omega
      · have e3 : firstOf (l.take (i + 1)) = firstOf (l.take i) := by
          rw [take_at hr]
          cases hq : l.take i with
          | nil =>
            have := congrArg List.length hq
            rw [List.length_take, List.length_nil] at this
            omega
          | cons x m => rfl
        refine w_nx (ko := ?ko) (i + 1) ?_ ?_ ?_ ?_ ?_ ?_
        case ko => repeat (first | (with_reducible exact ko_refl) | ((with_reducible refine ko_wos ?_ ?_); focus (simp; done)) | ((with_reducible refine ko_wo ?_ ?_); focus (simp; done)) | ((with_reducible refine ko_wor4 ?_ ?_); focus (simp; done)))
        case refine_1 => simp
        case refine_2 => simp
        case refine_3 => simp (disch := omega) [wrp, e2, e3]
        case refine_4 => simp [e2, gsOf, List.length_take]; omega
        case refine_5 => first | omega | (simp only; omega)
        omega
    · have e4 : l.take i = l := List.take_of_length_le hil
      rw [e4]
      have w5 : ((endR 0 l).toNat : Int) = endR 0 l := by omega
      repeat' (first
 | ((with_reducible refine all_row ?_); intro z hz; obtain rfl : endR 0 l = z := Option.some.inj (hei.symm.trans hz); conv => whnf)
 | (with_reducible first | apply qz0 | (refine h0 _ _ ?_; clear h0 hw) | (refine hw _ _ _ ?_; clear h0 hw) | apply qz1 | apply qz2 | apply qz3 | apply qz4 | apply qz6 | apply qz7 | apply qz9 | apply qza | apply qzc | (refine hL _ ?_; clear hL))
 | (with_reducible first | refine w_reg (by decide +kernel) fun K1 hK => ?_ | refine w_reg_end (by decide +kernel) fun K1 hK => ?_)
 | ((with_reducible first | apply d_reg Try.mix (by decide +kernel) ); (case hm => simp only [List.length_cons, List.length_nil, Nat.reduceAdd, Nat.reduceMul]; rfl); (case' h => intro K1 hK))
 | with_reducible refine go_seq ?_
 | ((with_reducible first | apply v_op Try.tab | apply v_op0 Try.tab | apply d_op Try.tab | apply d_op0 Try.tab) <;> first | (intro K' h0 hw; conv => whnf) | (simp only [Nat.reduceAdd, Nat.reduceMul]; rfl))
 | ((with_reducible apply v_nil); (case hm => (simp only [Nat.reduceAdd, Nat.reduceMul]; rfl)); (case' h => with_reducible refine hK _ ?_; clear hK))
 | ((with_reducible apply d_nil); (refine hK _ _ _ _ (by first | (simp only [List.map_cons, List.map_nil, List.nil_append, List.cons_append]; decide +kernel) ) ?_; clear hK))
 | ((with_reducible refine callV_id (f := 59) ?_); (with_reducible apply callV_f own59 (hT)); (case hx => rfl); (case he => rfl); (case hle => first | ((repeat constructor); done) ); (case hpu => repeat constructor); (case' hK => conv => whnf))
 | ((with_reducible apply go_cond); (case hb => rfl))
 | ((with_reducible first | refine w_ret Try.tab fun K' hL => ?_ ); (conv => whnf))
 | ((with_reducible apply And.intro); (case' right => try (conv => whnf)); (case' left => try first | rfl | decide | (simp [w3, e4]; done) | (simp (disch := omega) only [wrp]; omega) | (simp (disch := omega) [w3, e4, wrp]; (try omega); done)))
 | ((with_reducible apply Side.mk); (try simp (disch := omega) only [wrp]); (try simp); (try simp (disch := omega) only [wrp]); (try omega))
 | ((with_reducible refine all_row ?_); (first  | intro x1 hx1); conv => whnf)
 | (first  | intro g1; try simp at g1))
      all_goals (try (exfalso; omega))
      all_goals first | omega | (simp; done)
    all_goals (exfalso; omega)
  · have e := readR_no c
    rw [dopS, show dkE d = (readR d).2 from rfl, if_neg c]
    rw [e] at h
    refine v_pspec Try.func14 rfl Try.ntmps14 Try.results14 (by simp) (by first | exact .s _ | repeat constructor) ?_
    repeat' (first
 | (with_reducible first | apply qz0 | (refine h0 _ _ ?_; clear h0 hw) | (refine hw _ _ _ ?_; clear h0 hw) | apply qz1 | apply qz2 | apply qz3 | apply qz5 | apply qz6 | (refine hL _ ?_; clear hL))
 | (with_reducible first | refine w_reg (by decide +kernel) fun K1 hK => ?_ )
 | with_reducible refine go_seq ?_
 | ((with_reducible first | apply v_op Try.tab | apply v_op0 Try.tab ) <;> first | (intro K' h0 hw; conv => whnf) | (simp only [Nat.reduceAdd, Nat.reduceMul]; rfl))
 | ((with_reducible apply v_nil); (case hm => (simp only [Nat.reduceAdd, Nat.reduceMul]; rfl)); (case' h => with_reducible refine hK _ ?_; clear hK))
 | ((with_reducible refine callV_id (f := 58) ?_); (with_reducible apply callV_f own58 (h)); (case hx => rfl); (case he => rfl); (case hle => first | ((repeat constructor); done) ); (case hpu => repeat constructor); (case' hK => conv => whnf))
 | ((with_reducible apply go_cond); (case hb => rfl))
 | ((with_reducible first | refine w_ret Try.tab fun K' hL => ?_ ); (conv => whnf))
 | ((with_reducible apply And.intro); (case' right => try (conv => whnf)); (case' left => try first | rfl | decide | (simp; done) ))
 | (first  | intro g1; try simp at g1))
    all_goals first | (exfalso; exact c (by assumption)) | (simp [st0, dk0, dkE]; done)
def appE (d : Dk) (n : Int) (g : List Fr) : Int := if dkE d ≠ 0 then dkE d else if encE n g ≠ 0 then encE n g else if (wholeR d).2 ≠ 0 then (wholeR d).2 else if goesB (lastN (readR d).1.1) n = false then 4 else if 2000 < d.data.size + (recB n g).size then 2 else 0
def appR (d : Dk) (n : Int) (g : List Fr) : Dk × Int := if appE d n g = 0 then (⟨d.data ++ recB n g, d.sync⟩, 0) else (dk0, appE d n g)
theorem recB_size {n : Int} {g : List Fr} (hg : groupE g = 0) : (recB n g).size ≤ 1000 := by
  obtain ⟨hb1, hb2⟩ := bodyCk_ok n hg
  have h1 : ∀ (l : List ByteArray), (∀ a ∈ l, a.size ≤ 8) → (cat l).size ≤ 8 * l.length := by
    intro l
    induction l with
    | nil => intro _; simp [cat]
    | cons a l ih =>
      intro h
      have q1 := ih fun b hb => h b (List.mem_cons_of_mem _ hb)
      have q2 := h a List.mem_cons_self
      rw [cat, ByteArray.size_append, List.length_cons]; omega
  have h2 := h1 _ hb1
  rw [recB, ByteArray.size_append, beN_size]; omega
set_option maxHeartbeats 4000000 in
theorem c_dkAppend (d : Dk) (n : Int) (g : List Fr) (hf : Fits g) : PSpec Try.prog 17 [.agg (dkC d), I n, .agg (grC g)] (dkT (appR d n g)) := by
  have h1 := c_dkCheck d
  have h2 := c_dkEncode n g hf
  have h3 := c_dkWhole d
  by_cases c1 : dkE d = 0
  · rw [c1] at h1
    by_cases c2 : encE n g = 0
    · have hn : 0 ≤ n ∧ n ≤ 100000 := by unfold encE at c2; split at c2; cases c2; omega
      have hgE : groupE g = 0 := by unfold encE at c2; split at c2; cases c2; exact c2
      have hsz := recB_size (n := n) hgE
      have e2 : encR n g = (recB n g, 0) := if_pos c2
      rw [e2] at h2
      have h2 : PSpec Try.prog 16 [I n, .agg (grC g)] (.tup [Tx (recB n g), I 0]) := h2
      obtain ⟨hz, l, hd, hs, e⟩ := readR_ok c1
      obtain ⟨hr1, hr2⟩ := diskL_right _ _ _ _ _ (Nat.zero_le _) hd
      have hwe : wholeR d = ((l, endR 0 l), if endR 0 l < d.data.size then 4 else 0) := by rw [wholeR, show (readR d).2 = 0 from c1, if_pos rfl, e]
      rw [hwe] at h3
      by_cases c3 : endR 0 l < d.data.size
      · rw [if_pos c3] at h3
        have hA : appE d n g = 4 := by rw [appE, if_neg (by simp [c1]), if_neg (by simp [c2]), hwe, if_pos c3]; rfl
        rw [appR, hA]
        refine v_pspec Try.func17 rfl Try.ntmps17 Try.results17 (by simp) (by first | exact .s _ | repeat constructor) ?_
        repeat' (first
 | (with_reducible first | apply qz0 | (refine h0 _ _ ?_; clear h0 hw) | (refine hw _ _ _ ?_; clear h0 hw) | apply qz1 | apply qz2 | apply qz5 | apply qz6 | (refine hL _ ?_; clear hL))
 | (with_reducible first | refine w_reg (by decide +kernel) fun K1 hK => ?_ )
 | with_reducible refine go_seq ?_
 | ((with_reducible first | apply v_op Try.tab | apply v_op0 Try.tab) <;> first | (intro K' h0 hw; conv => whnf) | (simp only [Nat.reduceAdd, Nat.reduceMul]; rfl))
 | ((with_reducible apply v_nil); (case hm => (simp only [Nat.reduceAdd, Nat.reduceMul]; rfl)); (case' h => with_reducible refine hK _ ?_; clear hK))
 | ((first | (apply v_grd_no; (case hg => rfl); (case hb => rfl)) ); (case hi => (simp only [Nat.reduceAdd, Nat.reduceMul]; rfl)))
 | ((with_reducible refine callV_id (f := 13) ?_); (with_reducible apply callV_f own13 (h1)); (case hx => rfl); (case he => rfl); (case hle => first | ((repeat constructor); done) ); (case hpu => repeat constructor); (case' hK => conv => whnf))
 | ((with_reducible refine callV_id (f := 16) ?_); (with_reducible apply callV_f own16 (h2)); (case hx => rfl); (case he => rfl); (case hle => first | ((repeat constructor); done) ); (case hpu => repeat constructor); (case' hK => conv => whnf))
 | ((with_reducible refine callV_id (f := 63) ?_); (with_reducible apply callV_f own63 (h3)); (case hx => rfl); (case he => rfl); (case hle => first | ((repeat constructor); done) ); (case hpu => repeat constructor); (case' hK => conv => whnf))
 | ((with_reducible apply go_cond); (case hb => rfl))
 | ((with_reducible first | refine w_ret Try.tab fun K' hL => ?_ ); (conv => whnf))
 | ((with_reducible apply And.intro); (case' right => try (conv => whnf)); (case' left => try first | rfl | decide | (simp; done) ))
 | (first  | intro g1; try simp at g1))
        all_goals (try (exfalso; omega))
        all_goals (simp [dk0]; done)
      · rw [if_neg c3] at h3
        have hA : appE d n g = if goesB (lastN l) n = false then 4 else if 2000 < d.data.size + (recB n g).size then 2 else 0 := by
          rw [appE, if_neg (by simp [c1]), if_neg (by simp [c2]), hwe, if_neg c3, if_neg (by simp), e]
        have w1 := wrp (n := (d.data.size : Int) + (recB n g).size) (by omega) (by omega)
        cases hq : l.getLast? with
        | none =>
          have hl0 : l = [] := List.getLast?_eq_none_iff.1 hq
          have hgo : goesB (lastN l) n = true := by simp [lastN, hq, goesB]
          rw [hgo] at hA
          have hne : ¬ l ≠ [] := fun h => h hl0
          subst hl0
          by_cases c4 : 2000 < d.data.size + (recB n g).size
          · rw [if_pos c4] at hA
            rw [appR, hA]
            refine v_pspec Try.func17 rfl Try.ntmps17 Try.results17 (by simp) (by first | exact .s _ | repeat constructor) ?_
            repeat' (first
 | (with_reducible first | apply qz0 | (refine h0 _ _ ?_; clear h0 hw) | (refine hw _ _ _ ?_; clear h0 hw) | apply qz1 | apply qz2 | apply qz5 | apply qz6 | (refine hL _ ?_; clear hL))
 | (with_reducible first | refine w_reg (by decide +kernel) fun K1 hK => ?_ | refine w_reg_end (by decide +kernel) fun K1 hK => ?_)
 | with_reducible refine go_seq ?_
 | ((with_reducible first | apply v_op Try.tab | apply v_op0 Try.tab) <;> first | (intro K' h0 hw; conv => whnf) | (simp only [Nat.reduceAdd, Nat.reduceMul]; rfl))
 | ((with_reducible apply v_nil); (case hm => (simp only [Nat.reduceAdd, Nat.reduceMul]; rfl)); (case' h => with_reducible refine hK _ ?_; clear hK))
 | (first | refine v_grd_yes (by rfl) (by rfl) ?_)
 | ((first | (apply v_grd_no; (case hg => rfl); (case hb => rfl)) ); (case hi => (simp only [Nat.reduceAdd, Nat.reduceMul]; rfl)))
 | ((with_reducible refine callV_id (f := 13) ?_); (with_reducible apply callV_f own13 (h1)); (case hx => rfl); (case he => rfl); (case hle => first | ((repeat constructor); done) ); (case hpu => repeat constructor); (case' hK => conv => whnf))
 | ((with_reducible refine callV_id (f := 16) ?_); (with_reducible apply callV_f own16 (h2)); (case hx => rfl); (case he => rfl); (case hle => first | ((repeat constructor); done) ); (case hpu => repeat constructor); (case' hK => conv => whnf))
 | ((with_reducible refine callV_id (f := 63) ?_); (with_reducible apply callV_f own63 (h3)); (case hx => rfl); (case he => rfl); (case hle => first | ((repeat constructor); done) ); (case hpu => repeat constructor); (case' hK => conv => whnf))
 | ((with_reducible apply go_cond); (case hb => rfl))
 | ((with_reducible first | refine w_ret Try.tab fun K' hL => ?_ ); (conv => whnf))
 | ((with_reducible apply And.intro); (case' right => try (conv => whnf)); (case' left => try first | rfl | decide | (simp [w1]; done) ))
 | (rw [strAdd (by omega)]; conv => whnf)
 | (first  | intro g1; try simp at g1))
            all_goals (try (exfalso; omega))
            all_goals first | (exfalso; exact absurd (by assumption) hne) | (simp [dk0]; done)
          · rw [if_neg c4] at hA
            rw [appR, hA]
            refine v_pspec Try.func17 rfl Try.ntmps17 Try.results17 (by simp) (by first | exact .s _ | repeat constructor) ?_
            repeat' (first
 | (with_reducible first | apply qz0 | (refine h0 _ _ ?_; clear h0 hw) | (refine hw _ _ _ ?_; clear h0 hw) | apply qz1 | apply qz2 | apply qz5 | apply qz6 | (refine hL _ ?_; clear hL))
 | (with_reducible first | refine w_reg (by decide +kernel) fun K1 hK => ?_ | refine w_reg_end (by decide +kernel) fun K1 hK => ?_)
 | with_reducible refine go_seq ?_
 | ((with_reducible first | apply v_op Try.tab | apply v_op0 Try.tab) <;> first | (intro K' h0 hw; conv => whnf) | (simp only [Nat.reduceAdd, Nat.reduceMul]; rfl))
 | ((with_reducible apply v_nil); (case hm => (simp only [Nat.reduceAdd, Nat.reduceMul]; rfl)); (case' h => with_reducible refine hK _ ?_; clear hK))
 | (first | refine v_grd_yes (by rfl) (by rfl) ?_)
 | ((first | (apply v_grd_no; (case hg => rfl); (case hb => rfl)) ); (case hi => (simp only [Nat.reduceAdd, Nat.reduceMul]; rfl)))
 | ((with_reducible refine callV_id (f := 13) ?_); (with_reducible apply callV_f own13 (h1)); (case hx => rfl); (case he => rfl); (case hle => first | ((repeat constructor); done) ); (case hpu => repeat constructor); (case' hK => conv => whnf))
 | ((with_reducible refine callV_id (f := 16) ?_); (with_reducible apply callV_f own16 (h2)); (case hx => rfl); (case he => rfl); (case hle => first | ((repeat constructor); done) ); (case hpu => repeat constructor); (case' hK => conv => whnf))
 | ((with_reducible refine callV_id (f := 63) ?_); (with_reducible apply callV_f own63 (h3)); (case hx => rfl); (case he => rfl); (case hle => first | ((repeat constructor); done) ); (case hpu => repeat constructor); (case' hK => conv => whnf))
 | ((with_reducible apply go_cond); (case hb => rfl))
 | ((with_reducible first | refine w_ret Try.tab fun K' hL => ?_ ); (conv => whnf))
 | ((with_reducible apply And.intro); (case' right => try (conv => whnf)); (case' left => try first | rfl | decide | (simp [w1]; done) ))
 | (rw [strAdd (by omega)]; conv => whnf)
 | (first  | intro g1; try simp at g1))
            all_goals (try (exfalso; omega))
            all_goals first | (exfalso; exact absurd (by assumption) hne) | (simp [dk0]; done)
        | some y =>
          have hpos : 0 < l.length := by
            rcases Nat.eq_zero_or_pos l.length with h | h
            · rw [List.length_eq_zero_iff.1 h] at hq; cases hq
            · exact h
          have hne : ¬ l = [] := fun h => by rw [h] at hpos; simp at hpos
          have hyn := (hr1 y (List.mem_of_getLast? hq)).2
          have w2 := wrp (n := (l.length : Int) - 1) (by omega) (by omega)
          have w3 := wrp (n := y.n + 1) (by omega) (by omega)
          have hyi : l[(IntKind.i64.wrap (((rowR l).length : Int) - 1)).toNat]? = some y := by rw [show (rowR l).length = l.length from List.length_map _, w2, show ((l.length : Int) - 1).toNat = l.length - 1 by omega, ← List.getLast?_eq_getElem?]; exact hq
          by_cases hgo : n = y.n + 1
          · have hgo' : goesB (lastN l) n = true := by simp [lastN, hq, goesB, hgo]
            rw [hgo'] at hA
            by_cases c4 : 2000 < d.data.size + (recB n g).size
            · rw [if_pos c4] at hA
              rw [appR, hA]
              refine v_pspec Try.func17 rfl Try.ntmps17 Try.results17 (by simp) (by first | exact .s _ | repeat constructor) ?_
              repeat' (first
 | ((with_reducible refine all_row ?_); intro z hz; obtain rfl : y = z := Option.some.inj (hyi.symm.trans hz); conv => whnf)
 | (with_reducible first | apply qz0 | (refine h0 _ _ ?_; clear h0 hw) | (refine hw _ _ _ ?_; clear h0 hw) | apply qz1 | apply qz2 | apply qz5 | apply qz6 | (refine hL _ ?_; clear hL))
 | (with_reducible first | refine w_reg (by decide +kernel) fun K1 hK => ?_ | refine w_reg_end (by decide +kernel) fun K1 hK => ?_)
 | with_reducible refine go_seq ?_
 | ((with_reducible first | apply v_op Try.tab | apply v_op0 Try.tab) <;> first | (intro K' h0 hw; conv => whnf) | (simp only [Nat.reduceAdd, Nat.reduceMul]; rfl))
 | ((with_reducible apply v_nil); (case hm => (simp only [Nat.reduceAdd, Nat.reduceMul]; rfl)); (case' h => with_reducible refine hK _ ?_; clear hK))
 | (first | refine v_grd_yes (by rfl) (by rfl) ?_)
 | ((first | (apply v_grd_no; (case hg => rfl); (case hb => rfl)) | (apply v_grd; (case hg => rfl); (case hb => rfl))); (case hi => (simp only [Nat.reduceAdd, Nat.reduceMul]; rfl)))
 | ((with_reducible refine callV_id (f := 13) ?_); (with_reducible apply callV_f own13 (h1)); (case hx => rfl); (case he => rfl); (case hle => first | ((repeat constructor); done) ); (case hpu => repeat constructor); (case' hK => conv => whnf))
 | ((with_reducible refine callV_id (f := 16) ?_); (with_reducible apply callV_f own16 (h2)); (case hx => rfl); (case he => rfl); (case hle => first | ((repeat constructor); done) ); (case hpu => repeat constructor); (case' hK => conv => whnf))
 | ((with_reducible refine callV_id (f := 63) ?_); (with_reducible apply callV_f own63 (h3)); (case hx => rfl); (case he => rfl); (case hle => first | ((repeat constructor); done) ); (case hpu => repeat constructor); (case' hK => conv => whnf))
 | ((with_reducible apply go_cond); (case hb => rfl))
 | ((with_reducible first | refine w_ret Try.tab fun K' hL => ?_ ); (conv => whnf))
 | ((with_reducible apply And.intro); (case' right => try (conv => whnf)); (case' left => try first | rfl | decide | (simp [w1, w2, w3]; done) ))
 | ((with_reducible apply Side.mk); (try simp (disch := omega) only [wrp]); (try simp); (try simp (disch := omega) only [wrp]); (try omega))
 | (rw [strAdd (by omega)]; conv => whnf)
 | (first  | intro g1; try simp at g1))
              all_goals (try (exfalso; omega))
              all_goals first | (exfalso; exact absurd (by assumption) hne) | (simp [dk0]; done)
            · rw [if_neg c4] at hA
              rw [appR, hA]
              refine v_pspec Try.func17 rfl Try.ntmps17 Try.results17 (by simp) (by first | exact .s _ | repeat constructor) ?_
              repeat' (first
 | ((with_reducible refine all_row ?_); intro z hz; obtain rfl : y = z := Option.some.inj (hyi.symm.trans hz); conv => whnf)
 | (with_reducible first | apply qz0 | (refine h0 _ _ ?_; clear h0 hw) | (refine hw _ _ _ ?_; clear h0 hw) | apply qz1 | apply qz2 | apply qz5 | apply qz6 | (refine hL _ ?_; clear hL))
 | (with_reducible first | refine w_reg (by decide +kernel) fun K1 hK => ?_ | refine w_reg_end (by decide +kernel) fun K1 hK => ?_)
 | with_reducible refine go_seq ?_
 | ((with_reducible first | apply v_op Try.tab | apply v_op0 Try.tab) <;> first | (intro K' h0 hw; conv => whnf) | (simp only [Nat.reduceAdd, Nat.reduceMul]; rfl))
 | ((with_reducible apply v_nil); (case hm => (simp only [Nat.reduceAdd, Nat.reduceMul]; rfl)); (case' h => with_reducible refine hK _ ?_; clear hK))
 | (first | refine v_grd_yes (by rfl) (by rfl) ?_)
 | ((first | (apply v_grd_no; (case hg => rfl); (case hb => rfl)) | (apply v_grd; (case hg => rfl); (case hb => rfl))); (case hi => (simp only [Nat.reduceAdd, Nat.reduceMul]; rfl)))
 | ((with_reducible refine callV_id (f := 13) ?_); (with_reducible apply callV_f own13 (h1)); (case hx => rfl); (case he => rfl); (case hle => first | ((repeat constructor); done) ); (case hpu => repeat constructor); (case' hK => conv => whnf))
 | ((with_reducible refine callV_id (f := 16) ?_); (with_reducible apply callV_f own16 (h2)); (case hx => rfl); (case he => rfl); (case hle => first | ((repeat constructor); done) ); (case hpu => repeat constructor); (case' hK => conv => whnf))
 | ((with_reducible refine callV_id (f := 63) ?_); (with_reducible apply callV_f own63 (h3)); (case hx => rfl); (case he => rfl); (case hle => first | ((repeat constructor); done) ); (case hpu => repeat constructor); (case' hK => conv => whnf))
 | ((with_reducible apply go_cond); (case hb => rfl))
 | ((with_reducible first | refine w_ret Try.tab fun K' hL => ?_ ); (conv => whnf))
 | ((with_reducible apply And.intro); (case' right => try (conv => whnf)); (case' left => try first | rfl | decide | (simp [w1, w2, w3]; done) ))
 | ((with_reducible apply Side.mk); (try simp (disch := omega) only [wrp]); (try simp); (try simp (disch := omega) only [wrp]); (try omega))
 | (rw [strAdd (by omega)]; conv => whnf)
 | (first  | intro g1; try simp at g1))
              all_goals (try (exfalso; omega))
              all_goals first | (exfalso; exact absurd (by assumption) hne) | (simp [dk0]; done)
          · have hgo' : goesB (lastN l) n = false := by simp [lastN, hq, goesB, hgo]
            rw [hgo'] at hA
            rw [appR, hA]
            refine v_pspec Try.func17 rfl Try.ntmps17 Try.results17 (by simp) (by first | exact .s _ | repeat constructor) ?_
            repeat' (first
 | ((with_reducible refine all_row ?_); intro z hz; obtain rfl : y = z := Option.some.inj (hyi.symm.trans hz); conv => whnf)
 | (with_reducible first | apply qz0 | (refine h0 _ _ ?_; clear h0 hw) | (refine hw _ _ _ ?_; clear h0 hw) | apply qz1 | apply qz2 | apply qz5 | apply qz6 | (refine hL _ ?_; clear hL))
 | (with_reducible first | refine w_reg (by decide +kernel) fun K1 hK => ?_ | refine w_reg_end (by decide +kernel) fun K1 hK => ?_)
 | with_reducible refine go_seq ?_
 | ((with_reducible first | apply v_op Try.tab | apply v_op0 Try.tab) <;> first | (intro K' h0 hw; conv => whnf) | (simp only [Nat.reduceAdd, Nat.reduceMul]; rfl))
 | ((with_reducible apply v_nil); (case hm => (simp only [Nat.reduceAdd, Nat.reduceMul]; rfl)); (case' h => with_reducible refine hK _ ?_; clear hK))
 | (first | refine v_grd_yes (by rfl) (by rfl) ?_)
 | ((first | (apply v_grd_no; (case hg => rfl); (case hb => rfl)) | (apply v_grd; (case hg => rfl); (case hb => rfl))); (case hi => (simp only [Nat.reduceAdd, Nat.reduceMul]; rfl)))
 | ((with_reducible refine callV_id (f := 13) ?_); (with_reducible apply callV_f own13 (h1)); (case hx => rfl); (case he => rfl); (case hle => first | ((repeat constructor); done) ); (case hpu => repeat constructor); (case' hK => conv => whnf))
 | ((with_reducible refine callV_id (f := 16) ?_); (with_reducible apply callV_f own16 (h2)); (case hx => rfl); (case he => rfl); (case hle => first | ((repeat constructor); done) ); (case hpu => repeat constructor); (case' hK => conv => whnf))
 | ((with_reducible refine callV_id (f := 63) ?_); (with_reducible apply callV_f own63 (h3)); (case hx => rfl); (case he => rfl); (case hle => first | ((repeat constructor); done) ); (case hpu => repeat constructor); (case' hK => conv => whnf))
 | ((with_reducible apply go_cond); (case hb => rfl))
 | ((with_reducible first | refine w_ret Try.tab fun K' hL => ?_ ); (conv => whnf))
 | ((with_reducible apply And.intro); (case' right => try (conv => whnf)); (case' left => try first | rfl | decide | (simp [w1, w2, w3]; done) ))
 | ((with_reducible apply Side.mk); (try simp (disch := omega) only [wrp]); (try simp); (try simp (disch := omega) only [wrp]); (try omega))
 | (rw [strAdd (by omega)]; conv => whnf)
 | (first  | intro g1; try simp at g1))
            all_goals (try (exfalso; omega))
            all_goals first | (exfalso; exact absurd (by assumption) hne) | (simp [dk0]; done)
    · have e2 : encR n g = (ByteArray.empty, encE n g) := if_neg c2
      rw [e2] at h2
      have hA : appE d n g = encE n g := by rw [appE, if_neg (by simp [c1]), if_pos c2]
      rw [appR, hA, if_neg c2]
      refine v_pspec Try.func17 rfl Try.ntmps17 Try.results17 (by simp) (by first | exact .s _ | repeat constructor) ?_
      repeat' (first
 | (with_reducible first | apply qz0 | (refine h0 _ _ ?_; clear h0 hw) | (refine hw _ _ _ ?_; clear h0 hw) | apply qz1 | apply qz2 | apply qz5 | apply qz6 | (refine hL _ ?_; clear hL))
 | (with_reducible first | refine w_reg (by decide +kernel) fun K1 hK => ?_ )
 | with_reducible refine go_seq ?_
 | ((with_reducible first | apply v_op Try.tab | apply v_op0 Try.tab) <;> first | (intro K' h0 hw; conv => whnf) | (simp only [Nat.reduceAdd, Nat.reduceMul]; rfl))
 | ((with_reducible apply v_nil); (case hm => (simp only [Nat.reduceAdd, Nat.reduceMul]; rfl)); (case' h => with_reducible refine hK _ ?_; clear hK))
 | ((with_reducible refine callV_id (f := 13) ?_); (with_reducible apply callV_f own13 (h1)); (case hx => rfl); (case he => rfl); (case hle => first | ((repeat constructor); done) ); (case hpu => repeat constructor); (case' hK => conv => whnf))
 | ((with_reducible refine callV_id (f := 16) ?_); (with_reducible apply callV_f own16 (h2)); (case hx => rfl); (case he => rfl); (case hle => first | ((repeat constructor); done) ); (case hpu => repeat constructor); (case' hK => conv => whnf))
 | ((with_reducible apply go_cond); (case hb => rfl))
 | ((with_reducible first | refine w_ret Try.tab fun K' hL => ?_ ); (conv => whnf))
 | ((with_reducible apply And.intro); (case' right => try (conv => whnf)); (case' left => try first | rfl | decide | (simp; done) ))
 | (first  | intro g1; try simp at g1))
      all_goals first | (exfalso; exact c2 (by assumption)) | (simp [dk0]; done)
  · have hA : appE d n g = dkE d := by rw [appE, if_pos c1]
    rw [appR, hA, if_neg c1]
    refine v_pspec Try.func17 rfl Try.ntmps17 Try.results17 (by simp) (by first | exact .s _ | repeat constructor) ?_
    repeat' (first
 | (with_reducible first | apply qz0 | (refine h0 _ _ ?_; clear h0 hw) | (refine hw _ _ _ ?_; clear h0 hw) | apply qz1 | apply qz2 | apply qz5 | apply qz6 | (refine hL _ ?_; clear hL))
 | (with_reducible first | refine w_reg (by decide +kernel) fun K1 hK => ?_ )
 | with_reducible refine go_seq ?_
 | ((with_reducible first | apply v_op Try.tab | apply v_op0 Try.tab) <;> first | (intro K' h0 hw; conv => whnf) | (simp only [Nat.reduceAdd, Nat.reduceMul]; rfl))
 | ((with_reducible apply v_nil); (case hm => (simp only [Nat.reduceAdd, Nat.reduceMul]; rfl)); (case' h => with_reducible refine hK _ ?_; clear hK))
 | ((with_reducible refine callV_id (f := 13) ?_); (with_reducible apply callV_f own13 (h1)); (case hx => rfl); (case he => rfl); (case hle => first | ((repeat constructor); done) ); (case hpu => repeat constructor); (case' hK => conv => whnf))
 | ((with_reducible apply go_cond); (case hb => rfl))
 | ((with_reducible first | refine w_ret Try.tab fun K' hL => ?_ ); (conv => whnf))
 | ((with_reducible apply And.intro); (case' right => try (conv => whnf)); (case' left => try first | rfl | decide | (simp; done) ))
 | (first  | intro g1; try simp at g1))
    all_goals first | (exfalso; exact c1 (by assumption)) | (simp [dk0]; done)
end Go.Proofs.Ytbhcjgobapnajaa

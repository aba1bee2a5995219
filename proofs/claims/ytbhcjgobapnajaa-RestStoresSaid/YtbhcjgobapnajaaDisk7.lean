/- Walks of package disk: Check, whole, Sync, Crash. No condition. -/
import Derived.Test.YtbhcjgobapnajaaDisk6
namespace Go.Proofs.Ytbhcjgobapnajaa
open Go Go.Sy
set_option maxRecDepth 4000
set_option linter.unusedSimpArgs false
set_option linter.unusedVariables false
attribute [local irreducible] Reg RegD Later Out CallV YieldV Tri Side EqV
theorem c_readD (d : Dk) : PSpec Try.prog 58 [.agg (dkC d)] (readT (readR d)) := c_read c_one d
theorem c_dkCheck (d : Dk) : PSpec Try.prog 13 [.agg (dkC d)] (I (dkE d)) := by
  have h := c_readD d
  refine v_pspec Try.func13 rfl Try.ntmps13 Try.results13 (by simp) (by first | exact .s _ | repeat constructor) ?_
  repeat' (first
 | (with_reducible first | apply qz0 | (refine h0 _ _ ?_; clear h0 hw) | (refine hw _ _ _ ?_; clear h0 hw) | apply qz1 | (refine hL _ ?_; clear hL))
 | (with_reducible first | refine w_reg (by decide +kernel) fun K1 hK => ?_ )
 | ((with_reducible first | apply v_op Try.tab ) <;> first | (intro K' h0 hw; conv => whnf) | (simp only [Nat.reduceAdd, Nat.reduceMul]; rfl))
 | ((with_reducible apply v_nil); (case hm => (simp only [Nat.reduceAdd, Nat.reduceMul]; rfl)); (case' h => with_reducible refine hK _ ?_; clear hK))
 | ((with_reducible refine callV_id (f := 58) ?_); (with_reducible apply callV_f own58 (h)); (case hx => rfl); (case he => rfl); (case hle => first | ((repeat constructor); done) ); (case hpu => repeat constructor); (case' hK => conv => whnf))
 | ((with_reducible first | refine w_ret Try.tab fun K' hL => ?_ ); (conv => whnf))
 | ((with_reducible apply And.intro); (case' right => try (conv => whnf)); (case' left => try first | rfl | decide | (simp; done) ))
 )
  exact .refl _
theorem endsL_last : ∀ (o : Int) (l : List Rc), (endsL o l).getLast? = some (endR o l)
  | o, [] => rfl
  | o, r :: l => by
    rw [endsL, endR, ← endsL_last (o + r.bytes) l]
    cases hq : endsL (o + r.bytes) l with
    | nil => have := endsL_len (o + r.bytes) l; rw [hq] at this; simp at this
    | cons x l => simp
theorem readR_no {d : Dk} (h : ¬ (readR d).2 = 0) : readR d = (([], []), (readR d).2) := by
  unfold readR at h ⊢
  split
  · rfl
  · rename_i h1
    rw [if_neg h1] at h
    cases hd : diskL d.data d.data.size 0 none with
    | none => rfl
    | some l =>
      rw [hd] at h
      simp only at h ⊢
      split
      · rename_i h2; rw [if_pos h2] at h; exact absurd rfl h
      · rfl
theorem readR_ok {d : Dk} (h : (readR d).2 = 0) : d.data.size ≤ 2000 ∧ ∃ l, diskL d.data d.data.size 0 none = some l ∧ d.sync ∈ endsL 0 l ∧ readR d = ((l, endsL 0 l), 0) := by
  unfold readR at h ⊢
  split
  · rename_i h1; rw [if_pos h1] at h; cases h
  · rename_i h1
    rw [if_neg h1] at h
    refine ⟨by omega, ?_⟩
    cases hd : diskL d.data d.data.size 0 none with
    | none => rw [hd] at h; cases h
    | some l =>
      rw [hd] at h
      simp only at h ⊢
      by_cases h2 : d.sync ∈ endsL 0 l
      · exact ⟨l, rfl, h2, by rw [if_pos h2]⟩
      · rw [if_neg h2] at h; cases h
theorem diskL_end (s : ByteArray) : ∀ (f o : Nat) (last : Option Int) (l : List Rc), o ≤ s.size → diskL s f o last = some l → (o : Int) ≤ endR o l ∧ endR o l ≤ s.size ∧ ∀ x ∈ endsL o l, (o : Int) ≤ x ∧ x ≤ s.size
  | 0, o, last, l, ho, h => by simp [diskL] at h; subst h; simp [endR, endsL]; omega
  | f + 1, o, last, l, ho, h => by
    unfold diskL at h
    split at h
    · cases h; simp [endR, endsL]; omega
    split at h
    · cases h; simp [endR, endsL]; omega
    split at h
    · split at h
      · rename_i l' h2
        cases h
        have hm := mid_size (s := s) (o := o + 2) (k := num s o 2) (by omega)
        have hb := oneX_bytes (mid s (o + 2) (num s o 2))
        rw [hm] at hb
        have ho2 : (o : Int) + (oneX (mid s (o + 2) (num s o 2))).1.bytes = ((o + 2 + num s o 2 : Nat) : Int) := by rw [hb]; omega
        obtain ⟨q1, q2, q3⟩ := diskL_end s f _ _ _ (by omega) h2
        rw [endR, endsL, ho2]
        refine ⟨by omega, q2, fun x hx => ?_⟩
        rcases List.mem_cons.1 hx with rfl | hx
        · omega
        · have := q3 x hx; omega
      · cases h
    · cases h
def wholeR (d : Dk) : (List Rc × Int) × Int := if (readR d).2 = 0 then (((readR d).1.1, endR 0 (readR d).1.1), if endR 0 (readR d).1.1 < d.data.size then 4 else 0) else (([], 0), (readR d).2)
abbrev wholeT (r : (List Rc × Int) × Int) : AV := .tup [.sl 3 (rowR r.1.1), I r.1.2, I r.2]
theorem last_row {E : List Int} {e : Int} (he : E.getLast? = some e) (hl : E.length ≤ 100000) : E[(IntKind.i64.wrap (((rowN E).length : Int) - 1)).toNat]? = some e := by
  have hEp : 0 < E.length := by
    rcases Nat.eq_zero_or_pos E.length with h | h
    · rw [List.length_eq_zero_iff.1 h] at he; cases he
    · exact h
  rw [show (rowN E).length = E.length from List.length_map _, wrp (by omega) (by omega), show ((E.length : Int) - 1).toNat = E.length - 1 by omega, ← List.getLast?_eq_getElem?]; exact he
theorem c_dkWhole (d : Dk) : PSpec Try.prog 63 [.agg (dkC d)] (wholeT (wholeR d)) := by
  have h := c_readD d
  by_cases c : (readR d).2 = 0
  · obtain ⟨hz, l, hd, hs, e⟩ := readR_ok c
    have hlen : (endsL 0 l).length ≤ 2001 := by rw [endsL_len]; have := diskL_len _ _ _ _ _ hd; omega
    have hei := last_row (endsL_last 0 l) (by omega)
    have w3 := wrp (n := ((endsL 0 l).length : Int) - 1) (by omega) (by omega)
    have hp : 0 < (endsL 0 l).length := by rw [endsL_len]; omega
    rw [wholeR, if_pos c]
    rw [e] at h ⊢
    refine v_pspec Try.func63 rfl Try.ntmps63 Try.results63 (by simp) (by first | exact .s _ | repeat constructor) ?_
    repeat' (first
 | ((with_reducible refine all_row ?_); intro z hz; obtain rfl : endR 0 l = z := Option.some.inj (hei.symm.trans hz); conv => whnf)
 | (with_reducible first | apply qz0 | (refine h0 _ _ ?_; clear h0 hw) | (refine hw _ _ _ ?_; clear h0 hw) | apply qz1 | apply qz2 | apply qz6 | (refine hL _ ?_; clear hL))
 | (with_reducible first | refine w_reg (by decide +kernel) fun K1 hK => ?_ | refine w_reg_end (by decide +kernel) fun K1 hK => ?_)
 | with_reducible refine go_seq ?_
 | ((with_reducible first | apply v_op Try.tab ) <;> first | (intro K' h0 hw; conv => whnf) | (simp only [Nat.reduceAdd, Nat.reduceMul]; rfl))
 | ((with_reducible apply v_nil); (case hm => (simp only [Nat.reduceAdd, Nat.reduceMul]; rfl)); (case' h => with_reducible refine hK _ ?_; clear hK))
 | ((with_reducible refine callV_id (f := 58) ?_); (with_reducible apply callV_f own58 (h)); (case hx => rfl); (case he => rfl); (case hle => first | ((repeat constructor); done) ); (case hpu => repeat constructor); (case' hK => conv => whnf))
 | ((with_reducible apply go_cond); (case hb => rfl))
 | ((with_reducible first | refine w_ret Try.tab fun K' hL => ?_ ); (conv => whnf))
 | ((with_reducible apply And.intro); (case' right => try (conv => whnf)); (case' left => try first | rfl | decide | (simp [w3]; done) ))
 | ((with_reducible apply Side.mk); (try simp (disch := omega) only [wrp]); (try simp); (try simp (disch := omega) only [wrp]); (try omega))
 | (first  | intro g1; try simp at g1))
    all_goals first | (rw [if_pos (by assumption)]; simp; done) | (rw [if_neg (by simp only; omega)]; simp; done)
  · have e := readR_no c
    rw [wholeR, if_neg c]
    rw [e] at h
    refine v_pspec Try.func63 rfl Try.ntmps63 Try.results63 (by simp) (by first | exact .s _ | repeat constructor) ?_
    repeat' (first
 | (with_reducible first | apply qz0 | (refine h0 _ _ ?_; clear h0 hw) | (refine hw _ _ _ ?_; clear h0 hw) | apply qz1 | apply qz2 | apply qz5 | apply qz6 | (refine hL _ ?_; clear hL))
 | (with_reducible first | refine w_reg (by decide +kernel) fun K1 hK => ?_ | refine w_reg_end (by decide +kernel) fun K1 hK => ?_)
 | with_reducible refine go_seq ?_
 | ((with_reducible first | apply v_op Try.tab ) <;> first | (intro K' h0 hw; conv => whnf) | (simp only [Nat.reduceAdd, Nat.reduceMul]; rfl))
 | ((with_reducible apply v_nil); (case hm => (simp only [Nat.reduceAdd, Nat.reduceMul]; rfl)); (case' h => with_reducible refine hK _ ?_; clear hK))
 | ((with_reducible refine callV_id (f := 58) ?_); (with_reducible apply callV_f own58 (h)); (case hx => rfl); (case he => rfl); (case hle => first | ((repeat constructor); done) ); (case hpu => repeat constructor); (case' hK => conv => whnf))
 | ((with_reducible apply go_cond); (case hb => rfl))
 | ((with_reducible first | refine w_ret Try.tab fun K' hL => ?_ ); (conv => whnf))
 | ((with_reducible apply And.intro); (case' right => try (conv => whnf)); (case' left => try first | rfl | decide | (simp; done) | (simp (disch := omega) only [wrp]; omega) ))
 | ((with_reducible refine all_row ?_); (first  | intro x1 hx1); conv => whnf)
 | (first  | intro g1; try simp at g1))
    all_goals first | (exfalso; exact c (by assumption)) | (simp; done)
abbrev dkT (r : Dk × Int) : AV := .tup [.agg (dkC r.1), I r.2]
def syncR (d : Dk) : Dk × Int := if (wholeR d).2 = 0 then (⟨d.data, d.data.size⟩, 0) else (dk0, (wholeR d).2)
theorem c_dkSync (d : Dk) : PSpec Try.prog 18 [.agg (dkC d)] (dkT (syncR d)) := by
  have h := c_dkWhole d
  unfold syncR
  generalize wholeR d = r at h
  refine v_pspec Try.func18 rfl Try.ntmps18 Try.results18 (by simp) (by first | exact .s _ | repeat constructor) ?_
  repeat' (first
 | (with_reducible first | apply qz0 | (refine h0 _ _ ?_; clear h0 hw) | (refine hw _ _ _ ?_; clear h0 hw) | apply qz1 | apply qz2 | apply qz5 | apply qz6 | (refine hL _ ?_; clear hL))
 | (with_reducible first | refine w_reg (by decide +kernel) fun K1 hK => ?_ )
 | with_reducible refine go_seq ?_
 | ((with_reducible first | apply v_op Try.tab | apply v_op0 Try.tab) <;> first | (intro K' h0 hw; conv => whnf) | (simp only [Nat.reduceAdd, Nat.reduceMul]; rfl))
 | ((with_reducible apply v_nil); (case hm => (simp only [Nat.reduceAdd, Nat.reduceMul]; rfl)); (case' h => with_reducible refine hK _ ?_; clear hK))
 | ((with_reducible refine callV_id (f := 63) ?_); (with_reducible apply callV_f own63 (h)); (case hx => rfl); (case he => rfl); (case hle => first | ((repeat constructor); done) ); (case hpu => repeat constructor); (case' hK => conv => whnf))
 | ((with_reducible apply go_cond); (case hb => rfl))
 | ((with_reducible first | refine w_ret Try.tab fun K' hL => ?_ ); (conv => whnf))
 | ((with_reducible apply And.intro); (case' right => try (conv => whnf)); (case' left => try first | rfl | decide | (simp; done) ))
 | (first  | intro g1; try simp at g1))
  all_goals first | (rw [if_pos (by assumption)]; simp; done) | (rw [if_neg (by assumption)]; simp [dk0]; done)
def crashR (d : Dk) (keep : Int) : Dk × Int := if dkE d = 0 then (if keep < 0 then (dk0, 3) else (⟨d.data.extract 0 (d.sync + min keep (d.data.size - d.sync)).toNat, d.sync⟩, 0)) else (dk0, dkE d)
theorem dk_sync {d : Dk} (h : dkE d = 0) : 0 ≤ d.sync ∧ d.sync ≤ d.data.size ∧ d.data.size ≤ 2000 := by
  obtain ⟨h1, l, h2, h3, h4⟩ := readR_ok h
  have := (diskL_end _ _ _ _ _ (Nat.zero_le _) h2).2.2 d.sync h3
  omega
theorem c_dkCrash (d : Dk) (keep : Int) : PSpec Try.prog 19 [.agg (dkC d), I keep] (dkT (crashR d keep)) := by
  have h := c_dkCheck d
  by_cases c : dkE d = 0
  · obtain ⟨h1, h2, h3⟩ := dk_sync c
    rw [crashR, if_pos c]
    rw [c] at h
    by_cases hk : keep < 0
    · rw [if_pos hk]
      refine v_pspec Try.func19 rfl Try.ntmps19 Try.results19 (by simp) (by first | exact .s _ | repeat constructor) ?_
      repeat' (first
 | (with_reducible first | apply qz0 | (refine h0 _ _ ?_; clear h0 hw) | (refine hw _ _ _ ?_; clear h0 hw) | apply qz1 | apply qz2 | apply qz5 | apply qz6 | (refine hL _ ?_; clear hL))
 | (with_reducible first | refine w_reg (by decide +kernel) fun K1 hK => ?_ | refine w_reg_end (by decide +kernel) fun K1 hK => ?_)
 | with_reducible refine go_seq ?_
 | ((with_reducible first | apply v_op Try.tab | apply v_op0 Try.tab) <;> first | (intro K' h0 hw; conv => whnf) | (simp only [Nat.reduceAdd, Nat.reduceMul]; rfl))
 | ((with_reducible apply v_nil); (case hm => (simp only [Nat.reduceAdd, Nat.reduceMul]; rfl)); (case' h => with_reducible refine hK _ ?_; clear hK))
 | (first | refine v_grd_yes (by rfl) (by rfl) ?_)
 | ((with_reducible refine callV_id (f := 13) ?_); (with_reducible apply callV_f own13 (h)); (case hx => rfl); (case he => rfl); (case hle => first | ((repeat constructor); done) ); (case hpu => repeat constructor); (case' hK => conv => whnf))
 | ((with_reducible apply go_cond); (case hb => rfl))
 | ((with_reducible first | refine w_ret Try.tab fun K' hL => ?_ ); (conv => whnf))
 | ((with_reducible apply And.intro); (case' right => try (conv => whnf)); (case' left => try first | rfl | decide | (simp; done) | (simp (disch := omega) only [wrp]; omega) ))
 | (first  | intro g1; try simp at g1))
      all_goals first | (exfalso; omega) | (simp [dk0]; done)
    · rw [if_neg hk]
      have w1 := wrp (n := (d.data.size : Int) - d.sync) (by omega) (by omega)
      have hmi : minI keep ((d.data.size : Int) - d.sync) = min keep ((d.data.size : Int) - d.sync) := by unfold minI; split <;> omega
      have w2 := wrp (n := d.sync + min keep ((d.data.size : Int) - d.sync)) (by omega) (by omega)
      refine v_pspec Try.func19 rfl Try.ntmps19 Try.results19 (by simp) (by first | exact .s _ | repeat constructor) ?_
      repeat' (first
 | (with_reducible first | apply qz0 | (refine h0 _ _ ?_; clear h0 hw) | (refine hw _ _ _ ?_; clear h0 hw) | apply qz1 | apply qz2 | apply qz5 | apply qz6 | (refine hL _ ?_; clear hL))
 | (with_reducible first | refine w_reg (by decide +kernel) fun K1 hK => ?_ | refine w_reg_end (by decide +kernel) fun K1 hK => ?_)
 | with_reducible refine go_seq ?_
 | ((with_reducible first | apply v_op Try.tab | apply v_op0 Try.tab) <;> first | (intro K' h0 hw; conv => whnf) | (simp only [Nat.reduceAdd, Nat.reduceMul]; rfl))
 | ((with_reducible apply v_nil); (case hm => (simp only [Nat.reduceAdd, Nat.reduceMul]; rfl)); (case' h => with_reducible refine hK _ ?_; clear hK))
 | (first | refine v_grd_yes (by rfl) (by rfl) ?_)
 | ((with_reducible refine callV_id (f := 13) ?_); (with_reducible apply callV_f own13 (h)); (case hx => rfl); (case he => rfl); (case hle => first | ((repeat constructor); done) ); (case hpu => repeat constructor); (case' hK => conv => whnf))
 | ((with_reducible apply go_cond); (case hb => rfl))
 | ((with_reducible first | refine w_ret Try.tab fun K' hL => ?_ ); (conv => whnf))
 | ((with_reducible apply And.intro); (case' right => try (conv => whnf)); (case' left => try first | rfl | decide | (simp [w1, hmi, w2]; done) | (simp (disch := omega) only [wrp]; omega) ))
 | ((with_reducible apply Side.mk); (try simp (disch := omega) only [wrp]); (try simp); (try simp (disch := omega) only [wrp]); (try omega))
 | (first  | intro g1; try simp at g1))
      all_goals first | (exfalso; omega) | (rw [w1, hmi, w2]; omega) | (simp [w1, hmi, w2]; done)
  · rw [crashR, if_neg c]
    refine v_pspec Try.func19 rfl Try.ntmps19 Try.results19 (by simp) (by first | exact .s _ | repeat constructor) ?_
    repeat' (first
 | (with_reducible first | apply qz0 | (refine h0 _ _ ?_; clear h0 hw) | (refine hw _ _ _ ?_; clear h0 hw) | apply qz1 | apply qz2 | apply qz5 | apply qz6 | (refine hL _ ?_; clear hL))
 | (with_reducible first | refine w_reg (by decide +kernel) fun K1 hK => ?_ | refine w_reg_end (by decide +kernel) fun K1 hK => ?_)
 | with_reducible refine go_seq ?_
 | ((with_reducible first | apply v_op Try.tab | apply v_op0 Try.tab) <;> first | (intro K' h0 hw; conv => whnf) | (simp only [Nat.reduceAdd, Nat.reduceMul]; rfl))
 | ((with_reducible apply v_nil); (case hm => (simp only [Nat.reduceAdd, Nat.reduceMul]; rfl)); (case' h => with_reducible refine hK _ ?_; clear hK))
 | (first | refine v_grd_yes (by rfl) (by rfl) ?_)
 | ((first | (apply v_grd_no; (case hg => rfl); (case hb => rfl)) | (apply v_grd; (case hg => rfl); (case hb => rfl))); (case hi => (simp only [Nat.reduceAdd, Nat.reduceMul]; rfl)))
 | ((with_reducible refine callV_id (f := 13) ?_); (with_reducible apply callV_f own13 (h)); (case hx => rfl); (case he => rfl); (case hle => first | ((repeat constructor); done) ); (case hpu => repeat constructor); (case' hK => conv => whnf))
 | ((with_reducible apply go_cond); (case hb => rfl))
 | ((with_reducible first | refine w_ret Try.tab fun K' hL => ?_ ); (conv => whnf))
 | ((with_reducible apply And.intro); (case' right => try (conv => whnf)); (case' left => try first | rfl | decide | (simp; done) | (simp (disch := omega) only [wrp]; omega) ))
 | (first  | intro g1; try simp at g1))
    all_goals first | (exfalso; omega) | (exfalso; exact absurd (by assumption) c) | (simp [dk0]; done)
end Go.Proofs.Ytbhcjgobapnajaa

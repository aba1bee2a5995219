/- Walks of the document's disks: DiskOf. No condition. -/
import Derived.Test.YtbhcjgobapnajaaDisk10
namespace Go.Proofs.Ytbhcjgobapnajaa
open Go Go.Sy
set_option maxRecDepth 4000
set_option linter.unusedSimpArgs false
set_option linter.unusedVariables false
attribute [local irreducible] Reg RegD Later Out CallV YieldV Tri Side EqV
theorem encE_zero (n : Int) (g : List Fr) : encE n g = 0 ↔ (0 ≤ n ∧ n ≤ 100000) ∧ groupE g = 0 := by
  unfold encE
  split
  · simp; omega
  · exact ⟨fun h => ⟨by omega, h⟩, fun h => h.2⟩
theorem gaR_ok {s : ByteArray} (h : (oneX s).2 = true) : gaR s = ((oneX s).1.n, (oneX s).1.g, true) := by
  unfold oneX gaR at *
  split
  · rename_i h5
    split at h
    · cases h
    · rename_i h4
      first | cases h | (rw [if_pos h5] at h; cases h)
  · rename_i h5
    rw [if_neg (by omega), if_neg h5] at h
    rw [if_neg (by omega)]
    simp only [Bool.and_eq_true, decide_eq_true_eq] at h
    obtain ⟨⟨h1, h2⟩, h3⟩ := h
    rw [h1]
    have : encE (num s 0 4) (rdFrames s (at1 s 4) 5 true).1 = 0 := (encE_zero _ _).2 ⟨⟨by omega, by omega⟩, h3⟩
    simp [this]
theorem gaR_no {s : ByteArray} (h : (oneX s).2 = false) : (gaR s).2.2 = false := by
  cases hq : (gaR s).2.2 with
  | false => rfl
  | true =>
    exfalso
    unfold oneX gaR at *
    by_cases h5 : s.size < 5
    · rw [if_pos h5] at hq; cases hq
    · rw [if_neg h5] at hq
      rw [if_neg (by omega), if_neg h5] at h
      cases hr : (rdFrames s (at1 s 4) 5 true).2 with
      | none => rw [hr] at hq; cases hq
      | some e =>
        rw [hr] at hq h
        simp only [Bool.and_eq_true, decide_eq_true_eq] at hq
        obtain ⟨h1, h2⟩ := hq
        obtain ⟨h3, h4⟩ := (encE_zero _ _).1 h2
        subst h1
        have h6 : num s 0 4 ≤ 100000 := by omega
        simp [h4, h6] at h
def doR (d : Dk) : (List Int × List (List Fr) × List Int) × Int := if 2000 < d.data.size then (([], [], []), 2) else match diskL d.data d.data.size 0 none with
  | none => (([], [], []), 1)
  | some l => ((l.map (·.n), gsOf l, endsL 0 l), 0)
abbrev doT (r : (List Int × List (List Fr) × List Int) × Int) : AV := .tup [.sl 1 (rowN r.1.1), grs r.1.2.1, .sl 1 (rowN r.1.2.2), I r.2]
theorem endR_snoc : ∀ (o : Int) (l : List Rc) (r : Rc), endR o (l ++ [r]) = endR o l + r.bytes
  | o, [], r => rfl
  | o, x :: l, r => by rw [List.cons_append, endR, endR, endR_snoc (o + x.bytes) l r]
theorem endsL_snoc : ∀ (o : Int) (l : List Rc) (r : Rc), endsL o (l ++ [r]) = endsL o l ++ [endR o l + r.bytes]
  | o, [], r => rfl
  | o, x :: l, r => by rw [List.cons_append, endsL, endsL, endR, endsL_snoc (o + x.bytes) l r]; rfl
structure DI (d : Dk) (x : Nat × List Rc) : Prop where
  o : x.1 ≤ d.data.size
  e : endR 0 x.2 = x.1
  n : 2 * x.2.length ≤ x.1
  b : ∀ y ∈ x.2, 0 ≤ y.n ∧ y.n ≤ 100000
  rest : ∃ f, d.data.size ≤ f + x.1 ∧ ∃ R, diskL d.data f x.1 (lastN x.2) = R ∧ diskL d.data d.data.size 0 none = R.map fun m => x.2 ++ m
set_option maxHeartbeats 8000000 in
theorem c_diskOf (d : Dk) : PSpec Try.prog 64 [.agg (dkC d)] (doT (doR d)) := by
  by_cases hz : 2000 < d.data.size
  · have e : doR d = (([], [], []), 2) := if_pos hz
    rw [e]
    refine v_pspec Try.func64 rfl Try.ntmps64 Try.results64 (by simp) (by first | exact .s _ | repeat constructor) ?_
    repeat' (first
 | (with_reducible first | apply qz0 | (refine h0 _ _ ?_; clear h0 hw) | (refine hw _ _ _ ?_; clear h0 hw) | apply qz1 | apply qz2 | apply qz3 | apply qz4 | apply qz5 | apply qz6 | apply qz7 | apply qz8 | apply qz9 | apply qza | apply qzb | apply qzc | apply qzd | apply qze | (refine hL _ ?_; clear hL))
 | (with_reducible first | refine w_reg (by decide +kernel) fun K1 hK => ?_ | refine w_reg_end (by decide +kernel) fun K1 hK => ?_)
 | ((with_reducible first | apply d_reg Try.mix (by decide +kernel) | apply d_reg_end Try.mix (by decide +kernel)); (case hm => simp only [List.length_cons, List.length_nil, Nat.reduceAdd, Nat.reduceMul]; rfl); (case' h => intro K1 hK))
 | with_reducible refine go_seq ?_
 | ((with_reducible first | apply v_op Try.tab | apply v_op0 Try.tab | apply d_op Try.tab | apply d_op0 Try.tab) <;> first | (intro K' h0 hw; conv => whnf) | (simp only [Nat.reduceAdd, Nat.reduceMul]; rfl))
 | ((with_reducible apply v_nil); (case hm => (simp only [Nat.reduceAdd, Nat.reduceMul]; rfl)); (case' h => with_reducible refine hK _ ?_; clear hK))
 | ((with_reducible apply d_nil); (refine hK _ _ _ _ (by first | decide +kernel | (simp only [List.map_cons, List.map_nil, List.nil_append, List.cons_append]; decide +kernel) | rfl) ?_; clear hK))
 | (first | refine d_grd_yes (by rfl) (by rfl) ?_ | refine v_grd_yes (by rfl) (by rfl) ?_)
 | ((first | (apply d_grd_no; (case hg => rfl); (case hb => rfl)) | (apply d_grd_undef; (case hg => rfl); (case hb => rfl)) | (apply d_grd; (case hg => rfl); (case hb => rfl)) | (apply v_grd_no; (case hg => rfl); (case hb => rfl)) | (apply v_grd_undef; (case hg => rfl); (case hb => rfl)) | (apply v_grd; (case hg => rfl); (case hb => rfl))); (case hi => (simp only [Nat.reduceAdd, Nat.reduceMul]; rfl)))
 | ((with_reducible apply go_cond); (case hb => rfl))
 | ((with_reducible apply out_block_there); (case hne => rfl))
 | ((with_reducible first | refine w_ret Try.tab fun K' hL => ?_ | refine w_ret_end Try.tab fun K' hL => ?_); (conv => whnf))
 | ((with_reducible apply And.intro); (case' right => try (conv => whnf)); (case' left => try first | rfl | decide | (simp; done) | (simp (disch := omega) only [wrp]; omega) | (simp (disch := omega) [wrp]; (try omega); done)))
 | ((with_reducible apply Side.mk); (try simp (disch := omega) only [wrp]); (try simp); (try simp (disch := omega) only [wrp]); (try omega))
 | ((with_reducible apply all_rk); (case hx => with_reducible assumption); (conv => whnf))
 | ((with_reducible refine all_row ?_); (first  | intro x1 hx1); conv => whnf)
 | (first  | intro g1; try simp at g1))
    all_goals first | (exfalso; omega) | (simp; done)
  refine v_pspec Try.func64 rfl Try.ntmps64 Try.results64 (by simp) (by first | exact .s _ | repeat constructor) ?_
  repeat' (first
 | ((with_reducible apply w_ownNil 6 3 1); (case hs => rfl); (case hsz => decide); (case hm => (try simp only [Nat.reduceAdd, Nat.reduceMul]); exact rfl))
 | ((with_reducible apply w_ownNil 7 30 1); (case hs => rfl); (case hsz => decide); (case hm => (try simp only [Nat.reduceAdd, Nat.reduceMul]); exact rfl))
 | (with_reducible first | apply qz0 | (refine h0 _ _ ?_; clear h0 hw) | (refine hw _ _ _ ?_; clear h0 hw) | apply qz1 | apply qz2 | apply qz3 | apply qz4 | apply qz5 | apply qz6 | apply qz7 | apply qz8 | apply qz9 | apply qza | apply qzb | apply qzc | apply qzd | apply qze | (refine hL _ ?_; clear hL))
 | (with_reducible first | refine w_reg (by decide +kernel) fun K1 hK => ?_ | refine w_reg_end (by decide +kernel) fun K1 hK => ?_)
 | ((with_reducible first | apply d_reg Try.mix (by decide +kernel) | apply d_reg_end Try.mix (by decide +kernel)); (case hm => simp only [List.length_cons, List.length_nil, Nat.reduceAdd, Nat.reduceMul]; rfl); (case' h => intro K1 hK))
 | with_reducible refine go_seq ?_
 | ((with_reducible first | apply v_op Try.tab | apply v_op0 Try.tab | apply d_op Try.tab | apply d_op0 Try.tab) <;> first | (intro K' h0 hw; conv => whnf) | (simp only [Nat.reduceAdd, Nat.reduceMul]; rfl))
 | ((with_reducible apply v_nil); (case hm => (simp only [Nat.reduceAdd, Nat.reduceMul]; rfl)); (case' h => with_reducible refine hK _ ?_; clear hK))
 | ((with_reducible apply d_nil); (refine hK _ _ _ _ (by first | decide +kernel | (simp only [List.map_cons, List.map_nil, List.nil_append, List.cons_append]; decide +kernel) | rfl) ?_; clear hK))
 | (first | refine d_grd_yes (by rfl) (by rfl) ?_ | refine v_grd_yes (by rfl) (by rfl) ?_)
 | ((first | (apply d_grd_no; (case hg => rfl); (case hb => rfl)) | (apply d_grd_undef; (case hg => rfl); (case hb => rfl)) | (apply d_grd; (case hg => rfl); (case hb => rfl)) | (apply v_grd_no; (case hg => rfl); (case hb => rfl)) | (apply v_grd_undef; (case hg => rfl); (case hb => rfl)) | (apply v_grd; (case hg => rfl); (case hb => rfl))); (case hi => (simp only [Nat.reduceAdd, Nat.reduceMul]; rfl)))
 | ((with_reducible apply go_cond); (case hb => rfl))
 | ((with_reducible apply out_block_there); (case hne => rfl))
 | ((with_reducible first | refine w_ret Try.tab fun K' hL => ?_ | refine w_ret_end Try.tab fun K' hL => ?_); (conv => whnf))
 | ((with_reducible apply And.intro); (case' right => try (conv => whnf)); (case' left => try first | rfl | decide | (simp; done) | (simp (disch := omega) only [wrp]; omega) | (simp (disch := omega) [wrp]; (try omega); done)))
 | ((with_reducible apply Side.mk); (try simp (disch := omega) only [wrp]); (try simp); (try simp (disch := omega) only [wrp]); (try omega))
 | ((with_reducible apply all_rk); (case hx => with_reducible assumption); (conv => whnf))
 | ((with_reducible refine all_row ?_); (first  | intro x1 hx1); conv => whnf)
 | (first  | intro g1; try simp at g1))
  · exfalso; omega
  obtain ⟨T, hT⟩ : ∃ T, diskL d.data d.data.size 0 none = T := ⟨_, rfl⟩
  refine w_loop (X := Nat × List Rc) (6 :: 7 :: 8 :: [2, 3, 4, 5, 6, 7, 8, 9, 10, 11, 12, 13, 19, 20, 21, 22, 23, 24, 25, 26, 27, 28, 29, 30, 31, 32, 33, 34, 35, 36, 37, 38, 39, 40, 41, 42, 43, 44, 45, 46, 47, 48, 49, 50, 51, 52, 53, 54, 55, 56, 57, 58, 59, 60, 61, 62, 63, 64, 65, 66, 67, 68, 69, 70, 71, 72, 73, 74, 75, 76, 77, 78, 79, 80, 81, 82, 83, 84]) (fun x => [(9, I x.1), (6, .osl 96 1 (rowN (x.2.map (·.n)))), (7, .osl 128 1 (rowG (gsOf x.2))), (8, .osl 144 1 (rowN (endsL 0 x.2)))]) (fun x => [(96, .perm 3 1 (x.2.map (·.n)).length), (128, .perm 30 1 (gsOf x.2).length), (144, .perm 3 1 (endsL 0 x.2).length)]) (DI d) (fun x => d.data.size - x.1) (0, []) ?_ ?_ ?_
  · exact ⟨Nat.zero_le _, rfl, Nat.zero_le _, by simp, d.data.size, by simp, _, rfl, by simp only [lastN, List.getLast?_nil, Option.map_none, List.nil_append]; cases diskL d.data d.data.size 0 none <;> rfl⟩
  · refine ⟨kt_refl, ko_refl, ?_, ?_, ?_, ?_, Nat.le_refl _⟩ <;> simp [gsOf, endsL]
  rintro ⟨o, done⟩ ⟨i1, i2, i3, ib, f, i4, R, i5, i6⟩
  simp only at i1 i2 i3 ib i4 i5 i6
  have w1 := wrp (n := (d.data.size : Int) - o) (by omega) (by omega)
  have w2 : IntKind.i64.wrap (IntKind.i64.wrap ((d.data.size : Int) - o) - 2) = (d.data.size : Int) - o - 2 := by rw [w1]; exact wrp (by omega) (by omega)
  have hfin : R = some [] → doR d = ((done.map (·.n), gsOf done, endsL 0 done), 0) := fun h => by
    rw [doR, if_neg hz, i6, h]
    simp
  by_cases c1 : d.data.size < o + 2
  · have hR : R = some [] := by
      rw [← i5]
      cases f with
      | zero => rfl
      | succ f => rw [diskL, if_pos c1]
    rw [hfin hR]
    repeat' (first
 | (with_reducible first | apply qz0 | (refine h0 _ _ ?_; clear h0 hw) | (refine hw _ _ _ ?_; clear h0 hw) | apply qz1 | apply qz2 | apply qz3 | apply qz4 | apply qz5 | apply qz6 | apply qz7 | apply qz8 | apply qz9 | apply qza | apply qzb | apply qzc | apply qzd | apply qze | (refine hL _ ?_; clear hL))
 | (with_reducible first | refine w_reg (by decide +kernel) fun K1 hK => ?_ | refine w_reg_end (by decide +kernel) fun K1 hK => ?_)
 | ((with_reducible first | apply d_reg Try.mix (by decide +kernel) | apply d_reg_end Try.mix (by decide +kernel)); (case hm => simp only [List.length_cons, List.length_nil, Nat.reduceAdd, Nat.reduceMul]; rfl); (case' h => intro K1 hK))
 | with_reducible refine go_seq ?_
 | ((with_reducible first | apply v_op Try.tab | apply v_op0 Try.tab | apply d_op Try.tab | apply d_op0 Try.tab) <;> first | (intro K' h0 hw; conv => whnf) | (simp only [Nat.reduceAdd, Nat.reduceMul]; rfl))
 | ((with_reducible apply v_nil); (case hm => (simp only [Nat.reduceAdd, Nat.reduceMul]; rfl)); (case' h => with_reducible refine hK _ ?_; clear hK))
 | ((with_reducible apply d_nil); (refine hK _ _ _ _ (by first | decide +kernel | (simp only [List.map_cons, List.map_nil, List.nil_append, List.cons_append]; decide +kernel) | rfl) ?_; clear hK))
 | (first | refine d_grd_yes (by rfl) (by rfl) ?_ | refine v_grd_yes (by rfl) (by rfl) ?_)
 | ((first | (apply d_grd_no; (case hg => rfl); (case hb => rfl)) | (apply d_grd_undef; (case hg => rfl); (case hb => rfl)) | (apply d_grd; (case hg => rfl); (case hb => rfl)) | (apply v_grd_no; (case hg => rfl); (case hb => rfl)) | (apply v_grd_undef; (case hg => rfl); (case hb => rfl)) | (apply v_grd; (case hg => rfl); (case hb => rfl))); (case hi => (simp only [Nat.reduceAdd, Nat.reduceMul]; rfl)))
 | ((with_reducible apply go_cond); (case hb => rfl))
 | ((with_reducible apply out_block_there); (case hne => rfl))
 | ((with_reducible first | refine w_ret Try.tab fun K' hL => ?_ | refine w_ret_end Try.tab fun K' hL => ?_); (conv => whnf))
 | ((with_reducible apply And.intro); (case' right => try (conv => whnf)); (case' left => try first | rfl | decide | (simp [w1, w2]; done) | (simp (disch := omega) only [wrp]; omega) | (simp (disch := omega) [w1, w2, wrp]; (try omega); done)))
 | ((with_reducible apply Side.mk); (try simp (disch := omega) only [wrp]); (try simp); (try simp (disch := omega) only [wrp]); (try omega))
 | ((with_reducible apply all_rk); (case hx => with_reducible assumption); (conv => whnf))
 | ((with_reducible refine all_row ?_); (first  | intro x1 hx1); conv => whnf)
 | (first  | intro g1; try simp at g1))
    all_goals (try (exfalso; omega))
    all_goals (simp; done)
  have hN := c_numberAt2 d.data o 2 (by omega) (by omega) (by omega)
  rw [num_def] at hN
  obtain ⟨f, rfl⟩ : ∃ f', f = f' + 1 := ⟨f - 1, by omega⟩
  rw [diskL, if_neg c1] at i5
  by_cases c2 : d.data.size < o + 2 + num d.data o 2
  · rw [if_pos c2] at i5
    rw [hfin i5.symm]
    repeat' (first
 | (with_reducible first | apply qz0 | (refine h0 _ _ ?_; clear h0 hw) | (refine hw _ _ _ ?_; clear h0 hw) | apply qz1 | apply qz2 | apply qz3 | apply qz4 | apply qz5 | apply qz6 | apply qz7 | apply qz8 | apply qz9 | apply qza | apply qzb | apply qzc | apply qzd | apply qze | (refine hL _ ?_; clear hL))
 | (with_reducible first | refine w_reg (by decide +kernel) fun K1 hK => ?_ | refine w_reg_end (by decide +kernel) fun K1 hK => ?_)
 | ((with_reducible first | apply d_reg Try.mix (by decide +kernel) | apply d_reg_end Try.mix (by decide +kernel)); (case hm => simp only [List.length_cons, List.length_nil, Nat.reduceAdd, Nat.reduceMul]; rfl); (case' h => intro K1 hK))
 | with_reducible refine go_seq ?_
 | ((with_reducible first | apply v_op Try.tab | apply v_op0 Try.tab | apply d_op Try.tab | apply d_op0 Try.tab) <;> first | (intro K' h0 hw; conv => whnf) | (simp only [Nat.reduceAdd, Nat.reduceMul]; rfl))
 | ((with_reducible apply v_nil); (case hm => (simp only [Nat.reduceAdd, Nat.reduceMul]; rfl)); (case' h => with_reducible refine hK _ ?_; clear hK))
 | ((with_reducible apply d_nil); (refine hK _ _ _ _ (by first | decide +kernel | (simp only [List.map_cons, List.map_nil, List.nil_append, List.cons_append]; decide +kernel) | rfl) ?_; clear hK))
 | (first | refine d_grd_yes (by rfl) (by rfl) ?_ | refine v_grd_yes (by rfl) (by rfl) ?_)
 | ((first | (apply d_grd_no; (case hg => rfl); (case hb => rfl)) | (apply d_grd_undef; (case hg => rfl); (case hb => rfl)) | (apply d_grd; (case hg => rfl); (case hb => rfl)) | (apply v_grd_no; (case hg => rfl); (case hb => rfl)) | (apply v_grd_undef; (case hg => rfl); (case hb => rfl)) | (apply v_grd; (case hg => rfl); (case hb => rfl))); (case hi => (simp only [Nat.reduceAdd, Nat.reduceMul]; rfl)))
 | ((with_reducible refine callV_id (f := 119) ?_); (with_reducible apply callV_f own119 (hN)); (case hx => rfl); (case he => rfl); (case hle => first | ((repeat constructor); done) | (simp [w1, w2]; done)); (case hpu => repeat constructor); (case' hK => conv => whnf))
 | ((with_reducible apply go_cond); (case hb => rfl))
 | ((with_reducible apply out_block_there); (case hne => rfl))
 | ((with_reducible first | refine w_ret Try.tab fun K' hL => ?_ | refine w_ret_end Try.tab fun K' hL => ?_); (conv => whnf))
 | ((with_reducible apply And.intro); (case' right => try (conv => whnf)); (case' left => try first | rfl | decide | (simp [w1, w2]; done) | (simp (disch := omega) only [wrp]; omega) | (simp (disch := omega) [w1, w2, wrp]; (try omega); done)))
 | ((with_reducible apply Side.mk); (try simp (disch := omega) only [wrp]); (try simp); (try simp (disch := omega) only [wrp]); (try omega))
 | ((with_reducible apply all_rk); (case hx => with_reducible assumption); (conv => whnf))
 | ((with_reducible refine all_row ?_); (first  | intro x1 hx1); conv => whnf)
 | (first  | intro g1; try simp at g1))
    all_goals (try (exfalso; omega))
    all_goals (simp; done)
  rw [if_neg c2] at i5
  have w3 : IntKind.i64.wrap ((o : Int) + 2) = ((o + 2 : Nat) : Int) := by rw [wrp (by omega) (by omega)]; omega
  have w4 : IntKind.i64.wrap (IntKind.i64.wrap ((o : Int) + 2) + (num d.data o 2 : Nat)) = ((o + 2 + num d.data o 2 : Nat) : Int) := by rw [w3, wrp (by omega) (by omega)]; omega
  have e1 : (IntKind.i64.wrap ((o : Int) + 2)).toNat = o + 2 := by rw [w3, Int.toNat_natCast]
  have e2 : (IntKind.i64.wrap (IntKind.i64.wrap ((o : Int) + 2) + (num d.data o 2 : Nat))).toNat = o + 2 + num d.data o 2 := by rw [w4, Int.toNat_natCast]
  obtain ⟨m, hm⟩ : ∃ m, mid d.data (o + 2) (num d.data o 2) = m := ⟨_, rfl⟩
  rw [hm] at i5
  have hx : d.data.extract (o + 2) (o + 2 + num d.data o 2) = m := hm
  have hms : m.size = num d.data o 2 := by rw [← hm]; exact mid_size (by omega)
  have hG := c_groupAt m (by omega)
  by_cases c3 : (oneX m).2 = true
  · rw [gaR_ok c3] at hG
    have hbt := oneX_bytes m
    have hn1 := oneX_n c3
    have hlen : (done.map (·.n)).length = done.length := List.length_map _
    have hel := endsL_len 0 done
    have hgl : (gsOf done).length = done.length := List.length_map _
    have hgood : goesB (lastN done) (oneX m).1.n = true → DI d (o + (2 + num d.data o 2), done ++ [(oneX m).1]) := fun hgo => by
      rw [if_pos (by rw [c3, hgo]; rfl)] at i5
      refine ⟨by simp only; omega, by simp only; rw [endR_snoc, i2, hbt, hms]; omega, by simp; omega, fun y hy => ?_, f, by simp only; omega, _, rfl, ?_⟩
      · rcases List.mem_append.1 hy with hy | hy
        · exact ib y hy
        · rw [List.mem_singleton.1 hy]; exact hn1
      · simp only [lastN, List.getLast?_concat, Option.map_some]
        rw [show o + (2 + num d.data o 2) = o + 2 + num d.data o 2 by omega, i6, ← i5]
        cases diskL d.data f (o + 2 + num d.data o 2) (some (oneX m).1.n) <;> simp
    cases hq : done.getLast? with
    | none =>
      obtain rfl : done = [] := List.getLast?_eq_none_iff.1 hq
      have hgo : goesB (lastN []) (oneX m).1.n = true := rfl
      repeat' (first
 | (with_reducible first | apply qz0 | (refine h0 _ _ ?_; clear h0 hw) | (refine hw _ _ _ ?_; clear h0 hw) | apply qz1 | apply qz2 | apply qz3 | apply qz4 | apply qz5 | apply qz6 | apply qz7 | apply qz8 | apply qz9 | apply qza | apply qzb | apply qzc | apply qzd | apply qze | (refine hL _ ?_; clear hL))
 | (with_reducible first | refine w_reg (by decide +kernel) fun K1 hK => ?_ | refine w_reg_end (by decide +kernel) fun K1 hK => ?_)
 | ((with_reducible first | apply d_reg Try.mix (by decide +kernel) | apply d_reg_end Try.mix (by decide +kernel)); (case hm => simp only [List.length_cons, List.length_nil, Nat.reduceAdd, Nat.reduceMul]; rfl); (case' h => intro K1 hK))
 | with_reducible refine go_seq ?_
 | ((with_reducible first | apply v_op Try.tab | apply v_op0 Try.tab | apply d_op Try.tab | apply d_op0 Try.tab) <;> first | (intro K' h0 hw; conv => whnf) | (simp only [Nat.reduceAdd, Nat.reduceMul]; rfl))
 | ((with_reducible apply v_nil); (case hm => (simp only [Nat.reduceAdd, Nat.reduceMul]; rfl)); (case' h => with_reducible refine hK _ ?_; clear hK))
 | ((with_reducible apply d_nil); (refine hK _ _ _ _ (by first | decide +kernel | (simp only [List.map_cons, List.map_nil, List.nil_append, List.cons_append]; decide +kernel) | rfl) ?_; clear hK))
 | (first | refine d_grd_yes (by rfl) (by rfl) ?_ | refine v_grd_yes (by rfl) (by rfl) ?_)
 | ((first | (apply d_grd_no; (case hg => rfl); (case hb => rfl)) | (apply d_grd_undef; (case hg => rfl); (case hb => rfl)) | (apply d_grd; (case hg => rfl); (case hb => rfl)) | (apply v_grd_no; (case hg => rfl); (case hb => rfl)) | (apply v_grd_undef; (case hg => rfl); (case hb => rfl)) | (apply v_grd; (case hg => rfl); (case hb => rfl))); (case hi => (simp only [Nat.reduceAdd, Nat.reduceMul]; rfl)))
 | ((with_reducible refine callV_id (f := 119) ?_); (with_reducible apply callV_f own119 (hN)); (case hx => rfl); (case he => rfl); (case hle => first | ((repeat constructor); done) | (simp [e1, e2, hx]; done)); (case hpu => repeat constructor); (case' hK => conv => whnf))
 | ((with_reducible refine callV_id (f := 120) ?_); (with_reducible apply callV_f own120 (hG)); (case hx => rfl); (case he => rfl); (case hle => first | ((repeat constructor); done) | (simp [e1, e2, hx]; done)); (case hpu => repeat constructor); (case' hK => conv => whnf))
 | ((with_reducible apply go_cond); (case hb => rfl))
 | ((with_reducible apply out_block_there); (case hne => rfl))
 | ((with_reducible first | refine w_ret Try.tab fun K' hL => ?_ | refine w_ret_end Try.tab fun K' hL => ?_); (conv => whnf))
 | ((with_reducible apply And.intro); (case' right => try (conv => whnf)); (case' left => try first | rfl | decide | (simp [e1, e2, hx]; done) | (simp (disch := omega) only [wrp]; omega) | (simp (disch := omega) [e1, e2, hx, wrp]; (try omega); done)))
 | ((with_reducible apply Side.mk); (try simp (disch := omega) only [wrp]); (try simp); (try simp (disch := omega) only [wrp]); (try omega))
 | ((with_reducible apply all_rk); (case hx => with_reducible assumption); (conv => whnf))
 | ((with_reducible refine all_row ?_); (first  | intro x1 hx1); conv => whnf)
 | (first  | intro g1; try simp at g1))
      all_goals (try (exfalso; omega))
      refine w_nx (ko := ?ko) (o + (2 + num d.data o 2), [(oneX m).1]) ?_ ?_ ?_ ?_ ?_ ?_
      case ko => repeat (first | (with_reducible exact ko_refl) | ((with_reducible refine ko_wos ?_ ?_); focus (simp; done)) | ((with_reducible refine ko_wo ?_ ?_); focus (simp; done)) | ((with_reducible refine ko_wor4 ?_ ?_); focus (simp; done)))
      case refine_1 => simp
      case refine_2 => simp
      case refine_3 => simp (disch := omega) [wrp, gsOf, endsL, endR, hbt, hms]; have : (0 : Int) = o := i2; omega
      case refine_4 => simp [gsOf, endsL]
      case refine_5 => simp only; omega
      exact hgood hgo
    | some y =>
      have hpos : 0 < done.length := by
        rcases Nat.eq_zero_or_pos done.length with h | h
        · rw [List.length_eq_zero_iff.1 h] at hq; cases hq
        · exact h
      have hyn := ib y (List.mem_of_getLast? hq)
      have w5 := wrp (n := y.n + 1) (by omega) (by omega)
      have hne : ¬ done = [] := fun h => by rw [h] at hpos; simp at hpos
      have hyi := last_row (E := done.map (·.n)) (e := y.n) (by rw [List.getLast?_map, hq]; rfl) (by omega)
      by_cases hgo : (oneX m).1.n = y.n + 1
      · have hgo0 := hgo
        have hgo : goesB (lastN done) (oneX m).1.n = true := by simp [lastN, hq, goesB, hgo]
        repeat' (first
 | ((with_reducible refine all_row ?_); intro z hz; obtain rfl : y.n = z := Option.some.inj (hyi.symm.trans hz); conv => whnf)
 | (with_reducible first | apply qz0 | (refine h0 _ _ ?_; clear h0 hw) | (refine hw _ _ _ ?_; clear h0 hw) | apply qz1 | apply qz2 | apply qz3 | apply qz4 | apply qz5 | apply qz6 | apply qz7 | apply qz8 | apply qz9 | apply qza | apply qzb | apply qzc | apply qzd | apply qze | (refine hL _ ?_; clear hL))
 | (with_reducible first | refine w_reg (by decide +kernel) fun K1 hK => ?_ | refine w_reg_end (by decide +kernel) fun K1 hK => ?_)
 | ((with_reducible first | apply d_reg Try.mix (by decide +kernel) | apply d_reg_end Try.mix (by decide +kernel)); (case hm => simp only [List.length_cons, List.length_nil, Nat.reduceAdd, Nat.reduceMul]; rfl); (case' h => intro K1 hK))
 | with_reducible refine go_seq ?_
 | ((with_reducible first | apply v_op Try.tab | apply v_op0 Try.tab | apply d_op Try.tab | apply d_op0 Try.tab) <;> first | (intro K' h0 hw; conv => whnf) | (simp only [Nat.reduceAdd, Nat.reduceMul]; rfl))
 | ((with_reducible apply v_nil); (case hm => (simp only [Nat.reduceAdd, Nat.reduceMul]; rfl)); (case' h => with_reducible refine hK _ ?_; clear hK))
 | ((with_reducible apply d_nil); (refine hK _ _ _ _ (by first | decide +kernel | (simp only [List.map_cons, List.map_nil, List.nil_append, List.cons_append]; decide +kernel) | rfl) ?_; clear hK))
 | (first | refine d_grd_yes (by rfl) (by rfl) ?_ | refine v_grd_yes (by rfl) (by rfl) ?_)
 | ((first | (apply d_grd_no; (case hg => rfl); (case hb => rfl)) | (apply d_grd_undef; (case hg => rfl); (case hb => rfl)) | (apply d_grd; (case hg => rfl); (case hb => rfl)) | (apply v_grd_no; (case hg => rfl); (case hb => rfl)) | (apply v_grd_undef; (case hg => rfl); (case hb => rfl)) | (apply v_grd; (case hg => rfl); (case hb => rfl))); (case hi => (simp only [Nat.reduceAdd, Nat.reduceMul]; rfl)))
 | ((with_reducible refine callV_id (f := 119) ?_); (with_reducible apply callV_f own119 (hN)); (case hx => rfl); (case he => rfl); (case hle => first | ((repeat constructor); done) | (simp [e1, e2, hx]; done)); (case hpu => repeat constructor); (case' hK => conv => whnf))
 | ((with_reducible refine callV_id (f := 120) ?_); (with_reducible apply callV_f own120 (hG)); (case hx => rfl); (case he => rfl); (case hle => first | ((repeat constructor); done) | (simp [e1, e2, hx]; done)); (case hpu => repeat constructor); (case' hK => conv => whnf))
 | ((with_reducible apply go_cond); (case hb => rfl))
 | ((with_reducible apply out_block_there); (case hne => rfl))
 | ((with_reducible first | refine w_ret Try.tab fun K' hL => ?_ | refine w_ret_end Try.tab fun K' hL => ?_); (conv => whnf))
 | ((with_reducible apply And.intro); (case' right => try (conv => whnf)); (case' left => try first | rfl | decide | (simp [e1, e2, hx]; done) | (simp (disch := omega) only [wrp]; omega) | (simp (disch := omega) [e1, e2, hx, wrp]; (try omega); done)))
 | ((with_reducible apply Side.mk); (try simp (disch := omega) only [wrp]); (try simp); (try simp (disch := omega) only [wrp]); (try omega))
 | ((with_reducible apply all_rk); (case hx => with_reducible assumption); (conv => whnf))
 | ((with_reducible refine all_row ?_); (first  | intro x1 hx1); conv => whnf)
 | (first  | intro g1; try simp at g1))
        all_goals (try (exfalso; omega))
        all_goals (try (exfalso; exact absurd (by assumption) hne))
        · refine w_nx (ko := ?ko) (o + (2 + num d.data o 2), done ++ [(oneX m).1]) ?_ ?_ ?_ ?_ ?_ ?_
          case ko => repeat (first | (with_reducible exact ko_refl) | ((with_reducible refine ko_wos ?_ ?_); focus (simp; done)) | ((with_reducible refine ko_wo ?_ ?_); focus (simp; done)) | ((with_reducible refine ko_wor4 ?_ ?_); focus (simp; done)))
          case refine_1 => simp
          case refine_2 => simp
          case refine_3 => simp (disch := omega) [wrp, gsOf, endsL_snoc, i2, hbt, hms]; omega
          case refine_4 => simp [gsOf, endsL_len]
          case refine_5 => simp only; omega
          exact hgood hgo
      · have hgo' : goesB (lastN done) (oneX m).1.n = false := by simp [lastN, hq, goesB, hgo]
        have hD : doR d = (([], [], []), 1) := by
          rw [doR, if_neg hz, i6, ← i5, if_neg (by simp [hgo'])]
          rfl
        rw [hD]
        repeat' (first
 | ((with_reducible refine all_row ?_); intro z hz; obtain rfl : y.n = z := Option.some.inj (hyi.symm.trans hz); conv => whnf)
 | (with_reducible first | apply qz0 | (refine h0 _ _ ?_; clear h0 hw) | (refine hw _ _ _ ?_; clear h0 hw) | apply qz1 | apply qz2 | apply qz3 | apply qz4 | apply qz5 | apply qz6 | apply qz7 | apply qz8 | apply qz9 | apply qza | apply qzb | apply qzc | apply qzd | apply qze | (refine hL _ ?_; clear hL))
 | (with_reducible first | refine w_reg (by decide +kernel) fun K1 hK => ?_ | refine w_reg_end (by decide +kernel) fun K1 hK => ?_)
 | ((with_reducible first | apply d_reg Try.mix (by decide +kernel) | apply d_reg_end Try.mix (by decide +kernel)); (case hm => simp only [List.length_cons, List.length_nil, Nat.reduceAdd, Nat.reduceMul]; rfl); (case' h => intro K1 hK))
 | with_reducible refine go_seq ?_
 | ((with_reducible first | apply v_op Try.tab | apply v_op0 Try.tab | apply d_op Try.tab | apply d_op0 Try.tab) <;> first | (intro K' h0 hw; conv => whnf) | (simp only [Nat.reduceAdd, Nat.reduceMul]; rfl))
 | ((with_reducible apply v_nil); (case hm => (simp only [Nat.reduceAdd, Nat.reduceMul]; rfl)); (case' h => with_reducible refine hK _ ?_; clear hK))
 | ((with_reducible apply d_nil); (refine hK _ _ _ _ (by first | decide +kernel | (simp only [List.map_cons, List.map_nil, List.nil_append, List.cons_append]; decide +kernel) | rfl) ?_; clear hK))
 | (first | refine d_grd_yes (by rfl) (by rfl) ?_ | refine v_grd_yes (by rfl) (by rfl) ?_)
 | ((first | (apply d_grd_no; (case hg => rfl); (case hb => rfl)) | (apply d_grd_undef; (case hg => rfl); (case hb => rfl)) | (apply d_grd; (case hg => rfl); (case hb => rfl)) | (apply v_grd_no; (case hg => rfl); (case hb => rfl)) | (apply v_grd_undef; (case hg => rfl); (case hb => rfl)) | (apply v_grd; (case hg => rfl); (case hb => rfl))); (case hi => (simp only [Nat.reduceAdd, Nat.reduceMul]; rfl)))
 | ((with_reducible refine callV_id (f := 119) ?_); (with_reducible apply callV_f own119 (hN)); (case hx => rfl); (case he => rfl); (case hle => first | ((repeat constructor); done) | (simp [e1, e2, hx]; done)); (case hpu => repeat constructor); (case' hK => conv => whnf))
 | ((with_reducible refine callV_id (f := 120) ?_); (with_reducible apply callV_f own120 (hG)); (case hx => rfl); (case he => rfl); (case hle => first | ((repeat constructor); done) | (simp [e1, e2, hx]; done)); (case hpu => repeat constructor); (case' hK => conv => whnf))
 | ((with_reducible apply go_cond); (case hb => rfl))
 | ((with_reducible apply out_block_there); (case hne => rfl))
 | ((with_reducible first | refine w_ret Try.tab fun K' hL => ?_ | refine w_ret_end Try.tab fun K' hL => ?_); (conv => whnf))
 | ((with_reducible apply And.intro); (case' right => try (conv => whnf)); (case' left => try first | rfl | decide | (simp [e1, e2, hx]; done) | (simp (disch := omega) only [wrp]; omega) | (simp (disch := omega) [e1, e2, hx, wrp]; (try omega); done)))
 | ((with_reducible apply Side.mk); (try simp (disch := omega) only [wrp]); (try simp); (try simp (disch := omega) only [wrp]); (try omega))
 | ((with_reducible apply all_rk); (case hx => with_reducible assumption); (conv => whnf))
 | ((with_reducible refine all_row ?_); (first  | intro x1 hx1); conv => whnf)
 | (first  | intro g1; try simp at g1))
        all_goals (try (exfalso; omega))
        all_goals (try (exfalso; exact absurd (by assumption) hne))
        all_goals (simp; done)
  · have hG2 := gaR_no (Bool.eq_false_iff.2 c3)
    have hD : doR d = (([], [], []), 1) := by
      rw [doR, if_neg hz, i6, ← i5, if_neg (by simp [c3])]
      rfl
    obtain ⟨⟨n0, g0, b0⟩, hga⟩ : ∃ r, gaR m = r := ⟨_, rfl⟩
    rw [hga] at hG hG2
    simp only at hG2
    subst hG2
    rw [hD]
    repeat' (first
 | (with_reducible first | apply qz0 | (refine h0 _ _ ?_; clear h0 hw) | (refine hw _ _ _ ?_; clear h0 hw) | apply qz1 | apply qz2 | apply qz3 | apply qz4 | apply qz5 | apply qz6 | apply qz7 | apply qz8 | apply qz9 | apply qza | apply qzb | apply qzc | apply qzd | apply qze | (refine hL _ ?_; clear hL))
 | (with_reducible first | refine w_reg (by decide +kernel) fun K1 hK => ?_ | refine w_reg_end (by decide +kernel) fun K1 hK => ?_)
 | ((with_reducible first | apply d_reg Try.mix (by decide +kernel) | apply d_reg_end Try.mix (by decide +kernel)); (case hm => simp only [List.length_cons, List.length_nil, Nat.reduceAdd, Nat.reduceMul]; rfl); (case' h => intro K1 hK))
 | with_reducible refine go_seq ?_
 | ((with_reducible first | apply v_op Try.tab | apply v_op0 Try.tab | apply d_op Try.tab | apply d_op0 Try.tab) <;> first | (intro K' h0 hw; conv => whnf) | (simp only [Nat.reduceAdd, Nat.reduceMul]; rfl))
 | ((with_reducible apply v_nil); (case hm => (simp only [Nat.reduceAdd, Nat.reduceMul]; rfl)); (case' h => with_reducible refine hK _ ?_; clear hK))
 | ((with_reducible apply d_nil); (refine hK _ _ _ _ (by first | decide +kernel | (simp only [List.map_cons, List.map_nil, List.nil_append, List.cons_append]; decide +kernel) | rfl) ?_; clear hK))
 | (first | refine d_grd_yes (by rfl) (by rfl) ?_ | refine v_grd_yes (by rfl) (by rfl) ?_)
 | ((first | (apply d_grd_no; (case hg => rfl); (case hb => rfl)) | (apply d_grd_undef; (case hg => rfl); (case hb => rfl)) | (apply d_grd; (case hg => rfl); (case hb => rfl)) | (apply v_grd_no; (case hg => rfl); (case hb => rfl)) | (apply v_grd_undef; (case hg => rfl); (case hb => rfl)) | (apply v_grd; (case hg => rfl); (case hb => rfl))); (case hi => (simp only [Nat.reduceAdd, Nat.reduceMul]; rfl)))
 | ((with_reducible refine callV_id (f := 119) ?_); (with_reducible apply callV_f own119 (hN)); (case hx => rfl); (case he => rfl); (case hle => first | ((repeat constructor); done) | (simp [e1, e2, hx]; done)); (case hpu => repeat constructor); (case' hK => conv => whnf))
 | ((with_reducible refine callV_id (f := 120) ?_); (with_reducible apply callV_f own120 (hG)); (case hx => rfl); (case he => rfl); (case hle => first | ((repeat constructor); done) | (simp [e1, e2, hx]; done)); (case hpu => repeat constructor); (case' hK => conv => whnf))
 | ((with_reducible apply go_cond); (case hb => rfl))
 | ((with_reducible apply out_block_there); (case hne => rfl))
 | ((with_reducible first | refine w_ret Try.tab fun K' hL => ?_ | refine w_ret_end Try.tab fun K' hL => ?_); (conv => whnf))
 | ((with_reducible apply And.intro); (case' right => try (conv => whnf)); (case' left => try first | rfl | decide | (simp [e1, e2, hx]; done) | (simp (disch := omega) only [wrp]; omega) | (simp (disch := omega) [e1, e2, hx, wrp]; (try omega); done)))
 | ((with_reducible apply Side.mk); (try simp (disch := omega) only [wrp]); (try simp); (try simp (disch := omega) only [wrp]); (try omega))
 | ((with_reducible apply all_rk); (case hx => with_reducible assumption); (conv => whnf))
 | ((with_reducible refine all_row ?_); (first  | intro x1 hx1); conv => whnf)
 | (first  | intro g1; try simp at g1))
    all_goals (try (exfalso; omega))
    all_goals (simp; done)
end Go.Proofs.Ytbhcjgobapnajaa

/- DeskSees, walked. No condition. -/
import Derived.Test.YtdanlpkclkjkcaaDeskLaws
namespace Go.Proofs.Ytdanlpkclkjkcaa
open Go Go.Sy
set_option maxRecDepth 4000
set_option linter.unusedSimpArgs false
set_option linter.unusedVariables false
attribute [local irreducible] Reg RegD Later Out CallV Tri Side EqV
/-- A stream: numbers go on by one, times never go back, pictures are whole; the first one is Key. -/
structure Str (m : List Pkt) (last time : Int) : Prop where
  len : (m.length : Int) = last
  one : ∀ (i : Nat) (x : Pkt), m[i]? = some x → x.seq = ((i : Int) + 1) % 65536 ∧ x.time ≤ time ∧ (i = 0 → x.key = true ∧ x.first = true)
  two : ∀ (i : Nat) (x y : Pkt), m[i]? = some y → m[i + 1]? = some x → y.time ≤ x.time ∧ x.first = y.fin ∧ (y.fin = false → x.time = y.time)
  fin : ∀ x : Pkt, m.getLast? = some x → x.fin = true
theorem pk_get {last t : Int} {f : Fr} {k i : Nat} {x : Pkt} (h : (pksTo last t f k)[i]? = some x) : i < k ∧ x = pk last t f i := by
  have hi := (List.getElem?_eq_some_iff.1 h).1
  rw [pksTo_len] at hi
  rw [pksTo_get hi] at h
  cases h; exact ⟨hi, rfl⟩
theorem Str.more {m : List Pkt} {last time t : Int} {f : Fr} (h : Str m last time) (hf : frameE f = 0) (ht : time ≤ t) (hk : m = [] → f.key = true) : Str (m ++ pksTo last t f f.parts.length) (last + f.parts.length) t := by
  have h0 : 0 < f.parts.length := List.length_pos_iff.2 (frameE_ok hf).2.2.2.1
  have hl := h.len
  have hat : ∀ (i : Nat) (x : Pkt), (m ++ pksTo last t f f.parts.length)[i]? = some x → (i < m.length ∧ m[i]? = some x) ∨ (m.length ≤ i ∧ i - m.length < f.parts.length ∧ x = pk last t f (i - m.length)) := fun i x hx => by
    rcases Nat.lt_or_ge i m.length with c | c
    · rw [List.getElem?_append_left c] at hx; exact .inl ⟨c, hx⟩
    · rw [List.getElem?_append_right c] at hx
      have := pk_get hx
      exact .inr ⟨c, this.1, this.2⟩
  have hpk : ∀ i, pk last t f i = ⟨(last + i + 1) % 65536, t, decide ((i : Int) = 0), decide ((i : Int) = (f.parts.length : Int) - 1), f.key && decide ((i : Int) = 0), f.parts.getD i ByteArray.empty⟩ := fun i => rfl
  refine ⟨?_, fun i x hx => ?_, fun i x y hy hx => ?_, fun x hx => ?_⟩
  · simp only [List.length_append, pksTo_len]; omega
  · rcases hat i x hx with ⟨c, h1⟩ | ⟨c, h1, rfl⟩
    · have := h.one i x h1
      exact ⟨this.1, by omega, this.2.2⟩
    · rw [hpk]
      refine ⟨by simp only; congr 1; omega, Int.le_refl _, fun hi => ?_⟩
      have hm : m = [] := List.length_eq_zero_iff.1 (by omega)
      subst hi
      simp [hm, hk hm]
  · rcases hat i y hy with ⟨c, h1⟩ | ⟨c, h1, rfl⟩
    · rcases hat (i + 1) x hx with ⟨c2, h2⟩ | ⟨c2, h2, rfl⟩
      · exact h.two i x y h1 h2
      · have e : i + 1 - m.length = 0 := by omega
        have hlast : m.getLast? = some y := by rw [List.getLast?_eq_getElem?, show m.length - 1 = i by omega]; exact h1
        have hfin := h.fin y hlast
        have h3 := (h.one i y h1).2.1
        rw [e, hpk]
        refine ⟨by simp only; omega, by simp [hfin], fun hq => by rw [hfin] at hq; cases hq⟩
    · rcases hat (i + 1) x hx with ⟨c2, h2⟩ | ⟨c2, h2, rfl⟩
      · omega
      · rw [hpk, hpk]
        refine ⟨Int.le_refl _, ?_, fun _ => rfl⟩
        simp only
        rw [decide_eq_false (by omega), decide_eq_false (by omega)]
  · rw [List.getLast?_eq_getElem?] at hx
    rcases hat _ x hx with ⟨c, h1⟩ | ⟨c, h1, rfl⟩
    · simp only [List.length_append, pksTo_len] at c; omega
    · rw [hpk]
      simp only [List.length_append, pksTo_len]
      apply decide_eq_true; omega
theorem next_first {s : Sto} {c : Cu} {upto : Int} (h : (nextR s c upto).2.2.1 = true) (hc : c.frame = 0) : (nextR s c upto).1.frame = 1 := by
  unfold nextR at h ⊢
  split at h
  · cases h
  rename_i h1
  rw [if_neg h1]
  split at h
  · cases h
  rename_i h2
  rw [if_neg h2]
  simp only
  have : setF (allS s) s.first c = 0 := by unfold setF; split <;> (try split) <;> first | rfl | exact hc
  omega
theorem send_str (s : Sto) (upto : Int) (hr : RightS s) (m0 : List Pkt) : ∀ (n : Nat) (c : Cu) (o : Ou) (l : List Pkt), cuE c = 0 → outOK o → Str (m0 ++ l) o.last o.time → (o.last = 0 → c.frame = 0) →
    Str (m0 ++ (sendL s upto n c o l).2.2.1) (sendL s upto n c o l).2.1.last (sendL s upto n c o l).2.1.time ∧ ((sendL s upto n c o l).2.1.last = 0 → (sendL s upto n c o l).1.frame = 0)
  | 0, c, o, l, hc, ho, h1, h2 => ⟨h1, h2⟩
  | n + 1, c, o, l, hc, ho, h1, h2 => by
    unfold sendL
    by_cases q1 : (nextR s c upto).2.2.1 = true
    · rw [if_pos q1]
      obtain ⟨k1, k2, k3, k4, k5, k6, k7⟩ := next_ok hr hc q1
      split
      · rename_i q2
        obtain ⟨t, sh, e, e1, e2, e3⟩ := raw_ok ho k3 q2
        have hp : 0 < (nextR s c upto).2.1.parts.length := List.length_pos_iff.2 (frameE_ok k3).2.2.2.1
        have hlen := h1.len
        rw [e]
        refine send_str s upto hr m0 n (nextR s c upto).1 _ _ k2 e1 ?_ (fun hz => by simp only at hz; omega)
        simp only
        rw [← List.append_assoc]
        refine h1.more k3 e2 fun hm => ?_
        rw [hm] at hlen
        have h0 : o.last = 0 := by simpa using hlen.symm
        rw [k6, next_first q1 (h2 h0)]; rfl
      · exact ⟨h1, h2⟩
    · rw [if_neg q1]; exact ⟨h1, h2⟩
/-- What a script keeps. -/
structure Seen (d : Ds) : Prop where
  t : RightT d.t
  v : OkV d.v
  str : Str d.l d.v.ou.last d.v.ou.time
  first : d.v.ou.last = 0 → d.v.cu.frame = 0
theorem Seen.act {d : Ds} {a : Ac} (h : Seen d) (h0 : (actR d.t d.v a).2 = 0) : Seen ⟨(actR d.t d.v a).1.v, (actR d.t d.v a).1.t, d.l ++ (actR d.t d.v a).1.l⟩ := by
  obtain ⟨f1, f2, f3, f4, _⟩ := actR_ok h.t h.v h0
  have key : Str (d.l ++ (doA ⟨d.v, d.t, []⟩ a).1.l) (doA ⟨d.v, d.t, []⟩ a).1.v.ou.last (doA ⟨d.v, d.t, []⟩ a).1.v.ou.time ∧ ((doA ⟨d.v, d.t, []⟩ a).1.v.ou.last = 0 → (doA ⟨d.v, d.t, []⟩ a).1.v.cu.frame = 0) := by
    rw [f2] at h0
    have hset : ∀ r : Cu × Int, (r.2 = 0 → d.v.ou.last = 0 → r.1.frame = 0) → Str (d.l ++ (setA ⟨d.v, d.t, []⟩ r).1.l) (setA ⟨d.v, d.t, []⟩ r).1.v.ou.last (setA ⟨d.v, d.t, []⟩ r).1.v.ou.time ∧ ((setA ⟨d.v, d.t, []⟩ r).1.v.ou.last = 0 → (setA ⟨d.v, d.t, []⟩ r).1.v.cu.frame = 0) := fun r hr => by
      unfold setA
      simp only
      split
      · rename_i q; exact ⟨by simpa using h.str, fun z => hr q z⟩
      · exact ⟨by simpa using h.str, h.first⟩
    unfold doA at h0 ⊢
    split
    · exact ⟨by simpa using h.str, h.first⟩
    rename_i c1; rw [if_neg c1] at h0
    split
    · exact hset _ fun q _ => by rw [(live_ok q).2.2]
    rename_i c2; rw [if_neg c2] at h0
    split
    · rename_i c3; rw [if_pos c3] at h0
      split
      · exact ⟨by simpa using h.str, h.first⟩
      · refine hset _ fun q z => ?_
        unfold pauseC at q ⊢
        split
        · exact h.first z
        · rename_i c; rw [if_neg c] at q; exact absurd q c
    rename_i c3; rw [if_neg c3] at h0
    split
    · refine hset _ fun q _ => ?_
      unfold seekC at q ⊢
      split
      · rfl
      · rfl
    rename_i c4; rw [if_neg c4] at h0
    unfold sendA at h0 ⊢
    split
    · exact ⟨by simpa using h.str, h.first⟩
    rename_i c5; rw [if_neg c5] at h0
    split
    · exact ⟨by simpa using h.str, h.first⟩
    · have hcu : cuE d.v.cu = 0 := by
        rcases h.v.cu with h1 | h1
        · exact absurd h1 c5
        · exact h1
      exact send_str d.t.st a.n h.t.st d.l 101 d.v.cu d.v.ou [] hcu h.v.ou (by simpa using h.str) h.first
  rw [f2] at f3 f4 ⊢
  exact ⟨f3, f4, key.1, key.2⟩
theorem runL_seen : ∀ (l : List Ac) (d : Ds) (es : List Int), Seen d → Seen (runL l d es).1
  | [], d, es, h => h
  | a :: l, d, es, h => by
    rw [runL]
    by_cases c : (actR d.t d.v a).2 = 0
    · rw [if_pos c]; exact runL_seen l _ _ (h.act c)
    · rw [if_neg c]; exact runL_seen l _ _ h
theorem ds0_seen : Seen ds0 := ⟨tk0_right, vw0_ok, ⟨rfl, by simp [ds0], by simp [ds0], by simp [ds0]⟩, fun _ => rfl⟩
theorem runS_seen (l : List Ac) : Seen (runS l).1.1 := by
  unfold runS
  split
  · exact ds0_seen
  · exact runL_seen l ds0 [] ds0_seen
def openB (m : List Pkt) (i : Nat) : Bool := if i = 0 then false else match m[i - 1]? with | some x => !x.fin | none => false
theorem ne_not {a b : Bool} (h1 : a = b) (h2 : a = !b) : False := by
  subst h1
  cases a <;> cases h2
theorem ne_tf {a : Bool} (h1 : a = true) (h2 : a = false) : False := by
  rw [h1] at h2; cases h2
set_option maxHeartbeats 8000000 in
theorem c_deskSees (l : List Ac) (hl : l.length ≤ 4400000000000) (hs : ∀ a ∈ l, a.text.size ≤ 1000000000000000) : PSpec Try.prog 3 [acts l] (B true) := by
  have q1 := c_run l hl hs
  have hsn := runS_seen l
  have hln := (runS_ok l).2.2.1
  by_cases h60 : 60 < l.length
  · rw [show runS l = ((ds0, []), 2) from if_pos h60] at q1
    refine v_pspec Try.func3 rfl Try.ntmps3 Try.results3 (by simp) (by first | exact .s _ | repeat constructor) ?_
    repeat' (first
 | (with_reducible first | apply qz0 | (refine h0 _ _ ?_; clear h0 hw) | (refine hw _ _ _ ?_; clear h0 hw) | apply qz1 | apply qz2 | apply qz3 | apply qz4 | apply qz5 | apply qz6 | apply qz7 | apply qz8 | apply qz9 | apply qza | apply qzb | apply qzc | apply qzd | apply qze | (refine hL _ ?_; clear hL))
 | (with_reducible first | refine w_reg (by decide +kernel) fun K1 hK => ?_ | refine w_reg_end (by decide +kernel) fun K1 hK => ?_)
 | ((with_reducible first | apply d_reg Try.mix (by decide +kernel) | apply d_reg_end Try.mix (by decide +kernel)); (case hm => simp only [List.length_cons, List.length_nil, Nat.reduceAdd, Nat.reduceMul]; rfl); (case' h => intro K1 hK))
 | with_reducible refine go_seq ?_
 | ((with_reducible first | apply v_op Try.tab | apply v_op0 Try.tab | apply d_op Try.tab | apply d_op0 Try.tab) <;> first | (intro K' h0 hw; conv => whnf) | (simp only [Nat.reduceAdd, Nat.reduceMul]; rfl))
 | ((with_reducible apply v_nil); (case hm => (simp only [Nat.reduceAdd, Nat.reduceMul]; rfl)); (case' h => with_reducible refine hK _ ?_; clear hK))
 | ((with_reducible apply d_nil); (refine hK _ _ _ _ (by first | decide +kernel | (simp only [List.map_cons, List.map_nil, List.nil_append, List.cons_append]; decide +kernel) | rfl) ?_; clear hK))
 | (first | refine d_grd_yes (by rfl) (by rfl) ?_ | refine v_grd_yes (by rfl) (by rfl) ?_)
 | ((first | (apply d_grd_no; (case hg => rfl); (case hb => rfl)) | (apply d_grd_undef; (case hg => rfl); (case hb => rfl)) | (apply d_grd; (case hg => rfl); (case hb => rfl)) | (apply v_grd_no; (case hg => rfl); (case hb => rfl)) | (apply v_grd_undef; (case hg => rfl); (case hb => rfl)) | (apply v_grd; (case hg => rfl); (case hb => rfl))); (case hi => (simp only [Nat.reduceAdd, Nat.reduceMul]; rfl)))
 | ((with_reducible refine callV_id (f := 4) ?_); (with_reducible apply callV_f own4 (q1)); (case hx => rfl); (case he => rfl); (case hle => first | ((repeat constructor); done) | (simp [ds0, tk0, st0, vw0, cu0, ou0]; done)); (case hpu => repeat constructor); (case' hK => conv => whnf))
 | ((with_reducible refine callV_id (f := 5) ?_); (with_reducible apply callV_f own5 (c_deskBegun)); (case hx => rfl); (case he => rfl); (case hle => first | ((repeat constructor); done) | (simp [ds0, tk0, st0, vw0, cu0, ou0]; done)); (case hpu => repeat constructor); (case' hK => conv => whnf))
 | ((with_reducible refine callV_id (f := 6) ?_); (with_reducible apply callV_f own6 (c_outBegun)); (case hx => rfl); (case he => rfl); (case hle => first | ((repeat constructor); done) | (simp [ds0, tk0, st0, vw0, cu0, ou0]; done)); (case hpu => repeat constructor); (case' hK => conv => whnf))
 | ((with_reducible apply go_cond); (case hb => rfl))
 | ((with_reducible apply out_block_there); (case hne => rfl))
 | ((with_reducible first | refine w_ret Try.tab fun K' hL => ?_ | refine w_ret_end Try.tab fun K' hL => ?_); (conv => whnf))
 | ((with_reducible apply And.intro); (case' right => try (conv => whnf)); (case' left => try first | rfl | decide | (simp [ds0, tk0, st0, vw0, cu0, ou0]; done) | (simp (disch := omega) only [wrp]; omega) | (simp (disch := omega) [ds0, tk0, st0, vw0, cu0, ou0, wrp]; (try omega); done)))
 | ((with_reducible apply Side.mk); (try simp (disch := omega) only [wrp]); (try simp); (try simp (disch := omega) only [wrp]); (try omega))
 | ((with_reducible apply all_rk); (case hx => with_reducible assumption); (conv => whnf))
 | ((with_reducible refine all_row ?_); (first | (guard_hyp hx1; intro x2 hx2) | intro x1 hx1); conv => whnf)
 | (first | (guard_hyp g5; intro g6; try simp at g6) | (guard_hyp g4; intro g5; try simp at g5) | (guard_hyp g3; intro g4; try simp at g4) | (guard_hyp g2; intro g3; try simp at g3) | (guard_hyp g1; intro g2; try simp at g2) | intro g1; try simp at g1))
    all_goals (refine le_of_eq (congrArg B ?_); simp; omega)
  · have e : runS l = ((runS l).1, 0) := by rw [show runS l = (runL l ds0 [], 0) from if_neg h60]
    rw [e] at q1
    obtain ⟨d, hd⟩ : ∃ d, d = (runS l).1.1 := ⟨_, rfl⟩
    rw [← hd] at hsn hln
    obtain ⟨es, hes⟩ : ∃ es, es = (runS l).1.2 := ⟨_, rfl⟩
    rw [show (runS l).1 = (d, es) from Prod.ext hd.symm hes.symm] at q1
    obtain ⟨s1, s2, s3, s4⟩ := hsn.str
    have hlast : d.v.ou.last = d.l.length := s1.symm
    refine v_pspec Try.func3 rfl Try.ntmps3 Try.results3 (by simp) (by first | exact .s _ | repeat constructor) ?_
    repeat' (first
 | (with_reducible first | apply qz0 | (refine h0 _ _ ?_; clear h0 hw) | (refine hw _ _ _ ?_; clear h0 hw) | apply qz1 | apply qz2 | apply qz3 | apply qz4 | apply qz5 | apply qz6 | apply qz7 | apply qz8 | apply qz9 | apply qza | apply qzb | apply qzc | apply qzd | apply qze | (refine hL _ ?_; clear hL))
 | (with_reducible first | refine w_reg (by decide +kernel) fun K1 hK => ?_ | refine w_reg_end (by decide +kernel) fun K1 hK => ?_)
 | ((with_reducible first | apply d_reg Try.mix (by decide +kernel) | apply d_reg_end Try.mix (by decide +kernel)); (case hm => simp only [List.length_cons, List.length_nil, Nat.reduceAdd, Nat.reduceMul]; rfl); (case' h => intro K1 hK))
 | with_reducible refine go_seq ?_
 | ((with_reducible first | apply v_op Try.tab | apply v_op0 Try.tab | apply d_op Try.tab | apply d_op0 Try.tab) <;> first | (intro K' h0 hw; conv => whnf) | (simp only [Nat.reduceAdd, Nat.reduceMul]; rfl))
 | ((with_reducible apply v_nil); (case hm => (simp only [Nat.reduceAdd, Nat.reduceMul]; rfl)); (case' h => with_reducible refine hK _ ?_; clear hK))
 | ((with_reducible apply d_nil); (refine hK _ _ _ _ (by first | decide +kernel | (simp only [List.map_cons, List.map_nil, List.nil_append, List.cons_append]; decide +kernel) | rfl) ?_; clear hK))
 | (first | refine d_grd_yes (by rfl) (by rfl) ?_ | refine v_grd_yes (by rfl) (by rfl) ?_)
 | ((first | (apply d_grd_no; (case hg => rfl); (case hb => rfl)) | (apply d_grd_undef; (case hg => rfl); (case hb => rfl)) | (apply d_grd; (case hg => rfl); (case hb => rfl)) | (apply v_grd_no; (case hg => rfl); (case hb => rfl)) | (apply v_grd_undef; (case hg => rfl); (case hb => rfl)) | (apply v_grd; (case hg => rfl); (case hb => rfl))); (case hi => (simp only [Nat.reduceAdd, Nat.reduceMul]; rfl)))
 | ((with_reducible refine callV_id (f := 4) ?_); (with_reducible apply callV_f own4 (q1)); (case hx => rfl); (case he => rfl); (case hle => first | ((repeat constructor); done) | (simp; done)); (case hpu => repeat constructor); (case' hK => conv => whnf))
 | ((with_reducible refine callV_id (f := 5) ?_); (with_reducible apply callV_f own5 (c_deskBegun)); (case hx => rfl); (case he => rfl); (case hle => first | ((repeat constructor); done) | (simp; done)); (case hpu => repeat constructor); (case' hK => conv => whnf))
 | ((with_reducible refine callV_id (f := 6) ?_); (with_reducible apply callV_f own6 (c_outBegun)); (case hx => rfl); (case he => rfl); (case hle => first | ((repeat constructor); done) | (simp; done)); (case hpu => repeat constructor); (case' hK => conv => whnf))
 | ((with_reducible apply go_cond); (case hb => rfl))
 | ((with_reducible apply out_block_there); (case hne => rfl))
 | ((with_reducible first | refine w_ret Try.tab fun K' hL => ?_ | refine w_ret_end Try.tab fun K' hL => ?_); (conv => whnf))
 | ((with_reducible apply And.intro); (case' right => try (conv => whnf)); (case' left => try first | rfl | decide | (simp; done) | (simp (disch := omega) only [wrp]; omega) | (simp (disch := omega) [wrp]; (try omega); done)))
 | ((with_reducible apply Side.mk); (try simp (disch := omega) only [wrp]); (try simp); (try simp (disch := omega) only [wrp]); (try omega))
 | ((with_reducible apply all_rk); (case hx => with_reducible assumption); (conv => whnf))
 | ((with_reducible refine all_row ?_); (first | (guard_hyp hx1; intro x2 hx2) | intro x1 hx1); conv => whnf)
 | (first | (guard_hyp g5; intro g6; try simp at g6) | (guard_hyp g4; intro g5; try simp at g5) | (guard_hyp g3; intro g4; try simp at g4) | (guard_hyp g2; intro g3; try simp at g3) | (guard_hyp g1; intro g2; try simp at g2) | intro g1; try simp at g1))
    all_goals first
      | (exfalso; omega)
      | (exfalso; have hk := (s2 0 x1 (by simpa using hx1)).2.2 rfl; rw [hk.1] at g5; cases g5; done)
      | skip
    all_goals
      refine w_loop (X := Nat) [2, 8, 9, 52, 53, 54, 55, 56, 57, 58, 59, 60, 61, 62, 63, 64, 65, 66, 67, 68, 69, 70, 71, 72, 73, 74, 75, 76, 77, 78, 79, 80, 81, 82, 83, 84, 85, 86, 87, 88, 89, 90, 91, 92, 93, 94, 95, 96, 97, 98, 99, 100, 101, 102, 103, 104, 105, 106, 107, 108, 109, 110, 111, 112, 113, 114, 115, 116] (fun i => [(9, I i), (8, B (openB d.l i))]) (fun _ => []) (fun i => i ≤ d.l.length) (fun i => d.l.length - i) 0 (by simp) ?_ ?_
      · refine ⟨kt_refl, ko_refl, ?_, ?_, ?_, ?_, Nat.le_refl _⟩ <;> simp [openB]
      intro i hi
      rcases Nat.lt_or_ge i d.l.length with hlt | hge
      · obtain ⟨x, hx⟩ : ∃ x, d.l[i]? = some x := ⟨d.l[i]'hlt, by simp⟩
        obtain ⟨p1, p2, p3⟩ := s2 i x hx
        have e1 : (IntKind.i64.wrap ((i : Int) + 1)).tmod 65536 = ((i : Int) + 1) % 65536 := by rw [wrp (by omega) (by omega), Int.tmod_eq_emod_of_nonneg (by omega)]
        rcases Nat.eq_zero_or_pos i with h0 | h0
        · subst h0
          obtain ⟨p4, p5⟩ := p3 rfl
          have eo : openB d.l 0 = false := rfl
          have e3 : x.seq = (IntKind.i64.wrap 1).tmod 65536 := by rw [p1]; decide
          have ex : openB d.l 1 = !x.fin := by rw [openB, if_neg (by omega)]; simp [hx]
          rw [eo]
          repeat' (first
 | ((with_reducible refine all_row ?_); intro z hz; simp [hx] at hz; subst hz; conv => whnf)
 | (with_reducible first | apply qz0 | (refine h0 _ _ ?_; clear h0 hw) | (refine hw _ _ _ ?_; clear h0 hw) | apply qz1 | apply qz2 | apply qz3 | apply qz4 | apply qz5 | apply qz6 | apply qz7 | apply qz8 | apply qz9 | apply qza | apply qzb | apply qzc | apply qzd | apply qze | (refine hL _ ?_; clear hL))
 | (with_reducible first | refine w_reg (by decide +kernel) fun K1 hK => ?_ | refine w_reg_end (by decide +kernel) fun K1 hK => ?_)
 | ((with_reducible first | apply d_reg Try.mix (by decide +kernel) | apply d_reg_end Try.mix (by decide +kernel)); (case hm => simp only [List.length_cons, List.length_nil, Nat.reduceAdd, Nat.reduceMul]; rfl); (case' h => intro K1 hK))
 | with_reducible refine go_seq ?_
 | ((with_reducible first | apply v_op Try.tab | apply v_op0 Try.tab | apply d_op Try.tab | apply d_op0 Try.tab) <;> first | (intro K' h0 hw; conv => whnf) | (simp only [Nat.reduceAdd, Nat.reduceMul]; rfl))
 | ((with_reducible apply v_nil); (case hm => (simp only [Nat.reduceAdd, Nat.reduceMul]; rfl)); (case' h => with_reducible refine hK _ ?_; clear hK))
 | ((with_reducible apply d_nil); (refine hK _ _ _ _ (by first | decide +kernel | (simp only [List.map_cons, List.map_nil, List.nil_append, List.cons_append]; decide +kernel) | rfl) ?_; clear hK))
 | (first | refine d_grd_yes (by rfl) (by rfl) ?_ | refine v_grd_yes (by rfl) (by rfl) ?_)
 | ((first | (apply d_grd_no; (case hg => rfl); (case hb => rfl)) | (apply d_grd_undef; (case hg => rfl); (case hb => rfl)) | (apply d_grd; (case hg => rfl); (case hb => rfl)) | (apply v_grd_no; (case hg => rfl); (case hb => rfl)) | (apply v_grd_undef; (case hg => rfl); (case hb => rfl)) | (apply v_grd; (case hg => rfl); (case hb => rfl))); (case hi => (simp only [Nat.reduceAdd, Nat.reduceMul]; rfl)))
 | ((with_reducible apply go_cond); (case hb => rfl))
 | ((with_reducible apply out_block_there); (case hne => rfl))
 | ((with_reducible first | refine w_ret Try.tab fun K' hL => ?_ | refine w_ret_end Try.tab fun K' hL => ?_); (conv => whnf))
 | ((with_reducible apply And.intro); (case' right => try (conv => whnf)); (case' left => try first | rfl | decide | (simp; done) | (simp (disch := omega) only [wrp]; omega) | (simp (disch := omega) [wrp]; (try omega); done)))
 | ((with_reducible apply Side.mk); (try simp (disch := omega) only [wrp]); (try simp); (try simp (disch := omega) only [wrp]); (try omega))
 | ((with_reducible apply all_rk); (case hx => with_reducible assumption); (conv => whnf))
 | ((with_reducible refine all_row ?_); (first | (guard_hyp hx1; intro x2 hx2) | intro x1 hx1); conv => whnf)
 | (first | (guard_hyp g5; intro g6; try simp at g6) | (guard_hyp g4; intro g5; try simp at g5) | (guard_hyp g3; intro g4; try simp at g4) | (guard_hyp g2; intro g3; try simp at g3) | (guard_hyp g1; intro g2; try simp at g2) | intro g1; try simp at g1))
          all_goals first
            | (exfalso; omega)
            | exact absurd e3 (by assumption)
            | exact (ne_tf p5 (by assumption)).elim
            | exact .refl _
            | (((refine w_nx (1) ?_ ?_ ?_ ?_ ?_ ?_); (case refine_1 => simp [ex]); (case refine_2 => simp [ex]); (case refine_3 => simp (disch := omega) [ex, wrp]); (case refine_4 => simp [ex]); (case refine_5 => first | (simp; omega) | (simp; done) | omega | (simp only; omega)); (case' refine_6 => (try simp only); (try exact trivial))); omega)
        · obtain ⟨y, hy⟩ : ∃ y, d.l[i - 1]? = some y := ⟨d.l[i - 1]'(by omega), by simp⟩
          obtain ⟨p4, p5, p6⟩ := s3 (i - 1) x y hy (by rw [show i - 1 + 1 = i by omega]; exact hx)
          have eo : openB d.l i = !y.fin := by rw [openB, if_neg (by omega), hy]
          have e2 : (IntKind.i64.wrap ((i : Int) - 1)).toNat = i - 1 := by rw [wrp (by omega) (by omega)]; omega
          have e4 : x.seq = (IntKind.i64.wrap ((i : Int) + 1)).tmod 65536 := by rw [e1]; exact p1
          have ex : openB d.l (i + 1) = !x.fin := by rw [openB, if_neg (by omega), show i + 1 - 1 = i by omega, hx]
          rw [eo]
          repeat' (first
 | ((with_reducible refine all_row ?_); intro z hz; (first | (simp [hx] at hz; subst hz) | (simp [e2, hy] at hz; subst hz)); conv => whnf)
 | (with_reducible first | apply qz0 | (refine h0 _ _ ?_; clear h0 hw) | (refine hw _ _ _ ?_; clear h0 hw) | apply qz1 | apply qz2 | apply qz3 | apply qz4 | apply qz5 | apply qz6 | apply qz7 | apply qz8 | apply qz9 | apply qza | apply qzb | apply qzc | apply qzd | apply qze | (refine hL _ ?_; clear hL))
 | (with_reducible first | refine w_reg (by decide +kernel) fun K1 hK => ?_ | refine w_reg_end (by decide +kernel) fun K1 hK => ?_)
 | ((with_reducible first | apply d_reg Try.mix (by decide +kernel) | apply d_reg_end Try.mix (by decide +kernel)); (case hm => simp only [List.length_cons, List.length_nil, Nat.reduceAdd, Nat.reduceMul]; rfl); (case' h => intro K1 hK))
 | with_reducible refine go_seq ?_
 | ((with_reducible first | apply v_op Try.tab | apply v_op0 Try.tab | apply d_op Try.tab | apply d_op0 Try.tab) <;> first | (intro K' h0 hw; conv => whnf) | (simp only [Nat.reduceAdd, Nat.reduceMul]; rfl))
 | ((with_reducible apply v_nil); (case hm => (simp only [Nat.reduceAdd, Nat.reduceMul]; rfl)); (case' h => with_reducible refine hK _ ?_; clear hK))
 | ((with_reducible apply d_nil); (refine hK _ _ _ _ (by first | decide +kernel | (simp only [List.map_cons, List.map_nil, List.nil_append, List.cons_append]; decide +kernel) | rfl) ?_; clear hK))
 | (first | refine d_grd_yes (by rfl) (by rfl) ?_ | refine v_grd_yes (by rfl) (by rfl) ?_)
 | ((first | (apply d_grd_no; (case hg => rfl); (case hb => rfl)) | (apply d_grd_undef; (case hg => rfl); (case hb => rfl)) | (apply d_grd; (case hg => rfl); (case hb => rfl)) | (apply v_grd_no; (case hg => rfl); (case hb => rfl)) | (apply v_grd_undef; (case hg => rfl); (case hb => rfl)) | (apply v_grd; (case hg => rfl); (case hb => rfl))); (case hi => (simp only [Nat.reduceAdd, Nat.reduceMul]; rfl)))
 | ((with_reducible apply go_cond); (case hb => rfl))
 | ((with_reducible apply out_block_there); (case hne => rfl))
 | ((with_reducible first | refine w_ret Try.tab fun K' hL => ?_ | refine w_ret_end Try.tab fun K' hL => ?_); (conv => whnf))
 | ((with_reducible apply And.intro); (case' right => try (conv => whnf)); (case' left => try first | rfl | decide | (simp; done) | (simp (disch := omega) only [wrp]; omega) | (simp (disch := omega) [wrp]; (try omega); done)))
 | ((with_reducible apply Side.mk); (try simp (disch := omega) only [wrp]); (try simp); (try simp (disch := omega) only [wrp]); (try omega))
 | ((with_reducible apply all_rk); (case hx => with_reducible assumption); (conv => whnf))
 | ((with_reducible refine all_row ?_); (first | (guard_hyp hx1; intro x2 hx2) | intro x1 hx1); conv => whnf)
 | (first | (guard_hyp g5; intro g6; try simp at g6) | (guard_hyp g4; intro g5; try simp at g5) | (guard_hyp g3; intro g4; try simp at g4) | (guard_hyp g2; intro g3; try simp at g3) | (guard_hyp g1; intro g2; try simp at g2) | intro g1; try simp at g1))
          all_goals first
            | (exfalso; omega)
            | exact absurd e4 (by assumption)
            | exact (ne_not p5 (by assumption)).elim
            | exact absurd (p6 (by assumption)) (by assumption)
            | exact .refl _
            | (((refine w_nx ((i + 1)) ?_ ?_ ?_ ?_ ?_ ?_); (case refine_1 => simp [ex]); (case refine_2 => simp [ex]); (case refine_3 => simp (disch := omega) [ex, wrp]); (case refine_4 => simp [ex]); (case refine_5 => first | (simp; omega) | (simp; done) | omega | (simp only; omega)); (case' refine_6 => (try simp only); (try exact trivial))); omega)
      · have eb : openB d.l i = false := by
          unfold openB; split
          · rfl
          · split
            · rename_i q z hz; rw [s4 z (by rw [List.getLast?_eq_getElem?, show d.l.length - 1 = i - 1 by omega]; exact hz)]; rfl
            · rfl
        rw [eb]
        repeat' (first
 | ((with_reducible refine halt_in (code := .seq (.region 12 _ _) _) ?_); exfalso; omega)
 | (with_reducible first | apply qz0 | (refine h0 _ _ ?_; clear h0 hw) | (refine hw _ _ _ ?_; clear h0 hw) | apply qz1 | apply qz2 | apply qz3 | apply qz4 | apply qz5 | apply qz6 | apply qz7 | apply qz8 | apply qz9 | apply qza | apply qzb | apply qzc | apply qzd | apply qze | (refine hL _ ?_; clear hL))
 | (with_reducible first | refine w_reg (by decide +kernel) fun K1 hK => ?_ | refine w_reg_end (by decide +kernel) fun K1 hK => ?_)
 | ((with_reducible first | apply d_reg Try.mix (by decide +kernel) | apply d_reg_end Try.mix (by decide +kernel)); (case hm => simp only [List.length_cons, List.length_nil, Nat.reduceAdd, Nat.reduceMul]; rfl); (case' h => intro K1 hK))
 | with_reducible refine go_seq ?_
 | ((with_reducible first | apply v_op Try.tab | apply v_op0 Try.tab | apply d_op Try.tab | apply d_op0 Try.tab) <;> first | (intro K' h0 hw; conv => whnf) | (simp only [Nat.reduceAdd, Nat.reduceMul]; rfl))
 | ((with_reducible apply v_nil); (case hm => (simp only [Nat.reduceAdd, Nat.reduceMul]; rfl)); (case' h => with_reducible refine hK _ ?_; clear hK))
 | ((with_reducible apply d_nil); (refine hK _ _ _ _ (by first | decide +kernel | (simp only [List.map_cons, List.map_nil, List.nil_append, List.cons_append]; decide +kernel) | rfl) ?_; clear hK))
 | (first | refine d_grd_yes (by rfl) (by rfl) ?_ | refine v_grd_yes (by rfl) (by rfl) ?_)
 | ((first | (apply d_grd_no; (case hg => rfl); (case hb => rfl)) | (apply d_grd_undef; (case hg => rfl); (case hb => rfl)) | (apply d_grd; (case hg => rfl); (case hb => rfl)) | (apply v_grd_no; (case hg => rfl); (case hb => rfl)) | (apply v_grd_undef; (case hg => rfl); (case hb => rfl)) | (apply v_grd; (case hg => rfl); (case hb => rfl))); (case hi => (simp only [Nat.reduceAdd, Nat.reduceMul]; rfl)))
 | ((with_reducible apply go_cond); (case hb => rfl))
 | ((with_reducible apply out_block_there); (case hne => rfl))
 | ((with_reducible first | refine w_ret Try.tab fun K' hL => ?_ | refine w_ret_end Try.tab fun K' hL => ?_); (conv => whnf))
 | ((with_reducible apply And.intro); (case' right => try (conv => whnf)); (case' left => try first | rfl | decide | (simp; done) | (simp (disch := omega) only [wrp]; omega) | (simp (disch := omega) [wrp]; (try omega); done)))
 | ((with_reducible apply Side.mk); (try simp (disch := omega) only [wrp]); (try simp); (try simp (disch := omega) only [wrp]); (try omega))
 | ((with_reducible apply all_rk); (case hx => with_reducible assumption); (conv => whnf))
 | ((with_reducible refine all_row ?_); (first | (guard_hyp hx1; intro x2 hx2) | intro x1 hx1); conv => whnf)
 | (first | (guard_hyp g5; intro g6; try simp at g6) | (guard_hyp g4; intro g5; try simp at g5) | (guard_hyp g3; intro g4; try simp at g4) | (guard_hyp g2; intro g3; try simp at g3) | (guard_hyp g1; intro g2; try simp at g2) | intro g1; try simp at g1))
        all_goals first | exact .refl _ | (exfalso; omega)
theorem law_deskSees (args : List AV) (h : ReadsArgs [.sl 3 32 (.agg [.int .i64, .int .i64, .str])] args) (_ : True) : PSpec Try.prog 3 args (B true) := by
  obtain ⟨_, _, rfl, h1, rfl⟩ := h
  obtain ⟨l, rfl, hl, hs⟩ := reads_acts h1
  exact c_deskSees l hl hs
end Go.Proofs.Ytdanlpkclkjkcaa

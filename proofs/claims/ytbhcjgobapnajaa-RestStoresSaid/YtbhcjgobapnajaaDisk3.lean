/- The walk of disk.read. No condition. -/
import Derived.Test.YtbhcjgobapnajaaDisk2
namespace Go.Proofs.Ytbhcjgobapnajaa
open Go Go.Sy
set_option maxRecDepth 4000
set_option linter.unusedSimpArgs false
set_option linter.unusedVariables false
attribute [local irreducible] Reg RegD Later Out CallV YieldV Tri Side EqV
theorem c_records (s : ByteArray) : CSpec Try.prog 114 [Tx s] [] (.fn (.func 152) [] [.ptr 0 0]) [.box [Tx s]] := by
  refine v_cspec Try.func114 rfl Try.ntmps114 Try.results114 (by simp) (k := 0) rfl ?_
  repeat' (first
 | (with_reducible first | apply qz0 | (refine h0 _ _ ?_; clear h0 hw) | (refine hw _ _ _ ?_; clear h0 hw) | apply qz1 )
 | (with_reducible first | refine w_reg (by decide +kernel) fun K1 hK => ?_ )
 | ((with_reducible first | apply v_op Try.tab ) <;> first | (intro K' h0 hw; conv => whnf) | (simp only [Nat.reduceAdd, Nat.reduceMul]; rfl))
 | ((with_reducible apply v_nil); (case hm => (simp only [Nat.reduceAdd, Nat.reduceMul]; rfl)); (case' h => with_reducible refine hK _ ?_; clear hK))
 | ((with_reducible apply And.intro); (case' right => try (conv => whnf)); (case' left => try first | rfl ))
 )
  ((first | refine w_retO Try.tab [0] (by rfl) (by simp) (by simp) (fun K' hL => ?_) ?_ ?_ ?_ | refine w_retO_end Try.tab [0] (by rfl) (by simp) (by simp) (fun K' hL => ?_) ?_ ?_ ?_); (conv => whnf); (refine hL _ ?_; clear hL); all_goals simp)
theorem idx_some {l : List Int} {x : Int} {i : Nat} (h1 : l[i]? = some x) (h2 : ∀ j, j < i → l[j]? ≠ some x) : l.idxOf? x = some i := by
  obtain ⟨hi, hx⟩ := List.getElem?_eq_some_iff.1 h1
  exact List.idxOf?_eq_some_iff.2 ⟨hi, by simp [hx], fun j hj => by
    have := h2 j hj
    rw [List.getElem?_eq_getElem (by omega)] at this
    simpa using this⟩
theorem idx_none {l : List Int} {x : Int} (h2 : ∀ j, j < l.length → l[j]? ≠ some x) : x ∉ l := fun hm => by
  obtain ⟨i, hi, rfl⟩ := List.getElem_of_mem hm
  exact h2 i hi (List.getElem?_eq_getElem hi)
set_option maxHeartbeats 1000000 in
theorem c_index (l : List Int) (x : Int) (hl : l.length ≤ 100000) : PSpec Try.prog 154 [.sl 1 (rowN l), I x] (I (match l.idxOf? x with | some i => (i : Int) | none => -1)) := by
  refine v_pspec Try.func154 rfl Try.ntmps154 Try.results154 (by simp) (by first | exact .s _ | repeat constructor) ?_
  repeat' (first
 | (with_reducible first | apply qz0 | (refine h0 _ _ ?_; clear h0 hw) | apply qz3 )
 | (with_reducible first | refine w_reg (by decide +kernel) fun K1 hK => ?_ )
 | with_reducible refine go_seq ?_
 | ((with_reducible first | apply v_op Try.tab ) <;> first | (intro K' h0 hw; conv => whnf) | (simp only [Nat.reduceAdd, Nat.reduceMul]; rfl))
 | ((with_reducible apply v_nil); (case hm => (simp only [Nat.reduceAdd, Nat.reduceMul]; rfl)); (case' h => with_reducible refine hK _ ?_; clear hK))
 )
  refine w_loop (X := Nat) [4, 5, 8, 9, 10, 11, 12, 13, 14, 15, 16, 17, 18] (fun i => [(8, I i)]) (fun _ => []) (fun i => i ≤ l.length ∧ ∀ j, j < i → l[j]? ≠ some x) (fun i => l.length - i) 0 (by simp) ?_ ?_
  · refine ⟨kt_refl, ko_refl, ?_, ?_, ?_, ?_, Nat.le_refl _⟩ <;> simp
  rintro i ⟨h1, h2⟩
  repeat' (first
 | (with_reducible first | apply qz0 | (refine h0 _ _ ?_; clear h0 hw) | apply qz1 | apply qz2 | apply qz3 | apply qz4 | apply qz5 | apply qz6 | apply qz7 | apply qz8 | apply qz9 | apply qza | apply qzb | apply qzc | (refine hL _ ?_; clear hL))
 | (with_reducible first | refine w_reg (by decide +kernel) fun K1 hK => ?_ | refine w_reg_end (by decide +kernel) fun K1 hK => ?_)
 | with_reducible refine go_seq ?_
 | ((with_reducible first | apply v_op Try.tab ) <;> first | (intro K' h0 hw; conv => whnf) | (simp only [Nat.reduceAdd, Nat.reduceMul]; rfl))
 | ((with_reducible apply v_nil); (case hm => (simp only [Nat.reduceAdd, Nat.reduceMul]; rfl)); (case' h => with_reducible refine hK _ ?_; clear hK))
 | ((with_reducible apply go_cond); (case hb => rfl))
 | ((with_reducible first | refine w_ret Try.tab fun K' hL => ?_ ); (conv => whnf))
 | ((with_reducible apply And.intro); (case' right => try (conv => whnf)); (case' left => try first | decide | (simp; done) ))
 | ((with_reducible apply Side.mk); (try simp (disch := omega) only [wrp]); (try simp); (try simp (disch := omega) only [wrp]); (try omega))
 | ((with_reducible refine all_row ?_); (first | intro x1 hx1); conv => whnf)
 | (first | (guard_hyp g2; intro g3; try simp at g3) | (guard_hyp g1; intro g2; try simp at g2) | intro g1; try simp at g1))
  · rw [Int.toNat_natCast] at hx1
    rw [idx_some (g2 ▸ hx1) h2]
    exact .refl _
  · rw [Int.toNat_natCast] at hx1
    ((refine w_nx ((i + 1)) ?_ ?_ ?_ ?_ ?_ ?_); (case refine_1 => simp); (case refine_2 => simp); (case refine_3 => simp (disch := omega) [wrp]); (case refine_4 => simp); (case refine_5 => first | (simp; omega) | (simp; done) | omega | (simp only; omega)); (case' refine_6 => (try simp only); (try exact trivial)))
    refine ⟨by omega, fun j hj => ?_⟩
    by_cases hji : j = i
    · subst hji; rw [hx1]; intro e; exact g2 (Option.some.inj e).symm
    · exact h2 j (by omega)
  · rw [List.idxOf?_eq_none_iff.2 (idx_none fun j hj => h2 j (by omega))]
    exact .refl _
theorem c_contains (l : List Int) (x : Int) (hl : l.length ≤ 100000) : PSpec Try.prog 115 [.sl 1 (rowN l), I x] (B (decide (x ∈ l))) := by
  have h := c_index l x hl
  by_cases hm : x ∈ l
  · obtain ⟨i, hi⟩ : ∃ i, l.idxOf? x = some i := by
      cases hq : l.idxOf? x with
      | none => exact absurd hm (List.idxOf?_eq_none_iff.1 hq)
      | some i => exact ⟨i, rfl⟩
    rw [hi] at h
    rw [decide_eq_true hm]
    refine v_pspec Try.func115 rfl Try.ntmps115 Try.results115 (by simp) (by first | exact .s _ | repeat constructor) ?_
    repeat' (first
 | (with_reducible first | apply qz0 | (refine h0 _ _ ?_; clear h0 hw) | apply qz1 | (refine hL _ ?_; clear hL))
 | (with_reducible first | refine w_reg (by decide +kernel) fun K1 hK => ?_ )
 | ((with_reducible first | apply v_op Try.tab ) <;> first | (intro K' h0 hw; conv => whnf) | (simp only [Nat.reduceAdd, Nat.reduceMul]; rfl))
 | ((with_reducible apply v_nil); (case hm => (simp only [Nat.reduceAdd, Nat.reduceMul]; rfl)); (case' h => with_reducible refine hK _ ?_; clear hK))
 | ((with_reducible refine callV_id (f := 154) ?_); (with_reducible apply callV_f own154 (h)); (case hx => rfl); (case he => rfl); (case hle => first | ((repeat constructor); done) ); (case hpu => repeat constructor); (case' hK => conv => whnf))
 | ((with_reducible first | refine w_ret Try.tab fun K' hL => ?_ ); (conv => whnf))
 )
    all_goals exact .refl _
  · rw [List.idxOf?_eq_none_iff.2 hm] at h
    rw [decide_eq_false hm]
    refine v_pspec Try.func115 rfl Try.ntmps115 Try.results115 (by simp) (by first | exact .s _ | repeat constructor) ?_
    repeat' (first
 | (with_reducible first | apply qz0 | (refine h0 _ _ ?_; clear h0 hw) | apply qz1 | (refine hL _ ?_; clear hL))
 | (with_reducible first | refine w_reg (by decide +kernel) fun K1 hK => ?_ )
 | ((with_reducible first | apply v_op Try.tab ) <;> first | (intro K' h0 hw; conv => whnf) | (simp only [Nat.reduceAdd, Nat.reduceMul]; rfl))
 | ((with_reducible apply v_nil); (case hm => (simp only [Nat.reduceAdd, Nat.reduceMul]; rfl)); (case' h => with_reducible refine hK _ ?_; clear hK))
 | ((with_reducible refine callV_id (f := 154) ?_); (with_reducible apply callV_f own154 (h)); (case hx => rfl); (case he => rfl); (case hle => first | ((repeat constructor); done) ); (case hpu => repeat constructor); (case' hK => conv => whnf))
 | ((with_reducible first | refine w_ret Try.tab fun K' hL => ?_ ); (conv => whnf))
 )
    all_goals exact .refl _
theorem endsL_len : ∀ (o : Int) (l : List Rc), (endsL o l).length = l.length + 1
  | o, [] => rfl
  | o, r :: l => by rw [endsL, List.length_cons, endsL_len, List.length_cons]
theorem diskL_len (s : ByteArray) : ∀ (f o : Nat) (last : Option Int) (l : List Rc), diskL s f o last = some l → l.length ≤ f
  | 0, o, last, l, h => by simp [diskL] at h; simp [← h]
  | f + 1, o, last, l, h => by
    unfold diskL at h
    split at h
    · cases h; simp
    split at h
    · cases h; simp
    split at h
    · split at h
      · rename_i l' h2
        cases h
        have := diskL_len s f _ _ _ h2
        simp only [List.length_cons]; omega
      · cases h
    · cases h
abbrev readT (r : (List Rc × List Int) × Int) : AV := .tup [.sl 3 (rowR r.1.1), .sl 1 (rowN r.1.2), I r.2]
abbrev rdSl : List (Nat × AV) := [(1, .ptr 0 0), (2, .ptr 16 0), (3, .ptr 32 0), (4, .ptr 48 0), (5, .ptr 128 0), (6, .ptr 176 0)]
abbrev rdOb (d : Dk) (L : List Rc) (E : List Int) : List (Nat × Ob) := [(0, .box (dkC d)), (16, .box [.s (.slice none 0 0)]), (32, .box [.s (.slice none 0 0)]), (48, .box [I 0]), (128, .box [.osl 144 3 (rowR L)]), (144, .perm 108 3 L.length), (176, .box [.osl 160 1 (rowN E)]), (160, .perm 3 1 E.length)]
theorem obLe_raw (b : Nat) (o : RawO) (cs : List AV) : ObLe (some (.raw b o cs)) (.raw b o cs) := ⟨rfl, rfl, LeL.rfl' _⟩
theorem slots_junk : ∀ (k n : Nat), n < k → slots (List.replicate k .junk) n = .junk
  | 0, n, h => by omega
  | k + 1, 0, _ => rfl
  | k + 1, n + 1, h => slots_junk k n (by omega)
def Frm (S : List (Nat × AV)) (B : List (Nat × Ob)) (n : Nat) : St → Prop := fun σ => leS σ S ∧ leB σ B ∧ σ.nx = n
set_option maxHeartbeats 4000000 in
theorem c_read (hone : OneSpec) (d : Dk) : PSpec Try.prog 58 [.agg (dkC d)] (readT (readR d)) := by
  by_cases hz : 2000 < d.data.size
  · have e : readR d = (([], []), 2) := if_pos hz
    rw [e]
    refine v_pspec Try.func58 rfl Try.ntmps58 Try.results58 (by simp) (by first | exact .s _ | repeat constructor) ?_
    repeat' (first
 | (with_reducible first | apply qz0 | (refine h0 _ _ ?_; clear h0 hw) | (refine hw _ _ _ ?_; clear h0 hw) | apply qz1 | apply qz2 | apply qz5 | apply qz6 | (refine hL _ ?_; clear hL))
 | (with_reducible first | refine w_reg (by decide +kernel) fun K1 hK => ?_ )
 | with_reducible refine go_seq ?_
 | ((with_reducible first | apply v_op Try.tab | apply v_op0 Try.tab ) <;> first | (intro K' h0 hw; conv => whnf) | (simp only [Nat.reduceAdd, Nat.reduceMul]; rfl))
 | ((with_reducible apply v_nil); (case hm => (simp only [Nat.reduceAdd, Nat.reduceMul]; rfl)); (case' h => with_reducible refine hK _ ?_; clear hK))
 | ((with_reducible apply go_cond); (case hb => rfl))
 | ((with_reducible first | refine w_ret Try.tab fun K' hL => ?_ ); (conv => whnf))
 | ((with_reducible apply And.intro); (case' right => try (conv => whnf)); (case' left => try first | rfl | decide | (simp; done) ))
 | (first  | intro g1; try simp at g1))
    all_goals first | (exfalso; omega) | (simp [readT]; done)
  · refine pspec_marks Try.func58 rfl Try.ntmps58 Try.results58 (by simp) (by repeat constructor) ?_
    intro c H ε a w hro hN hD hi Q hQ
    refine pre_use (N := 63) (Frm rdSl (rdOb d [] [0]) 208) hN ?_ [_, _, _] _ ?_ hi
    rotate_left
    · repeat' (first
 | ((with_reducible apply w_ownCell 128 0 108 3); (case hb => rfl); (case hj => rfl); (case hsz => decide); (case hm => (try simp only [Nat.reduceAdd, Nat.reduceMul]); exact rfl))
 | (with_reducible first | apply qz0 | (refine h0 _ _ ?_; clear h0 hw) | (refine hw _ _ _ ?_; clear h0 hw) | apply qz1 | apply qz2 )
 | (with_reducible first | refine w_reg (by decide +kernel) fun K1 hK => ?_ | refine w_reg_end (by decide +kernel) fun K1 hK => ?_)
 | ((with_reducible first | apply v_op Try.tab | apply v_op0 Try.tab ) <;> first | (intro K' h0 hw; conv => whnf) | (simp only [Nat.reduceAdd, Nat.reduceMul]; rfl))
 | ((with_reducible apply v_nil); (case hm => (simp only [Nat.reduceAdd, Nat.reduceMul]; rfl)); (case' h => with_reducible refine hK _ ?_; clear hK))
 | ((with_reducible apply go_cond); (case hb => rfl))
 | ((with_reducible apply And.intro); (case' right => try (conv => whnf)); (case' left => try first | rfl | decide | (simp; done) ))
 | (with_reducible refine pre_next ?_)
 | (first  | intro g1; try simp at g1))
      · exfalso; omega
      · refine pre_last ⟨?_, ?_, rfl⟩ <;> simp
    clear hi
    rintro σ' H' ε' a' w' ⟨q1, q2, q3⟩ hi'
    have hi1 := hi'.only rdSl (rdOb d [] [0]) q1 q2
    rw [q3] at hi1
    clear q1 q2 q3 hi'
    refine wpIn_seq ?_
    have hrec := c_records d.data
    refine pre_use (N := 63) (Frm ((17, .fn (.func 152) [] [.ptr 240 0]) :: rdSl) ((240, .box [Tx d.data]) :: rdOb d [] [0]) 256) hN ?_ [] _ ?_ hi1
    rotate_left
    · repeat' (first
 | (with_reducible first | apply qz0 | (refine h0 _ _ ?_; clear h0 hw) | (refine hw _ _ _ ?_; clear h0 hw) )
 | (with_reducible first | refine w_reg_end (by decide +kernel) fun K1 hK => ?_)
 | ((with_reducible first | apply v_op Try.tab ) <;> first | (intro K' h0 hw; conv => whnf) | (simp only [Nat.reduceAdd, Nat.reduceMul]; rfl))
 | ((with_reducible apply v_nil); (case hm => (simp only [Nat.reduceAdd, Nat.reduceMul]; rfl)); (case' h => with_reducible refine hK _ ?_; clear hK))
 | ((with_reducible refine callV_id (f := 114) ?_); (with_reducible apply w_callO [] own114 (hrec)); (case hx => rfl); (case he => rfl); (case hle => first | ((repeat constructor); done) ); (case hm => rfl); (case hnd => decide); (case' hK => conv => whnf); (any_goals (simp; done)))
 | ((with_reducible apply And.intro); (case' right => try (conv => whnf)); (case' left => try first | rfl | decide | (simp; done) ))
 )
      refine pre_last ⟨?_, ?_, rfl⟩ <;> simp
    clear hi1
    rintro σ' H' ε' a' w' ⟨q1, q2, q3⟩ hi'
    have hi1 := hi'.only ((17, .fn (.func 152) [] [.ptr 240 0]) :: rdSl) ((240, .box [Tx d.data]) :: rdOb d [] [0]) q1 q2
    rw [q3] at hi1
    clear q1 q2 q3 hi'
    refine wpIn_block ?_
    have hsz : d.data.size ≤ 2000 := by omega
    cases hd : diskL d.data d.data.size 0 none with
    | none =>
      have e : readR d = (([], []), 1) := by rw [readR, if_neg hz, hd]
      rw [e] at hQ
      refine wp_range (N := 63) (gf := 152) (caps := [.ptr 240 0]) hi1 hro hN own152 rfl (tmR 16 32 48 128 176) rfl ?_ [240, 128, 144, 176, 160, 257, 16, 32, 48] (some .ret) (.inr rfl) (fun l => [.fn (.yield l) [] [], .ptr 0 0]) (fun l k => .box [Tx d.data] :: obI l k [] [0]) (fun l k => .gone :: obIx l k) (.tup []) (fun D => [(256, .raw D .df []), (16, .box [.s (.slice none 0 0)]), (32, .box [.s (.slice none 0 0)]), (48, .box [I 1])]) ?_ rdSl ?_ ?_
      · intro i hi
        match i, hi with
        | 0, _ => exact .junk _
        | 1, _ => exact .junk _
        | 2, _ => exact .refl _
        | 3, _ => exact .refl _
        | 4, _ => exact .refl _
        | 5, _ => exact .refl _
        | 6, _ => exact .refl _
        | i + 7, hi => rw [show slots (tmR 16 32 48 128 176) (i + 7) = slots (List.replicate 56 .junk) i from rfl, slots_junk _ _ (by omega)]; exact .junk _
      · intro l D fn
        refine ⟨c_recs_no hone l _ d.data hsz hd rfl rfl rfl, rfl, by decide, ?_, ?_, ?_, ?_, ?_, ?_, ⟨.done, by simp, ?_⟩, ?_⟩
        all_goals first | (simp; done) | rfl | (simp [renL, AV.ren, LeL.rfl']; done) | (simp [obLe_raw, wo_updG, LeL.nil]; done)
      · simp
      · intro D H2 ε2 w2 hi2
        refine hQ D 256 _ _ _ _ _ hi2 rfl ?_
        repeat' (first
 | (with_reducible first | (refine hL _ ?_; clear hL))
 | ((with_reducible first | refine w_ret Try.tab fun K' hL => ?_ ); (conv => whnf))
 )
        simp [readT]
    | some lst =>
      have hel : (endsL 0 lst).length ≤ 100000 := by rw [endsL_len]; have := diskL_len _ _ _ _ _ hd; omega
      have hct := c_contains (endsL 0 lst) d.sync hel
      refine wp_range (N := 63) (gf := 152) (caps := [.ptr 240 0]) hi1 hro hN own152 rfl (tmR 16 32 48 128 176) rfl ?_ [240, 128, 144, 176, 160, 257, 16, 32, 48] none (.inl rfl) (fun l => [.fn (.yield l) [] [], .ptr 0 0]) (fun l k => .box [Tx d.data] :: obI l k [] [0]) (fun l k => .gone :: obI l k lst (endsL 0 lst)) (.tup []) (fun D => (256, .raw D .df []) :: rdOb d lst (endsL 0 lst)) ?_ rdSl ?_ ?_
      · intro i hi
        match i, hi with
        | 0, _ => exact .junk _
        | 1, _ => exact .junk _
        | 2, _ => exact .refl _
        | 3, _ => exact .refl _
        | 4, _ => exact .refl _
        | 5, _ => exact .refl _
        | 6, _ => exact .refl _
        | i + 7, hi => rw [show slots (tmR 16 32 48 128 176) (i + 7) = slots (List.replicate 56 .junk) i from rfl, slots_junk _ _ (by omega)]; exact .junk _
      · intro l D fn
        refine ⟨c_recs_ok hone l _ d.data hsz lst hd rfl rfl rfl, rfl, by decide, ?_, ?_, ?_, ?_, ?_, ?_, ⟨.ready, by simp, ?_⟩, ?_⟩
        all_goals first | (simp; done) | rfl | (simp [renL, AV.ren, LeL.rfl']; done) | (simp [obLe_raw, wo_updG, LeL.nil]; done)
      · simp
      · intro D H2 ε2 w2 hi2
        have e : readR d = if d.sync ∈ endsL 0 lst then ((lst, endsL 0 lst), 0) else (([], []), 3) := by rw [readR, if_neg hz, hd]
        refine tri_useIn (c := { c with D := markD D :: c.D }) (N := 63) (MarkK 256 D (retK Try.prog (Try.f58.results.toList) (readT (readR d)))) ?_ hN hi2 ?_
        · rw [Try.results58]
          by_cases hm : d.sync ∈ endsL 0 lst
          · rw [e, if_pos hm]
            rw [decide_eq_true hm] at hct
            repeat' (first
 | (with_reducible first | apply qz0 | (refine h0 _ _ ?_; clear h0 hw) | (refine hw _ _ _ ?_; clear h0 hw) | apply qz1 | apply qz2 | apply qz6 | (refine hL _ ?_; clear hL))
 | (with_reducible first | refine w_reg (by decide +kernel) fun K1 hK => ?_ )
 | ((with_reducible first | apply d_reg Try.mix (by decide +kernel) ); (case hm => simp only [List.length_cons, List.length_nil, Nat.reduceAdd, Nat.reduceMul]; rfl); (case' h => intro K1 hK))
 | with_reducible refine go_seq ?_
 | ((with_reducible first | apply v_op Try.tab | apply d_op Try.tab | apply d_op0 Try.tab) <;> first | (intro K' h0 hw; conv => whnf) | (simp only [Nat.reduceAdd, Nat.reduceMul]; rfl))
 | ((with_reducible apply v_nil); (case hm => (simp only [Nat.reduceAdd, Nat.reduceMul]; rfl)); (case' h => with_reducible refine hK _ ?_; clear hK))
 | ((with_reducible apply d_nil); (refine hK _ _ _ _ (by first | (simp only [List.map_cons, List.map_nil, List.nil_append, List.cons_append]; decide +kernel) ) ?_; clear hK))
 | ((with_reducible refine callV_id (f := 115) ?_); (with_reducible apply callV_f own115 (hct)); (case hx => rfl); (case he => rfl); (case hle => first | ((repeat constructor); done) ); (case hpu => repeat constructor); (case' hK => conv => whnf))
 | ((with_reducible apply go_cond); (case hb => rfl))
 | ((with_reducible first | refine w_ret Try.tab fun K' hL => ?_ ); (conv => whnf))
 | ((with_reducible apply And.intro); (case' right => try (conv => whnf)); (case' left => try first | rfl | decide | (simp; done) ))
 | ((with_reducible apply ret_mark); (case h2 => rfl))
 | (first  | intro g1; try simp at g1))
            simp [readT]
          · rw [e, if_neg hm]
            rw [decide_eq_false hm] at hct
            repeat' (first
 | (with_reducible first | apply qz0 | (refine h0 _ _ ?_; clear h0 hw) | (refine hw _ _ _ ?_; clear h0 hw) | apply qz1 | apply qz5 | (refine hL _ ?_; clear hL))
 | (with_reducible first | refine w_reg (by decide +kernel) fun K1 hK => ?_ )
 | with_reducible refine go_seq ?_
 | ((with_reducible first | apply v_op Try.tab | apply v_op0 Try.tab ) <;> first | (intro K' h0 hw; conv => whnf) | (simp only [Nat.reduceAdd, Nat.reduceMul]; rfl))
 | ((with_reducible apply v_nil); (case hm => (simp only [Nat.reduceAdd, Nat.reduceMul]; rfl)); (case' h => with_reducible refine hK _ ?_; clear hK))
 | ((with_reducible refine callV_id (f := 115) ?_); (with_reducible apply callV_f own115 (hct)); (case hx => rfl); (case he => rfl); (case hle => first | ((repeat constructor); done) ); (case hpu => repeat constructor); (case' hK => conv => whnf))
 | ((with_reducible apply go_cond); (case hb => rfl))
 | ((with_reducible first | refine w_ret Try.tab fun K' hL => ?_ ); (conv => whnf))
 | ((with_reducible apply And.intro); (case' right => try (conv => whnf)); (case' left => try first | rfl | decide | (simp; done) ))
 | ((with_reducible apply ret_mark); (case h2 => rfl))
 | (first  | intro g1; try simp at g1))
            simp [readT]
        · rintro ex σ3 H3 ε3 a3 w3 ⟨rfl, hK, hid⟩ hi3
          rw [Try.results58] at hK
          exact hQ D 256 _ _ _ _ _ hi3 hid (by rw [out_iff]; exact hK)
end Go.Proofs.Ytbhcjgobapnajaa

/- Walks of package cursor, for stores that are old: what comes back is new. No condition. -/
import Derived.Test.YtbhcjgobapnajaaOld
namespace Go.Proofs.Ytbhcjgobapnajaa
open Go Go.Sy
set_option maxRecDepth 4000
set_option linter.unusedSimpArgs false
set_option linter.unusedVariables false
attribute [local irreducible] Reg RegD Later Out CallV Tri Side EqV
abbrev wkBN (c : Cu) (first : Int) (l : List (List Fr)) (turn : Bool) : Ob := .box [I c.mode, I c.group, I c.frame, I first, .sl 1 (rowGO l), B turn]
set_option maxHeartbeats 1000000 in
theorem c_framesN (c : Cu) (first : Int) (l : List (List Fr)) (turn : Bool) (h : SmallC l first c) (hin : inB l first c = true) :
    CSpec Try.prog 145 [.ptr 0 0] [wkBN c first l turn] (frsO (grpAt l first c)) [wkBN c first l turn] := by
  obtain ⟨h1, h2, h3, h4⟩ := h
  simp [inB] at hin
  have e1 := wrp (n := c.group - first) (by omega) (by omega)
  refine v_cspec Try.func145 rfl Try.ntmps145 Try.results145 (by simp) (k := 1) rfl ?_
  repeat' (first
 | (with_reducible first | apply qz0 | (refine h0 _ _ ?_; clear h0 hw) | apply qz1 )
 | (with_reducible first | refine w_reg (by decide +kernel) fun K1 hK => ?_ )
 | ((with_reducible first | apply d_reg Try.mix (by decide +kernel) ); (case hm => simp only [List.length_cons, List.length_nil, Nat.reduceAdd, Nat.reduceMul]; rfl); (case' h => intro K1 hK))
 | ((with_reducible first | apply v_op Try.tab | apply d_op Try.tab ) <;> first | (intro K' h0 hw; conv => whnf) | (simp only [Nat.reduceAdd, Nat.reduceMul]; rfl))
 | ((with_reducible apply v_nil); (case hm => (simp only [Nat.reduceAdd, Nat.reduceMul]; rfl)); (case' h => with_reducible refine hK _ ?_; clear hK))
 | ((with_reducible apply d_nil); (refine hK _ _ _ _ (by first | decide +kernel ) ?_; clear hK))
 | ((with_reducible apply And.intro); (case' right => try (conv => whnf)); (case' left => try first | rfl | decide | (simp [e1]; done) ))
 | ((with_reducible apply Side.mk); (try simp (disch := omega) only [wrp]); (try simp); (try simp (disch := omega) only [wrp]); (try omega))
 | ((with_reducible refine all_row ?_); (first | intro x1 hx1); conv => whnf)
 )
  rw [e1] at hx1
  have e : grpAt l first c = x1 := by rw [grpAt, List.getD_eq_getElem?_getD, hx1]; rfl
  rw [e]
  ((first | refine w_retO Try.tab [] (by rfl) (by simp) (by simp) (fun K' hL => ?_) ?_ ?_ ?_ | refine w_retO_end Try.tab [] (by rfl) (by simp) (by simp) (fun K' hL => ?_) ?_ ?_ ?_); (conv => whnf); (refine hL _ ?_; clear hL); all_goals simp)
set_option maxHeartbeats 1000000 in
theorem c_lostN (c : Cu) (first : Int) (l : List (List Fr)) (turn : Bool) (h : SmallC l first c) :
    CSpec Try.prog 168 [.ptr 0 0] [wkBN c first l turn] (B (lostB l first c)) [wkBN c first l turn] := by
  have hh := h
  obtain ⟨h1, h2, h3, h4⟩ := hh
  have e1 := wrp (n := first + (l.length : Int)) (by omega) (by omega)
  have e2 := wrp (n := first + (l.length : Int) - 1) (by omega) (by omega)
  refine v_cspec Try.func168 rfl Try.ntmps168 Try.results168 (by simp) (k := 1) rfl ?_
  repeat' (first
 | (with_reducible first | apply qz0 | (refine h0 _ _ ?_; clear h0 hw) | apply qz1 )
 | (with_reducible first | refine w_reg (by decide +kernel) fun K1 hK => ?_ )
 | ((with_reducible first | apply d_reg Try.mix (by decide +kernel) ); (case hm => simp only [List.length_cons, List.length_nil, Nat.reduceAdd, Nat.reduceMul]; rfl); (case' h => intro K1 hK))
 | ((with_reducible first | apply v_op Try.tab | apply d_op Try.tab ) <;> first | (intro K' h0 hw; conv => whnf) | (simp only [Nat.reduceAdd, Nat.reduceMul]; rfl))
 | ((with_reducible apply v_nil); (case hm => (simp only [Nat.reduceAdd, Nat.reduceMul]; rfl)); (case' h => with_reducible refine hK _ ?_; clear hK))
 | ((with_reducible apply d_nil); (refine hK _ _ _ _ (by first | decide +kernel ) ?_; clear hK))
 | (first | refine d_grd_yes (by rfl) (by rfl) ?_ )
 | ((first | (apply d_grd_no; (case hg => rfl); (case hb => rfl)) | (apply d_grd; (case hg => rfl); (case hb => rfl)) ); (case hi => (simp only [Nat.reduceAdd, Nat.reduceMul]; rfl)))
 | ((with_reducible refine callV_id (f := 107) ?_); (with_reducible apply callV_f own107 (c_cwithin _ _ _)); (case hx => rfl); (case he => rfl); (case hle => first | ((repeat constructor); done) ); (case hpu => repeat constructor); (case' hK => conv => whnf))
 | ((with_reducible refine callV_id (f := 145) ?_); have hcs_ := c_framesN c first l turn h (by simp [inB, e1, e2] at g1 ⊢; omega); (with_reducible apply w_callR [0] own145 (hcs_)); (case hx => rfl); (case he => rfl); (case hle => first | ((repeat constructor); done) ); (case hm => rfl); (case hnd => decide); (case' hK => (try clear hcs_); conv => whnf); (any_goals first | exact ⟨rfl, trivial⟩ | (simp [e1, e2]; done)))
 | ((with_reducible apply And.intro); (case' right => try (conv => whnf)); (case' left => try first | rfl | decide | (simp [e1, e2]; done) ))
 | (first | (guard_hyp g1; intro g2; try simp at g2) | intro g1; try simp at g1))
  all_goals simp only [e1, e2] at g1
  · have e : lostB l first c = decide ((grpAt l first c).length < c.frame) := by simp [lostB, inB]; omega
    rw [e]
    ((first | refine w_retO Try.tab [] (by rfl) (by simp) (by simp) (fun K' hL => ?_) ?_ ?_ ?_ | refine w_retO_end Try.tab [] (by rfl) (by simp) (by simp) (fun K' hL => ?_) ?_ ?_ ?_); (conv => whnf); (refine hL _ ?_; clear hL); all_goals simp)
  · have e : lostB l first c = true := by simp [lostB, inB]; omega
    rw [e]
    ((first | refine w_retO Try.tab [] (by rfl) (by simp) (by simp) (fun K' hL => ?_) ?_ ?_ ?_ | refine w_retO_end Try.tab [] (by rfl) (by simp) (by simp) (fun K' hL => ?_) ?_ ?_ ?_); (conv => whnf); (refine hL _ ?_; clear hL); all_goals simp)
set_option maxHeartbeats 1000000 in
theorem c_settle0N (c : Cu) (first : Int) : CSpec Try.prog 144 [.ptr 0 0] [wkBN c first [] false] (B false) [wkBN c first [] false] := by
  refine v_cspec Try.func144 rfl Try.ntmps144 Try.results144 (by simp) (k := 1) rfl ?_
  repeat' (first
 | (with_reducible first | apply qz0 | (refine h0 _ _ ?_; clear h0 hw) | apply qz1 | apply qz5 )
 | (with_reducible first | refine w_reg (by decide +kernel) fun K1 hK => ?_ )
 | with_reducible refine go_seq ?_
 | ((with_reducible first | apply v_op Try.tab ) <;> first | (intro K' h0 hw; conv => whnf) | (simp only [Nat.reduceAdd, Nat.reduceMul]; rfl))
 | ((with_reducible apply v_nil); (case hm => (simp only [Nat.reduceAdd, Nat.reduceMul]; rfl)); (case' h => with_reducible refine hK _ ?_; clear hK))
 | ((with_reducible apply go_cond); (case hb => rfl))
 | ((with_reducible apply And.intro); (case' right => try (conv => whnf)); (case' left => try first | rfl | decide | (simp; done) ))
 | (first  | intro g1; try simp at g1))
  ((first | refine w_retO Try.tab [] (by rfl) (by simp) (by simp) (fun K' hL => ?_) ?_ ?_ ?_ | refine w_retO_end Try.tab [] (by rfl) (by simp) (by simp) (fun K' hL => ?_) ?_ ?_ ?_); (conv => whnf); (refine hL _ ?_; clear hL); all_goals simp)
set_option maxHeartbeats 1000000 in
theorem c_settleN (c : Cu) (first : Int) (l : List (List Fr)) (h : SmallC l first c) (hl : l ≠ []) :
    CSpec Try.prog 144 [.ptr 0 0] [wkBN c first l false] (B (decide (setG l first c < first + l.length))) [wkBN (setC l first c) first l (lostB l first c)] := by
  have hh := h
  obtain ⟨h1, h2, h3, h4⟩ := hh
  have hp := List.length_pos_iff.2 hl
  have e1 := wrp (n := first + (l.length : Int)) (by omega) (by omega)
  have e2 := wrp (n := first + (l.length : Int) - 1) (by omega) (by omega)
  have e3 := wrp (n := c.group + 1) (by omega) (by omega)
  have hL := c_lostN c first l false h
  rcases (by cases lostB l first c <;> simp : lostB l first c = true ∨ lostB l first c = false) with hb | hb
  · rw [hb] at hL
    refine v_cspec Try.func144 rfl Try.ntmps144 Try.results144 (by simp) (k := 1) rfl ?_
    repeat' (first
 | (with_reducible first | apply qz0 | (refine h0 _ _ ?_; clear h0 hw) | (refine hw _ _ _ ?_; clear h0 hw) | apply qz1 | apply qz2 | apply qz3 | apply qz5 | apply qz6 | apply qz9 )
 | (with_reducible first | refine w_reg (by decide +kernel) fun K1 hK => ?_ )
 | ((with_reducible first | apply d_reg Try.mix (by decide +kernel) | apply d_reg_end Try.mix (by decide +kernel)); (case hm => simp only [List.length_cons, List.length_nil, Nat.reduceAdd, Nat.reduceMul]; rfl); (case' h => intro K1 hK))
 | with_reducible refine go_seq ?_
 | ((with_reducible first | apply v_op Try.tab | apply v_op0 Try.tab | apply d_op Try.tab | apply d_op0 Try.tab) <;> first | (intro K' h0 hw; conv => whnf) | (simp only [Nat.reduceAdd, Nat.reduceMul]; rfl))
 | ((with_reducible apply v_nil); (case hm => (simp only [Nat.reduceAdd, Nat.reduceMul]; rfl)); (case' h => with_reducible refine hK _ ?_; clear hK))
 | ((with_reducible apply d_nil); (refine hK _ _ _ _ (by first | decide +kernel | (simp only [List.map_cons, List.map_nil, List.nil_append, List.cons_append]; decide +kernel) ) ?_; clear hK))
 | ((with_reducible refine callV_id (f := 168) ?_); (with_reducible apply w_callO [0] own168 (hL)); (case hx => rfl); (case he => rfl); (case hle => first | ((repeat constructor); done) ); (case hm => rfl); (case hnd => decide); (case' hK => conv => whnf); (any_goals (simp [e1, e2]; done)))
 | ((with_reducible apply go_cond); (case hb => rfl))
 | ((with_reducible apply And.intro); (case' right => try (conv => whnf)); (case' left => try first | rfl | decide | (simp [e1, e2]; done) ))
 | (first | (guard_hyp g1; intro g2; try simp at g2) | intro g1; try simp at g1))
    · exact absurd g1 hl
    · have e4 : setG l first c = first + l.length - 1 := by simp [setG, hb, *]
      have e5 : setF l first c = 0 := by simp [setF, hb, *]
      simp only [setC, e4, e5, hb]
      ((first | refine w_retO Try.tab [] (by rfl) (by simp) (by simp) (fun K' hL => ?_) ?_ ?_ ?_ | refine w_retO_end Try.tab [] (by rfl) (by simp) (by simp) (fun K' hL => ?_) ?_ ?_ ?_); (conv => whnf); (refine hL _ ?_; clear hL); all_goals simp [e1, e2, e3])
    · have e4 : setG l first c = first := by simp [setG, hb, *]
      have e5 : setF l first c = 0 := by simp [setF, hb, *]
      simp only [setC, e4, e5, hb]
      ((first | refine w_retO Try.tab [] (by rfl) (by simp) (by simp) (fun K' hL => ?_) ?_ ?_ ?_ | refine w_retO_end Try.tab [] (by rfl) (by simp) (by simp) (fun K' hL => ?_) ?_ ?_ ?_); (conv => whnf); (refine hL _ ?_; clear hL); all_goals simp [e1, e2, e3])
  · rw [hb] at hL
    have hF := c_framesN c first l false h (lost_in hb).1
    refine v_cspec Try.func144 rfl Try.ntmps144 Try.results144 (by simp) (k := 1) rfl ?_
    repeat' (first
 | (with_reducible first | apply qz0 | (refine h0 _ _ ?_; clear h0 hw) | (refine hw _ _ _ ?_; clear h0 hw) | apply qz1 | apply qz2 | apply qz3 | apply qz5 | apply qz6 | apply qz9 )
 | (with_reducible first | refine w_reg (by decide +kernel) fun K1 hK => ?_ | refine w_reg_end (by decide +kernel) fun K1 hK => ?_)
 | ((with_reducible first | apply d_reg Try.mix (by decide +kernel) ); (case hm => simp only [List.length_cons, List.length_nil, Nat.reduceAdd, Nat.reduceMul]; rfl); (case' h => intro K1 hK))
 | with_reducible refine go_seq ?_
 | ((with_reducible first | apply v_op Try.tab | apply v_op0 Try.tab | apply d_op Try.tab ) <;> first | (intro K' h0 hw; conv => whnf) | (simp only [Nat.reduceAdd, Nat.reduceMul]; rfl))
 | ((with_reducible apply v_nil); (case hm => (simp only [Nat.reduceAdd, Nat.reduceMul]; rfl)); (case' h => with_reducible refine hK _ ?_; clear hK))
 | ((with_reducible apply d_nil); (refine hK _ _ _ _ (by first | decide +kernel ) ?_; clear hK))
 | ((with_reducible refine callV_id (f := 168) ?_); (with_reducible apply w_callO [0] own168 (hL)); (case hx => rfl); (case he => rfl); (case hle => first | ((repeat constructor); done) ); (case hm => rfl); (case hnd => decide); (case' hK => conv => whnf); (any_goals (simp [e1, e2, e3]; done)))
 | ((with_reducible refine callV_id (f := 145) ?_); (with_reducible apply w_callR [0] own145 (hF)); (case hx => rfl); (case he => rfl); (case hle => first | ((repeat constructor); done) ); (case hm => rfl); (case hnd => decide); (case' hK => conv => whnf); (any_goals first | exact ⟨rfl, trivial⟩ | (simp [e1, e2, e3]; done)))
 | ((with_reducible apply go_cond); (case hb => rfl))
 | ((with_reducible apply And.intro); (case' right => try (conv => whnf)); (case' left => try first | rfl | decide | (simp [e1, e2, e3]; done) ))
 | (first | (guard_hyp g1; intro g2; try simp at g2) | intro g1; try simp at g1))
    · exact absurd g1 hl
    · have e4 : setG l first c = c.group + 1 := by simp [setG, hb, *]
      have e5 : setF l first c = 0 := by simp [setF, hb, *]
      simp only [setC, e4, e5, hb]
      ((first | refine w_retO Try.tab [] (by rfl) (by simp) (by simp) (fun K' hL => ?_) ?_ ?_ ?_ | refine w_retO_end Try.tab [] (by rfl) (by simp) (by simp) (fun K' hL => ?_) ?_ ?_ ?_); (conv => whnf); (refine hL _ ?_; clear hL); all_goals simp [e1, e2, e3])
    · have e4 : setG l first c = c.group := by simp [setG, hb, *]
      have e5 : setF l first c = c.frame := by simp [setF, hb, *]
      simp only [setC, e4, e5, hb]
      ((first | refine w_retO Try.tab [] (by rfl) (by simp) (by simp) (fun K' hL => ?_) ?_ ?_ ?_ | refine w_retO_end Try.tab [] (by rfl) (by simp) (by simp) (fun K' hL => ?_) ?_ ?_ ?_); (conv => whnf); (refine hL _ ?_; clear hL); all_goals simp [e1, e2, e3])
set_option maxHeartbeats 2000000 in
theorem c_cursorRawN (s : Sto) (c : Cu) (upto : Int) (hr : RightS s) (hop : 0 < s.op.length) (hc : cuE c = 0) : PSpec Try.prog 108 [.agg (stO s), .agg (cuC c), I upto] (.tup (nxT (nextR s c upto))) := by
  refine v_pspec Try.func108 rfl Try.ntmps108 Try.results108 (by simp) (by repeat constructor) ?_
  have hsc := right_smallC hr hc
  have hne : ∀ g ∈ allS s, 0 < g.length := fun g hg => List.length_pos_iff.2 (groupE_ok (hr.all.2 g hg)).1
  have hAll := c_storeAllN s (by have := hr.2.1; omega) hop
  have hgm : ∀ c', 0 < (grpAt (allS s) s.first c').length → grpAt (allS s) s.first c' ∈ allS s := fun c' h => grpAt_mem h
  by_cases hl : allS s = []
  · have e : nextR s c upto = (c, fr0, false, false) := if_pos (.inr (.inl hl))
    rw [hl] at hAll
    rw [e]
    have hS := c_settle0N c s.first
    repeat' (first
 | (with_reducible first | apply qz0 | (refine h0 _ _ ?_; clear h0 hw) | (refine hw _ _ _ ?_; clear h0 hw) | apply qz1 | apply qz5 | (refine hL _ ?_; clear hL))
 | (with_reducible first | refine w_reg (by decide +kernel) fun K1 hK => ?_ )
 | ((with_reducible first | apply d_reg Try.mix (by decide +kernel) ); (case hm => simp only [List.length_cons, List.length_nil, Nat.reduceAdd, Nat.reduceMul]; rfl); (case' h => intro K1 hK))
 | with_reducible refine go_seq ?_
 | ((with_reducible first | apply v_op Try.tab | apply v_op0 Try.tab | apply d_op Try.tab ) <;> first | (intro K' h0 hw; conv => whnf) | (simp only [Nat.reduceAdd, Nat.reduceMul]; rfl))
 | ((with_reducible apply v_nil); (case hm => (simp only [Nat.reduceAdd, Nat.reduceMul]; rfl)); (case' h => with_reducible refine hK _ ?_; clear hK))
 | ((with_reducible apply d_nil); (refine hK _ _ _ _ (by first | (simp only [List.map_cons, List.map_nil, List.nil_append, List.cons_append]; decide +kernel) ) ?_; clear hK))
 | (first | refine v_grd_yes (by rfl) (by rfl) ?_)
 | ((first | (apply v_grd_no; (case hg => rfl); (case hb => rfl)) | (apply v_grd; (case hg => rfl); (case hb => rfl))); (case hi => (simp only [Nat.reduceAdd, Nat.reduceMul]; rfl)))
 | ((with_reducible refine callV_id (f := 74) ?_); (with_reducible apply callV_f own74 (hAll)); (case hx => rfl); (case he => rfl); (case hle => first | ((repeat constructor); done) ); (case hpu => repeat constructor); (case' hK => conv => whnf))
 | ((with_reducible refine callV_id (f := 144) ?_); (with_reducible apply w_callO [192] own144 (hS)); (case hx => rfl); (case he => rfl); (case hle => first | ((repeat constructor); done) ); (case hm => rfl); (case hnd => decide); (case' hK => conv => whnf); (any_goals (simp; done)))
 | ((with_reducible apply go_cond); (case hb => rfl))
 | ((with_reducible first | refine w_ret Try.tab fun K' hL => ?_ ); (conv => whnf))
 | ((with_reducible apply And.intro); (case' right => try (conv => whnf)); (case' left => try first | rfl | decide | (simp; done) ))
 | (first | (guard_hyp g4; intro g5; try simp at g5) | (guard_hyp g3; intro g4; try simp at g4) | (guard_hyp g2; intro g3; try simp at g3) | (guard_hyp g1; intro g2; try simp at g2) | intro g1; try simp at g1))
    all_goals simp [fr0]
  · by_cases hq : setG (allS s) s.first c < s.first + (allS s).length
    · obtain ⟨q1, q2, q3, q4⟩ := settle_in hsc hne hl hq
      have hS := c_settleN c s.first (allS s) hsc hl
      have hqd : decide (setG (allS s) s.first c < s.first + (allS s).length) = true := by simpa using hq
      rw [hqd] at hS
      have hgr := hr.all.2 _ (hgm (setC (allS s) s.first c) (by omega))
      have hg6 := (groupE_ok hgr).2.1
      have hgf := (right_fits hgr).2
      have e3 := wrp (n := setF (allS s) s.first c + 1) (by omega) (by omega)
      have hx' : ∀ {x1 : Fr}, (grpAt (allS s) s.first (setC (allS s) s.first c))[(setC (allS s) s.first c).frame.toNat]? = some x1 → (grpAt (allS s) s.first (setC (allS s) s.first c)).getD (setF (allS s) s.first c).toNat fr0 = x1 := fun h => by
        rw [List.getD_eq_getElem?_getD]; exact congrArg (·.getD fr0) h
      have hn : ¬ c.mode = 2 → ∀ {x1 : Fr}, (grpAt (allS s) s.first (setC (allS s) s.first c))[(setC (allS s) s.first c).frame.toNat]? = some x1 → nextR s c upto = if c.mode = 3 ∧ upto < x1.time then (c, fr0, false, false) else (⟨c.mode, setG (allS s) s.first c, setF (allS s) s.first c + 1⟩, x1, true, lostB (allS s) s.first c) := fun h1 {x1} h2 => by
        rw [nextR, if_neg (by simp [h1, hl]; omega), hx' h2]
      have hF := c_framesN (setC (allS s) s.first c) s.first (allS s) (lostB (allS s) s.first c) (by obtain ⟨a1, a2, a3, a4⟩ := hsc; exact ⟨a1, a2, by simp only; omega, by simp only; omega⟩) q1
      repeat' (first
 | (with_reducible first | apply qz0 | (refine h0 _ _ ?_; clear h0 hw) | (refine hw _ _ _ ?_; clear h0 hw) | apply qz1 | apply qz2 | apply qz5 | apply qz6 | (refine hL _ ?_; clear hL))
 | (with_reducible first | refine w_reg (by decide +kernel) fun K1 hK => ?_ )
 | ((with_reducible first | apply d_reg Try.mix (by decide +kernel) ); (case hm => simp only [List.length_cons, List.length_nil, Nat.reduceAdd, Nat.reduceMul]; rfl); (case' h => intro K1 hK))
 | with_reducible refine go_seq ?_
 | ((with_reducible first | apply v_op Try.tab | apply v_op0 Try.tab | apply d_op Try.tab | apply d_op0 Try.tab) <;> first | (intro K' h0 hw; conv => whnf) | (simp only [Nat.reduceAdd, Nat.reduceMul]; rfl))
 | ((with_reducible apply v_nil); (case hm => (simp only [Nat.reduceAdd, Nat.reduceMul]; rfl)); (case' h => with_reducible refine hK _ ?_; clear hK))
 | ((with_reducible apply d_nil); (refine hK _ _ _ _ (by first | (simp only [List.map_cons, List.map_nil, List.nil_append, List.cons_append]; decide +kernel) ) ?_; clear hK))
 | (first | refine v_grd_yes (by rfl) (by rfl) ?_)
 | ((first | (apply v_grd_no; (case hg => rfl); (case hb => rfl)) | (apply v_grd; (case hg => rfl); (case hb => rfl))); (case hi => (simp only [Nat.reduceAdd, Nat.reduceMul]; rfl)))
 | ((with_reducible refine callV_id (f := 74) ?_); (with_reducible apply callV_f own74 (hAll)); (case hx => rfl); (case he => rfl); (case hle => first | ((repeat constructor); done) ); (case hpu => repeat constructor); (case' hK => conv => whnf))
 | ((with_reducible refine callV_id (f := 144) ?_); (with_reducible apply w_callO [192] own144 (hS)); (case hx => rfl); (case he => rfl); (case hle => first | ((repeat constructor); done) ); (case hm => rfl); (case hnd => decide); (case' hK => conv => whnf); (any_goals (simp; done)))
 | ((with_reducible refine callV_id (f := 145) ?_); (with_reducible apply w_callR [192] own145 (hF)); (case hx => rfl); (case he => rfl); (case hle => first | ((repeat constructor); done) ); (case hm => rfl); (case hnd => decide); (case' hK => conv => whnf); (any_goals first | exact ⟨rfl, trivial⟩ | (simp; done)))
 | ((with_reducible refine callV_id (f := 124) ?_); have hcs_ := c_frameOwnO x1 (hgf x1 (List.mem_of_getElem? hx1)); (with_reducible apply callV_f own124 (hcs_)); (case hx => rfl); (case he => rfl); (case hle => first | ((repeat constructor); done) ); (case hpu => repeat constructor); (case' hK => (try clear hcs_); conv => whnf))
 | ((with_reducible apply go_cond); (case hb => rfl))
 | ((with_reducible first | refine w_ret Try.tab fun K' hL => ?_ ); (conv => whnf))
 | ((with_reducible apply And.intro); (case' right => try (conv => whnf)); (case' left => try first | rfl | decide | (simp; done) ))
 | ((with_reducible apply Side.mk); (try simp (disch := omega) only [wrp]); (try simp); (try simp (disch := omega) only [wrp]); (try omega))
 | ((with_reducible refine all_row ?_); (first | intro x1 hx1); conv => whnf)
 | (first | (guard_hyp g4; intro g5; try simp at g5) | (guard_hyp g3; intro g4; try simp at g4) | (guard_hyp g2; intro g3; try simp at g3) | (guard_hyp g1; intro g2; try simp at g2) | intro g1; try simp at g1))
      · rw [hn g1 hx1, if_pos ⟨g3, g4⟩]; simp [fr0]
      · rw [hn g1 hx1, if_neg (by omega)]; simp [e3]
      · rw [hn g1 hx1, if_neg (by omega)]; simp [e3]
      · have e : nextR s c upto = (c, fr0, false, false) := if_pos (.inl g1)
        rw [e]; simp [fr0]
    · have e : nextR s c upto = (c, fr0, false, false) := if_pos (.inr (.inr hq))
      rw [e]
      have hS := c_settleN c s.first (allS s) hsc hl
      have hqd : decide (setG (allS s) s.first c < s.first + (allS s).length) = false := by simpa using hq
      rw [hqd] at hS
      repeat' (first
 | (with_reducible first | apply qz0 | (refine h0 _ _ ?_; clear h0 hw) | (refine hw _ _ _ ?_; clear h0 hw) | apply qz1 | apply qz5 | (refine hL _ ?_; clear hL))
 | (with_reducible first | refine w_reg (by decide +kernel) fun K1 hK => ?_ )
 | ((with_reducible first | apply d_reg Try.mix (by decide +kernel) ); (case hm => simp only [List.length_cons, List.length_nil, Nat.reduceAdd, Nat.reduceMul]; rfl); (case' h => intro K1 hK))
 | with_reducible refine go_seq ?_
 | ((with_reducible first | apply v_op Try.tab | apply v_op0 Try.tab | apply d_op Try.tab ) <;> first | (intro K' h0 hw; conv => whnf) | (simp only [Nat.reduceAdd, Nat.reduceMul]; rfl))
 | ((with_reducible apply v_nil); (case hm => (simp only [Nat.reduceAdd, Nat.reduceMul]; rfl)); (case' h => with_reducible refine hK _ ?_; clear hK))
 | ((with_reducible apply d_nil); (refine hK _ _ _ _ (by first | (simp only [List.map_cons, List.map_nil, List.nil_append, List.cons_append]; decide +kernel) ) ?_; clear hK))
 | (first | refine v_grd_yes (by rfl) (by rfl) ?_)
 | ((first | (apply v_grd_no; (case hg => rfl); (case hb => rfl)) | (apply v_grd; (case hg => rfl); (case hb => rfl))); (case hi => (simp only [Nat.reduceAdd, Nat.reduceMul]; rfl)))
 | ((with_reducible refine callV_id (f := 74) ?_); (with_reducible apply callV_f own74 (hAll)); (case hx => rfl); (case he => rfl); (case hle => first | ((repeat constructor); done) ); (case hpu => repeat constructor); (case' hK => conv => whnf))
 | ((with_reducible refine callV_id (f := 144) ?_); (with_reducible apply w_callO [192] own144 (hS)); (case hx => rfl); (case he => rfl); (case hle => first | ((repeat constructor); done) ); (case hm => rfl); (case hnd => decide); (case' hK => conv => whnf); (any_goals (simp; done)))
 | ((with_reducible apply go_cond); (case hb => rfl))
 | ((with_reducible first | refine w_ret Try.tab fun K' hL => ?_ ); (conv => whnf))
 | ((with_reducible apply And.intro); (case' right => try (conv => whnf)); (case' left => try first | rfl | decide | (simp; done) ))
 | (first | (guard_hyp g4; intro g5; try simp at g5) | (guard_hyp g3; intro g4; try simp at g4) | (guard_hyp g2; intro g3; try simp at g3) | (guard_hyp g1; intro g2; try simp at g2) | intro g1; try simp at g1))
      all_goals simp [fr0]
set_option maxHeartbeats 2000000 in
theorem c_cursorNextN (s : Sto) (c : Cu) (upto : Int) (hs : FitsS s) (hop : 0 < s.op.length) : PSpec Try.prog 51 [.agg (stO s), .agg (cuC c), I upto] (nxT' (nextS s c upto)) := by
  refine v_pspec Try.func51 rfl Try.ntmps51 Try.results51 (by simp) (by repeat constructor) ?_
  by_cases hE : nextE s c upto = 0
  · obtain ⟨h1, h2, h3, h4⟩ := nextE_ok hE
    have hC := c_storeCheckO s hs
    rw [right_storeE h1] at hC
    have hD := c_cursorCheck c
    rw [h2] at hD
    have hR := c_cursorRawN s c upto h1 hop h2
    have e : nextS s c upto = (nextR s c upto, 0) := if_pos hE
    rw [e]
    repeat' (first
 | (with_reducible first | apply qz0 | (refine h0 _ _ ?_; clear h0 hw) | (refine hw _ _ _ ?_; clear h0 hw) | apply qz1 | apply qz2 | apply qz5 | apply qz6 | (refine hL _ ?_; clear hL))
 | (with_reducible first | refine w_reg (by decide +kernel) fun K1 hK => ?_ | refine w_reg_end (by decide +kernel) fun K1 hK => ?_)
 | ((with_reducible first | apply d_reg Try.mix (by decide +kernel) ); (case hm => simp only [List.length_cons, List.length_nil, Nat.reduceAdd, Nat.reduceMul]; rfl); (case' h => intro K1 hK))
 | with_reducible refine go_seq ?_
 | ((with_reducible first | apply v_op Try.tab | apply v_op0 Try.tab | apply d_op Try.tab | apply d_op0 Try.tab) <;> first | (intro K' h0 hw; conv => whnf) | (simp only [Nat.reduceAdd, Nat.reduceMul]; rfl))
 | ((with_reducible apply v_nil); (case hm => (simp only [Nat.reduceAdd, Nat.reduceMul]; rfl)); (case' h => with_reducible refine hK _ ?_; clear hK))
 | ((with_reducible apply d_nil); (refine hK _ _ _ _ (by first | (simp only [List.map_cons, List.map_nil, List.nil_append, List.cons_append]; decide +kernel) ) ?_; clear hK))
 | (first | refine v_grd_yes (by rfl) (by rfl) ?_)
 | ((with_reducible refine callV_id (f := 30) ?_); (with_reducible apply callV_f own30 (hC)); (case hx => rfl); (case he => rfl); (case hle => first | ((repeat constructor); done) ); (case hpu => repeat constructor); (case' hK => conv => whnf))
 | ((with_reducible refine callV_id (f := 99) ?_); (with_reducible apply callV_f own99 (hD)); (case hx => rfl); (case he => rfl); (case hle => first | ((repeat constructor); done) ); (case hpu => repeat constructor); (case' hK => conv => whnf))
 | ((with_reducible refine callV_id (f := 107) ?_); (with_reducible apply callV_f own107 (c_cwithin _ _ _)); (case hx => rfl); (case he => rfl); (case hle => first | ((repeat constructor); done) ); (case hpu => repeat constructor); (case' hK => conv => whnf))
 | ((with_reducible refine callV_id (f := 108) ?_); (with_reducible apply callV_f own108 (hR)); (case hx => rfl); (case he => rfl); (case hle => first | ((repeat constructor); done) ); (case hpu => repeat constructor); (case' hK => conv => whnf))
 | ((with_reducible apply go_cond); (case hb => rfl))
 | ((with_reducible first | refine w_ret Try.tab fun K' hL => ?_ ); (conv => whnf))
 | ((with_reducible apply And.intro); (case' right => try (conv => whnf)); (case' left => try first | rfl | decide | (simp; done) ))
 | (first | (guard_hyp g19; intro g20; try simp at g20) | (guard_hyp g18; intro g19; try simp at g19) | (guard_hyp g17; intro g18; try simp at g18) | (guard_hyp g16; intro g17; try simp at g17) | (guard_hyp g15; intro g16; try simp at g16) | (guard_hyp g14; intro g15; try simp at g15) | (guard_hyp g13; intro g14; try simp at g14) | (guard_hyp g12; intro g13; try simp at g13) | (guard_hyp g11; intro g12; try simp at g12) | (guard_hyp g10; intro g11; try simp at g11) | (guard_hyp g9; intro g10; try simp at g10) | (guard_hyp g8; intro g9; try simp at g9) | (guard_hyp g7; intro g8; try simp at g8) | (guard_hyp g6; intro g7; try simp at g7) | (guard_hyp g5; intro g6; try simp at g6) | (guard_hyp g4; intro g5; try simp at g5) | (guard_hyp g3; intro g4; try simp at g4) | (guard_hyp g2; intro g3; try simp at g3) | (guard_hyp g1; intro g2; try simp at g2) | intro g1; try simp at g1))
    · exfalso; omega
    · simp
  · have e : nextS s c upto = ((cu0, fr0, false, false), nextE s c upto) := if_neg hE
    rw [e]
    have e1 : nextE s c upto = if storeE s = 0 then (if cuE c = 0 then (if 0 ≤ upto ∧ upto ≤ 1000000 then 0 else 3) else cuE c) else storeE s := rfl
    repeat' (first
 | (with_reducible first | apply qz0 | (refine h0 _ _ ?_; clear h0 hw) | (refine hw _ _ _ ?_; clear h0 hw) | apply qz1 | apply qz2 | apply qz5 | apply qz6 | (refine hL _ ?_; clear hL))
 | (with_reducible first | refine w_reg (by decide +kernel) fun K1 hK => ?_ | refine w_reg_end (by decide +kernel) fun K1 hK => ?_)
 | with_reducible refine go_seq ?_
 | ((with_reducible first | apply v_op Try.tab | apply v_op0 Try.tab ) <;> first | (intro K' h0 hw; conv => whnf) | (simp only [Nat.reduceAdd, Nat.reduceMul]; rfl))
 | ((with_reducible apply v_nil); (case hm => (simp only [Nat.reduceAdd, Nat.reduceMul]; rfl)); (case' h => with_reducible refine hK _ ?_; clear hK))
 | (first | refine v_grd_yes (by rfl) (by rfl) ?_)
 | ((first | (apply v_grd_no; (case hg => rfl); (case hb => rfl)) | (apply v_grd; (case hg => rfl); (case hb => rfl))); (case hi => (simp only [Nat.reduceAdd, Nat.reduceMul]; rfl)))
 | ((with_reducible refine callV_id (f := 30) ?_); have hcs_ := c_storeCheckO s hs; (with_reducible apply callV_f own30 (hcs_)); (case hx => rfl); (case he => rfl); (case hle => first | ((repeat constructor); done) ); (case hpu => repeat constructor); (case' hK => (try clear hcs_); conv => whnf))
 | ((with_reducible refine callV_id (f := 99) ?_); have hcs_ := c_cursorCheck c; (with_reducible apply callV_f own99 (hcs_)); (case hx => rfl); (case he => rfl); (case hle => first | ((repeat constructor); done) ); (case hpu => repeat constructor); (case' hK => (try clear hcs_); conv => whnf))
 | ((with_reducible refine callV_id (f := 107) ?_); (with_reducible apply callV_f own107 (c_cwithin _ _ _)); (case hx => rfl); (case he => rfl); (case hle => first | ((repeat constructor); done) ); (case hpu => repeat constructor); (case' hK => conv => whnf))
 | ((with_reducible apply go_cond); (case hb => rfl))
 | ((with_reducible first | refine w_ret Try.tab fun K' hL => ?_ ); (conv => whnf))
 | ((with_reducible apply And.intro); (case' right => try (conv => whnf)); (case' left => try first | rfl | decide | (simp; done) ))
 | (first | (guard_hyp g19; intro g20; try simp at g20) | (guard_hyp g18; intro g19; try simp at g19) | (guard_hyp g17; intro g18; try simp at g18) | (guard_hyp g16; intro g17; try simp at g17) | (guard_hyp g15; intro g16; try simp at g16) | (guard_hyp g14; intro g15; try simp at g15) | (guard_hyp g13; intro g14; try simp at g14) | (guard_hyp g12; intro g13; try simp at g13) | (guard_hyp g11; intro g12; try simp at g12) | (guard_hyp g10; intro g11; try simp at g11) | (guard_hyp g9; intro g10; try simp at g10) | (guard_hyp g8; intro g9; try simp at g9) | (guard_hyp g7; intro g8; try simp at g8) | (guard_hyp g6; intro g7; try simp at g7) | (guard_hyp g5; intro g6; try simp at g6) | (guard_hyp g4; intro g5; try simp at g5) | (guard_hyp g3; intro g4; try simp at g4) | (guard_hyp g2; intro g3; try simp at g3) | (guard_hyp g1; intro g2; try simp at g2) | intro g1; try simp at g1))
    all_goals first
      | contradiction
      | (exfalso; exact hE (by rw [e1, if_pos g1, if_pos g2, if_pos g3]))
      | (have e2 : nextE s c upto = 3 := by rw [e1, if_pos g1, if_pos g2, if_neg (by omega)]
         rw [e2]; simp [cu0, fr0]; done)
      | (have e2 : nextE s c upto = cuE c := by rw [e1, if_pos g1, if_neg g2]
         rw [e2]; simp [cu0, fr0]; done)
      | (have e2 : nextE s c upto = storeE s := by rw [e1, if_neg g1]
         rw [e2]; simp [cu0, fr0]; done)
abbrev wkBO (c : Cu) (first : Int) (l : List (List Fr)) (turn : Bool) : Ob := .box [I c.mode, I c.group, I c.frame, I first, .ol 1 (rowGO l), B turn]
set_option maxHeartbeats 1000000 in
theorem c_framesO (c : Cu) (first : Int) (l : List (List Fr)) (turn : Bool) (h : SmallC l first c) (hin : inB l first c = true) :
    CSpec Try.prog 145 [.ptr 0 0] [wkBO c first l turn] (frsO (grpAt l first c)) [wkBO c first l turn] := by
  obtain ⟨h1, h2, h3, h4⟩ := h
  simp [inB] at hin
  have e1 := wrp (n := c.group - first) (by omega) (by omega)
  refine v_cspec Try.func145 rfl Try.ntmps145 Try.results145 (by simp) (k := 1) rfl ?_
  repeat' (first
 | (with_reducible first | apply qz0 | (refine h0 _ _ ?_; clear h0 hw) | apply qz1 )
 | (with_reducible first | refine w_reg (by decide +kernel) fun K1 hK => ?_ )
 | ((with_reducible first | apply d_reg Try.mix (by decide +kernel) ); (case hm => simp only [List.length_cons, List.length_nil, Nat.reduceAdd, Nat.reduceMul]; rfl); (case' h => intro K1 hK))
 | ((with_reducible first | apply v_op Try.tab | apply d_op Try.tab ) <;> first | (intro K' h0 hw; conv => whnf) | (simp only [Nat.reduceAdd, Nat.reduceMul]; rfl))
 | ((with_reducible apply v_nil); (case hm => (simp only [Nat.reduceAdd, Nat.reduceMul]; rfl)); (case' h => with_reducible refine hK _ ?_; clear hK))
 | ((with_reducible apply d_nil); (refine hK _ _ _ _ (by first | decide +kernel ) ?_; clear hK))
 | ((with_reducible apply And.intro); (case' right => try (conv => whnf)); (case' left => try first | rfl | decide | (simp [e1]; done) ))
 | ((with_reducible apply Side.mk); (try simp (disch := omega) only [wrp]); (try simp); (try simp (disch := omega) only [wrp]); (try omega))
 | ((with_reducible refine all_row ?_); (first | intro x1 hx1); conv => whnf)
 )
  rw [e1] at hx1
  have e : grpAt l first c = x1 := by rw [grpAt, List.getD_eq_getElem?_getD, hx1]; rfl
  rw [e]
  ((first | refine w_retO Try.tab [] (by rfl) (by simp) (by simp) (fun K' hL => ?_) ?_ ?_ ?_ | refine w_retO_end Try.tab [] (by rfl) (by simp) (by simp) (fun K' hL => ?_) ?_ ?_ ?_); (conv => whnf); (refine hL _ ?_; clear hL); all_goals simp)
set_option maxHeartbeats 1000000 in
theorem c_lostO (c : Cu) (first : Int) (l : List (List Fr)) (turn : Bool) (h : SmallC l first c) :
    CSpec Try.prog 168 [.ptr 0 0] [wkBO c first l turn] (B (lostB l first c)) [wkBO c first l turn] := by
  have hh := h
  obtain ⟨h1, h2, h3, h4⟩ := hh
  have e1 := wrp (n := first + (l.length : Int)) (by omega) (by omega)
  have e2 := wrp (n := first + (l.length : Int) - 1) (by omega) (by omega)
  refine v_cspec Try.func168 rfl Try.ntmps168 Try.results168 (by simp) (k := 1) rfl ?_
  repeat' (first
 | (with_reducible first | apply qz0 | (refine h0 _ _ ?_; clear h0 hw) | apply qz1 )
 | (with_reducible first | refine w_reg (by decide +kernel) fun K1 hK => ?_ )
 | ((with_reducible first | apply d_reg Try.mix (by decide +kernel) ); (case hm => simp only [List.length_cons, List.length_nil, Nat.reduceAdd, Nat.reduceMul]; rfl); (case' h => intro K1 hK))
 | ((with_reducible first | apply v_op Try.tab | apply d_op Try.tab ) <;> first | (intro K' h0 hw; conv => whnf) | (simp only [Nat.reduceAdd, Nat.reduceMul]; rfl))
 | ((with_reducible apply v_nil); (case hm => (simp only [Nat.reduceAdd, Nat.reduceMul]; rfl)); (case' h => with_reducible refine hK _ ?_; clear hK))
 | ((with_reducible apply d_nil); (refine hK _ _ _ _ (by first | decide +kernel ) ?_; clear hK))
 | (first | refine d_grd_yes (by rfl) (by rfl) ?_ )
 | ((first | (apply d_grd_no; (case hg => rfl); (case hb => rfl)) | (apply d_grd; (case hg => rfl); (case hb => rfl)) ); (case hi => (simp only [Nat.reduceAdd, Nat.reduceMul]; rfl)))
 | ((with_reducible refine callV_id (f := 107) ?_); (with_reducible apply callV_f own107 (c_cwithin _ _ _)); (case hx => rfl); (case he => rfl); (case hle => first | ((repeat constructor); done) ); (case hpu => repeat constructor); (case' hK => conv => whnf))
 | ((with_reducible refine callV_id (f := 145) ?_); have hcs_ := c_framesO c first l turn h (by simp [inB, e1, e2] at g1 ⊢; omega); (with_reducible apply w_callR [0] own145 (hcs_)); (case hx => rfl); (case he => rfl); (case hle => first | ((repeat constructor); done) ); (case hm => rfl); (case hnd => decide); (case' hK => (try clear hcs_); conv => whnf); (any_goals first | exact ⟨rfl, trivial⟩ | (simp [e1, e2]; done)))
 | ((with_reducible apply And.intro); (case' right => try (conv => whnf)); (case' left => try first | rfl | decide | (simp [e1, e2]; done) ))
 | (first | (guard_hyp g1; intro g2; try simp at g2) | intro g1; try simp at g1))
  all_goals simp only [e1, e2] at g1
  · have e : lostB l first c = decide ((grpAt l first c).length < c.frame) := by simp [lostB, inB]; omega
    rw [e]
    ((first | refine w_retO Try.tab [] (by rfl) (by simp) (by simp) (fun K' hL => ?_) ?_ ?_ ?_ | refine w_retO_end Try.tab [] (by rfl) (by simp) (by simp) (fun K' hL => ?_) ?_ ?_ ?_); (conv => whnf); (refine hL _ ?_; clear hL); all_goals simp)
  · have e : lostB l first c = true := by simp [lostB, inB]; omega
    rw [e]
    ((first | refine w_retO Try.tab [] (by rfl) (by simp) (by simp) (fun K' hL => ?_) ?_ ?_ ?_ | refine w_retO_end Try.tab [] (by rfl) (by simp) (by simp) (fun K' hL => ?_) ?_ ?_ ?_); (conv => whnf); (refine hL _ ?_; clear hL); all_goals simp)
set_option maxHeartbeats 1000000 in
theorem c_settle0O (c : Cu) (first : Int) : CSpec Try.prog 144 [.ptr 0 0] [wkBO c first [] false] (B false) [wkBO c first [] false] := by
  refine v_cspec Try.func144 rfl Try.ntmps144 Try.results144 (by simp) (k := 1) rfl ?_
  repeat' (first
 | (with_reducible first | apply qz0 | (refine h0 _ _ ?_; clear h0 hw) | apply qz1 | apply qz5 )
 | (with_reducible first | refine w_reg (by decide +kernel) fun K1 hK => ?_ )
 | with_reducible refine go_seq ?_
 | ((with_reducible first | apply v_op Try.tab ) <;> first | (intro K' h0 hw; conv => whnf) | (simp only [Nat.reduceAdd, Nat.reduceMul]; rfl))
 | ((with_reducible apply v_nil); (case hm => (simp only [Nat.reduceAdd, Nat.reduceMul]; rfl)); (case' h => with_reducible refine hK _ ?_; clear hK))
 | ((with_reducible apply go_cond); (case hb => rfl))
 | ((with_reducible apply And.intro); (case' right => try (conv => whnf)); (case' left => try first | rfl | decide | (simp; done) ))
 | (first  | intro g1; try simp at g1))
  ((first | refine w_retO Try.tab [] (by rfl) (by simp) (by simp) (fun K' hL => ?_) ?_ ?_ ?_ | refine w_retO_end Try.tab [] (by rfl) (by simp) (by simp) (fun K' hL => ?_) ?_ ?_ ?_); (conv => whnf); (refine hL _ ?_; clear hL); all_goals simp)
set_option maxHeartbeats 1000000 in
theorem c_settleO (c : Cu) (first : Int) (l : List (List Fr)) (h : SmallC l first c) (hl : l ≠ []) :
    CSpec Try.prog 144 [.ptr 0 0] [wkBO c first l false] (B (decide (setG l first c < first + l.length))) [wkBO (setC l first c) first l (lostB l first c)] := by
  have hh := h
  obtain ⟨h1, h2, h3, h4⟩ := hh
  have hp := List.length_pos_iff.2 hl
  have e1 := wrp (n := first + (l.length : Int)) (by omega) (by omega)
  have e2 := wrp (n := first + (l.length : Int) - 1) (by omega) (by omega)
  have e3 := wrp (n := c.group + 1) (by omega) (by omega)
  have hL := c_lostO c first l false h
  rcases (by cases lostB l first c <;> simp : lostB l first c = true ∨ lostB l first c = false) with hb | hb
  · rw [hb] at hL
    refine v_cspec Try.func144 rfl Try.ntmps144 Try.results144 (by simp) (k := 1) rfl ?_
    repeat' (first
 | (with_reducible first | apply qz0 | (refine h0 _ _ ?_; clear h0 hw) | (refine hw _ _ _ ?_; clear h0 hw) | apply qz1 | apply qz2 | apply qz3 | apply qz5 | apply qz6 | apply qz9 )
 | (with_reducible first | refine w_reg (by decide +kernel) fun K1 hK => ?_ )
 | ((with_reducible first | apply d_reg Try.mix (by decide +kernel) | apply d_reg_end Try.mix (by decide +kernel)); (case hm => simp only [List.length_cons, List.length_nil, Nat.reduceAdd, Nat.reduceMul]; rfl); (case' h => intro K1 hK))
 | with_reducible refine go_seq ?_
 | ((with_reducible first | apply v_op Try.tab | apply v_op0 Try.tab | apply d_op Try.tab | apply d_op0 Try.tab) <;> first | (intro K' h0 hw; conv => whnf) | (simp only [Nat.reduceAdd, Nat.reduceMul]; rfl))
 | ((with_reducible apply v_nil); (case hm => (simp only [Nat.reduceAdd, Nat.reduceMul]; rfl)); (case' h => with_reducible refine hK _ ?_; clear hK))
 | ((with_reducible apply d_nil); (refine hK _ _ _ _ (by first | decide +kernel | (simp only [List.map_cons, List.map_nil, List.nil_append, List.cons_append]; decide +kernel) ) ?_; clear hK))
 | ((with_reducible refine callV_id (f := 168) ?_); (with_reducible apply w_callO [0] own168 (hL)); (case hx => rfl); (case he => rfl); (case hle => first | ((repeat constructor); done) ); (case hm => rfl); (case hnd => decide); (case' hK => conv => whnf); (any_goals (simp [e1, e2]; done)))
 | ((with_reducible apply go_cond); (case hb => rfl))
 | ((with_reducible apply And.intro); (case' right => try (conv => whnf)); (case' left => try first | rfl | decide | (simp [e1, e2]; done) ))
 | (first | (guard_hyp g1; intro g2; try simp at g2) | intro g1; try simp at g1))
    · exact absurd g1 hl
    · have e4 : setG l first c = first + l.length - 1 := by simp [setG, hb, *]
      have e5 : setF l first c = 0 := by simp [setF, hb, *]
      simp only [setC, e4, e5, hb]
      ((first | refine w_retO Try.tab [] (by rfl) (by simp) (by simp) (fun K' hL => ?_) ?_ ?_ ?_ | refine w_retO_end Try.tab [] (by rfl) (by simp) (by simp) (fun K' hL => ?_) ?_ ?_ ?_); (conv => whnf); (refine hL _ ?_; clear hL); all_goals simp [e1, e2, e3])
    · have e4 : setG l first c = first := by simp [setG, hb, *]
      have e5 : setF l first c = 0 := by simp [setF, hb, *]
      simp only [setC, e4, e5, hb]
      ((first | refine w_retO Try.tab [] (by rfl) (by simp) (by simp) (fun K' hL => ?_) ?_ ?_ ?_ | refine w_retO_end Try.tab [] (by rfl) (by simp) (by simp) (fun K' hL => ?_) ?_ ?_ ?_); (conv => whnf); (refine hL _ ?_; clear hL); all_goals simp [e1, e2, e3])
  · rw [hb] at hL
    have hF := c_framesO c first l false h (lost_in hb).1
    refine v_cspec Try.func144 rfl Try.ntmps144 Try.results144 (by simp) (k := 1) rfl ?_
    repeat' (first
 | (with_reducible first | apply qz0 | (refine h0 _ _ ?_; clear h0 hw) | (refine hw _ _ _ ?_; clear h0 hw) | apply qz1 | apply qz2 | apply qz3 | apply qz5 | apply qz6 | apply qz9 )
 | (with_reducible first | refine w_reg (by decide +kernel) fun K1 hK => ?_ | refine w_reg_end (by decide +kernel) fun K1 hK => ?_)
 | ((with_reducible first | apply d_reg Try.mix (by decide +kernel) ); (case hm => simp only [List.length_cons, List.length_nil, Nat.reduceAdd, Nat.reduceMul]; rfl); (case' h => intro K1 hK))
 | with_reducible refine go_seq ?_
 | ((with_reducible first | apply v_op Try.tab | apply v_op0 Try.tab | apply d_op Try.tab ) <;> first | (intro K' h0 hw; conv => whnf) | (simp only [Nat.reduceAdd, Nat.reduceMul]; rfl))
 | ((with_reducible apply v_nil); (case hm => (simp only [Nat.reduceAdd, Nat.reduceMul]; rfl)); (case' h => with_reducible refine hK _ ?_; clear hK))
 | ((with_reducible apply d_nil); (refine hK _ _ _ _ (by first | decide +kernel ) ?_; clear hK))
 | ((with_reducible refine callV_id (f := 168) ?_); (with_reducible apply w_callO [0] own168 (hL)); (case hx => rfl); (case he => rfl); (case hle => first | ((repeat constructor); done) ); (case hm => rfl); (case hnd => decide); (case' hK => conv => whnf); (any_goals (simp [e1, e2, e3]; done)))
 | ((with_reducible refine callV_id (f := 145) ?_); (with_reducible apply w_callR [0] own145 (hF)); (case hx => rfl); (case he => rfl); (case hle => first | ((repeat constructor); done) ); (case hm => rfl); (case hnd => decide); (case' hK => conv => whnf); (any_goals first | exact ⟨rfl, trivial⟩ | (simp [e1, e2, e3]; done)))
 | ((with_reducible apply go_cond); (case hb => rfl))
 | ((with_reducible apply And.intro); (case' right => try (conv => whnf)); (case' left => try first | rfl | decide | (simp [e1, e2, e3]; done) ))
 | (first | (guard_hyp g1; intro g2; try simp at g2) | intro g1; try simp at g1))
    · exact absurd g1 hl
    · have e4 : setG l first c = c.group + 1 := by simp [setG, hb, *]
      have e5 : setF l first c = 0 := by simp [setF, hb, *]
      simp only [setC, e4, e5, hb]
      ((first | refine w_retO Try.tab [] (by rfl) (by simp) (by simp) (fun K' hL => ?_) ?_ ?_ ?_ | refine w_retO_end Try.tab [] (by rfl) (by simp) (by simp) (fun K' hL => ?_) ?_ ?_ ?_); (conv => whnf); (refine hL _ ?_; clear hL); all_goals simp [e1, e2, e3])
    · have e4 : setG l first c = c.group := by simp [setG, hb, *]
      have e5 : setF l first c = c.frame := by simp [setF, hb, *]
      simp only [setC, e4, e5, hb]
      ((first | refine w_retO Try.tab [] (by rfl) (by simp) (by simp) (fun K' hL => ?_) ?_ ?_ ?_ | refine w_retO_end Try.tab [] (by rfl) (by simp) (by simp) (fun K' hL => ?_) ?_ ?_ ?_); (conv => whnf); (refine hL _ ?_; clear hL); all_goals simp [e1, e2, e3])
set_option maxHeartbeats 2000000 in
theorem c_cursorRawO (s : Sto) (c : Cu) (upto : Int) (hr : RightS s) (hop : ¬ 0 < s.op.length) (hc : cuE c = 0) : PSpec Try.prog 108 [.agg (stO s), .agg (cuC c), I upto] (.tup (nxT (nextR s c upto))) := by
  refine v_pspec Try.func108 rfl Try.ntmps108 Try.results108 (by simp) (by repeat constructor) ?_
  have hsc := right_smallC hr hc
  have hne : ∀ g ∈ allS s, 0 < g.length := fun g hg => List.length_pos_iff.2 (groupE_ok (hr.all.2 g hg)).1
  have hAll := c_storeAllO s (by have := hr.2.1; omega) hop
  have hgm : ∀ c', 0 < (grpAt (allS s) s.first c').length → grpAt (allS s) s.first c' ∈ allS s := fun c' h => grpAt_mem h
  by_cases hl : allS s = []
  · have e : nextR s c upto = (c, fr0, false, false) := if_pos (.inr (.inl hl))
    rw [hl] at hAll
    rw [e]
    have hS := c_settle0O c s.first
    repeat' (first
 | (with_reducible first | apply qz0 | (refine h0 _ _ ?_; clear h0 hw) | (refine hw _ _ _ ?_; clear h0 hw) | apply qz1 | apply qz5 | (refine hL _ ?_; clear hL))
 | (with_reducible first | refine w_reg (by decide +kernel) fun K1 hK => ?_ )
 | ((with_reducible first | apply d_reg Try.mix (by decide +kernel) ); (case hm => simp only [List.length_cons, List.length_nil, Nat.reduceAdd, Nat.reduceMul]; rfl); (case' h => intro K1 hK))
 | with_reducible refine go_seq ?_
 | ((with_reducible first | apply v_op Try.tab | apply v_op0 Try.tab | apply d_op Try.tab ) <;> first | (intro K' h0 hw; conv => whnf) | (simp only [Nat.reduceAdd, Nat.reduceMul]; rfl))
 | ((with_reducible apply v_nil); (case hm => (simp only [Nat.reduceAdd, Nat.reduceMul]; rfl)); (case' h => with_reducible refine hK _ ?_; clear hK))
 | ((with_reducible apply d_nil); (refine hK _ _ _ _ (by first | (simp only [List.map_cons, List.map_nil, List.nil_append, List.cons_append]; decide +kernel) ) ?_; clear hK))
 | (first | refine v_grd_yes (by rfl) (by rfl) ?_)
 | ((first | (apply v_grd_no; (case hg => rfl); (case hb => rfl)) | (apply v_grd; (case hg => rfl); (case hb => rfl))); (case hi => (simp only [Nat.reduceAdd, Nat.reduceMul]; rfl)))
 | ((with_reducible refine callV_id (f := 74) ?_); (with_reducible apply callV_f own74 (hAll)); (case hx => rfl); (case he => rfl); (case hle => first | ((repeat constructor); done) ); (case hpu => repeat constructor); (case' hK => conv => whnf))
 | ((with_reducible refine callV_id (f := 144) ?_); (with_reducible apply w_callO [192] own144 (hS)); (case hx => rfl); (case he => rfl); (case hle => first | ((repeat constructor); done) ); (case hm => rfl); (case hnd => decide); (case' hK => conv => whnf); (any_goals (simp; done)))
 | ((with_reducible apply go_cond); (case hb => rfl))
 | ((with_reducible first | refine w_ret Try.tab fun K' hL => ?_ ); (conv => whnf))
 | ((with_reducible apply And.intro); (case' right => try (conv => whnf)); (case' left => try first | rfl | decide | (simp; done) ))
 | (first | (guard_hyp g4; intro g5; try simp at g5) | (guard_hyp g3; intro g4; try simp at g4) | (guard_hyp g2; intro g3; try simp at g3) | (guard_hyp g1; intro g2; try simp at g2) | intro g1; try simp at g1))
    all_goals simp [fr0]
  · by_cases hq : setG (allS s) s.first c < s.first + (allS s).length
    · obtain ⟨q1, q2, q3, q4⟩ := settle_in hsc hne hl hq
      have hS := c_settleO c s.first (allS s) hsc hl
      have hqd : decide (setG (allS s) s.first c < s.first + (allS s).length) = true := by simpa using hq
      rw [hqd] at hS
      have hgr := hr.all.2 _ (hgm (setC (allS s) s.first c) (by omega))
      have hg6 := (groupE_ok hgr).2.1
      have hgf := (right_fits hgr).2
      have e3 := wrp (n := setF (allS s) s.first c + 1) (by omega) (by omega)
      have hx' : ∀ {x1 : Fr}, (grpAt (allS s) s.first (setC (allS s) s.first c))[(setC (allS s) s.first c).frame.toNat]? = some x1 → (grpAt (allS s) s.first (setC (allS s) s.first c)).getD (setF (allS s) s.first c).toNat fr0 = x1 := fun h => by
        rw [List.getD_eq_getElem?_getD]; exact congrArg (·.getD fr0) h
      have hn : ¬ c.mode = 2 → ∀ {x1 : Fr}, (grpAt (allS s) s.first (setC (allS s) s.first c))[(setC (allS s) s.first c).frame.toNat]? = some x1 → nextR s c upto = if c.mode = 3 ∧ upto < x1.time then (c, fr0, false, false) else (⟨c.mode, setG (allS s) s.first c, setF (allS s) s.first c + 1⟩, x1, true, lostB (allS s) s.first c) := fun h1 {x1} h2 => by
        rw [nextR, if_neg (by simp [h1, hl]; omega), hx' h2]
      have hF := c_framesO (setC (allS s) s.first c) s.first (allS s) (lostB (allS s) s.first c) (by obtain ⟨a1, a2, a3, a4⟩ := hsc; exact ⟨a1, a2, by simp only; omega, by simp only; omega⟩) q1
      repeat' (first
 | (with_reducible first | apply qz0 | (refine h0 _ _ ?_; clear h0 hw) | (refine hw _ _ _ ?_; clear h0 hw) | apply qz1 | apply qz2 | apply qz5 | apply qz6 | (refine hL _ ?_; clear hL))
 | (with_reducible first | refine w_reg (by decide +kernel) fun K1 hK => ?_ )
 | ((with_reducible first | apply d_reg Try.mix (by decide +kernel) ); (case hm => simp only [List.length_cons, List.length_nil, Nat.reduceAdd, Nat.reduceMul]; rfl); (case' h => intro K1 hK))
 | with_reducible refine go_seq ?_
 | ((with_reducible first | apply v_op Try.tab | apply v_op0 Try.tab | apply d_op Try.tab | apply d_op0 Try.tab) <;> first | (intro K' h0 hw; conv => whnf) | (simp only [Nat.reduceAdd, Nat.reduceMul]; rfl))
 | ((with_reducible apply v_nil); (case hm => (simp only [Nat.reduceAdd, Nat.reduceMul]; rfl)); (case' h => with_reducible refine hK _ ?_; clear hK))
 | ((with_reducible apply d_nil); (refine hK _ _ _ _ (by first | (simp only [List.map_cons, List.map_nil, List.nil_append, List.cons_append]; decide +kernel) ) ?_; clear hK))
 | (first | refine v_grd_yes (by rfl) (by rfl) ?_)
 | ((first | (apply v_grd_no; (case hg => rfl); (case hb => rfl)) | (apply v_grd; (case hg => rfl); (case hb => rfl))); (case hi => (simp only [Nat.reduceAdd, Nat.reduceMul]; rfl)))
 | ((with_reducible refine callV_id (f := 74) ?_); (with_reducible apply callV_f own74 (hAll)); (case hx => rfl); (case he => rfl); (case hle => first | ((repeat constructor); done) ); (case hpu => repeat constructor); (case' hK => conv => whnf))
 | ((with_reducible refine callV_id (f := 144) ?_); (with_reducible apply w_callO [192] own144 (hS)); (case hx => rfl); (case he => rfl); (case hle => first | ((repeat constructor); done) ); (case hm => rfl); (case hnd => decide); (case' hK => conv => whnf); (any_goals (simp; done)))
 | ((with_reducible refine callV_id (f := 145) ?_); (with_reducible apply w_callR [192] own145 (hF)); (case hx => rfl); (case he => rfl); (case hle => first | ((repeat constructor); done) ); (case hm => rfl); (case hnd => decide); (case' hK => conv => whnf); (any_goals first | exact ⟨rfl, trivial⟩ | (simp; done)))
 | ((with_reducible refine callV_id (f := 124) ?_); have hcs_ := c_frameOwnO x1 (hgf x1 (List.mem_of_getElem? hx1)); (with_reducible apply callV_f own124 (hcs_)); (case hx => rfl); (case he => rfl); (case hle => first | ((repeat constructor); done) ); (case hpu => repeat constructor); (case' hK => (try clear hcs_); conv => whnf))
 | ((with_reducible apply go_cond); (case hb => rfl))
 | ((with_reducible first | refine w_ret Try.tab fun K' hL => ?_ ); (conv => whnf))
 | ((with_reducible apply And.intro); (case' right => try (conv => whnf)); (case' left => try first | rfl | decide | (simp; done) ))
 | ((with_reducible apply Side.mk); (try simp (disch := omega) only [wrp]); (try simp); (try simp (disch := omega) only [wrp]); (try omega))
 | ((with_reducible refine all_row ?_); (first | intro x1 hx1); conv => whnf)
 | (first | (guard_hyp g4; intro g5; try simp at g5) | (guard_hyp g3; intro g4; try simp at g4) | (guard_hyp g2; intro g3; try simp at g3) | (guard_hyp g1; intro g2; try simp at g2) | intro g1; try simp at g1))
      · rw [hn g1 hx1, if_pos ⟨g3, g4⟩]; simp [fr0]
      · rw [hn g1 hx1, if_neg (by omega)]; simp [e3]
      · rw [hn g1 hx1, if_neg (by omega)]; simp [e3]
      · have e : nextR s c upto = (c, fr0, false, false) := if_pos (.inl g1)
        rw [e]; simp [fr0]
    · have e : nextR s c upto = (c, fr0, false, false) := if_pos (.inr (.inr hq))
      rw [e]
      have hS := c_settleO c s.first (allS s) hsc hl
      have hqd : decide (setG (allS s) s.first c < s.first + (allS s).length) = false := by simpa using hq
      rw [hqd] at hS
      repeat' (first
 | (with_reducible first | apply qz0 | (refine h0 _ _ ?_; clear h0 hw) | (refine hw _ _ _ ?_; clear h0 hw) | apply qz1 | apply qz5 | (refine hL _ ?_; clear hL))
 | (with_reducible first | refine w_reg (by decide +kernel) fun K1 hK => ?_ )
 | ((with_reducible first | apply d_reg Try.mix (by decide +kernel) ); (case hm => simp only [List.length_cons, List.length_nil, Nat.reduceAdd, Nat.reduceMul]; rfl); (case' h => intro K1 hK))
 | with_reducible refine go_seq ?_
 | ((with_reducible first | apply v_op Try.tab | apply v_op0 Try.tab | apply d_op Try.tab ) <;> first | (intro K' h0 hw; conv => whnf) | (simp only [Nat.reduceAdd, Nat.reduceMul]; rfl))
 | ((with_reducible apply v_nil); (case hm => (simp only [Nat.reduceAdd, Nat.reduceMul]; rfl)); (case' h => with_reducible refine hK _ ?_; clear hK))
 | ((with_reducible apply d_nil); (refine hK _ _ _ _ (by first | (simp only [List.map_cons, List.map_nil, List.nil_append, List.cons_append]; decide +kernel) ) ?_; clear hK))
 | (first | refine v_grd_yes (by rfl) (by rfl) ?_)
 | ((first | (apply v_grd_no; (case hg => rfl); (case hb => rfl)) | (apply v_grd; (case hg => rfl); (case hb => rfl))); (case hi => (simp only [Nat.reduceAdd, Nat.reduceMul]; rfl)))
 | ((with_reducible refine callV_id (f := 74) ?_); (with_reducible apply callV_f own74 (hAll)); (case hx => rfl); (case he => rfl); (case hle => first | ((repeat constructor); done) ); (case hpu => repeat constructor); (case' hK => conv => whnf))
 | ((with_reducible refine callV_id (f := 144) ?_); (with_reducible apply w_callO [192] own144 (hS)); (case hx => rfl); (case he => rfl); (case hle => first | ((repeat constructor); done) ); (case hm => rfl); (case hnd => decide); (case' hK => conv => whnf); (any_goals (simp; done)))
 | ((with_reducible apply go_cond); (case hb => rfl))
 | ((with_reducible first | refine w_ret Try.tab fun K' hL => ?_ ); (conv => whnf))
 | ((with_reducible apply And.intro); (case' right => try (conv => whnf)); (case' left => try first | rfl | decide | (simp; done) ))
 | (first | (guard_hyp g4; intro g5; try simp at g5) | (guard_hyp g3; intro g4; try simp at g4) | (guard_hyp g2; intro g3; try simp at g3) | (guard_hyp g1; intro g2; try simp at g2) | intro g1; try simp at g1))
      all_goals simp [fr0]
set_option maxHeartbeats 2000000 in
theorem c_cursorNextO (s : Sto) (c : Cu) (upto : Int) (hs : FitsS s) (hop : ¬ 0 < s.op.length) : PSpec Try.prog 51 [.agg (stO s), .agg (cuC c), I upto] (nxT' (nextS s c upto)) := by
  refine v_pspec Try.func51 rfl Try.ntmps51 Try.results51 (by simp) (by repeat constructor) ?_
  by_cases hE : nextE s c upto = 0
  · obtain ⟨h1, h2, h3, h4⟩ := nextE_ok hE
    have hC := c_storeCheckO s hs
    rw [right_storeE h1] at hC
    have hD := c_cursorCheck c
    rw [h2] at hD
    have hR := c_cursorRawO s c upto h1 hop h2
    have e : nextS s c upto = (nextR s c upto, 0) := if_pos hE
    rw [e]
    repeat' (first
 | (with_reducible first | apply qz0 | (refine h0 _ _ ?_; clear h0 hw) | (refine hw _ _ _ ?_; clear h0 hw) | apply qz1 | apply qz2 | apply qz5 | apply qz6 | (refine hL _ ?_; clear hL))
 | (with_reducible first | refine w_reg (by decide +kernel) fun K1 hK => ?_ | refine w_reg_end (by decide +kernel) fun K1 hK => ?_)
 | ((with_reducible first | apply d_reg Try.mix (by decide +kernel) ); (case hm => simp only [List.length_cons, List.length_nil, Nat.reduceAdd, Nat.reduceMul]; rfl); (case' h => intro K1 hK))
 | with_reducible refine go_seq ?_
 | ((with_reducible first | apply v_op Try.tab | apply v_op0 Try.tab | apply d_op Try.tab | apply d_op0 Try.tab) <;> first | (intro K' h0 hw; conv => whnf) | (simp only [Nat.reduceAdd, Nat.reduceMul]; rfl))
 | ((with_reducible apply v_nil); (case hm => (simp only [Nat.reduceAdd, Nat.reduceMul]; rfl)); (case' h => with_reducible refine hK _ ?_; clear hK))
 | ((with_reducible apply d_nil); (refine hK _ _ _ _ (by first | (simp only [List.map_cons, List.map_nil, List.nil_append, List.cons_append]; decide +kernel) ) ?_; clear hK))
 | (first | refine v_grd_yes (by rfl) (by rfl) ?_)
 | ((with_reducible refine callV_id (f := 30) ?_); (with_reducible apply callV_f own30 (hC)); (case hx => rfl); (case he => rfl); (case hle => first | ((repeat constructor); done) ); (case hpu => repeat constructor); (case' hK => conv => whnf))
 | ((with_reducible refine callV_id (f := 99) ?_); (with_reducible apply callV_f own99 (hD)); (case hx => rfl); (case he => rfl); (case hle => first | ((repeat constructor); done) ); (case hpu => repeat constructor); (case' hK => conv => whnf))
 | ((with_reducible refine callV_id (f := 107) ?_); (with_reducible apply callV_f own107 (c_cwithin _ _ _)); (case hx => rfl); (case he => rfl); (case hle => first | ((repeat constructor); done) ); (case hpu => repeat constructor); (case' hK => conv => whnf))
 | ((with_reducible refine callV_id (f := 108) ?_); (with_reducible apply callV_f own108 (hR)); (case hx => rfl); (case he => rfl); (case hle => first | ((repeat constructor); done) ); (case hpu => repeat constructor); (case' hK => conv => whnf))
 | ((with_reducible apply go_cond); (case hb => rfl))
 | ((with_reducible first | refine w_ret Try.tab fun K' hL => ?_ ); (conv => whnf))
 | ((with_reducible apply And.intro); (case' right => try (conv => whnf)); (case' left => try first | rfl | decide | (simp; done) ))
 | (first | (guard_hyp g19; intro g20; try simp at g20) | (guard_hyp g18; intro g19; try simp at g19) | (guard_hyp g17; intro g18; try simp at g18) | (guard_hyp g16; intro g17; try simp at g17) | (guard_hyp g15; intro g16; try simp at g16) | (guard_hyp g14; intro g15; try simp at g15) | (guard_hyp g13; intro g14; try simp at g14) | (guard_hyp g12; intro g13; try simp at g13) | (guard_hyp g11; intro g12; try simp at g12) | (guard_hyp g10; intro g11; try simp at g11) | (guard_hyp g9; intro g10; try simp at g10) | (guard_hyp g8; intro g9; try simp at g9) | (guard_hyp g7; intro g8; try simp at g8) | (guard_hyp g6; intro g7; try simp at g7) | (guard_hyp g5; intro g6; try simp at g6) | (guard_hyp g4; intro g5; try simp at g5) | (guard_hyp g3; intro g4; try simp at g4) | (guard_hyp g2; intro g3; try simp at g3) | (guard_hyp g1; intro g2; try simp at g2) | intro g1; try simp at g1))
    · exfalso; omega
    · simp
  · have e : nextS s c upto = ((cu0, fr0, false, false), nextE s c upto) := if_neg hE
    rw [e]
    have e1 : nextE s c upto = if storeE s = 0 then (if cuE c = 0 then (if 0 ≤ upto ∧ upto ≤ 1000000 then 0 else 3) else cuE c) else storeE s := rfl
    repeat' (first
 | (with_reducible first | apply qz0 | (refine h0 _ _ ?_; clear h0 hw) | (refine hw _ _ _ ?_; clear h0 hw) | apply qz1 | apply qz2 | apply qz5 | apply qz6 | (refine hL _ ?_; clear hL))
 | (with_reducible first | refine w_reg (by decide +kernel) fun K1 hK => ?_ | refine w_reg_end (by decide +kernel) fun K1 hK => ?_)
 | with_reducible refine go_seq ?_
 | ((with_reducible first | apply v_op Try.tab | apply v_op0 Try.tab ) <;> first | (intro K' h0 hw; conv => whnf) | (simp only [Nat.reduceAdd, Nat.reduceMul]; rfl))
 | ((with_reducible apply v_nil); (case hm => (simp only [Nat.reduceAdd, Nat.reduceMul]; rfl)); (case' h => with_reducible refine hK _ ?_; clear hK))
 | (first | refine v_grd_yes (by rfl) (by rfl) ?_)
 | ((first | (apply v_grd_no; (case hg => rfl); (case hb => rfl)) | (apply v_grd; (case hg => rfl); (case hb => rfl))); (case hi => (simp only [Nat.reduceAdd, Nat.reduceMul]; rfl)))
 | ((with_reducible refine callV_id (f := 30) ?_); have hcs_ := c_storeCheckO s hs; (with_reducible apply callV_f own30 (hcs_)); (case hx => rfl); (case he => rfl); (case hle => first | ((repeat constructor); done) ); (case hpu => repeat constructor); (case' hK => (try clear hcs_); conv => whnf))
 | ((with_reducible refine callV_id (f := 99) ?_); have hcs_ := c_cursorCheck c; (with_reducible apply callV_f own99 (hcs_)); (case hx => rfl); (case he => rfl); (case hle => first | ((repeat constructor); done) ); (case hpu => repeat constructor); (case' hK => (try clear hcs_); conv => whnf))
 | ((with_reducible refine callV_id (f := 107) ?_); (with_reducible apply callV_f own107 (c_cwithin _ _ _)); (case hx => rfl); (case he => rfl); (case hle => first | ((repeat constructor); done) ); (case hpu => repeat constructor); (case' hK => conv => whnf))
 | ((with_reducible apply go_cond); (case hb => rfl))
 | ((with_reducible first | refine w_ret Try.tab fun K' hL => ?_ ); (conv => whnf))
 | ((with_reducible apply And.intro); (case' right => try (conv => whnf)); (case' left => try first | rfl | decide | (simp; done) ))
 | (first | (guard_hyp g19; intro g20; try simp at g20) | (guard_hyp g18; intro g19; try simp at g19) | (guard_hyp g17; intro g18; try simp at g18) | (guard_hyp g16; intro g17; try simp at g17) | (guard_hyp g15; intro g16; try simp at g16) | (guard_hyp g14; intro g15; try simp at g15) | (guard_hyp g13; intro g14; try simp at g14) | (guard_hyp g12; intro g13; try simp at g13) | (guard_hyp g11; intro g12; try simp at g12) | (guard_hyp g10; intro g11; try simp at g11) | (guard_hyp g9; intro g10; try simp at g10) | (guard_hyp g8; intro g9; try simp at g9) | (guard_hyp g7; intro g8; try simp at g8) | (guard_hyp g6; intro g7; try simp at g7) | (guard_hyp g5; intro g6; try simp at g6) | (guard_hyp g4; intro g5; try simp at g5) | (guard_hyp g3; intro g4; try simp at g4) | (guard_hyp g2; intro g3; try simp at g3) | (guard_hyp g1; intro g2; try simp at g2) | intro g1; try simp at g1))
    all_goals first
      | contradiction
      | (exfalso; exact hE (by rw [e1, if_pos g1, if_pos g2, if_pos g3]))
      | (have e2 : nextE s c upto = 3 := by rw [e1, if_pos g1, if_pos g2, if_neg (by omega)]
         rw [e2]; simp [cu0, fr0]; done)
      | (have e2 : nextE s c upto = cuE c := by rw [e1, if_pos g1, if_neg g2]
         rw [e2]; simp [cu0, fr0]; done)
      | (have e2 : nextE s c upto = storeE s := by rw [e1, if_neg g1]
         rw [e2]; simp [cu0, fr0]; done)
end Go.Proofs.Ytbhcjgobapnajaa

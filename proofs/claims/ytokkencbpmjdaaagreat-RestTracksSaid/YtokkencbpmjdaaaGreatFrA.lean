/- Walks of package frame. No condition. -/
import Derived.Test.YtokkencbpmjdaaaGreatSlot
import Derived.Test.YtokkencbpmjdaaaGreatDa
section
namespace Go.Proofs.YtokkencbpmjdaaaGreat
open Go Go.Sy
set_option maxRecDepth 4000
set_option linter.unusedSimpArgs false
set_option linter.unusedVariables false
attribute [local irreducible] Reg RegD Later Out CallV Tri Side EqV Pause
def madeS (o : List Slt) : Fr := ⟨((o[0]?).map (·.p.time)).getD 0, ((o[0]?).map (·.p.key)).getD false, o.map (·.p.text)⟩
def fr0 : Fr := ⟨0, false, []⟩
def openS (o : List Slt) (x : Slt) : List Slt := if x.p.first = true then [x] else match o.getLast? with
  | some a => if followsB a x = true then o ++ [x] else []
  | none => []
def addS (o : List Slt) (x : Slt) : List Slt × Fr × Bool := if openS o x ≠ [] ∧ x.p.fin = true then ([], madeS (openS o x), true) else if (openS o x).length = 4 then ([], fr0, false) else (openS o x, fr0, false)
theorem map_texts {o : List Slt} {i : Nat} {x : Slt} (h : o[i]? = some x) : (o.take (i + 1)).map (·.p.text) = (o.take i).map (·.p.text) ++ [x.p.text] := by
  rw [take_at h, List.map_append]; rfl
set_option maxHeartbeats 1000000 in
theorem c_made (o : List Slt) (h0 : o ≠ []) (hl : o.length ≤ 2000) : CSpec Tryz.prog 113 [.ptr 0 0] [.box [slts o]] (.agg (frC (madeS o))) [.box [slts o]] := by
  obtain ⟨x, hx⟩ : ∃ x, o[0]? = some x := ⟨o[0]'(List.length_pos_iff.2 h0), by simp⟩
  have hx0 : o[Int.toNat 0]? = some x := hx
  have hm : madeS o = ⟨x.p.time, x.p.key, o.map (·.p.text)⟩ := by simp [madeS, hx]
  have hp := List.length_pos_iff.2 h0
  refine v_cspec Tryz.func113 rfl Tryz.ntmps113 Tryz.results113 (by simp) (k := 1) rfl ?_
  repeat' (first
 | ((with_reducible apply w_ownCell 321 2 9 1); (case hb => rfl); (case hj => rfl); (case hsz => decide); (case hm => (try simp only [Nat.reduceAdd, Nat.reduceMul]); exact rfl))
 | (with_reducible first | apply qz0 | (refine h0 _ _ ?_; clear h0 hw) | (refine hw _ _ _ ?_; clear h0 hw) | apply qz3 )
 | refine p_reg fun K1 hK => ?_
 | refine p_dreg Tryz.mix fun K1 hK => ?_
 | apply go_seq
 | ((first | refine p_op Tryz.tab fun K' h0 hw => ?_ | refine p_dop Tryz.tab fun K' h0 hw => ?_ | refine p_dop0 Tryz.tab fun K' h0 hw => ?_); conv => whnf)
 | (refine p_nil (hK _ ?_); clear hK)
 | (refine d_nil (p_obj ?_ (hK _ _ _ _)); clear hK)
 | ((with_reducible apply And.intro); (case' right => try (conv => whnf)); (case' left => try first | rfl | decide | (simp; done) ))
 | exact p_side
 | ((with_reducible apply all_rk); (case hx => with_reducible assumption); (conv => whnf))
 )
  refine w_loop (X := Nat) [5, 31, 32, 33, 34, 35, 36, 37, 38, 39, 40, 41, 42, 43] (fun i => [(31, I i)]) (fun i => [(321, .box [I x.p.time, B x.p.key, .osl 353 1 (rowS ((o.take i).map (·.p.text)))]), (353, .perm 9 1 i)]) (fun i => i ≤ o.length) (fun i => o.length - i) 0 (by simp) ?_ ?_
  · refine ⟨kt_refl, ko_refl, ?_, ?_, ?_, ?_, Nat.le_refl _⟩ <;> simp
  intro i h1
  have hlen : min i o.length = i := by omega
  repeat' (first
 | (with_reducible first | apply qz0 | (refine h0 _ _ ?_; clear h0 hw) | (refine hw _ _ _ ?_; clear h0 hw) | apply qz1 | apply qz2 | apply qz3 | apply qz4 | apply qz6 | apply qz7 | apply qz9 | apply qza | apply qzc )
 | refine p_reg fun K1 hK => ?_ | refine p_regE fun K1 hK => ?_
 | apply go_seq
 | ((first | refine p_op Tryz.tab fun K' h0 hw => ?_ | refine p_op0 Tryz.tab fun K' h0 hw => ?_); conv => whnf)
 | (refine p_nil (hK _ ?_); clear hK)
 | ((with_reducible apply go_cond); (case hb => rfl))
 | ((with_reducible apply And.intro); (case' right => try (conv => whnf)); (case' left => try first | rfl | decide | (simp [hlen]; done) ))
 | exact p_side
 | ((with_reducible refine all_row ?_); (first | intro x1 hx1); conv => whnf)
 | (first  | intro g1; try simp at g1))
  · have hx1' : o[i]? = some x1 := by simpa using hx1
    have ht := map_texts hx1'
    ((refine w_nx ((i + 1)) ?_ ?_ ?_ ?_ ?_ ?_); (case refine_1 => simp [ht, hlen]); (case refine_2 => simp [ht, hlen]); (case refine_3 => simp (disch := omega) [ht, hlen, wrp]); (case refine_4 => simp [ht, hlen]); (case refine_5 => first | (simp; omega) | (simp; done) | omega | (simp only; omega)); (case' refine_6 => (try simp only); (try exact trivial)))
    omega
  · have e : o.take i = o := List.take_of_length_le (by omega)
    rw [hm]
    ((first | refine w_retO Tryz.tab [] (by rfl) (by simp) (by simp) (fun K' hL => ?_) ?_ ?_ ?_ | refine w_retO_end Tryz.tab [] (by rfl) (by simp) (by simp) (fun K' hL => ?_) ?_ ?_ ?_); (conv => whnf); (refine hL _ ?_; clear hL); all_goals simp [e])
def addT (o : List Slt) (x : Slt) : AV := .tup [.agg (frC (addS o x).2.1), B (addS o x).2.2]
theorem last_slt {o : List Slt} {x : Slt} (hl : o.length ≤ 1000000) (h : o[(IntKind.i64.wrap ((o.length : Int) - 1)).toNat]? = some x) (h0 : 0 < o.length) : o.getLast? = some x := by
  rw [wrp (by omega) (by omega), show ((o.length : Int) - 1).toNat = o.length - 1 by omega] at h
  rw [List.getLast?_eq_getElem?, h]
def RightO (o : List Slt) : Prop := o.length ≤ 1000 ∧ ∀ a ∈ o, -1000000000000 ≤ a.n ∧ a.n ≤ 1000000000000
set_option maxHeartbeats 2000000 in
theorem c_add (o : List Slt) (x : Slt) (ho : RightO o) : CSpec Tryz.prog 79 [.ptr 0 0, .agg (sltC x)] [.box [slts o]] (addT o x) [.box [slts (addS o x).1]] := by
  have hl := ho.1
  have hbd : ∀ {y : Slt} {i : Nat}, o[i]? = some y → -1000000000000 ≤ y.n ∧ y.n ≤ 1000000000000 := fun h => ho.2 _ (List.mem_of_getElem? h)
  have hol : (openS o x).length ≤ 1001 := by unfold openS; (repeat' split) <;> simp <;> omega
  refine v_cspec Tryz.func79 rfl Tryz.ntmps79 Tryz.results79 (by simp) (k := 1) rfl ?_
  repeat' (first
 | (with_reducible refine w_cut (x := .block 0 _) (X := Unit) [14, 15, 16, 17, 18, 19, 20, 21, 22, 23, 24, 25, 26, 27, 28, 29, 30, 31, 32, 33, 34, 35, 36, 37, 38, 39, 40, 41, 42, 43, 44, 45, 46, 47, 48, 49, 50, 51, 52, 53, 54, 55, 56] (fun _ => []) (fun _ => [(0, .box [slts (openS o x)])]) (fun _ => True) ?_ ?_; (try (rintro z hz; simp only at hz)))
 | (with_reducible first | apply qz0 | (refine h0 _ _ ?_; clear h0 hw) | (refine hw _ _ _ ?_; clear h0 hw) | apply qz1 | apply qz2 | apply qz3 | apply qz5 | apply qz6 | apply qz9 )
 | refine p_reg fun K1 hK => ?_ | refine p_regE fun K1 hK => ?_
 | refine p_dreg Tryz.mix fun K1 hK => ?_ | refine p_dregE Tryz.mix fun K1 hK => ?_
 | apply go_seq
 | ((first | refine p_op Tryz.tab fun K' h0 hw => ?_ | refine p_op0 Tryz.tab fun K' h0 hw => ?_ | refine p_dop Tryz.tab fun K' h0 hw => ?_ | refine p_dop0 Tryz.tab fun K' h0 hw => ?_); conv => whnf)
 | (refine p_nil (hK _ ?_); clear hK)
 | (refine d_nil (p_obj ?_ (hK _ _ _ _)); clear hK)
 | (first | refine d_grd_yes (by rfl) (by rfl) ?_ | refine v_grd_yes (by rfl) (by rfl) ?_)
 | ((first | (apply d_grd_no; (case hg => rfl); (case hb => rfl)) | (apply d_grd; (case hg => rfl); (case hb => rfl)) | (apply v_grd_no; (case hg => rfl); (case hb => rfl)) | (apply v_grd; (case hg => rfl); (case hb => rfl))); (case hi => (simp only [Nat.reduceAdd, Nat.reduceMul]; rfl)))
 | ((with_reducible refine callV_id (f := 81) ?_); have hcs_ := c_follows x1 x (hbd (by simpa using hx1)); (with_reducible apply callV_f own81 (hcs_)); (case hx => rfl); (case he => rfl); (case hle => first | ((repeat constructor); done) ); (case hpu => repeat constructor); (case' hK => (try clear hcs_); conv => whnf))
 | ((with_reducible refine callV_id (f := 71) ?_); have hcs_ := c_cloneSlt o (by omega); (with_reducible apply w_callO [] own71 (hcs_)); (case hx => rfl); (case he => rfl); (case hle => first | ((repeat constructor); done) ); (case hm => rfl); (case hnd => decide); (case' hK => (try clear hcs_); conv => whnf); (any_goals (simp; done)))
 | ((with_reducible refine callV_id (f := 113) ?_); have hcs_ := c_made (openS o x) (List.length_pos_iff.1 g3) (by omega); (with_reducible apply w_callO [0] own113 (hcs_)); (case hx => rfl); (case he => rfl); (case hle => first | ((repeat constructor); done) ); (case hm => rfl); (case hnd => decide); (case' hK => (try clear hcs_); conv => whnf); (any_goals (simp; done)))
 | ((with_reducible apply go_cond); (case hb => rfl))
 | ((with_reducible apply And.intro); (case' right => try (conv => whnf)); (case' left => try first | rfl | decide | (simp; done) ))
 | exact p_side
 | ((with_reducible refine all_row ?_); (first | intro x1 hx1); conv => whnf)
 | (first | (guard_hyp g5; intro g6; try simp at g6) | (guard_hyp g4; intro g5; try simp at g5) | (guard_hyp g3; intro g4; try simp at g4) | (guard_hyp g2; intro g3; try simp at g3) | (guard_hyp g1; intro g2; try simp at g2) | intro g1; try simp at g1))
  · have e : openS o x = [x] := if_pos g1
    ((refine w_nx (()) ?_ ?_ ?_ ?_ ?_ ?_); (case refine_1 => simp [e]); (case refine_2 => simp [e]); (case refine_3 => simp (disch := omega) [e, wrp]); (case refine_4 => simp [e]); (case refine_5 => first | (simp; omega) | (simp; done) | omega | (simp only; omega)); (case' refine_6 => (try simp only); (try exact trivial)))
  · have hx := last_slt (by omega) (by simpa using hx1) g2
    have e : openS o x = o ++ [x] := by unfold openS; rw [if_neg (by simp [g1]), hx]; simp [g3]
    ((refine w_nx (()) ?_ ?_ ?_ ?_ ?_ ?_); (case refine_1 => simp [e]); (case refine_2 => simp [e]); (case refine_3 => simp (disch := omega) [e, wrp]); (case refine_4 => simp [e]); (case refine_5 => first | (simp; omega) | (simp; done) | omega | (simp only; omega)); (case' refine_6 => (try simp only); (try exact trivial)))
  · have hx := last_slt (by omega) (by simpa using hx1) g2
    have e : openS o x = [] := by unfold openS; rw [if_neg (by simp [g1]), hx]; simp [g3]
    ((refine w_nx (()) ?_ ?_ ?_ ?_ ?_ ?_); (case refine_1 => simp [e]); (case refine_2 => simp [e]); (case refine_3 => simp (disch := omega) [e, wrp]); (case refine_4 => simp [e]); (case refine_5 => first | (simp; omega) | (simp; done) | omega | (simp only; omega)); (case' refine_6 => (try simp only); (try exact trivial)))
  · have e : openS o x = [] := by unfold openS; rw [if_neg (by simp [g1]), g2]; simp
    ((refine w_nx (()) ?_ ?_ ?_ ?_ ?_ ?_); (case refine_1 => simp [e]); (case refine_2 => simp [e]); (case refine_3 => simp (disch := omega) [e, wrp]); (case refine_4 => simp [e]); (case refine_5 => first | (simp; omega) | (simp; done) | omega | (simp only; omega)); (case' refine_6 => (try simp only); (try exact trivial)))
  · have e : addS o x = ([], madeS (openS o x), true) := if_pos ⟨List.length_pos_iff.1 g3, g4⟩
    rw [e]
    ((first | refine w_retO Tryz.tab [] (by rfl) (by simp) (by simp) (fun K' hL => ?_) ?_ ?_ ?_ | refine w_retO_end Tryz.tab [] (by rfl) (by simp) (by simp) (fun K' hL => ?_) ?_ ?_ ?_); (conv => whnf); (refine hL _ ?_; clear hL); all_goals simp [addT, e])
  · have e : addS o x = ([], fr0, false) := by unfold addS; rw [if_neg (by simp [g4]), if_pos (by omega)]
    rw [e]
    ((first | refine w_retO Tryz.tab [] (by rfl) (by simp) (by simp) (fun K' hL => ?_) ?_ ?_ ?_ | refine w_retO_end Tryz.tab [] (by rfl) (by simp) (by simp) (fun K' hL => ?_) ?_ ?_ ?_); (conv => whnf); (refine hL _ ?_; clear hL); all_goals simp [addT, e, fr0])
  · have e : addS o x = (openS o x, fr0, false) := by unfold addS; rw [if_neg (by simp [g4]), if_neg (by omega)]
    rw [e]
    ((first | refine w_retO Tryz.tab [] (by rfl) (by simp) (by simp) (fun K' hL => ?_) ?_ ?_ ?_ | refine w_retO_end Tryz.tab [] (by rfl) (by simp) (by simp) (fun K' hL => ?_) ?_ ?_ ?_); (conv => whnf); (refine hL _ ?_; clear hL); all_goals simp [addT, e, fr0])
  · rw [g3] at g5; simp at g5
  · have e : addS o x = (openS o x, fr0, false) := by unfold addS; rw [if_neg (by simp [g3]), if_neg (by omega)]
    rw [e]
    ((first | refine w_retO Tryz.tab [] (by rfl) (by simp) (by simp) (fun K' hL => ?_) ?_ ?_ ?_ | refine w_retO_end Tryz.tab [] (by rfl) (by simp) (by simp) (fun K' hL => ?_) ?_ ?_ ?_); (conv => whnf); (refine hL _ ?_; clear hL); all_goals simp [addT, e, fr0])
def rawT (o : List Slt) (x : Slt) : AV := .tup [.agg [slts (addS o x).1], .agg (frC (addS o x).2.1), B (addS o x).2.2]
set_option maxHeartbeats 1000000 in
theorem c_frameRaw (o : List Slt) (x : Slt) (ho : RightO o) : PSpec Tryz.prog 75 [.agg [slts o], .agg (sltC x)] (rawT o x) := by
  refine p_pspec Tryz.func75 Tryz.ntmps75 Tryz.results75 ?_
  have h1 := ho.1
  have hc := pspec_of_cspec (c_cloneSlt o (by omega)) (.osl _ _ _) (.sl _ _)
  repeat' (first
 | (with_reducible first | apply qz0 | (refine h0 _ _ ?_; clear h0 hw) | (refine hw _ _ _ ?_; clear h0 hw) | apply qz1 | (refine hL _ ?_; clear hL))
 | refine p_reg fun K1 hK => ?_
 | refine p_dreg Tryz.mix fun K1 hK => ?_
 | ((first | refine p_op Tryz.tab fun K' h0 hw => ?_ | refine p_op0 Tryz.tab fun K' h0 hw => ?_ | refine p_dop Tryz.tab fun K' h0 hw => ?_ | refine p_dop0 Tryz.tab fun K' h0 hw => ?_); conv => whnf)
 | (refine p_nil (hK _ ?_); clear hK)
 | (refine d_nil (p_obj ?_ (hK _ _ _ _)); clear hK)
 | (refine p_call own71 (hc) ?_; conv => whnf)
 | ((with_reducible refine callV_id (f := 79) ?_); have hcs_ := c_add o x ho; (with_reducible apply w_callO [160] own79 (hcs_)); (case hx => rfl); (case he => rfl); (case hle => first | ((repeat constructor); done) ); (case hm => rfl); (case hnd => decide); (case' hK => (try clear hcs_); conv => whnf); (any_goals (simp [addT]; done)))
 | ((with_reducible first | refine w_ret Tryz.tab fun K' hL => ?_ ); (conv => whnf))
 | ((with_reducible apply And.intro); (case' right => try (conv => whnf)); (case' left => try first | rfl | decide | (simp [addT]; done) ))
 )
  simp [rawT]
def badS (p : Option Slt) (x : Slt) : Bool := match p with
  | none => !x.p.first || x.p.fin
  | some a => x.p.fin || !followsB a x
def goB : Option Slt → List Slt → Int
  | _, [] => 0
  | p, x :: l => if sltE x ≠ 0 then sltE x else if badS p x = true then 4 else goB (some x) l
def buildE (o : List Slt) : Int := if 4 ≤ o.length then 2 else goB none o
def prevS (o : List Slt) (i : Nat) : Option Slt := if i = 0 then none else o[i - 1]?
section
variable {o : List Slt} {i : Nat} {x : Slt}
theorem prevS_succ (h : o[i]? = some x) : prevS o (i + 1) = some x := by simp [prevS, h]
theorem goB_end (h : goB (prevS o i) (o.drop i) = goB none o) (hi : o.length ≤ i) : goB none o = 0 := by rw [← h, List.drop_eq_nil_of_le hi]; rfl
theorem goB_bad (h : goB (prevS o i) (o.drop i) = goB none o) (hx : o[i]? = some x) (hf : ¬ sltE x = 0) : goB none o = sltE x := by rw [← h, drop_at hx, goB, if_pos hf]
theorem goB_four (h : goB (prevS o i) (o.drop i) = goB none o) (hx : o[i]? = some x) (hf : sltE x = 0) (hb : badS (prevS o i) x = true) : goB none o = 4 := by rw [← h, drop_at hx, goB, if_neg (by simp [hf]), if_pos hb]
theorem goB_next (h : goB (prevS o i) (o.drop i) = goB none o) (hx : o[i]? = some x) (hf : sltE x = 0) (hb : badS (prevS o i) x = false) : goB (prevS o (i + 1)) (o.drop (i + 1)) = goB none o := by
  rw [← h, drop_at hx, goB, if_neg (by simp [hf]), if_neg (by simp [hb]), prevS_succ hx]
theorem badS_zero (h : i = 0) : badS (prevS o i) x = (!x.p.first || x.p.fin) := by rw [prevS, if_pos h]; rfl
theorem badS_fin (hi : i < o.length) (hk : x.p.fin = true) : badS (prevS o i) x = true := by
  unfold prevS
  split
  · simp [badS, hk]
  · obtain ⟨y, hy⟩ : ∃ y, o[i - 1]? = some y := ⟨o[i - 1]'(by omega), by simp⟩
    rw [hy]; simp [badS, hk]
end
set_option maxHeartbeats 1000000 in
theorem c_frameRight (o : List Slt) (ho : o.length ≤ 4000000000000) : PSpec Tryz.prog 52 [.agg [slts o]] (I (buildE o)) := by
  refine p_pspec Tryz.func52 Tryz.ntmps52 Tryz.results52 ?_
  repeat' (first
 | (with_reducible first | apply qz0 | (refine h0 _ _ ?_; clear h0 hw) | (refine hw _ _ _ ?_; clear h0 hw) | apply qz1 | apply qz2 | apply qz3 | apply qz5 | apply qz6 | (refine hL _ ?_; clear hL))
 | refine p_reg fun K1 hK => ?_
 | apply go_seq
 | (refine p_op Tryz.tab fun K' h0 hw => ?_; conv => whnf)
 | (refine p_nil (hK _ ?_); clear hK)
 | ((with_reducible apply go_cond); (case hb => rfl))
 | ((with_reducible first | refine w_ret Tryz.tab fun K' hL => ?_ ); (conv => whnf))
 | ((with_reducible apply And.intro); (case' right => try (conv => whnf)); (case' left => try first | rfl | decide | (simp; done) ))
 | (first | (guard_hyp g7; intro g8; try simp at g8) | (guard_hyp g6; intro g7; try simp at g7) | (guard_hyp g5; intro g6; try simp at g6) | (guard_hyp g4; intro g5; try simp at g5) | (guard_hyp g3; intro g4; try simp at g4) | (guard_hyp g2; intro g3; try simp at g3) | (guard_hyp g1; intro g2; try simp at g2) | intro g1; try simp at g1))
  · have : 4 ≤ o.length := by omega
    simp [buildE, this]
  have he : buildE o = goB none o := if_neg (by omega)
  refine w_loop (X := Nat) [2, 3, 4, 5, 13, 14, 15, 16, 17, 18, 19, 20, 21, 22, 23, 24, 25, 26, 27, 28, 29, 30, 31, 32, 33, 34, 35, 36, 37, 38, 39, 40, 41, 42, 43, 44, 45, 46, 47, 48, 49, 50, 51] (fun i => [(13, I i)]) (fun _ => []) (fun i => i ≤ o.length ∧ goB (prevS o i) (o.drop i) = goB none o ∧ ∀ j x, j < i → o[j]? = some x → sltE x = 0) (fun i => o.length - i) 0 (by simp [prevS]) ?_ ?_
  · refine ⟨kt_refl, ko_refl, ?_, ?_, ?_, ?_, Nat.le_refl _⟩ <;> simp
  rintro i ⟨h1, h2, h3⟩
  have hb : ∀ {x : Slt}, 0 < i → o[(IntKind.i64.wrap ((i : Int) - 1)).toNat]? = some x → (-1000000000000 ≤ x.n ∧ x.n ≤ 1000000000000) ∧ prevS o i = some x := fun h0 hx => by
    rw [wrp (by omega) (by omega), show ((i : Int) - 1).toNat = i - 1 by omega] at hx
    have := (sltE_ok (h3 (i - 1) _ (by omega) hx)).1
    exact ⟨by omega, by rw [prevS, if_neg (by omega), hx]⟩
  have hok : ∀ x1 : Slt, o[i]? = some x1 → sltE x1 = 0 → ∀ j x, j < i + 1 → o[j]? = some x → sltE x = 0 := fun x1 hx1 g j x hj hx => by
    by_cases e : j = i
    · subst e; rw [hx1] at hx; cases hx; exact g
    · exact h3 j x (by omega) hx
  repeat' (first
 | (with_reducible first | apply qz0 | (refine h0 _ _ ?_; clear h0 hw) | (refine hw _ _ _ ?_; clear h0 hw) | apply qz1 | apply qz2 | apply qz3 | apply qz4 | apply qz5 | apply qz6 | apply qz7 | apply qz8 | apply qz9 | apply qza | apply qzb | apply qzc | (refine hL _ ?_; clear hL))
 | refine p_reg fun K1 hK => ?_ | refine p_regE fun K1 hK => ?_
 | refine p_dreg Tryz.mix fun K1 hK => ?_
 | apply go_seq
 | ((first | refine p_op Tryz.tab fun K' h0 hw => ?_ | refine p_op0 Tryz.tab fun K' h0 hw => ?_ | refine p_dop Tryz.tab fun K' h0 hw => ?_); conv => whnf)
 | (refine p_nil (hK _ ?_); clear hK)
 | (refine d_nil (p_obj ?_ (hK _ _ _ _)); clear hK)
 | (first | refine d_grd_yes (by rfl) (by rfl) ?_ )
 | ((first | (apply d_grd_no; (case hg => rfl); (case hb => rfl)) | (apply d_grd_undef; (case hg => rfl); (case hb => rfl)) | (apply d_grd; (case hg => rfl); (case hb => rfl)) ); (case hi => (simp only [Nat.reduceAdd, Nat.reduceMul]; rfl)))
 | ((with_reducible refine callV_id (f := 78) ?_); have hcs_ := c_slot x1; (with_reducible apply callV_f own78 (hcs_)); (case hx => rfl); (case he => rfl); (case hle => first | ((repeat constructor); done) ); (case hpu => repeat constructor); (case' hK => (try clear hcs_); conv => whnf))
 | ((with_reducible refine callV_id (f := 81) ?_); have hcs_ := c_follows x2 x1 (hb (by omega) hx2).1; (with_reducible apply callV_f own81 (hcs_)); (case hx => rfl); (case he => rfl); (case hle => first | ((repeat constructor); done) ); (case hpu => repeat constructor); (case' hK => (try clear hcs_); conv => whnf))
 | ((with_reducible apply go_cond); (case hb => rfl))
 | ((with_reducible first | refine w_ret Tryz.tab fun K' hL => ?_ ); (conv => whnf))
 | ((with_reducible apply And.intro); (case' right => try (conv => whnf)); (case' left => try first | rfl | decide | (simp; done) | (simp (disch := omega) only [wrp]; omega) ))
 | exact p_side
 | ((with_reducible refine all_row ?_); (first | (guard_hyp hx1; intro x2 hx2) | intro x1 hx1); conv => whnf)
 | (first | (guard_hyp g7; intro g8; try simp at g8) | (guard_hyp g6; intro g7; try simp at g7) | (guard_hyp g5; intro g6; try simp at g6) | (guard_hyp g4; intro g5; try simp at g5) | (guard_hyp g3; intro g4; try simp at g4) | (guard_hyp g2; intro g3; try simp at g3) | (guard_hyp g1; intro g2; try simp at g2) | intro g1; try simp at g1))
  · simp at hx1; simp [he, goB_bad h2 hx1 g3]
  all_goals (try (exfalso; omega))
  all_goals (try (simp at hx1))
  · (refine p_nx ((i + 1)) ?_; (try simp only); (try exact trivial))
    exact ⟨by omega, goB_next h2 hx1 g3 (by rw [badS_zero g4]; simp [g5, g6]), hok x1 hx1 g3⟩
  · simp [he, goB_four h2 hx1 g3 (badS_fin g2 g6)]
  · simp [he, goB_four h2 hx1 g3 (by rw [badS_zero g4]; simp [g5])]
  · simp [he, goB_four h2 hx1 g3 (by rw [(hb g6 hx2).2]; simp [badS, g7])]
  · (refine p_nx ((i + 1)) ?_; (try simp only); (try exact trivial))
    exact ⟨by omega, goB_next h2 hx1 g3 (by rw [(hb g6 hx2).2]; simp [badS, g5, g7]), hok x1 hx1 g3⟩
  · simp [he, goB_four h2 hx1 g3 (badS_fin g2 g5)]
  · simp [he, goB_end h2 g2]
end Go.Proofs.YtokkencbpmjdaaaGreat
end
section
namespace Go.Proofs.YtokkencbpmjdaaaGreat
open Go Go.Sy
set_option maxRecDepth 4000
set_option linter.unusedSimpArgs false
set_option linter.unusedVariables false
attribute [local irreducible] Reg RegD Later Out CallV Tri Side EqV Pause
set_option maxHeartbeats 1000000 in
theorem c_checkBuilder (o : List Slt) (ho : o.length ≤ 4000000000000) : PSpec Tryz.prog 26 [.agg [slts o]] (I (buildE o)) := by
  refine p_pspec Tryz.func26 Tryz.ntmps26 Tryz.results26 ?_
  repeat' (first
 | (with_reducible first | apply qz0 | (refine h0 _ _ ?_; clear h0 hw) | (refine hw _ _ _ ?_; clear h0 hw) | apply qz1 | apply qz2 | apply qz3 | apply qz5 | apply qz6 | (refine hL _ ?_; clear hL))
 | refine p_reg fun K1 hK => ?_
 | apply go_seq
 | (refine p_op Tryz.tab fun K' h0 hw => ?_; conv => whnf)
 | (refine p_nil (hK _ ?_); clear hK)
 | ((with_reducible apply go_cond); (case hb => rfl))
 | ((with_reducible first | refine w_ret Tryz.tab fun K' hL => ?_ ); (conv => whnf))
 | ((with_reducible apply And.intro); (case' right => try (conv => whnf)); (case' left => try first | rfl | decide | (simp; done) ))
 | (first | (guard_hyp g7; intro g8; try simp at g8) | (guard_hyp g6; intro g7; try simp at g7) | (guard_hyp g5; intro g6; try simp at g6) | (guard_hyp g4; intro g5; try simp at g5) | (guard_hyp g3; intro g4; try simp at g4) | (guard_hyp g2; intro g3; try simp at g3) | (guard_hyp g1; intro g2; try simp at g2) | intro g1; try simp at g1))
  · have : 4 ≤ o.length := by omega
    simp [buildE, this]
  have he : buildE o = goB none o := if_neg (by omega)
  refine w_loop (X := Nat) [2, 3, 4, 9, 10, 11, 12, 13, 14, 15, 16, 17, 18, 19, 20, 21, 22, 23, 24, 25, 26, 27, 28, 29, 30, 31, 32, 33, 34, 35, 36, 37, 38, 39, 40, 41, 42, 43, 44, 45, 46, 47, 48, 49, 50, 51, 52, 53, 54, 55, 56, 57, 58, 59, 60, 61, 62, 63] (fun i => [(3, I i)]) (fun _ => []) (fun i => i ≤ o.length ∧ goB (prevS o i) (o.drop i) = goB none o ∧ ∀ j x, j < i → o[j]? = some x → sltE x = 0) (fun i => o.length - i) 0 (by simp [prevS]) ?_ ?_
  · refine ⟨kt_refl, ko_refl, ?_, ?_, ?_, ?_, Nat.le_refl _⟩ <;> simp
  rintro i ⟨h1, h2, h3⟩
  have hb : ∀ {x : Slt}, 0 < i → o[(IntKind.i64.wrap ((i : Int) - 1)).toNat]? = some x → (-1000000000000 ≤ x.n ∧ x.n ≤ 1000000000000) ∧ prevS o i = some x := fun h0 hx => by
    rw [wrp (by omega) (by omega), show ((i : Int) - 1).toNat = i - 1 by omega] at hx
    have := (sltE_ok (h3 (i - 1) _ (by omega) hx)).1
    exact ⟨by omega, by rw [prevS, if_neg (by omega), hx]⟩
  have hok : ∀ x1 : Slt, o[i]? = some x1 → sltE x1 = 0 → ∀ j x, j < i + 1 → o[j]? = some x → sltE x = 0 := fun x1 hx1 g j x hj hx => by
    by_cases e : j = i
    · subst e; rw [hx1] at hx; cases hx; exact g
    · exact h3 j x (by omega) hx
  have hzero : ∀ {y x : Slt}, i = 0 → o[Int.toNat 0]? = some y → o[i]? = some x → y = x := fun q0 q1 q2 => by
    have q1' : o[0]? = some _ := q1
    rw [q0] at q2
    exact Option.some.inj (q1'.symm.trans q2)
  repeat' (first
 | (with_reducible first | apply qz0 | (refine h0 _ _ ?_; clear h0 hw) | apply qz1 | apply qz2 | apply qz3 | apply qz4 | apply qz5 | apply qz6 | apply qz7 | apply qz8 | apply qz9 | apply qza | apply qzb | apply qzc | (refine hL _ ?_; clear hL))
 | refine p_reg fun K1 hK => ?_ | refine p_regE fun K1 hK => ?_
 | refine p_dreg Tryz.mix fun K1 hK => ?_
 | apply go_seq
 | ((first | refine p_op Tryz.tab fun K' h0 hw => ?_ | refine p_dop Tryz.tab fun K' h0 hw => ?_); conv => whnf)
 | (refine p_nil (hK _ ?_); clear hK)
 | (refine d_nil (p_obj ?_ (hK _ _ _ _)); clear hK)
 | (first | refine d_grd_yes (by rfl) (by rfl) ?_ )
 | ((first | (apply d_grd_no; (case hg => rfl); (case hb => rfl)) | (apply d_grd_undef; (case hg => rfl); (case hb => rfl)) | (apply d_grd; (case hg => rfl); (case hb => rfl)) ); (case hi => (simp only [Nat.reduceAdd, Nat.reduceMul]; rfl)))
 | ((with_reducible refine callV_id (f := 54) ?_); have hcs_ := c_checkSlot x1; (with_reducible apply callV_f own54 (hcs_)); (case hx => rfl); (case he => rfl); (case hle => first | ((repeat constructor); done) ); (case hpu => repeat constructor); (case' hK => (try clear hcs_); conv => whnf))
 | ((with_reducible refine callV_id (f := 55) ?_); have hcs_ := c_isNext x2 x1 (hb (by omega) hx2).1; (with_reducible apply callV_f own55 (hcs_)); (case hx => rfl); (case he => rfl); (case hle => first | ((repeat constructor); done) ); (case hpu => repeat constructor); (case' hK => (try clear hcs_); conv => whnf))
 | ((with_reducible refine callV_id (f := 55) ?_); have hcs_ := c_isNext x3 x1 (hb (by omega) hx3).1; (with_reducible apply callV_f own55 (hcs_)); (case hx => rfl); (case he => rfl); (case hle => first | ((repeat constructor); done) ); (case hpu => repeat constructor); (case' hK => (try clear hcs_); conv => whnf))
 | ((with_reducible apply go_cond); (case hb => rfl))
 | ((with_reducible first | refine w_ret Tryz.tab fun K' hL => ?_ ); (conv => whnf))
 | ((with_reducible apply And.intro); (case' right => try (conv => whnf)); (case' left => try first | rfl | decide | (simp; done) | (simp (disch := omega) only [wrp]; omega) | (simp (disch := omega) [wrp]; (try omega); done)))
 | exact p_side
 | ((with_reducible apply all_rk); (case hx => with_reducible assumption); (conv => whnf))
 | ((with_reducible refine all_row ?_); (first | (guard_hyp hx2; intro x3 hx3) | (guard_hyp hx1; intro x2 hx2) | intro x1 hx1); conv => whnf)
 | (first | (guard_hyp g7; intro g8; try simp at g8) | (guard_hyp g6; intro g7; try simp at g7) | (guard_hyp g5; intro g6; try simp at g6) | (guard_hyp g4; intro g5; try simp at g5) | (guard_hyp g3; intro g4; try simp at g4) | (guard_hyp g2; intro g3; try simp at g3) | (guard_hyp g1; intro g2; try simp at g2) | intro g1; try simp at g1))
  · simp at hx1; simp [he, goB_bad h2 hx1 g3]
  all_goals (try (exfalso; omega))
  all_goals (try (simp at hx1))
  · obtain rfl : x2 = x1 := hzero g4 hx2 hx1
    (refine p_nx ((i + 1)) ?_; (try simp only); (try exact trivial))
    exact ⟨by omega, goB_next h2 hx1 g3 (by rw [badS_zero g4]; simp [g5, g6]), hok x2 hx1 g3⟩
  · simp [he, goB_four h2 hx1 g3 (badS_fin g2 g6)]
  · obtain rfl : x2 = x1 := hzero g4 hx2 hx1
    simp [he, goB_four h2 hx1 g3 (by rw [badS_zero g4]; simp [g5])]
  · simp [he, goB_four h2 hx1 g3 (by rw [(hb g6 hx2).2]; simp [badS, g7])]
  · (refine p_nx ((i + 1)) ?_; (try simp only); (try exact trivial))
    exact ⟨by omega, goB_next h2 hx1 g3 (by rw [(hb g6 hx2).2]; simp [badS, g5, g7]), hok x1 hx1 g3⟩
  · simp [he, goB_four h2 hx1 g3 (badS_fin g2 g5)]
  · simp [he, goB_end h2 g2]
theorem addS_len (o : List Slt) (x : Slt) (h : o.length ≤ 3) : (addS o x).1.length ≤ 3 ∧ (openS o x).length ≤ 4 ∧ (addS o x).2.1.parts.length ≤ 4 := by
  have h2 : (openS o x).length ≤ 4 := by unfold openS; (repeat' split) <;> simp <;> omega
  refine ⟨?_, h2, ?_⟩
  · unfold addS
    split
    · simp
    · split
      · simp
      · rename_i h3; simp only; omega
  · unfold addS
    split
    · simp [madeS]; omega
    · split <;> simp [fr0]
set_option maxHeartbeats 2000000 in
theorem c_addOf (o : List Slt) (x : Slt) (ho : RightO o) : PSpec Tryz.prog 89 [.agg [slts o], .agg (sltC x)] (rawT o x) := by
  refine p_pspec Tryz.func89 Tryz.ntmps89 Tryz.results89 ?_
  have hl := ho.1
  have hbd : ∀ {y : Slt} {i : Nat}, o[i]? = some y → -1000000000000 ≤ y.n ∧ y.n ≤ 1000000000000 := fun h => ho.2 _ (List.mem_of_getElem? h)
  have hol : (openS o x).length ≤ 1001 := by unfold openS; (repeat' split) <;> simp <;> omega
  repeat' (first
 | ((first | with_reducible refine w_cut (x := .seq (.region _ _ _) (.cond (.tmp 16) _ _)) (X := Unit) [7, 14, 15, 16, 17, 18, 19, 20, 21, 22, 23, 24, 25, 26, 27, 28, 29, 30, 31, 32, 33, 34, 35, 36, 37] (fun _ => [(7, slts (openS o x))]) (fun _ => []) (fun _ => True) ?_ ?_); (try (rintro z hz; simp only at hz)))
 | ((with_reducible apply w_ownCell 464 2 9 1); (case hb => rfl); (case hj => rfl); (case hsz => decide); (case hm => (try simp only [Nat.reduceAdd, Nat.reduceMul]); exact rfl))
 | (with_reducible first | apply qz0 | (refine h0 _ _ ?_; clear h0 hw) | (refine hw _ _ _ ?_; clear h0 hw) | apply qz1 | apply qz2 | apply qz3 | apply qz6 | (refine hL _ ?_; clear hL))
 | refine p_reg fun K1 hK => ?_ | refine p_regE fun K1 hK => ?_
 | refine p_dreg Tryz.mix fun K1 hK => ?_ | refine p_dregE Tryz.mix fun K1 hK => ?_
 | apply go_seq
 | ((first | refine p_op Tryz.tab fun K' h0 hw => ?_ | refine p_op0 Tryz.tab fun K' h0 hw => ?_ | refine p_dop Tryz.tab fun K' h0 hw => ?_ | refine p_dop0 Tryz.tab fun K' h0 hw => ?_); conv => whnf)
 | (refine p_nil (hK _ ?_); clear hK)
 | (refine d_nil (p_obj ?_ (hK _ _ _ _)); clear hK)
 | (first | refine d_grd_yes (by rfl) (by rfl) ?_ | refine v_grd_yes (by rfl) (by rfl) ?_)
 | ((first | (apply d_grd_no; (case hg => rfl); (case hb => rfl)) | (apply d_grd; (case hg => rfl); (case hb => rfl)) | (apply v_grd_no; (case hg => rfl); (case hb => rfl)) | (apply v_grd; (case hg => rfl); (case hb => rfl))); (case hi => (simp only [Nat.reduceAdd, Nat.reduceMul]; rfl)))
 | ((with_reducible refine callV_id (f := 55) ?_); have hcs_ := c_isNext x1 x (hbd (by simpa using hx1)); (with_reducible apply callV_f own55 (hcs_)); (case hx => rfl); (case he => rfl); (case hle => first | ((repeat constructor); done) ); (case hpu => repeat constructor); (case' hK => (try clear hcs_); conv => whnf))
 | ((with_reducible apply go_cond); (case hb => rfl))
 | ((with_reducible first | refine w_ret Tryz.tab fun K' hL => ?_ ); (conv => whnf))
 | ((with_reducible apply And.intro); (case' right => try (conv => whnf)); (case' left => try first | rfl | decide | (simp; done) ))
 | exact p_side
 | ((with_reducible apply all_rk); (case hx => with_reducible assumption); (conv => whnf))
 | ((with_reducible refine all_row ?_); (first | intro x1 hx1); conv => whnf)
 | (first | (guard_hyp g5; intro g6; try simp at g6) | (guard_hyp g4; intro g5; try simp at g5) | (guard_hyp g3; intro g4; try simp at g4) | (guard_hyp g2; intro g3; try simp at g3) | (guard_hyp g1; intro g2; try simp at g2) | intro g1; try simp at g1))
  · have e : openS o x = [x] := if_pos g1
    ((refine w_nx (()) ?_ ?_ ?_ ?_ ?_ ?_); (case refine_1 => simp [e]); (case refine_2 => simp [e]); (case refine_3 => simp (disch := omega) [e, wrp]); (case refine_4 => simp [e]); (case refine_5 => first | (simp; omega) | (simp; done) | omega | (simp only; omega)); (case' refine_6 => (try simp only); (try exact trivial)))
  · have hx := last_slt (by omega) (by simpa using hx1) g2
    have e : openS o x = o ++ [x] := by unfold openS; rw [if_neg (by simp [g1]), hx]; simp [g3]
    ((refine w_nx (()) ?_ ?_ ?_ ?_ ?_ ?_); (case refine_1 => simp [e]); (case refine_2 => simp [e]); (case refine_3 => simp (disch := omega) [e, wrp]); (case refine_4 => simp [e]); (case refine_5 => first | (simp; omega) | (simp; done) | omega | (simp only; omega)); (case' refine_6 => (try simp only); (try exact trivial)))
  · have hx := last_slt (by omega) (by simpa using hx1) g2
    have e : openS o x = [] := by unfold openS; rw [if_neg (by simp [g1]), hx]; simp [g3]
    ((refine w_nx (()) ?_ ?_ ?_ ?_ ?_ ?_); (case refine_1 => simp [e]); (case refine_2 => simp [e]); (case refine_3 => simp (disch := omega) [e, wrp]); (case refine_4 => simp [e]); (case refine_5 => first | (simp; omega) | (simp; done) | omega | (simp only; omega)); (case' refine_6 => (try simp only); (try exact trivial)))
  · have e : openS o x = [] := by unfold openS; rw [if_neg (by simp [g1]), g2]; simp
    ((refine w_nx (()) ?_ ?_ ?_ ?_ ?_ ?_); (case refine_1 => simp [e]); (case refine_2 => simp [e]); (case refine_3 => simp (disch := omega) [e, wrp]); (case refine_4 => simp [e]); (case refine_5 => first | (simp; omega) | (simp; done) | omega | (simp only; omega)); (case' refine_6 => (try simp only); (try exact trivial)))
  · have e : addS o x = ([], madeS (openS o x), true) := if_pos ⟨List.length_pos_iff.1 g3, g4⟩
    generalize openS o x = p at hol g3 hx1 e
    have hx1' : p[0]? = some x1 := hx1
    have hm : madeS p = ⟨x1.p.time, x1.p.key, p.map (·.p.text)⟩ := by simp [madeS, hx1']
    refine w_loop (X := Nat) [10, 57, 58, 59, 60, 61, 62, 63, 64, 65, 66, 67, 68, 69, 70, 71, 72, 73] (fun i => [(10, I i)]) (fun i => [(464, .box [I x1.p.time, B x1.p.key, .osl 496 1 (rowS ((p.take i).map (·.p.text)))]), (496, .perm 9 1 i)]) (fun i => i ≤ p.length) (fun i => p.length - i) 0 (by simp) ?_ ?_
    · refine ⟨kt_refl, ko_refl, ?_, ?_, ?_, ?_, Nat.le_refl _⟩ <;> simp
    intro i h1
    have hlen : min i p.length = i := by omega
    repeat' (first
 | (with_reducible first | apply qz0 | (refine h0 _ _ ?_; clear h0 hw) | (refine hw _ _ _ ?_; clear h0 hw) | apply qz1 | apply qz2 | apply qz3 | apply qz4 | apply qz5 | apply qz6 | apply qz7 | apply qz9 | apply qza | apply qzc | (refine hL _ ?_; clear hL))
 | refine p_reg fun K1 hK => ?_ | refine p_regE fun K1 hK => ?_
 | refine p_dreg Tryz.mix fun K1 hK => ?_ | refine p_dregE Tryz.mix fun K1 hK => ?_
 | apply go_seq
 | ((first | refine p_op Tryz.tab fun K' h0 hw => ?_ | refine p_dop Tryz.tab fun K' h0 hw => ?_ | refine p_dop0 Tryz.tab fun K' h0 hw => ?_); conv => whnf)
 | (refine p_nil (hK _ ?_); clear hK)
 | (refine d_nil (p_obj ?_ (hK _ _ _ _)); clear hK)
 | ((with_reducible apply go_cond); (case hb => rfl))
 | ((with_reducible first | refine w_ret Tryz.tab fun K' hL => ?_ ); (conv => whnf))
 | ((with_reducible apply And.intro); (case' right => try (conv => whnf)); (case' left => try first | rfl | decide | (simp [hlen]; done) ))
 | exact p_side
 | ((with_reducible refine all_row ?_); (first | (guard_hyp hx1; intro x2 hx2) ); conv => whnf)
 | (first | (guard_hyp g5; intro g6; try simp at g6) | (guard_hyp g4; intro g5; try simp at g5) | (guard_hyp g3; intro g4; try simp at g4) | (guard_hyp g2; intro g3; try simp at g3) | (guard_hyp g1; intro g2; try simp at g2) | intro g1; try simp at g1))
    · have ht := map_texts (show p[i]? = some x2 by simpa using hx2)
      ((refine w_nx ((i + 1)) ?_ ?_ ?_ ?_ ?_ ?_); (case refine_1 => simp [ht, hlen]); (case refine_2 => simp [ht, hlen]); (case refine_3 => simp (disch := omega) [ht, hlen, wrp]); (case refine_4 => simp [ht, hlen]); (case refine_5 => first | (simp; omega) | (simp; done) | omega | (simp only; omega)); (case' refine_6 => (try simp only); (try exact trivial)))
      omega
    · have e2 : p.take i = p := List.take_of_length_le (by omega)
      simp [rawT, e, hm, e2]
  · have e : addS o x = ([], fr0, false) := by unfold addS; rw [if_neg (by simp [g4]), if_pos (by omega)]
    simp [rawT, e, fr0]
  · have e : addS o x = (openS o x, fr0, false) := by unfold addS; rw [if_neg (by simp [g4]), if_neg (by omega)]
    simp [rawT, e, fr0]
  · rw [g3] at g5; simp at g5
  · have e : addS o x = (openS o x, fr0, false) := by unfold addS; rw [if_neg (by simp [g3]), if_neg (by omega)]
    simp [rawT, e, fr0]
def eachF : List Slt → List Fr → List Slt → List Fr × Int
  | _, out, [] => (out, 0)
  | o, out, x :: l => if sltE x ≠ 0 then ([], sltE x) else eachF (addS o x).1 (if (addS o x).2.2 = true then out ++ [(addS o x).2.1] else out) l
def allF (l : List Slt) : List Fr × Int := if 100 < l.length then ([], 2) else eachF [] [] l
def OkO (o : List Slt) : Prop := o.length ≤ 3 ∧ ∀ a ∈ o, sltE a = 0
theorem OkO.right {o : List Slt} (h : OkO o) : RightO o := ⟨by have := h.1; omega, fun a ha => by have := (sltE_ok (h.2 a ha)).1; omega⟩
theorem openS_mem {o : List Slt} {x a : Slt} (h : a ∈ openS o x) : a ∈ o ∨ a = x := by
  unfold openS at h
  split at h
  · simp at h; exact .inr h
  · split at h
    · split at h
      · simp at h; exact h
      · cases h
    · cases h
theorem okO_add {o : List Slt} {x : Slt} (h : OkO o) (hx : sltE x = 0) : OkO (addS o x).1 := by
  refine ⟨(addS_len o x h.1).1, fun a ha => ?_⟩
  unfold addS at ha
  split at ha
  · cases ha
  · split at ha
    · cases ha
    · rcases openS_mem ha with h1 | rfl
      · exact h.2 a h1
      · exact hx
def framesT (r : List Fr × Int) : AV := .tup [frs r.1, I r.2]
set_option maxHeartbeats 2000000 in
theorem c_frameAll (l : List Slt) (hl : l.length ≤ 4000000000000) : PSpec Tryz.prog 48 [slts l] (framesT (allF l)) := by
  refine p_pspec Tryz.func48 Tryz.ntmps48 Tryz.results48 ?_
  repeat' (first
 | ((with_reducible apply w_ownNil 4 84 3); (case hs => rfl); (case hsz => decide); (case hm => (try simp only [Nat.reduceAdd, Nat.reduceMul]); exact rfl))
 | (with_reducible first | apply qz0 | (refine h0 _ _ ?_; clear h0 hw) | (refine hw _ _ _ ?_; clear h0 hw) | apply qz1 | apply qz2 | apply qz3 | apply qz5 | apply qz6 | (refine hL _ ?_; clear hL))
 | refine p_reg fun K1 hK => ?_
 | apply go_seq
 | (refine p_op Tryz.tab fun K' h0 hw => ?_; conv => whnf)
 | (refine p_nil (hK _ ?_); clear hK)
 | ((with_reducible apply go_cond); (case hb => rfl))
 | ((with_reducible first | refine w_ret Tryz.tab fun K' hL => ?_ ); (conv => whnf))
 | ((with_reducible apply And.intro); (case' right => try (conv => whnf)); (case' left => try first | rfl ))
 | (first | (guard_hyp g4; intro g5; try simp at g5) | (guard_hyp g3; intro g4; try simp at g4) | (guard_hyp g2; intro g3; try simp at g3) | (guard_hyp g1; intro g2; try simp at g2) | intro g1; try simp at g1))
  · have e : allF l = ([], 2) := if_pos (by omega)
    simp [framesT, e]
  have he : allF l = eachF [] [] l := if_neg (by omega)
  refine w_loop (X := Nat × List Slt × List Fr) [2, 3, 4, 7, 8, 9, 10, 18, 19, 20, 21, 22, 23, 24, 25, 26, 27, 28, 29, 30, 31, 32, 33, 34, 35, 36, 37, 38] (fun x => [(18, I x.1), (4, .osl 96 3 (rowF x.2.2))]) (fun x => [(128, .box [slts x.2.1]), (96, .perm 84 3 x.2.2.length)]) (fun x => x.1 ≤ l.length ∧ eachF x.2.1 x.2.2 (l.drop x.1) = eachF [] [] l ∧ OkO x.2.1 ∧ x.2.2.length ≤ x.1) (fun x => l.length - x.1) (0, [], []) ?_ ?_ ?_
  · exact ⟨by simp, rfl, ⟨by simp, by simp⟩, by simp⟩
  · refine ⟨kt_refl, ko_refl, ?_, ?_, ?_, ?_, Nat.le_refl _⟩ <;> simp
  rintro ⟨i, o, out⟩ ⟨h1, h2, h3, h4⟩
  simp only at h1 h2 h3 h4
  have hbad : ∀ x1 : Slt, l[i]? = some x1 → ¬ sltE x1 = 0 → allF l = ([], sltE x1) := fun x1 hx g => by rw [he, ← h2, drop_at hx, eachF, if_pos g]
  have hgo : ∀ x1 : Slt, l[i]? = some x1 → sltE x1 = 0 → eachF (addS o x1).1 (if (addS o x1).2.2 = true then out ++ [(addS o x1).2.1] else out) (l.drop (i + 1)) = eachF [] [] l := fun x1 hx g => by rw [← h2, drop_at hx]; conv => rhs; rw [eachF, if_neg (by simp [g])]
  repeat' (first
 | (with_reducible first | apply qz0 | (refine h0 _ _ ?_; clear h0 hw) | (refine hw _ _ _ ?_; clear h0 hw) | apply qz1 | apply qz2 | apply qz3 | apply qz4 | apply qz5 | apply qz6 | apply qz7 | apply qz8 | apply qz9 | apply qza | apply qzb | apply qzc | (refine hL _ ?_; clear hL))
 | refine p_reg fun K1 hK => ?_ | refine p_regE fun K1 hK => ?_
 | apply go_seq
 | ((first | refine p_op Tryz.tab fun K' h0 hw => ?_ | refine p_op0 Tryz.tab fun K' h0 hw => ?_); conv => whnf)
 | (refine p_nil (hK _ ?_); clear hK)
 | ((with_reducible refine callV_id (f := 78) ?_); have hcs_ := c_slot x1; (with_reducible apply callV_f own78 (hcs_)); (case hx => rfl); (case he => rfl); (case hle => first | ((repeat constructor); done) ); (case hpu => repeat constructor); (case' hK => (try clear hcs_); conv => whnf))
 | ((with_reducible refine callV_id (f := 79) ?_); have hcs_ := c_add o x1 h3.right; (with_reducible apply w_callO [128] own79 (hcs_)); (case hx => rfl); (case he => rfl); (case hle => first | ((repeat constructor); done) ); (case hm => rfl); (case hnd => decide); (case' hK => (try clear hcs_); conv => whnf); (any_goals (simp [addT]; done)))
 | ((with_reducible apply go_cond); (case hb => rfl))
 | ((with_reducible first | refine w_ret Tryz.tab fun K' hL => ?_ ); (conv => whnf))
 | ((with_reducible apply And.intro); (case' right => try (conv => whnf)); (case' left => try first | rfl | decide | (simp [addT]; done) ))
 | exact p_side
 | ((with_reducible refine all_row ?_); (first | intro x1 hx1); conv => whnf)
 | (first | (guard_hyp g4; intro g5; try simp at g5) | (guard_hyp g3; intro g4; try simp at g4) | (guard_hyp g2; intro g3; try simp at g3) | (guard_hyp g1; intro g2; try simp at g2) | intro g1; try simp at g1))
  · simp at hx1
    simp [framesT, hbad x1 hx1 g3]
  · simp at hx1
    have hg := hgo x1 hx1 g3
    rw [if_pos g4] at hg
    (refine p_nx ((i + 1, (addS o x1).1, out ++ [(addS o x1).2.1])) ?_; (try simp only); (try exact trivial))
    exact ⟨by omega, hg, okO_add h3 g3, by simp; omega⟩
  · simp at hx1
    have hg := hgo x1 hx1 g3
    rw [if_neg (by simp [g4])] at hg
    (refine p_nx ((i + 1, (addS o x1).1, out)) ?_; (try simp only); (try exact trivial))
    exact ⟨by omega, hg, okO_add h3 g3, by omega⟩
  · have e : allF l = (out, 0) := by rw [he, ← h2, List.drop_eq_nil_of_le (by omega)]; rfl
    simp [framesT, e]
end Go.Proofs.YtokkencbpmjdaaaGreat
end
section
namespace Go.Proofs.YtokkencbpmjdaaaGreat
open Go Go.Sy
set_option maxRecDepth 4000
set_option linter.unusedSimpArgs false
set_option linter.unusedVariables false
attribute [local irreducible] Reg RegD Later Out CallV Tri Side EqV Pause
theorem goB_ok : ∀ {l : List Slt} {p : Option Slt}, goB p l = 0 → ∀ f ∈ l, sltE f = 0
  | [], _, _ => by simp
  | f :: l, p, h => by
    rw [goB] at h
    by_cases h1 : sltE f = 0
    · rw [if_neg (by simp [h1])] at h
      split at h
      · cases h
      · intro x hx
        rcases List.mem_cons.1 hx with rfl | hx
        · exact h1
        · exact goB_ok h x hx
    · rw [if_pos h1] at h; exact absurd h h1
theorem buildE_ok {o : List Slt} (h : buildE o = 0) : OkO o := by
  unfold buildE at h
  split at h
  · cases h
  · exact ⟨by omega, goB_ok h⟩
theorem eachF_len : ∀ (l : List Slt) (o : List Slt) (out : List Fr), o.length ≤ 3 → (∀ f ∈ out, f.parts.length ≤ 4) → (eachF o out l).1.length ≤ out.length + l.length ∧ ∀ f ∈ (eachF o out l).1, f.parts.length ≤ 4
  | [], o, out, _, h => ⟨by simp [eachF], h⟩
  | x :: l, o, out, ho, h => by
    have ha := addS_len o x ho
    rw [eachF]
    split
    · simp
    · have hh : ∀ f ∈ (if (addS o x).2.2 = true then out ++ [(addS o x).2.1] else out), f.parts.length ≤ 4 := by
        intro f hf
        split at hf
        · rcases List.mem_append.1 hf with hf | hf
          · exact h f hf
          · simp at hf; subst hf; exact ha.2.2
        · exact h f hf
      have := eachF_len l _ _ ha.1 hh
      refine ⟨?_, this.2⟩
      have h1 := this.1
      have : (if (addS o x).2.2 = true then out ++ [(addS o x).2.1] else out).length ≤ out.length + 1 := by split <;> simp
      simp only [List.length_cons]; omega
theorem allF_len (l : List Slt) : (allF l).1.length ≤ 100 ∧ ∀ f ∈ (allF l).1, f.parts.length ≤ 4 := by
  unfold allF
  split
  · simp
  · have := eachF_len l [] [] (by simp) (by simp)
    refine ⟨?_, this.2⟩
    have h := this.1; simp at h; omega
theorem allF_fits (l : List Slt) : (allF l).1.length ≤ 4000000000000 ∧ ∀ f ∈ (allF l).1, f.parts.length ≤ 1000000000000000 := by
  have := allF_len l
  exact ⟨by omega, fun f hf => by have := this.2 f hf; omega⟩
end Go.Proofs.YtokkencbpmjdaaaGreat
end
section
namespace Go.Proofs.YtokkencbpmjdaaaGreat
open Go Go.Sy
set_option maxRecDepth 4000
set_option linter.unusedSimpArgs false
set_option linter.unusedVariables false
attribute [local irreducible] Reg RegD Later Out CallV Tri Side EqV Pause
theorem openS_last {o : List Slt} {x : Slt} (h : openS o x ≠ []) : (openS o x).getLast? = some x ∧ ((openS o x = [x] ∧ x.p.first = true) ∨ (openS o x = o ++ [x] ∧ x.p.first = false)) := by
  unfold openS at h ⊢
  by_cases hf : x.p.first = true
  · rw [if_pos hf]; exact ⟨rfl, .inl ⟨rfl, hf⟩⟩
  · rw [if_neg hf] at h ⊢
    cases ha : o.getLast? with
    | none => rw [ha] at h; exact absurd rfl h
    | some a =>
      rw [ha] at h
      simp only at h ⊢
      split
      · exact ⟨by simp, .inr ⟨rfl, by simpa using hf⟩⟩
      · rename_i q; rw [if_neg q] at h; exact absurd rfl h
theorem pktE_ok4 {p : Pkt} (h : pktE p = 0) : (0 ≤ p.seq ∧ p.seq ≤ 65535) ∧ (0 ≤ p.time ∧ p.time ≤ 1000000) ∧ p.text.size ≤ 8 ∧ ¬ (p.key = true ∧ p.first = false) := by
  unfold pktE at h
  by_cases h1 : ¬ ((0 ≤ p.seq ∧ p.seq ≤ 65535) ∧ 0 ≤ p.time ∧ p.time ≤ 1000000)
  · rw [if_pos h1] at h; cases h
  rw [if_neg h1] at h
  by_cases h2 : 8 < p.text.size
  · rw [if_pos h2] at h; cases h
  rw [if_neg h2] at h
  by_cases h3 : p.key = true ∧ p.first = false
  · rw [if_pos h3] at h; cases h
  exact ⟨by omega, by omega, by omega, h3⟩
theorem made_right {p : List Slt} (h0 : p ≠ []) (hl : p.length ≤ 4) (hp : ∀ a ∈ p, sltE a = 0) : frameE (madeS p) = 0 := by
  obtain ⟨x, hx⟩ : ∃ x, p[0]? = some x := ⟨p[0]'(List.length_pos_iff.2 h0), by simp⟩
  have hm : madeS p = ⟨x.p.time, x.p.key, p.map (·.p.text)⟩ := by simp [madeS, hx]
  have hr := pktE_ok4 (sltE_ok (hp x (List.mem_of_getElem? hx))).2.1
  rw [hm, frameE]
  rw [if_neg (by simp only; omega), if_neg (by simp [h0]), if_neg ?_]
  simp only [List.length_map, List.any_map, not_or]
  refine ⟨by omega, ?_⟩
  simp only [List.any_eq_true, not_exists, not_and]
  intro a ha
  have := pktE_ok4 (sltE_ok (hp a ha)).2.1
  simp [big]; omega
end Go.Proofs.YtokkencbpmjdaaaGreat
end

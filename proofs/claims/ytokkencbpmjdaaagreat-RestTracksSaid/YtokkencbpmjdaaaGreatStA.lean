/- Walks of package store. No condition. -/
import Derived.Test.YtokkencbpmjdaaaGreatGrA
section
namespace Go.Proofs.YtokkencbpmjdaaaGreat
open Go Go.Sy
set_option maxRecDepth 4000
set_option linter.unusedSimpArgs false
set_option linter.unusedVariables false
attribute [local irreducible] Reg RegD Later Out CallV Tri Side EqV Pause
structure Sto where
  first : Int
  gs : List (List Fr)
  op : List Fr
abbrev stC (s : Sto) : List AV := [I s.first, grs s.gs, frs s.op]
def st0 : Sto := ⟨0, [], []⟩
theorem right_fits {g : List Fr} (h : groupE g = 0) : Fits g := by
  obtain ⟨_, h2, _, h4⟩ := groupE_ok h
  exact ⟨by omega, fun f hf => by have := (frameE_ok (h4 f hf)).2.2.1; omega⟩
def sumB : List (List Fr) → Nat
  | [] => 0
  | g :: l => groupB g + sumB l
theorem sumB_app (a b : List (List Fr)) : sumB (a ++ b) = sumB a + sumB b := by
  induction a with
  | nil => simp [sumB]
  | cons x a ih => simp only [List.cons_append, sumB, ih]; omega
theorem sumB_at {l : List (List Fr)} {i : Nat} {x : List Fr} (h : l[i]? = some x) : sumB (l.take (i + 1)) = sumB (l.take i) + groupB x := by
  rw [take_at h, sumB_app]; simp [sumB]
theorem sumB_right : ∀ {l : List (List Fr)}, (∀ g ∈ l, groupE g = 0) → sumB l ≤ 192 * l.length
  | [], _ => by simp [sumB]
  | g :: l, h => by
    have h1 := groupE_bytes (h g (by simp))
    have h2 := sumB_right (l := l) fun x hx => h x (by simp [hx])
    simp only [sumB, List.length_cons]; omega
theorem sumB_take (l : List (List Fr)) (i : Nat) : sumB (l.take i) ≤ sumB l := by
  have := sumB_app (l.take i) (l.drop i)
  rw [List.take_append_drop] at this; omega
def Rg (l : List (List Fr)) : Prop := l.length ≤ 1000 ∧ ∀ g ∈ l, groupE g = 0
theorem Rg.at {l : List (List Fr)} (h : Rg l) {i : Nat} {x : List Fr} (hx : l[i]? = some x) : groupE x = 0 := h.2 _ (List.mem_of_getElem? hx)
theorem Rg.sum {l : List (List Fr)} (h : Rg l) : sumB l ≤ 192000 := by have := sumB_right h.2; have := h.1; omega
set_option maxHeartbeats 1000000 in
theorem c_storeSize (l : List (List Fr)) (h : Rg l) : PSpec Tryz.prog 115 [grs l] (I (sumB l)) := by
  refine p_pspec Tryz.func115 Tryz.ntmps115 Tryz.results115 ?_
  have hl := h.1
  have hs := h.sum
  repeat' (first
 | (with_reducible first | apply qz0 | (refine h0 _ _ ?_; clear h0 hw) | apply qz3 )
 | refine p_reg fun K1 hK => ?_
 | apply go_seq
 | (refine p_op Tryz.tab fun K' h0 hw => ?_; conv => whnf)
 | (refine p_nil (hK _ ?_); clear hK)
 )
  refine w_loop (X := Nat) [3, 5, 8, 9, 10, 11, 12, 13, 14, 15, 16] (fun i => [(8, I i), (3, I (sumB (l.take i)))]) (fun _ => []) (fun i => i ≤ l.length) (fun i => l.length - i) 0 (by simp) ?_ ?_
  · refine ⟨kt_refl, ko_refl, ?_, ?_, ?_, ?_, Nat.le_refl _⟩ <;> simp [sumB]
  intro i h1
  repeat' (first
 | (with_reducible first | apply qz0 | (refine h0 _ _ ?_; clear h0 hw) | (refine hw _ _ _ ?_; clear h0 hw) | apply qz1 | apply qz2 | apply qz3 | apply qz4 | apply qz6 | apply qz7 | apply qz9 | apply qza | apply qzc | (refine hL _ ?_; clear hL))
 | refine p_reg fun K1 hK => ?_ | refine p_regE fun K1 hK => ?_
 | apply go_seq
 | ((first | refine p_op Tryz.tab fun K' h0 hw => ?_ | refine p_op0 Tryz.tab fun K' h0 hw => ?_); conv => whnf)
 | (refine p_nil (hK _ ?_); clear hK)
 | ((with_reducible refine callV_id (f := 130) ?_); have hcs_ := c_groupBytes x1 (right_fits (h.at (by simpa using hx1))) (by have := groupE_bytes (h.at (by simpa using hx1)); omega); (with_reducible apply callV_f own130 (hcs_)); (case hx => rfl); (case he => rfl); (case hle => first | ((repeat constructor); done) ); (case hpu => repeat constructor); (case' hK => (try clear hcs_); conv => whnf))
 | ((with_reducible apply go_cond); (case hb => rfl))
 | ((with_reducible first | refine w_ret Tryz.tab fun K' hL => ?_ ); (conv => whnf))
 | ((with_reducible apply And.intro); (case' right => try (conv => whnf)); (case' left => try first | rfl | decide | (simp; done) ))
 | exact p_side
 | ((with_reducible refine all_row ?_); (first | intro x1 hx1); conv => whnf)
 | (first  | intro g1; try simp at g1))
  · simp at hx1
    have e := sumB_at hx1
    have e2 := sumB_take l (i + 1)
    ((refine w_nx ((i + 1)) ?_ ?_ ?_ ?_ ?_ ?_); (case refine_1 => simp [e]); (case refine_2 => simp [e]); (case refine_3 => simp (disch := omega) [e, wrp]); (case refine_4 => simp [e]); (case refine_5 => first | (simp; omega) | (simp; done) | omega | (simp only; omega)); (case' refine_6 => (try simp only); (try exact trivial)))
    omega
  · rw [show l.take i = l from List.take_of_length_le (by omega)]; simp
def full (l : List (List Fr)) : Bool := decide (5 < l.length) || (decide (1 < l.length) && decide (100 < sumB l))
set_option maxHeartbeats 1000000 in
theorem c_storeFull (l : List (List Fr)) (h : Rg l) : PSpec Tryz.prog 83 [grs l] (B (full l)) := by
  refine p_pspec Tryz.func83 Tryz.ntmps83 Tryz.results83 ?_
  have hl := h.1
  repeat' (first
 | (with_reducible first | apply qz0 | (refine h0 _ _ ?_; clear h0 hw) | apply qz1 | (refine hL _ ?_; clear hL))
 | refine p_reg fun K1 hK => ?_
 | (refine p_op Tryz.tab fun K' h0 hw => ?_; conv => whnf)
 | (refine p_nil (hK _ ?_); clear hK)
 | (first | refine v_grd_yes (by rfl) (by rfl) ?_)
 | ((first | (apply v_grd_no; (case hg => rfl); (case hb => rfl)) | (apply v_grd_undef; (case hg => rfl); (case hb => rfl)) | (apply v_grd; (case hg => rfl); (case hb => rfl))); (case hi => (simp only [Nat.reduceAdd, Nat.reduceMul]; rfl)))
 | ((with_reducible refine callV_id (f := 115) ?_); have hcs_ := c_storeSize l h; (with_reducible apply callV_f own115 (hcs_)); (case hx => rfl); (case he => rfl); (case hle => first | ((repeat constructor); done) ); (case hpu => repeat constructor); (case' hK => (try clear hcs_); conv => whnf))
 | ((with_reducible first | refine w_ret Tryz.tab fun K' hL => ?_ ); (conv => whnf))
 | (first  | intro g1; try simp at g1))
  all_goals (refine le_of_eq ?_; congr 2; rw [Bool.eq_iff_iff]; simp [full]; (try omega))
set_option maxHeartbeats 1000000 in
theorem c_isFull (l : List (List Fr)) (h : Rg l) : PSpec Tryz.prog 57 [grs l] (B (full l)) := by
  refine p_pspec Tryz.func57 Tryz.ntmps57 Tryz.results57 ?_
  have hl := h.1
  have hs := h.sum
  repeat' (first
 | (with_reducible first | apply qz0 | (refine h0 _ _ ?_; clear h0 hw) | apply qz3 )
 | refine p_reg fun K1 hK => ?_
 | apply go_seq
 | (refine p_op Tryz.tab fun K' h0 hw => ?_; conv => whnf)
 | (refine p_nil (hK _ ?_); clear hK)
 )
  refine w_loop (X := Nat) [3, 4, 5, 6, 7, 8, 9, 10, 11, 12, 13, 14, 15, 16, 17] (fun i => [(4, I i), (3, I (sumB (l.take i)))]) (fun _ => []) (fun i => i ≤ l.length) (fun i => l.length - i) 0 (by simp) ?_ ?_
  · refine ⟨kt_refl, ko_refl, ?_, ?_, ?_, ?_, Nat.le_refl _⟩ <;> simp [sumB]
  intro i h1
  repeat' (first
 | (with_reducible first | apply qz0 | (refine h0 _ _ ?_; clear h0 hw) | apply qz1 | apply qz2 | apply qz3 | apply qz4 | apply qz6 | apply qz7 | apply qz9 | apply qza | apply qzc | (refine hL _ ?_; clear hL))
 | refine p_reg fun K1 hK => ?_ | refine p_regE fun K1 hK => ?_
 | apply go_seq
 | (refine p_op Tryz.tab fun K' h0 hw => ?_; conv => whnf)
 | (refine p_nil (hK _ ?_); clear hK)
 | (first | refine v_grd_yes (by rfl) (by rfl) ?_)
 | ((first | (apply v_grd_no; (case hg => rfl); (case hb => rfl)) | (apply v_grd_undef; (case hg => rfl); (case hb => rfl)) | (apply v_grd; (case hg => rfl); (case hb => rfl))); (case hi => (simp only [Nat.reduceAdd, Nat.reduceMul]; rfl)))
 | ((with_reducible refine callV_id (f := 86) ?_); have hcs_ := c_sizeOf x1 (right_fits (h.at (by simpa using hx1))) (by have := groupE_bytes (h.at (by simpa using hx1)); omega); (with_reducible apply callV_f own86 (hcs_)); (case hx => rfl); (case he => rfl); (case hle => first | ((repeat constructor); done) ); (case hpu => repeat constructor); (case' hK => (try clear hcs_); conv => whnf))
 | ((with_reducible apply go_cond); (case hb => rfl))
 | ((with_reducible first | refine w_ret Tryz.tab fun K' hL => ?_ ); (conv => whnf))
 | ((with_reducible apply And.intro); (case' right => try (conv => whnf)); (case' left => try first | decide | (simp; done) ))
 | exact p_side
 | ((with_reducible refine all_row ?_); (first | intro x1 hx1); conv => whnf)
 | (first  | intro g1; try simp at g1))
  · simp at hx1
    have e := sumB_at hx1
    have e2 := sumB_take l (i + 1)
    ((refine w_nx ((i + 1)) ?_ ?_ ?_ ?_ ?_ ?_); (case refine_1 => simp [e]); (case refine_2 => simp [e]); (case refine_3 => simp (disch := omega) [e, wrp]); (case refine_4 => simp [e]); (case refine_5 => first | (simp; omega) | (simp; done) | omega | (simp only; omega)); (case' refine_6 => (try simp only); (try exact trivial)))
    omega
  all_goals (try rw [show l.take i = l from List.take_of_length_le (by omega)])
  all_goals (refine le_of_eq ?_; congr 2; rw [Bool.eq_iff_iff]; simp [full]; (try omega))
theorem full_pos {l : List (List Fr)} (h : full l = true) : 1 < l.length := by
  unfold full at h; simp at h; omega
def trimS (first : Int) (l : List (List Fr)) : Int × List (List Fr) := if h : full l = true then trimS (first + 1) l.tail else (first, l)
termination_by l.length
decreasing_by have := full_pos h; simp; omega
theorem Rg.tail {l : List (List Fr)} (h : Rg l) : Rg l.tail := ⟨by have := h.1; simp; omega, fun g hg => h.2 g (List.mem_of_mem_tail hg)⟩
set_option maxHeartbeats 1000000 in
theorem c_trimmed : ∀ (n : Nat) (l : List (List Fr)) (first : Int), l.length = n → Rg l → (-1000000 ≤ first ∧ first + l.length ≤ 1000000) → PSpec Tryz.prog 117 [I first, grs l] (.tup [I (trimS first l).1, grs (trimS first l).2]) := by
  intro n
  induction n using Nat.strongRecOn with
  | _ n ih =>
  intro l first hn hr hf
  have e1 := wrp (n := first + 1) (by omega) (by omega)
  refine p_pspec Tryz.func117 Tryz.ntmps117 Tryz.results117 ?_
  by_cases hfu : full l = true
  · have hp := full_pos hfu
    have ht : trimS first l = trimS (first + 1) l.tail := by rw [trimS, dif_pos hfu]
    rw [ht]
    cases l with
    | nil => simp at hp
    | cons g m =>
      have hcall := ih m.length (by simp at hn; omega) m (first + 1) rfl hr.tail (by simp at hf; omega)
      have e2 : List.take m.length (List.map grC m) = List.map grC m := List.take_of_length_le (by simp)
      simp only [List.tail_cons]
      repeat' (first
 | (with_reducible first | apply qz0 | (refine h0 _ _ ?_; clear h0 hw) | apply qz1 | apply qz2 | apply qz5 | apply qz6 | (refine hL _ ?_; clear hL))
 | refine p_reg fun K1 hK => ?_
 | apply go_seq
 | (refine p_op Tryz.tab fun K' h0 hw => ?_; conv => whnf)
 | (refine p_nil (hK _ ?_); clear hK)
 | ((with_reducible refine callV_id (f := 57) ?_); have hcs_ := c_isFull (g :: m) hr; (with_reducible apply callV_f own57 (hcs_)); (case hx => rfl); (case he => rfl); (case hle => first | ((repeat constructor); done) ); (case hpu => repeat constructor); (case' hK => (try clear hcs_); conv => whnf))
 | ((with_reducible refine callV_id (f := 117) ?_); (with_reducible apply callV_f own117 (hcall)); (case hx => rfl); (case he => rfl); (case hle => first | (simp [e1, e2]; done)); (case hpu => repeat constructor); (case' hK => conv => whnf))
 | ((with_reducible apply go_cond); (case hb => rfl))
 | ((with_reducible first | refine w_ret Tryz.tab fun K' hL => ?_ ); (conv => whnf))
 | ((with_reducible apply And.intro); (case' right => try (conv => whnf)); (case' left => try first | decide ))
 | exact p_side
 | (first | (guard_hyp g1; intro g2; try simp at g2) | intro g1; try simp at g1))
      · simp
      · exact absurd hfu (by simp [g1])
  · have ht : trimS first l = (first, l) := by rw [trimS, dif_neg hfu]
    rw [ht]
    repeat' (first
 | (with_reducible first | apply qz0 | (refine h0 _ _ ?_; clear h0 hw) | apply qz1 | apply qz2 | apply qz6 | (refine hL _ ?_; clear hL))
 | refine p_reg fun K1 hK => ?_
 | apply go_seq
 | (refine p_op Tryz.tab fun K' h0 hw => ?_; conv => whnf)
 | (refine p_nil (hK _ ?_); clear hK)
 | ((with_reducible refine callV_id (f := 57) ?_); have hcs_ := c_isFull l hr; (with_reducible apply callV_f own57 (hcs_)); (case hx => rfl); (case he => rfl); (case hle => first | ((repeat constructor); done) ); (case hpu => repeat constructor); (case' hK => (try clear hcs_); conv => whnf))
 | ((with_reducible apply go_cond); (case hb => rfl))
 | ((with_reducible first | refine w_ret Tryz.tab fun K' hL => ?_ ); (conv => whnf))
 | ((with_reducible apply And.intro); (case' right => try (conv => whnf)); (case' left => try first | decide ))
 | exact p_side
 | exact absurd g1 hfu
 | (first | (guard_hyp g1; intro g2; try simp at g2) | intro g1; try simp at g1))
    simp
set_option maxHeartbeats 1000000 in
theorem c_trim (first : Int) (l : List (List Fr)) (op : List Fr) (hr : Rg l) (hf : -1000000 ≤ first ∧ first + l.length ≤ 1000000) :
    CSpec Tryz.prog 111 [.ptr 0 0] [.box [I first, grs l, frs op]] (.tup []) [.box [I (trimS first l).1, grs (trimS first l).2, frs op]] := by
  refine v_cspec Tryz.func111 rfl Tryz.ntmps111 Tryz.results111 (by simp) (k := 1) rfl ?_
  repeat' (first
 | (with_reducible first | apply qz0 | apply qz3 )
 )
  refine w_loop (X := Int × List (List Fr)) [2, 3, 4, 5, 6, 7, 8, 9, 10, 11, 12, 13, 14, 15, 16, 17, 18, 19, 20, 21, 22, 23, 24, 25, 26] (fun _ => []) (fun x => [(0, .box [I x.1, grs x.2, frs op])]) (fun x => trimS x.1 x.2 = trimS first l ∧ Rg x.2 ∧ -1000000 ≤ x.1 ∧ x.1 + x.2.length ≤ 1000000) (fun x => x.2.length) (first, l) (by simp [hr, hf]) ?_ ?_
  · refine ⟨kt_refl, ko_refl, ?_, ?_, ?_, ?_, Nat.le_refl _⟩ <;> simp
  rintro ⟨a, m⟩ ⟨h1, h2, h3, h4⟩
  simp only at h1 h2 h3 h4
  have e1 := wrp (n := a + 1) (by omega) (by omega)
  by_cases hfu : full m = true
  · have hp := full_pos hfu
    have ht : trimS a m = trimS (a + 1) m.tail := by rw [trimS, dif_pos hfu]
    cases m with
    | nil => simp at hp
    | cons g m =>
      repeat' (first
 | (with_reducible first | apply qz0 | (refine h0 _ _ ?_; clear h0 hw) | (refine hw _ _ _ ?_; clear h0 hw) | apply qz2 | apply qz3 | apply qz4 | apply qz6 | apply qz7 | apply qz9 | apply qza | apply qzc )
 | refine p_reg fun K1 hK => ?_ | refine p_regE fun K1 hK => ?_
 | apply go_seq
 | ((first | refine p_op Tryz.tab fun K' h0 hw => ?_ | refine p_op0 Tryz.tab fun K' h0 hw => ?_); conv => whnf)
 | (refine p_nil (hK _ ?_); clear hK)
 | ((with_reducible refine callV_id (f := 83) ?_); have hcs_ := c_storeFull (g :: m) h2; (with_reducible apply callV_f own83 (hcs_)); (case hx => rfl); (case he => rfl); (case hle => first | ((repeat constructor); done) ); (case hpu => repeat constructor); (case' hK => (try clear hcs_); conv => whnf))
 | ((with_reducible apply go_cond); (case hb => rfl))
 | ((with_reducible apply And.intro); (case' right => try (conv => whnf)); (case' left => try first | rfl | decide | (simp; done) ))
 | exact p_side
 | (first | (guard_hyp g1; intro g2; try simp at g2) | intro g1; try simp at g1))
      · have e2 : List.take m.length (List.map grC m) = List.map grC m := List.take_of_length_le (by simp)
        ((refine w_nx ((a + 1, m)) ?_ ?_ ?_ ?_ ?_ ?_); (case refine_1 => simp [e1, e2]); (case refine_2 => simp [e1, e2]); (case refine_3 => simp (disch := omega) [e1, e2, wrp]); (case refine_4 => simp [e1, e2]); (case refine_5 => first | (simp; omega) | (simp; done) | omega | (simp only; omega)); (case' refine_6 => (try simp only); (try exact trivial)))
        exact ⟨by rw [← h1, ht]; rfl, h2.tail, by omega, by simp at h4; omega⟩
      · exact absurd hfu (by simp [g1])
  · have ht : trimS a m = (a, m) := by rw [trimS, dif_neg hfu]
    rw [ht] at h1
    rw [← h1]
    repeat' (first
 | (with_reducible first | apply qz0 | (refine h0 _ _ ?_; clear h0 hw) | (refine hw _ _ _ ?_; clear h0 hw) | apply qz2 | apply qz3 | apply qz4 | apply qz6 | apply qz7 | apply qz9 | apply qza | apply qzc )
 | refine p_reg fun K1 hK => ?_ | refine p_regE fun K1 hK => ?_
 | apply go_seq
 | ((first | refine p_op Tryz.tab fun K' h0 hw => ?_ | refine p_op0 Tryz.tab fun K' h0 hw => ?_); conv => whnf)
 | (refine p_nil (hK _ ?_); clear hK)
 | ((with_reducible refine callV_id (f := 83) ?_); have hcs_ := c_storeFull m h2; (with_reducible apply callV_f own83 (hcs_)); (case hx => rfl); (case he => rfl); (case hle => first | ((repeat constructor); done) ); (case hpu => repeat constructor); (case' hK => (try clear hcs_); conv => whnf))
 | ((with_reducible apply go_cond); (case hb => rfl))
 | ((with_reducible apply And.intro); (case' right => try (conv => whnf)); (case' left => try first | rfl | decide | (simp; done) ))
 | exact p_side
 | exact absurd g1 hfu
 | (first | (guard_hyp g1; intro g2; try simp at g2) | intro g1; try simp at g1))
    ((first | refine w_retO Tryz.tab [] (by rfl) (by simp) (by simp) (fun K' hL => ?_) ?_ ?_ ?_ | refine w_retO_end Tryz.tab [] (by rfl) (by simp) (by simp) (fun K' hL => ?_) ?_ ?_ ?_); (conv => whnf); (refine hL _ ?_; clear hL); all_goals simp)
def goS : List (List Fr) → Int
  | [] => 0
  | g :: l => if groupE g ≠ 0 then groupE g else goS l
def storeE (s : Sto) : Int := if ¬ (0 ≤ s.first ∧ s.first ≤ 100000) then 3 else if 5 < s.gs.length then 2 else if goS s.gs ≠ 0 then goS s.gs else if full s.gs = true then 2 else if 0 < s.op.length then groupE s.op else 0
theorem goS_ok : ∀ {l : List (List Fr)}, goS l = 0 → ∀ g ∈ l, groupE g = 0
  | [], _ => by simp
  | g :: l, h => by
    rw [goS] at h
    by_cases q : groupE g = 0
    · rw [if_neg (by simp [q])] at h
      intro x hx
      rcases List.mem_cons.1 hx with rfl | hx
      · exact q
      · exact goS_ok h x hx
    · rw [if_pos q] at h; exact absurd h q
def FitsS (s : Sto) : Prop := s.gs.length ≤ 6000000000000 ∧ (∀ g ∈ s.gs, Fits g) ∧ Fits s.op
section
variable {l : List (List Fr)} {i : Nat} {x : List Fr}
theorem goS_end (h : goS (l.drop i) = goS l) (hi : l.length ≤ i) : goS l = 0 := by rw [← h, List.drop_eq_nil_of_le hi]; rfl
theorem goS_bad (h : goS (l.drop i) = goS l) (hx : l[i]? = some x) (hf : ¬ groupE x = 0) : goS l = groupE x := by rw [← h, drop_at hx, goS, if_pos hf]
theorem goS_next (h : goS (l.drop i) = goS l) (hx : l[i]? = some x) (hf : groupE x = 0) : goS (l.drop (i + 1)) = goS l := by rw [← h, drop_at hx, goS, if_neg (by simp [hf])]
end
set_option maxHeartbeats 1000000 in
theorem c_storeCheck (s : Sto) (hs : FitsS s) : PSpec Tryz.prog 53 [.agg (stC s)] (I (storeE s)) := by
  refine p_pspec Tryz.func53 Tryz.ntmps53 Tryz.results53 ?_
  obtain ⟨h1, h2, h3⟩ := hs
  repeat' (first
 | (with_reducible first | apply qz0 | (refine h0 _ _ ?_; clear h0 hw) | (refine hw _ _ _ ?_; clear h0 hw) | apply qz1 | apply qz2 | apply qz3 | apply qz5 | apply qz6 | apply qz8 | apply qz9 | (refine hL _ ?_; clear hL))
 | refine p_reg fun K1 hK => ?_
 | apply go_seq
 | (refine p_op Tryz.tab fun K' h0 hw => ?_; conv => whnf)
 | (refine p_nil (hK _ ?_); clear hK)
 | (first | refine v_grd_yes (by rfl) (by rfl) ?_)
 | ((first | (apply v_grd_no; (case hg => rfl); (case hb => rfl)) | (apply v_grd; (case hg => rfl); (case hb => rfl))); (case hi => (simp only [Nat.reduceAdd, Nat.reduceMul]; rfl)))
 | ((with_reducible apply go_cond); (case hb => rfl))
 | ((with_reducible first | refine w_ret Tryz.tab fun K' hL => ?_ ); (conv => whnf))
 | ((with_reducible apply And.intro); (case' right => try (conv => whnf)); (case' left => try first | rfl | decide | (simp; done) ))
 | (first | (guard_hyp g6; intro g7; try simp at g7) | (guard_hyp g5; intro g6; try simp at g6) | (guard_hyp g4; intro g5; try simp at g5) | (guard_hyp g3; intro g4; try simp at g4) | (guard_hyp g2; intro g3; try simp at g3) | (guard_hyp g1; intro g2; try simp at g2) | intro g1; try simp at g1))
  any_goals first
    | (refine le_of_eq (congrArg I (Eq.symm (if_pos ?_ : storeE s = 3))); omega)
    | (refine le_of_eq (congrArg I (Eq.symm ((if_neg ?_).trans (if_pos ?_) : storeE s = 2))) <;> omega)
  have e1 : storeE s = if goS s.gs ≠ 0 then goS s.gs else if full s.gs = true then 2 else if 0 < s.op.length then groupE s.op else 0 := by unfold storeE; rw [if_neg (by omega), if_neg (by omega)]
  refine w_loop (X := Nat) [2, 4, 5, 23, 24, 25, 26, 27, 28, 29, 30, 31, 32] (fun i => [(23, I i)]) (fun _ => []) (fun i => i ≤ s.gs.length ∧ goS (s.gs.drop i) = goS s.gs) (fun i => s.gs.length - i) 0 (by simp) ?_ ?_
  · refine ⟨kt_refl, ko_refl, ?_, ?_, ?_, ?_, Nat.le_refl _⟩ <;> simp
  rintro i ⟨h4, h5⟩
  repeat' (first
 | (with_reducible first | apply qz0 | (refine h0 _ _ ?_; clear h0 hw) | (refine hw _ _ _ ?_; clear h0 hw) | apply qz1 | apply qz2 | apply qz3 | apply qz4 | apply qz5 | apply qz6 | apply qz7 | apply qz8 | apply qz9 | apply qza | apply qzb | apply qzc | (refine hL _ ?_; clear hL))
 | refine p_reg fun K1 hK => ?_ | refine p_regE fun K1 hK => ?_
 | apply go_seq
 | ((first | refine p_op Tryz.tab fun K' h0 hw => ?_ | refine p_op0 Tryz.tab fun K' h0 hw => ?_); conv => whnf)
 | (refine p_nil (hK _ ?_); clear hK)
 | ((with_reducible refine callV_id (f := 82) ?_); have hcs_ := c_groupCheck x1 (h2 x1 (List.mem_of_getElem? (by simpa using hx1))); (with_reducible apply callV_f own82 (hcs_)); (case hx => rfl); (case he => rfl); (case hle => first | ((repeat constructor); done) ); (case hpu => repeat constructor); (case' hK => (try clear hcs_); conv => whnf))
 | ((with_reducible refine callV_id (f := 83) ?_); have hcs_ := c_storeFull s.gs ⟨by omega, goS_ok (goS_end h5 (by omega))⟩; (with_reducible apply callV_f own83 (hcs_)); (case hx => rfl); (case he => rfl); (case hle => first | ((repeat constructor); done) ); (case hpu => repeat constructor); (case' hK => (try clear hcs_); conv => whnf))
 | ((with_reducible refine callV_id (f := 82) ?_); have hcs_ := c_groupCheck s.op h3; (with_reducible apply callV_f own82 (hcs_)); (case hx => rfl); (case he => rfl); (case hle => first | ((repeat constructor); done) ); (case hpu => repeat constructor); (case' hK => (try clear hcs_); conv => whnf))
 | ((with_reducible apply go_cond); (case hb => rfl))
 | ((with_reducible first | refine w_ret Tryz.tab fun K' hL => ?_ ); (conv => whnf))
 | ((with_reducible apply And.intro); (case' right => try (conv => whnf)); (case' left => try first | rfl | decide | (simp; done) ))
 | exact p_side
 | ((with_reducible refine all_row ?_); (first | intro x1 hx1); conv => whnf)
 | (first | (guard_hyp g6; intro g7; try simp at g7) | (guard_hyp g5; intro g6; try simp at g6) | (guard_hyp g4; intro g5; try simp at g5) | (guard_hyp g3; intro g4; try simp at g4) | (guard_hyp g2; intro g3; try simp at g3) | (guard_hyp g1; intro g2; try simp at g2) | intro g1; try simp at g1))
  · simp at hx1
    have hb := goS_bad h5 hx1 g5
    rw [hb, if_pos (by simpa using g5)] at e1
    simp [e1]
  · simp at hx1
    (refine p_nx ((i + 1)) ?_; (try simp only); (try exact trivial))
    exact ⟨by omega, goS_next h5 hx1 g5⟩
  all_goals
    rw [goS_end h5 (by omega), if_neg (by simp)] at e1
  · rw [if_pos g5] at e1; simp [e1]
  · rw [if_neg (by simp [g5]), if_pos g6] at e1; simp [e1]
  · rw [if_neg (by simp [g5]), if_neg (by simp [g6])] at e1; simp [e1]
set_option maxHeartbeats 1000000 in
theorem c_checkStore (s : Sto) (hs : FitsS s) : PSpec Tryz.prog 27 [.agg (stC s)] (I (storeE s)) := by
  refine p_pspec Tryz.func27 Tryz.ntmps27 Tryz.results27 ?_
  obtain ⟨h1, h2, h3⟩ := hs
  repeat' (first
 | (with_reducible first | apply qz0 | (refine h0 _ _ ?_; clear h0 hw) | (refine hw _ _ _ ?_; clear h0 hw) | apply qz1 | apply qz2 | apply qz3 | apply qz5 | apply qz6 | (refine hL _ ?_; clear hL))
 | refine p_reg fun K1 hK => ?_
 | apply go_seq
 | (refine p_op Tryz.tab fun K' h0 hw => ?_; conv => whnf)
 | (refine p_nil (hK _ ?_); clear hK)
 | (refine p_call own30 (Outs.c_btw _ _ _) ?_; conv => whnf)
 | ((with_reducible apply go_cond); (case hb => rfl))
 | ((with_reducible first | refine w_ret Tryz.tab fun K' hL => ?_ ); (conv => whnf))
 | ((with_reducible apply And.intro); (case' right => try (conv => whnf)); (case' left => try first | rfl | decide | (simp; done) ))
 | (first | (guard_hyp g5; intro g6; try simp at g6) | (guard_hyp g4; intro g5; try simp at g5) | (guard_hyp g3; intro g4; try simp at g4) | (guard_hyp g2; intro g3; try simp at g3) | (guard_hyp g1; intro g2; try simp at g2) | intro g1; try simp at g1))
  any_goals first
    | (refine le_of_eq (congrArg I (Eq.symm (if_pos ?_ : storeE s = 3))); omega)
    | (refine le_of_eq (congrArg I (Eq.symm ((if_neg ?_).trans (if_pos ?_) : storeE s = 2))) <;> omega)
  have e1 : storeE s = if goS s.gs ≠ 0 then goS s.gs else if full s.gs = true then 2 else if 0 < s.op.length then groupE s.op else 0 := by unfold storeE; rw [if_neg (by omega), if_neg (by omega)]
  refine w_loop (X := Nat) [2, 3, 4, 13, 14, 15, 16, 17, 18, 19, 20, 21, 22, 23, 24, 25, 26, 27, 28] (fun i => [(3, I i)]) (fun _ => []) (fun i => i ≤ s.gs.length ∧ goS (s.gs.drop i) = goS s.gs) (fun i => s.gs.length - i) 0 (by simp) ?_ ?_
  · refine ⟨kt_refl, ko_refl, ?_, ?_, ?_, ?_, Nat.le_refl _⟩ <;> simp
  rintro i ⟨h4, h5⟩
  repeat' (first
 | (with_reducible first | apply qz0 | (refine h0 _ _ ?_; clear h0 hw) | apply qz1 | apply qz2 | apply qz3 | apply qz4 | apply qz5 | apply qz6 | apply qz7 | apply qz8 | apply qz9 | apply qza | apply qzb | apply qzc | (refine hL _ ?_; clear hL))
 | refine p_reg fun K1 hK => ?_ | refine p_regE fun K1 hK => ?_
 | apply go_seq
 | (refine p_op Tryz.tab fun K' h0 hw => ?_; conv => whnf)
 | (refine p_nil (hK _ ?_); clear hK)
 | ((with_reducible refine callV_id (f := 56) ?_); have hcs_ := c_checkGroup x1 (h2 x1 (List.mem_of_getElem? (by simpa using hx1))); (with_reducible apply callV_f own56 (hcs_)); (case hx => rfl); (case he => rfl); (case hle => first | ((repeat constructor); done) ); (case hpu => repeat constructor); (case' hK => (try clear hcs_); conv => whnf))
 | ((with_reducible refine callV_id (f := 57) ?_); have hcs_ := c_isFull s.gs ⟨by omega, goS_ok (goS_end h5 (by omega))⟩; (with_reducible apply callV_f own57 (hcs_)); (case hx => rfl); (case he => rfl); (case hle => first | ((repeat constructor); done) ); (case hpu => repeat constructor); (case' hK => (try clear hcs_); conv => whnf))
 | ((with_reducible refine callV_id (f := 56) ?_); have hcs_ := c_checkGroup s.op h3; (with_reducible apply callV_f own56 (hcs_)); (case hx => rfl); (case he => rfl); (case hle => first | ((repeat constructor); done) ); (case hpu => repeat constructor); (case' hK => (try clear hcs_); conv => whnf))
 | ((with_reducible apply go_cond); (case hb => rfl))
 | ((with_reducible first | refine w_ret Tryz.tab fun K' hL => ?_ ); (conv => whnf))
 | ((with_reducible apply And.intro); (case' right => try (conv => whnf)); (case' left => try first | rfl | decide | (simp; done) ))
 | exact p_side
 | ((with_reducible refine all_row ?_); (first | intro x1 hx1); conv => whnf)
 | (first | (guard_hyp g5; intro g6; try simp at g6) | (guard_hyp g4; intro g5; try simp at g5) | (guard_hyp g3; intro g4; try simp at g4) | (guard_hyp g2; intro g3; try simp at g3) | (guard_hyp g1; intro g2; try simp at g2) | intro g1; try simp at g1))
  · simp at hx1
    have hb := goS_bad h5 hx1 g4
    rw [hb, if_pos (by simpa using g4)] at e1
    simp [e1]
  · simp at hx1
    (refine p_nx ((i + 1)) ?_; (try simp only); (try exact trivial))
    exact ⟨by omega, goS_next h5 hx1 g4⟩
  all_goals
    rw [goS_end h5 (by omega), if_neg (by simp)] at e1
  · rw [if_pos g4] at e1; simp [e1]
  · rw [if_neg (by simp [g4]), if_pos g5] at e1; simp [e1]
  · rw [if_neg (by simp [g4]), if_neg (by simp [g5])] at e1; simp [e1]
end Go.Proofs.YtokkencbpmjdaaaGreat
end
section
namespace Go.Proofs.YtokkencbpmjdaaaGreat
open Go Go.Sy
set_option maxRecDepth 4000
set_option linter.unusedSimpArgs false
set_option linter.unusedVariables false
attribute [local irreducible] Reg RegD Later Out CallV Tri Side EqV Pause
set_option maxHeartbeats 1000000 in
theorem c_groupOwn (g : List Fr) (hg : g.length ≤ 1000000) (hp : ∀ f ∈ g, f.parts.length ≤ 8796093022208) : CSpec Tryz.prog 108 [.agg (grC g)] [] (.agg [.osl 0 3 (rowF g)]) [.perm 84 3 g.length] := by
  refine v_cspec Tryz.func108 rfl Tryz.ntmps108 Tryz.results108 (by simp) (k := 0) rfl ?_
  repeat' (first
 | ((with_reducible apply w_ownCell 32 0 84 3); (case hb => rfl); (case hj => rfl); (case hsz => decide); (case hm => (try simp only [Nat.reduceAdd, Nat.reduceMul]); exact rfl))
 | (with_reducible first | apply qz0 | (refine h0 _ _ ?_; clear h0 hw) | (refine hw _ _ _ ?_; clear h0 hw) | apply qz3 )
 | refine p_reg fun K1 hK => ?_
 | apply go_seq
 | (refine p_op Tryz.tab fun K' h0 hw => ?_; conv => whnf)
 | (refine p_nil (hK _ ?_); clear hK)
 | ((with_reducible apply And.intro); (case' right => try (conv => whnf)); (case' left => try first | rfl | decide | (simp; done) ))
 )
  refine w_loop (X := Nat) [5, 9, 10, 11, 12, 13, 14, 15, 16, 17, 18, 19, 20] (fun i => [(9, I i)]) (fun i => [(32, .box [.osl 48 3 (rowF (g.take i))]), (48, .perm 84 3 i)]) (fun i => i ≤ g.length) (fun i => g.length - i) 0 (by simp) ?_ ?_
  · refine ⟨kt_refl, ko_refl, ?_, ?_, ?_, ?_, Nat.le_refl _⟩ <;> simp
  intro i h1
  have hlen : min i g.length = i := by omega
  repeat' (first
 | (with_reducible first | apply qz0 | (refine h0 _ _ ?_; clear h0 hw) | (refine hw _ _ _ ?_; clear h0 hw) | apply qz1 | apply qz2 | apply qz3 | apply qz4 | apply qz6 | apply qz7 | apply qz9 | apply qza | apply qzc )
 | refine p_reg fun K1 hK => ?_ | refine p_regE fun K1 hK => ?_
 | refine p_dregE Tryz.mix fun K1 hK => ?_
 | apply go_seq
 | ((first | refine p_op Tryz.tab fun K' h0 hw => ?_ | refine p_op0 Tryz.tab fun K' h0 hw => ?_ | refine p_dop Tryz.tab fun K' h0 hw => ?_ | refine p_dop0 Tryz.tab fun K' h0 hw => ?_); conv => whnf)
 | (refine p_nil (hK _ ?_); clear hK)
 | (refine d_nil (p_obj ?_ (hK _ _ _ _)); clear hK)
 | ((with_reducible refine callV_id (f := 127) ?_); have hcs_ := c_frameOwn x1 (hp x1 (List.mem_of_getElem? (by simpa using hx1))); (with_reducible apply callV_f own127 (hcs_)); (case hx => rfl); (case he => rfl); (case hle => first | ((repeat constructor); done) ); (case hpu => repeat constructor); (case' hK => (try clear hcs_); conv => whnf))
 | ((with_reducible apply go_cond); (case hb => rfl))
 | ((with_reducible apply And.intro); (case' right => try (conv => whnf)); (case' left => try first | rfl | decide | (simp [hlen]; done) ))
 | exact p_side
 | ((with_reducible refine all_row ?_); (first | intro x1 hx1); conv => whnf)
 | (first  | intro g1; try simp at g1))
  · simp at hx1
    have ht := take_at hx1
    ((refine w_nx ((i + 1)) ?_ ?_ ?_ ?_ ?_ ?_); (case refine_1 => simp [ht, hlen]); (case refine_2 => simp [ht, hlen]); (case refine_3 => simp (disch := omega) [ht, hlen, wrp]); (case refine_4 => simp [ht, hlen]); (case refine_5 => first | (simp; omega) | (simp; done) | omega | (simp only; omega)); (case' refine_6 => (try simp only); (try exact trivial)))
    omega
  · have e : g.take i = g := List.take_of_length_le (by omega)
    have e2 : i = g.length := by omega
    subst e2
    ((first | refine w_retO Tryz.tab [48] (by rfl) (by simp) (by simp) (fun K' hL => ?_) ?_ ?_ ?_ | refine w_retO_end Tryz.tab [48] (by rfl) (by simp) (by simp) (fun K' hL => ?_) ?_ ?_ ?_); (conv => whnf); (refine hL _ ?_; clear hL); all_goals simp [e])
def Small (s : Sto) : Prop := s.gs.length ≤ 1000000 ∧ (∀ g ∈ s.gs, g.length ≤ 1000000 ∧ ∀ f ∈ g, f.parts.length ≤ 8796093022208) ∧ s.op.length ≤ 1000000 ∧ ∀ f ∈ s.op, f.parts.length ≤ 8796093022208
set_option maxHeartbeats 1000000 in
theorem c_storeOwn (s : Sto) (hs : Small s) : CSpec Tryz.prog 72 [.agg (stC s)] [] (.agg [I s.first, .osl 0 1 (rowG s.gs), .osl 1 3 (rowF s.op)]) [.perm 30 1 s.gs.length, .perm 84 3 s.op.length] := by
  obtain ⟨h1, h2, h3, h4⟩ := hs
  refine v_cspec Tryz.func72 rfl Tryz.ntmps72 Tryz.results72 (by simp) (k := 0) rfl ?_
  repeat' (first
 | ((with_reducible apply w_ownCell 128 1 30 1); (case hb => rfl); (case hj => rfl); (case hsz => decide); (case hm => (try simp only [Nat.reduceAdd, Nat.reduceMul]); exact rfl))
 | (with_reducible first | apply qz0 | (refine h0 _ _ ?_; clear h0 hw) | (refine hw _ _ _ ?_; clear h0 hw) | apply qz3 )
 | refine p_reg fun K1 hK => ?_
 | refine p_dreg Tryz.mix fun K1 hK => ?_
 | apply go_seq
 | ((first | refine p_op Tryz.tab fun K' h0 hw => ?_ | refine p_dop Tryz.tab fun K' h0 hw => ?_ | refine p_dop0 Tryz.tab fun K' h0 hw => ?_); conv => whnf)
 | (refine p_nil (hK _ ?_); clear hK)
 | (refine d_nil (p_obj ?_ (hK _ _ _ _)); clear hK)
 | ((with_reducible refine callV_id (f := 108) ?_); have hcs_ := c_groupOwn s.op h3 h4; (with_reducible apply w_callO [] own108 (hcs_)); (case hx => rfl); (case he => rfl); (case hle => first | ((repeat constructor); done) ); (case hm => rfl); (case hnd => decide); (case' hK => (try clear hcs_); conv => whnf); (any_goals (simp; done)))
 | ((with_reducible apply And.intro); (case' right => try (conv => whnf)); (case' left => try first | rfl | decide | (simp; done) ))
 )
  refine w_loop (X := Nat) [5, 15, 16, 17, 18, 19, 20, 21, 22, 23, 24, 25, 26] (fun i => [(15, I i)]) (fun i => [(128, .box [I s.first, .osl 160 1 (rowG (s.gs.take i)), .osl 96 3 (rowF s.op)]), (160, .perm 30 1 i)]) (fun i => i ≤ s.gs.length) (fun i => s.gs.length - i) 0 (by simp) ?_ ?_
  · refine ⟨kt_refl, ko_refl, ?_, ?_, ?_, ?_, Nat.le_refl _⟩ <;> simp
  intro i hi
  have hlen : min i s.gs.length = i := by omega
  have hown : ∀ x1, s.gs[i]? = some x1 → PSpec Tryz.prog 108 [.agg (grC x1)] (.agg (grC x1)) := fun x1 hx => by
    have := h2 x1 (List.mem_of_getElem? hx)
    exact pspec_of_cspec (c_groupOwn x1 this.1 this.2) (.agg _ _ (.cons _ _ _ _ (.osl _ _ _) .nil)) (.agg _ (.cons _ _ (.sl _ _) .nil))
  repeat' (first
 | (with_reducible first | apply qz0 | (refine h0 _ _ ?_; clear h0 hw) | (refine hw _ _ _ ?_; clear h0 hw) | apply qz1 | apply qz2 | apply qz3 | apply qz4 | apply qz6 | apply qz7 | apply qz9 | apply qza | apply qzc )
 | refine p_reg fun K1 hK => ?_ | refine p_regE fun K1 hK => ?_
 | refine p_dregE Tryz.mix fun K1 hK => ?_
 | apply go_seq
 | ((first | refine p_op Tryz.tab fun K' h0 hw => ?_ | refine p_op0 Tryz.tab fun K' h0 hw => ?_ | refine p_dop Tryz.tab fun K' h0 hw => ?_ | refine p_dop0 Tryz.tab fun K' h0 hw => ?_); conv => whnf)
 | (refine p_nil (hK _ ?_); clear hK)
 | (refine d_nil (p_obj ?_ (hK _ _ _ _)); clear hK)
 | ((with_reducible refine callV_id (f := 108) ?_); have hcs_ := hown x1 (by simpa using hx1); (with_reducible apply callV_f own108 (hcs_)); (case hx => rfl); (case he => rfl); (case hle => first | ((repeat constructor); done) ); (case hpu => repeat constructor); (case' hK => (try clear hcs_); conv => whnf))
 | ((with_reducible apply go_cond); (case hb => rfl))
 | ((with_reducible apply And.intro); (case' right => try (conv => whnf)); (case' left => try first | rfl | decide | (simp [hlen]; done) ))
 | exact p_side
 | ((with_reducible refine all_row ?_); (first | intro x1 hx1); conv => whnf)
 | (first  | intro g1; try simp at g1))
  · simp at hx1
    have ht := take_at hx1
    ((refine w_nx ((i + 1)) ?_ ?_ ?_ ?_ ?_ ?_); (case refine_1 => simp [ht, hlen]); (case refine_2 => simp [ht, hlen]); (case refine_3 => simp (disch := omega) [ht, hlen, wrp]); (case refine_4 => simp [ht, hlen]); (case refine_5 => first | (simp; omega) | (simp; done) | omega | (simp only; omega)); (case' refine_6 => (try simp only); (try exact trivial)))
    omega
  · have e : s.gs.take i = s.gs := List.take_of_length_le (by omega)
    have e2 : i = s.gs.length := by omega
    subst e2
    ((first | refine w_retO Tryz.tab [160, 96] (by rfl) (by simp) (by simp) (fun K' hL => ?_) ?_ ?_ ?_ | refine w_retO_end Tryz.tab [160, 96] (by rfl) (by simp) (by simp) (fun K' hL => ?_) ?_ ?_ ?_); (conv => whnf); (refine hL _ ?_; clear hL); all_goals simp [e])
def storeRaw (s : Sto) (f : Fr) : Sto × Bool × Int :=
  if 100000 < (trimS s.first (doneS s.op s.gs f)).1 then (st0, false, 2)
  else (⟨(trimS s.first (doneS s.op s.gs f)).1, (trimS s.first (doneS s.op s.gs f)).2, growS s.op f⟩, decide (s.gs.length < (doneS s.op s.gs f).length), 0)
def stT (r : Sto × Bool × Int) : AV := .tup [.agg (stC r.1), B r.2.1, I r.2.2]
def RightS (s : Sto) : Prop := (0 ≤ s.first ∧ s.first ≤ 100000) ∧ s.gs.length ≤ 5 ∧ (∀ g ∈ s.gs, groupE g = 0) ∧ OkG s.op ∧ full s.gs = false
theorem okG_fits {g : List Fr} (h : OkG g) : Fits g ∧ g.length ≤ 6 := by
  rcases h with h | h
  · subst h; exact ⟨⟨by simp, by simp⟩, by simp⟩
  · exact ⟨right_fits h, (groupE_ok h).2.1⟩
theorem RightS.small {s : Sto} (h : RightS s) : Small s := by
  obtain ⟨_, h2, h3, h4, _⟩ := h
  have h5 := okG_fits h4
  exact ⟨by omega, fun g hg => by have := right_fits (h3 g hg); have h6 := (groupE_ok (h3 g hg)).2.1; exact ⟨by omega, this.2⟩, by omega, h5.1.2⟩
theorem RightS.rg {s : Sto} (h : RightS s) {f : Fr} (hf : frameE f = 0) : Rg (doneS s.op s.gs f) := by
  obtain ⟨_, h2, h3, h4, _⟩ := h
  have := doneS_len s.op s.gs f
  exact ⟨by omega, okG_done h4 h3⟩
theorem storeE_ok {s : Sto} (h : storeE s = 0) : RightS s := by
  unfold storeE at h
  by_cases h1 : ¬ (0 ≤ s.first ∧ s.first ≤ 100000)
  · rw [if_pos h1] at h; cases h
  rw [if_neg h1] at h
  by_cases h2 : 5 < s.gs.length
  · rw [if_pos h2] at h; cases h
  rw [if_neg h2] at h
  by_cases h3 : goS s.gs = 0
  · rw [if_neg (by simp [h3])] at h
    by_cases h4 : full s.gs = true
    · rw [if_pos h4] at h; cases h
    rw [if_neg h4] at h
    refine ⟨by omega, by omega, goS_ok h3, ?_, by simpa using h4⟩
    by_cases h5 : 0 < s.op.length
    · rw [if_pos h5] at h; exact .inr h
    · exact .inl (List.eq_nil_of_length_eq_zero (by omega))
  · rw [if_pos h3] at h; exact absurd h h3
set_option maxHeartbeats 2000000 in
theorem c_storeRaw (s : Sto) (f : Fr) (hs : RightS s) (hf : frameE f = 0) : PSpec Tryz.prog 76 [.agg (stC s), .agg (frC f)] (stT (storeRaw s f)) := by
  refine p_pspec Tryz.func76 Tryz.ntmps76 Tryz.results76 ?_
  have hrg := hs.rg hf
  have hdl := doneS_len s.op s.gs f
  obtain ⟨q1, q2, q3, q4, q5⟩ := hs
  have hfp := (frameE_ok hf).2.2.1
  have hop := (okG_fits q4).2
  rcases (by cases f.key <;> simp : f.key = false ∨ f.key = true) with hk | hk
  · repeat' (first
 | (with_reducible first | apply qz0 | (refine h0 _ _ ?_; clear h0 hw) | (refine hw _ _ _ ?_; clear h0 hw) | apply qz1 | apply qz2 | apply qz5 | apply qz6 | (refine hL _ ?_; clear hL))
 | refine p_reg fun K1 hK => ?_
 | refine p_dreg Tryz.mix fun K1 hK => ?_
 | apply go_seq
 | ((first | refine p_op Tryz.tab fun K' h0 hw => ?_ | refine p_op0 Tryz.tab fun K' h0 hw => ?_ | refine p_dop Tryz.tab fun K' h0 hw => ?_ | refine p_dop0 Tryz.tab fun K' h0 hw => ?_); conv => whnf)
 | (refine p_nil (hK _ ?_); clear hK)
 | (refine d_nil (p_obj ?_ (hK _ _ _ _)); clear hK)
 | ((with_reducible refine callV_id (f := 72) ?_); have hcs_ := c_storeOwn s (RightS.small ⟨q1, q2, q3, q4, q5⟩); (with_reducible apply w_callO [] own72 (hcs_)); (case hx => rfl); (case he => rfl); (case hle => first | ((repeat constructor); done) ); (case hm => rfl); (case hnd => decide); (case' hK => (try clear hcs_); conv => whnf); (any_goals (simp [makB]; done)))
 | ((with_reducible refine callV_id (f := 110) ?_); have hcs_ := c_addElse s.op s.gs f hk (by omega) (by omega); (with_reducible apply w_callO [336, 97, 96] own110 (hcs_)); (case hx => rfl); (case he => rfl); (case hle => first | ((repeat constructor); done) ); (case hm => rfl); (case hnd => decide); (case' hK => (try clear hcs_); conv => whnf); (any_goals (simp [makB]; done)))
 | ((with_reducible refine callV_id (f := 111) ?_); have hcs_ := c_trim s.first (doneS s.op s.gs f) (growS s.op f) hrg (by omega); (with_reducible apply w_callO [128] own111 (hcs_)); (case hx => rfl); (case he => rfl); (case hle => first | ((repeat constructor); done) ); (case hm => rfl); (case hnd => decide); (case' hK => (try clear hcs_); conv => whnf); (any_goals (simp [makB]; done)))
 | ((with_reducible apply go_cond); (case hb => rfl))
 | ((with_reducible first | refine w_ret Tryz.tab fun K' hL => ?_ ); (conv => whnf))
 | ((with_reducible apply And.intro); (case' right => try (conv => whnf)); (case' left => try first | rfl | decide | (simp [makB]; done) ))
 | (first | (guard_hyp g1; intro g2; try simp at g2) | intro g1; try simp at g1))
    · have e : storeRaw s f = (st0, false, 2) := if_pos g1
      rw [e]; simp [stT, st0]
    · have e : storeRaw s f = _ := if_neg (by omega)
      rw [e]; simp [stT]
  · repeat' (first
 | (with_reducible first | apply qz0 | (refine h0 _ _ ?_; clear h0 hw) | (refine hw _ _ _ ?_; clear h0 hw) | apply qz1 | apply qz2 | apply qz5 | apply qz6 | (refine hL _ ?_; clear hL))
 | refine p_reg fun K1 hK => ?_
 | refine p_dreg Tryz.mix fun K1 hK => ?_
 | apply go_seq
 | ((first | refine p_op Tryz.tab fun K' h0 hw => ?_ | refine p_op0 Tryz.tab fun K' h0 hw => ?_ | refine p_dop Tryz.tab fun K' h0 hw => ?_ | refine p_dop0 Tryz.tab fun K' h0 hw => ?_); conv => whnf)
 | (refine p_nil (hK _ ?_); clear hK)
 | (refine d_nil (p_obj ?_ (hK _ _ _ _)); clear hK)
 | ((with_reducible refine callV_id (f := 72) ?_); have hcs_ := c_storeOwn s (RightS.small ⟨q1, q2, q3, q4, q5⟩); (with_reducible apply w_callO [] own72 (hcs_)); (case hx => rfl); (case he => rfl); (case hle => first | ((repeat constructor); done) ); (case hm => rfl); (case hnd => decide); (case' hK => (try clear hcs_); conv => whnf); (any_goals (simp [makB]; done)))
 | ((with_reducible refine callV_id (f := 110) ?_); have hcs_ := c_addKey s.op s.gs f hk (by omega) (by omega); (with_reducible apply w_callO [336, 97, 96] own110 (hcs_)); (case hx => rfl); (case he => rfl); (case hle => first | ((repeat constructor); done) ); (case hm => rfl); (case hnd => decide); (case' hK => (try clear hcs_); conv => whnf); (any_goals (simp [makB]; done)))
 | ((with_reducible refine callV_id (f := 111) ?_); have hcs_ := c_trim s.first (doneS s.op s.gs f) (growS s.op f) hrg (by omega); (with_reducible apply w_callO [128] own111 (hcs_)); (case hx => rfl); (case he => rfl); (case hle => first | ((repeat constructor); done) ); (case hm => rfl); (case hnd => decide); (case' hK => (try clear hcs_); conv => whnf); (any_goals (simp [makB]; done)))
 | ((with_reducible apply go_cond); (case hb => rfl))
 | ((with_reducible first | refine w_ret Tryz.tab fun K' hL => ?_ ); (conv => whnf))
 | ((with_reducible apply And.intro); (case' right => try (conv => whnf)); (case' left => try first | rfl | decide | (simp [makB]; done) ))
 | (first | (guard_hyp g1; intro g2; try simp at g2) | intro g1; try simp at g1))
    · have e : storeRaw s f = (st0, false, 2) := if_pos g1
      rw [e]; simp [stT, st0]
    · have e : storeRaw s f = _ := if_neg (by omega)
      rw [e]; simp [stT]
end Go.Proofs.YtokkencbpmjdaaaGreat
end
section
namespace Go.Proofs.YtokkencbpmjdaaaGreat
open Go Go.Sy
set_option maxRecDepth 4000
set_option linter.unusedSimpArgs false
set_option linter.unusedVariables false
attribute [local irreducible] Reg RegD Later Out CallV Tri Side EqV Pause
abbrev allS (s : Sto) : List (List Fr) := withOpen s.gs s.op
set_option maxHeartbeats 1000000 in
theorem c_storeAll (s : Sto) (hl : s.gs.length ≤ 1000000) : PSpec Tryz.prog 131 [.agg (stC s)] (grs (allS s)) := by
  refine p_pspec Tryz.func131 Tryz.ntmps131 Tryz.results131 ?_
  repeat' (first
 | (with_reducible first | apply qz0 | (refine h0 _ _ ?_; clear h0 hw) | (refine hw _ _ _ ?_; clear h0 hw) | apply qz1 | apply qz2 | apply qz5 | apply qz6 | (refine hL _ ?_; clear hL))
 | refine p_reg fun K1 hK => ?_
 | refine p_dreg Tryz.mix fun K1 hK => ?_
 | apply go_seq
 | ((first | refine p_op Tryz.tab fun K' h0 hw => ?_ | refine p_dop Tryz.tab fun K' h0 hw => ?_); conv => whnf)
 | (refine p_nil (hK _ ?_); clear hK)
 | (refine d_nil (p_obj ?_ (hK _ _ _ _)); clear hK)
 | ((with_reducible refine callV_id (f := 140) ?_); have hcs_ := c_cloneGr s.gs (by omega); (with_reducible apply w_callO [] own140 (hcs_)); (case hx => rfl); (case he => rfl); (case hle => first | ((repeat constructor); done) ); (case hm => rfl); (case hnd => decide); (case' hK => (try clear hcs_); conv => whnf); (any_goals (simp; done)))
 | ((with_reducible apply go_cond); (case hb => rfl))
 | ((with_reducible first | refine w_ret Tryz.tab fun K' hL => ?_ ); (conv => whnf))
 | ((with_reducible apply And.intro); (case' right => try (conv => whnf)); (case' left => try first | rfl | decide | (simp; done) ))
 | exact p_side
 | (first | (guard_hyp g1; intro g2; try simp at g2) | intro g1; try simp at g1))
  · simp [allS, withOpen, g1]
  · have := List.length_pos_iff.2 g1
    rw [allS, withOpen, if_pos this]; simp
set_option maxHeartbeats 1000000 in
theorem c_allOf (s : Sto) (hl : s.gs.length ≤ 1000000) : PSpec Tryz.prog 31 [.agg (stC s)] (grs (allS s)) := by
  refine p_pspec Tryz.func31 Tryz.ntmps31 Tryz.results31 ?_
  repeat' (first
 | (with_reducible first | apply qz0 | (refine h0 _ _ ?_; clear h0 hw) | (refine hw _ _ _ ?_; clear h0 hw) | apply qz1 | apply qz2 | apply qz6 | (refine hL _ ?_; clear hL))
 | refine p_reg fun K1 hK => ?_ | refine p_regE fun K1 hK => ?_
 | apply go_seq
 | (refine p_op Tryz.tab fun K' h0 hw => ?_; conv => whnf)
 | (refine p_nil (hK _ ?_); clear hK)
 | ((with_reducible apply go_cond); (case hb => rfl))
 | ((with_reducible first | refine w_ret Tryz.tab fun K' hL => ?_ ); (conv => whnf))
 | ((with_reducible apply And.intro); (case' right => try (conv => whnf)); (case' left => try first | rfl | decide | (simp; done) ))
 | exact p_side
 | (first | (guard_hyp g1; intro g2; try simp at g2) | intro g1; try simp at g1))
  · rw [allS, withOpen, if_pos g1, List.nil_append]
    simp [grs, rowG]
  · simp [allS, withOpen, g1]
def headT (g : List Fr) : Int := ((g[0]?).map (·.time)).getD 0
def atUp (l : List (List Fr)) (t : Int) : Nat → Nat
  | 0 => 0
  | i + 1 => if headT (l.getD i []) ≤ t then i else atUp l t i
def findS (s : Sto) (t : Int) : Int × Bool := (s.first + atUp (allS s) t (allS s).length, decide (0 < (allS s).length))
theorem atUp_le (l : List (List Fr)) (t : Int) : ∀ n, atUp l t n ≤ n
  | 0 => Nat.le_refl _
  | n + 1 => by
    rw [atUp]; split
    · omega
    · have := atUp_le l t n; omega
theorem all_len (s : Sto) : (allS s).length ≤ s.gs.length + 1 := by
  unfold allS withOpen; split <;> simp
theorem RightS.all {s : Sto} (h : RightS s) : (allS s).length ≤ 6 ∧ ∀ g ∈ allS s, groupE g = 0 := by
  obtain ⟨_, h2, h3, h4, _⟩ := h
  refine ⟨by have := all_len s; omega, fun g hg => ?_⟩
  unfold allS withOpen at hg
  split at hg
  · rename_i hp
    rcases List.mem_append.1 hg with hg | hg
    · exact h3 g hg
    · simp at hg; subst hg
      rcases h4 with h4 | h4
      · rw [h4] at hp; simp at hp
      · exact h4
  · exact h3 g hg
theorem head_of {g : List Fr} {x : Fr} (h : g[(0 : Int).toNat]? = some x) : headT g = x.time := by
  simp at h
  simp [headT, h]
theorem atUp_yes {l : List (List Fr)} {t : Int} {i : Nat} {g : List Fr} {x : Fr} (hg : l[i]? = some g) (hx : g[(0 : Int).toNat]? = some x) (h : x.time ≤ t) : atUp l t (i + 1) = i := by
  rw [atUp, List.getD_eq_getElem?_getD, hg, if_pos]; simp only [Option.getD_some]; rw [head_of hx]; exact h
theorem atUp_no {l : List (List Fr)} {t : Int} {i : Nat} {g : List Fr} {x : Fr} (hg : l[i]? = some g) (hx : g[(0 : Int).toNat]? = some x) (h : ¬ x.time ≤ t) : atUp l t (i + 1) = atUp l t i := by
  rw [atUp, List.getD_eq_getElem?_getD, hg, if_neg]; simp only [Option.getD_some]; rw [head_of hx]; exact h
set_option maxHeartbeats 1000000 in
theorem c_storeFind (s : Sto) (t : Int) (hs : RightS s) : PSpec Tryz.prog 132 [.agg (stC s), I t] (.tup [I (findS s t).1, B (findS s t).2]) := by
  refine p_pspec Tryz.func132 Tryz.ntmps132 Tryz.results132 ?_
  have hq := hs.all
  have h1 := hs.1
  have hgl := hs.2.1
  have hne : ∀ g, g ∈ allS s → 0 < g.length := fun g hg => List.length_pos_iff.2 (groupE_ok (hq.2 g hg)).1
  repeat' (first
 | (with_reducible first | apply qz0 | (refine h0 _ _ ?_; clear h0 hw) | (refine hw _ _ _ ?_; clear h0 hw) | apply qz3 )
 | refine p_reg fun K1 hK => ?_
 | apply go_seq
 | (refine p_op Tryz.tab fun K' h0 hw => ?_; conv => whnf)
 | (refine p_nil (hK _ ?_); clear hK)
 | ((with_reducible refine callV_id (f := 131) ?_); have hcs_ := c_storeAll s (by omega); (with_reducible apply callV_f own131 (hcs_)); (case hx => rfl); (case he => rfl); (case hle => first | ((repeat constructor); done) ); (case hpu => repeat constructor); (case' hK => (try clear hcs_); conv => whnf))
 | ((with_reducible apply And.intro); (case' right => try (conv => whnf)); (case' left => try first | rfl | decide | (simp; done) ))
 )
  refine w_loop (X := Nat) [7, 8, 9, 14, 15, 16, 17, 18, 19, 20, 21, 22, 23, 24, 25, 26, 27] (fun i => [(14, I i), (7, I (atUp (allS s) t i))]) (fun _ => []) (fun i => i ≤ (allS s).length) (fun i => (allS s).length - i) 0 (by simp) ?_ ?_
  · refine ⟨kt_refl, ko_refl, ?_, ?_, ?_, ?_, Nat.le_refl _⟩ <;> simp [atUp]
  intro i hi
  have hlu := atUp_le (allS s) t i
  repeat' (first
 | (with_reducible first | apply qz0 | (refine h0 _ _ ?_; clear h0 hw) | (refine hw _ _ _ ?_; clear h0 hw) | apply qz1 | apply qz2 | apply qz3 | apply qz4 | apply qz6 | apply qz7 | apply qz9 | apply qza | apply qzc | (refine hL _ ?_; clear hL))
 | refine p_reg fun K1 hK => ?_ | refine p_regE fun K1 hK => ?_
 | apply go_seq
 | ((first | refine p_op Tryz.tab fun K' h0 hw => ?_ | refine p_op0 Tryz.tab fun K' h0 hw => ?_); conv => whnf)
 | (refine p_nil (hK _ ?_); clear hK)
 | ((with_reducible apply go_cond); (case hb => rfl))
 | ((with_reducible first | refine w_ret Tryz.tab fun K' hL => ?_ ); (conv => whnf))
 | ((with_reducible apply And.intro); (case' right => try (conv => whnf)); (case' left => try first | rfl | decide | (simp; done) ))
 | ((with_reducible apply Side.mk); (try simp (disch := omega) only [wrp]); (try simp); (try simp (disch := omega) only [wrp]); (try omega))
 | ((with_reducible refine all_row ?_); (first | (guard_hyp hx1; intro x2 hx2) | intro x1 hx1); conv => whnf)
 | (first | (guard_hyp g2; intro g3; try simp at g3) | (guard_hyp g1; intro g2; try simp at g2) | intro g1; try simp at g1))
  all_goals (try simp at hx1)
  · have hg := hne x1 (List.mem_of_getElem? hx1)
    omega
  · have e := atUp_yes hx1 hx2 g2
    ((refine w_nx ((i + 1)) ?_ ?_ ?_ ?_ ?_ ?_); (case refine_1 => simp [e]); (case refine_2 => simp [e]); (case refine_3 => simp (disch := omega) [e, wrp]); (case refine_4 => simp [e]); (case refine_5 => first | (simp; omega) | (simp; done) | omega | (simp only; omega)); (case' refine_6 => (try simp only); (try exact trivial)))
    omega
  · have e : atUp (allS s) t (i + 1) = atUp (allS s) t i := atUp_no hx1 hx2 (by omega)
    ((refine w_nx ((i + 1)) ?_ ?_ ?_ ?_ ?_ ?_); (case refine_1 => simp [e]); (case refine_2 => simp [e]); (case refine_3 => simp (disch := omega) [e, wrp]); (case refine_4 => simp [e]); (case refine_5 => first | (simp; omega) | (simp; done) | omega | (simp only; omega)); (case' refine_6 => (try simp only); (try exact trivial)))
    omega
  · have e : i = (allS s).length := by omega
    subst e
    refine le_of_eq ?_
    simp (disch := omega) [findS, wrp]
def wE1 (s : Sto) (t : Int) : Int := if storeE s = 0 ∧ (t < 0 ∨ 1000000 < t) then 3 else storeE s
def seekR (s : Sto) (t : Int) : Int × Bool := if 0 < (allS s).length then (s.first + atUp (allS s) t (allS s).length, true) else (0, false)
def seekS (s : Sto) (t : Int) : Int × Int := if wE1 s t = 0 then ((seekR s t).1, if (seekR s t).2 = true then 0 else 5) else (0, wE1 s t)
theorem seekR_eq (s : Sto) (t : Int) : seekR s t = if (findS s t).2 = true then findS s t else (0, false) := by
  unfold seekR findS; simp only [decide_eq_true_eq]; split <;> simp_all
theorem wE1_ok {s : Sto} {t : Int} (h : wE1 s t = 0) : RightS s ∧ 0 ≤ t ∧ t ≤ 1000000 := by
  unfold wE1 at h
  split at h
  · cases h
  · rename_i h1; exact ⟨storeE_ok h, by omega, by omega⟩
set_option maxHeartbeats 1000000 in
theorem c_storeSeek (s : Sto) (t : Int) (hs : FitsS s) : PSpec Tryz.prog 119 [.agg (stC s), I t] (.tup [I (seekS s t).1, I (seekS s t).2]) := by
  refine p_pspec Tryz.func119 Tryz.ntmps119 Tryz.results119 ?_
  repeat' (first
 | ((first | with_reducible refine w_cut (x := .seq (.region _ _ _) (.cond (.tmp 20) _ _)) (X := Unit) [6, 11, 12, 13, 14, 15, 16, 17, 18, 19, 20] (fun _ => [(6, I (wE1 s t))]) (fun _ => []) (fun _ => True) ?_ ?_); (try (rintro z hz; simp only at hz)))
 | (with_reducible first | apply qz0 | (refine h0 _ _ ?_; clear h0 hw) | (refine hw _ _ _ ?_; clear h0 hw) | apply qz1 | apply qz2 | apply qz5 | apply qz6 | (refine hL _ ?_; clear hL))
 | refine p_reg fun K1 hK => ?_ | refine p_regE fun K1 hK => ?_
 | apply go_seq
 | (refine p_op Tryz.tab fun K' h0 hw => ?_; conv => whnf)
 | (refine p_nil (hK _ ?_); clear hK)
 | (first | refine v_grd_yes (by rfl) (by rfl) ?_)
 | ((first | (apply v_grd_no; (case hg => rfl); (case hb => rfl)) | (apply v_grd_undef; (case hg => rfl); (case hb => rfl)) | (apply v_grd; (case hg => rfl); (case hb => rfl))); (case hi => (simp only [Nat.reduceAdd, Nat.reduceMul]; rfl)))
 | ((with_reducible refine callV_id (f := 53) ?_); have hcs_ := c_storeCheck s hs; (with_reducible apply callV_f own53 (hcs_)); (case hx => rfl); (case he => rfl); (case hle => first | ((repeat constructor); done) ); (case hpu => repeat constructor); (case' hK => (try clear hcs_); conv => whnf))
 | ((with_reducible refine callV_id (f := 132) ?_); have hcs_ := c_storeFind s t (wE1_ok (by assumption)).1; (with_reducible apply callV_f own132 (hcs_)); (case hx => rfl); (case he => rfl); (case hle => first | ((repeat constructor); done) ); (case hpu => repeat constructor); (case' hK => (try clear hcs_); conv => whnf))
 | ((with_reducible apply go_cond); (case hb => rfl))
 | ((with_reducible first | refine w_ret Tryz.tab fun K' hL => ?_ ); (conv => whnf))
 | ((with_reducible apply And.intro); (case' right => try (conv => whnf)); (case' left => try first | rfl | decide | (simp; done) ))
 | (first | (guard_hyp g4; intro g5; try simp at g5; try simp (disch := omega) only [wrp] at g5) | (guard_hyp g3; intro g4; try simp at g4; try simp (disch := omega) only [wrp] at g4) | (guard_hyp g2; intro g3; try simp at g3; try simp (disch := omega) only [wrp] at g3) | (guard_hyp g1; intro g2; try simp at g2; try simp (disch := omega) only [wrp] at g2) | intro g1; try simp at g1; try simp (disch := omega) only [wrp] at g1))
  all_goals try
    (have e : wE1 s t = 3 := if_pos ⟨g1, by omega⟩
     ((refine w_nx (()) ?_ ?_ ?_ ?_ ?_ ?_); (case refine_1 => simp [e]); (case refine_2 => simp [e]); (case refine_3 => simp (disch := omega) [e, wrp]); (case refine_4 => simp [e]); (case refine_5 => first | (simp; omega) | (simp; done) | omega | (simp only; omega)); (case' refine_6 => (try simp only); (try exact trivial)))
     done)
  all_goals try
    (have e : wE1 s t = storeE s := if_neg (by omega)
     ((refine w_nx (()) ?_ ?_ ?_ ?_ ?_ ?_); (case refine_1 => simp [e]); (case refine_2 => simp [e]); (case refine_3 => simp (disch := omega) [e, wrp]); (case refine_4 => simp [e]); (case refine_5 => first | (simp; omega) | (simp; done) | omega | (simp only; omega)); (case' refine_6 => (try simp only); (try exact trivial)))
     done)
  · have e : seekS s t = (0, wE1 s t) := if_neg (by assumption)
    rw [e]; simp
  · have e : seekS s t = _ := if_pos (by assumption)
    rw [e, seekR_eq, if_neg (by simpa using g4)]; simp
  · have e : seekS s t = _ := if_pos (by assumption)
    rw [e, seekR_eq, if_pos g4, if_pos g4]; simp
set_option maxHeartbeats 1000000 in
theorem c_seekOf (s : Sto) (t : Int) (hs : RightS s) : PSpec Tryz.prog 33 [.agg (stC s), I t] (.tup [I (seekR s t).1, B (seekR s t).2]) := by
  refine p_pspec Tryz.func33 Tryz.ntmps33 Tryz.results33 ?_
  have hq := hs.all
  have h1 := hs.1
  have hgl := hs.2.1
  have hne : ∀ g, g ∈ allS s → 0 < g.length := fun g hg => List.length_pos_iff.2 (groupE_ok (hq.2 g hg)).1
  repeat' (first
 | (with_reducible first | apply qz0 | (refine h0 _ _ ?_; clear h0 hw) | (refine hw _ _ _ ?_; clear h0 hw) | apply qz3 )
 | refine p_reg fun K1 hK => ?_
 | apply go_seq
 | (refine p_op Tryz.tab fun K' h0 hw => ?_; conv => whnf)
 | (refine p_nil (hK _ ?_); clear hK)
 | ((with_reducible refine callV_id (f := 31) ?_); have hcs_ := c_allOf s (by omega); (with_reducible apply callV_f own31 (hcs_)); (case hx => rfl); (case he => rfl); (case hle => first | ((repeat constructor); done) ); (case hpu => repeat constructor); (case' hK => (try clear hcs_); conv => whnf))
 | ((with_reducible apply And.intro); (case' right => try (conv => whnf)); (case' left => try first | rfl | decide | (simp; done) ))
 )
  refine w_loop (X := Nat) [4, 5, 7, 8, 14, 15, 16, 17, 18, 19, 20, 21, 22, 23, 24, 25, 26, 27, 28, 29, 30, 31, 32, 33, 34, 35, 36, 37, 38, 39, 40, 41, 42, 43, 44, 45, 46, 47, 48, 49, 50, 51, 52] (fun i => [(7, I (i - 1 : Int))]) (fun _ => []) (fun i => i ≤ (allS s).length ∧ atUp (allS s) t i = atUp (allS s) t (allS s).length ∧ (i = 0 → (allS s).length = 0)) (fun i => i) (allS s).length (by simp) ?_ ?_
  · refine ⟨kt_refl, ko_refl, ?_, ?_, ?_, ?_, Nat.le_refl _⟩ <;> simp (disch := omega) [wrp]
  rintro i ⟨hi, hu, hz⟩
  have hlast : ∀ {j : Nat} {x1 : List Fr}, (allS s)[((j : Int) - 1).toNat]? = some x1 → 1 ≤ j → (allS s)[j - 1]? = some x1 := fun h hj => by rw [← h]; congr 1; omega
  have hyes : ∀ {j : Nat} {x1 : List Fr} {x2 : Fr}, (allS s)[((j : Int) - 1).toNat]? = some x1 → 1 ≤ j → x1[(0 : Int).toNat]? = some x2 → x2.time ≤ t → atUp (allS s) t j = j - 1 := fun {j} {_} {_} h hj hx ht => by
    have := atUp_yes (hlast h hj) hx ht
    rwa [show j - 1 + 1 = j by omega] at this
  have hno : ∀ {j : Nat} {x1 : List Fr} {x2 : Fr}, (allS s)[((j : Int) - 1).toNat]? = some x1 → 1 ≤ j → x1[(0 : Int).toNat]? = some x2 → ¬ x2.time ≤ t → atUp (allS s) t j = atUp (allS s) t (j - 1) := fun {j} {_} {_} h hj hx ht => by
    have := atUp_no (hlast h hj) hx ht
    rwa [show j - 1 + 1 = j by omega] at this
  have hsr : 0 < (allS s).length → seekR s t = (s.first + atUp (allS s) t (allS s).length, true) := fun h => if_pos h
  repeat' (first
 | (with_reducible first | apply qz0 | (refine h0 _ _ ?_; clear h0 hw) | apply qz1 | apply qz2 | apply qz3 | apply qz4 | apply qz6 | apply qz7 | apply qz9 | apply qza | apply qzc | (refine hL _ ?_; clear hL))
 | refine p_reg fun K1 hK => ?_ | refine p_regE fun K1 hK => ?_
 | apply go_seq
 | (refine p_op Tryz.tab fun K' h0 hw => ?_; conv => whnf)
 | (refine p_nil (hK _ ?_); clear hK)
 | (first | refine v_grd_yes (by rfl) (by rfl) ?_)
 | ((first | (apply v_grd_no; (case hg => rfl); (case hb => rfl)) | (apply v_grd; (case hg => rfl); (case hb => rfl))); (case hi => (simp only [Nat.reduceAdd, Nat.reduceMul]; rfl)))
 | ((with_reducible apply go_cond); (case hb => rfl))
 | ((with_reducible first | refine w_ret Tryz.tab fun K' hL => ?_ ); (conv => whnf))
 | ((with_reducible apply And.intro); (case' right => try (conv => whnf)); (case' left => try first | rfl | decide | (simp; done) ))
 | ((with_reducible apply Side.mk); (try simp (disch := omega) only [wrp]); (try simp); (try simp (disch := omega) only [wrp]); (try omega))
 | ((with_reducible refine all_row ?_); (first | (guard_hyp hx1; intro x2 hx2) | intro x1 hx1); conv => whnf)
 | (first  | intro g1; try simp at g1; try simp (disch := omega) only [wrp] at g1))
  · exact hne x1 (List.mem_of_getElem? hx1)
  · -- the first one of all
    refine w_loop (X := Nat) [4, 5, 8, 33, 34, 35, 36, 37, 38, 39, 40, 41, 42, 43, 44, 45, 46, 47, 48, 49, 50] (fun k => [(8, I (k - 1 : Int))]) (fun _ => []) (fun k => k ≤ i ∧ atUp (allS s) t k = atUp (allS s) t (allS s).length) (fun k => k) i ⟨Nat.le_refl _, hu⟩ ?_ ?_
    · refine ⟨kt_refl, ko_refl, ?_, ?_, ?_, ?_, Nat.le_refl _⟩ <;> simp (disch := omega) [wrp]
    rintro k ⟨hk, hku⟩
    repeat' (first
 | (with_reducible first | apply qz0 | (refine h0 _ _ ?_; clear h0 hw) | apply qz1 | apply qz2 | apply qz3 | apply qz4 | apply qz5 | apply qz6 | apply qz7 | apply qz8 | apply qz9 | apply qza | apply qzb | apply qzc | (refine hL _ ?_; clear hL))
 | refine p_reg fun K1 hK => ?_ | refine p_regE fun K1 hK => ?_
 | apply go_seq
 | (refine p_op Tryz.tab fun K' h0 hw => ?_; conv => whnf)
 | (refine p_nil (hK _ ?_); clear hK)
 | ((with_reducible apply go_cond); (case hb => rfl))
 | ((with_reducible first | refine w_ret Tryz.tab fun K' hL => ?_ ); (conv => whnf))
 | ((with_reducible apply And.intro); (case' right => try (conv => whnf)); (case' left => try first | rfl | decide | (simp; done) ))
 | ((with_reducible apply Side.mk); (try simp (disch := omega) only [wrp]); (try simp); (try simp (disch := omega) only [wrp]); (try omega))
 | ((with_reducible refine all_row ?_); (first | (guard_hyp hx3; intro x4 hx4) | (guard_hyp hx2; intro x3 hx3) ); conv => whnf)
 | (first  | intro g1; try simp at g1; try simp (disch := omega) only [wrp] at g1))
    · exact hne _ (List.mem_of_getElem? hx3)
    · have e := hyes hx3 (by omega) hx4 (by omega)
      have e2 := hsr (by omega)
      have e3 := atUp_le (allS s) t k
      rw [e2, ← hku, e]
      refine le_of_eq ?_
      simp (disch := omega) [wrp]
      omega
    · have e := hno hx3 (by omega) hx4 (by omega)
      obtain rfl : k = 1 := by omega
      (refine p_nx (0) ?_; (try simp only); (try exact trivial))
      exact ⟨by omega, by rw [← hku, e]⟩
    · obtain rfl : k = 0 := by omega
      have e2 := hsr (by omega)
      rw [e2, ← hku]
      simp [atUp]
  · have e := hno hx1 (by omega) hx2 (by omega)
    have e9 : ((i - 1 : Nat) : Int) = i - 1 := by omega
    ((refine w_nx ((i - 1)) ?_ ?_ ?_ ?_ ?_ ?_); (case refine_1 => simp [e9]); (case refine_2 => simp [e9]); (case refine_3 => simp (disch := omega) [e9, wrp]); (case refine_4 => simp [e9]); (case refine_5 => first | (simp; omega) | (simp; done) | omega | (simp only; omega)); (case' refine_6 => (try simp only); (try exact trivial)))
    exact ⟨by omega, by rw [← e, hu], fun _ => by omega⟩
  · refine w_loop (X := Nat) [4, 5, 8, 33, 34, 35, 36, 37, 38, 39, 40, 41, 42, 43, 44, 45, 46, 47, 48, 49, 50] (fun k => [(8, I (k - 1 : Int))]) (fun _ => []) (fun k => k ≤ i ∧ atUp (allS s) t k = atUp (allS s) t (allS s).length) (fun k => k) i ⟨Nat.le_refl _, hu⟩ ?_ ?_
    · refine ⟨kt_refl, ko_refl, ?_, ?_, ?_, ?_, Nat.le_refl _⟩ <;> simp (disch := omega) [wrp]
    rintro k ⟨hk, hku⟩
    repeat' (first
 | (with_reducible first | apply qz0 | (refine h0 _ _ ?_; clear h0 hw) | apply qz1 | apply qz2 | apply qz3 | apply qz4 | apply qz5 | apply qz6 | apply qz7 | apply qz8 | apply qz9 | apply qza | apply qzb | apply qzc | (refine hL _ ?_; clear hL))
 | refine p_reg fun K1 hK => ?_ | refine p_regE fun K1 hK => ?_
 | apply go_seq
 | (refine p_op Tryz.tab fun K' h0 hw => ?_; conv => whnf)
 | (refine p_nil (hK _ ?_); clear hK)
 | ((with_reducible apply go_cond); (case hb => rfl))
 | ((with_reducible first | refine w_ret Tryz.tab fun K' hL => ?_ ); (conv => whnf))
 | ((with_reducible apply And.intro); (case' right => try (conv => whnf)); (case' left => try first | rfl | decide | (simp; done) ))
 | ((with_reducible apply Side.mk); (try simp (disch := omega) only [wrp]); (try simp); (try simp (disch := omega) only [wrp]); (try omega))
 | ((with_reducible refine all_row ?_); (first | (guard_hyp hx3; intro x4 hx4) | (guard_hyp hx2; intro x3 hx3) ); conv => whnf)
 | (first  | intro g1; try simp at g1; try simp (disch := omega) only [wrp] at g1))
    · exact hne _ (List.mem_of_getElem? hx3)
    · have e := hyes hx3 (by omega) hx4 (by omega)
      have e2 := hsr (by omega)
      have e3 := atUp_le (allS s) t k
      rw [e2, ← hku, e]
      refine le_of_eq ?_
      simp (disch := omega) [wrp]
      omega
    · have e := hno hx3 (by omega) hx4 (by omega)
      have e9 : ((k - 1 : Nat) : Int) = k - 1 := by omega
      ((refine w_nx ((k - 1)) ?_ ?_ ?_ ?_ ?_ ?_); (case refine_1 => simp [e9]); (case refine_2 => simp [e9]); (case refine_3 => simp (disch := omega) [e9, wrp]); (case refine_4 => simp [e9]); (case refine_5 => first | (simp; omega) | (simp; done) | omega | (simp only; omega)); (case' refine_6 => (try simp only); (try exact trivial)))
      exact ⟨by omega, by rw [← e, hku]⟩
    · obtain rfl : k = 0 := by omega
      have e2 := hsr (by omega)
      rw [e2, ← hku]
      simp [atUp]
  · have e : seekR s t = (0, false) := if_neg (by have := hz (by omega); omega)
    rw [e]; simp
end Go.Proofs.YtokkencbpmjdaaaGreat
end
section
namespace Go.Proofs.YtokkencbpmjdaaaGreat
open Go Go.Sy
set_option maxRecDepth 4000
set_option linter.unusedSimpArgs false
set_option linter.unusedVariables false
attribute [local irreducible] Reg RegD Later Out CallV Tri Side EqV Pause
theorem Sto.ext' {p q : Sto} (h1 : p.first = q.first) (h2 : p.gs = q.gs) (h3 : p.op = q.op) : p = q := by cases p; cases q; simp_all
instance : DecidableEq Sto := fun p q => decidable_of_iff (p.first = q.first ∧ p.gs = q.gs ∧ p.op = q.op) ⟨fun ⟨h1, h2, h3⟩ => Sto.ext' h1 h2 h3, fun h => by subst h; simp⟩
theorem trimS_drop : ∀ (n : Nat) (first : Int) (l : List (List Fr)), l.length = n → ∃ k : Nat, k ≤ l.length ∧ trimS first l = (first + k, l.drop k) ∧ full (l.drop k) = false ∧ (0 < l.length → k < l.length) ∧ (full l = false → k = 0) := by
  intro n
  induction n with
  | zero => 
    intro first l h
    have : l = [] := List.eq_nil_of_length_eq_zero h
    subst this
    have hf : full [] = false := by decide
    exact ⟨0, by simp, by rw [trimS, dif_neg (by simp [hf])]; simp, by simpa using hf, by simp, fun _ => rfl⟩
  | succ n ih =>
    intro first l h
    by_cases hf : full l = true
    · have hp := full_pos hf
      obtain ⟨k, h1, h2, h3, h4, _⟩ := ih (first + 1) l.tail (by simp; omega)
      refine ⟨k + 1, by simp at h1; omega, ?_, by rw [List.drop_tail] at h3; exact h3, fun _ => by simp at h4; omega, fun h => by rw [hf] at h; cases h⟩
      rw [trimS, dif_pos hf, h2]
      simp; omega
    · refine ⟨0, by omega, by rw [trimS, dif_neg hf]; simp, by simpa using hf, fun _ => by omega, fun _ => rfl⟩
theorem raw_right {s : Sto} {f : Fr} (hs : RightS s) (hf : frameE f = 0) (h : (storeRaw s f).2.2 = 0) : ∃ k : Nat, k ≤ (doneS s.op s.gs f).length ∧ storeRaw s f = (⟨s.first + k, (doneS s.op s.gs f).drop k, growS s.op f⟩, decide (s.gs.length < (doneS s.op s.gs f).length), 0) ∧
    RightS ⟨s.first + k, (doneS s.op s.gs f).drop k, growS s.op f⟩ ∧ (0 < (doneS s.op s.gs f).length → k < (doneS s.op s.gs f).length) ∧ (full (doneS s.op s.gs f) = false → k = 0) := by
  obtain ⟨k, h1, h2, h3, h4, h5⟩ := trimS_drop _ s.first (doneS s.op s.gs f) rfl
  unfold storeRaw at h ⊢
  rw [h2] at h ⊢
  by_cases q : 100000 < s.first + k
  · rw [if_pos q] at h; cases h
  · rw [if_neg q]
    have hrg := hs.rg hf
    obtain ⟨q1, q2, q3, q4, q5⟩ := hs
    refine ⟨k, h1, rfl, ⟨⟨by simp only; omega, by simp only; omega⟩, ?_, fun g hg => hrg.2 g (List.mem_of_mem_drop hg), okG_grow q4 hf, h3⟩, h4, h5⟩
    simp only
    have : ¬ 5 < ((doneS s.op s.gs f).drop k).length := fun hq => by unfold full at h3; simp at h3 hq; omega
    omega
set_option maxHeartbeats 1000000 in
theorem c_storeAddR (s : Sto) (f : Fr) (hs : RightS s) (hf : frameE f = 0) : PSpec Tryz.prog 90 [.agg (stC s), .agg (frC f)] (stT (storeRaw s f)) := by
  refine p_pspec Tryz.func90 Tryz.ntmps90 Tryz.results90 ?_
  have hrg := hs.rg hf
  have hdl := doneS_len s.op s.gs f
  have hde := doneS_eq s.op s.gs f
  obtain ⟨q1, q2, q3, q4, q5⟩ := hs
  have hop := (okG_fits q4).2
  have hT := c_trimmed _ (doneS s.op s.gs f) s.first rfl hrg (by omega)
  have hR : storeRaw s f = if 100000 < (trimS s.first (doneS s.op s.gs f)).1 then (st0, false, 2) else (⟨(trimS s.first (doneS s.op s.gs f)).1, (trimS s.first (doneS s.op s.gs f)).2, growS s.op f⟩, decide (s.gs.length < (doneS s.op s.gs f).length), 0) := rfl
  by_cases hc : f.key = true ∧ 0 < s.op.length
  · have hd : doneS s.op s.gs f = s.gs ++ [s.op] := if_pos hc
    rw [hd] at hT hR
    have hk : (f.key && decide (0 < s.op.length)) = true := by simp [hc]
    repeat' (first
 | (with_reducible first | apply qz0 | (refine h0 _ _ ?_; clear h0 hw) | (refine hw _ _ _ ?_; clear h0 hw) | apply qz1 | apply qz2 | apply qz5 | apply qz6 | (refine hL _ ?_; clear hL))
 | refine p_reg fun K1 hK => ?_ | refine p_regE fun K1 hK => ?_
 | apply go_seq
 | ((first | refine p_op Tryz.tab fun K' h0 hw => ?_ | refine p_op0 Tryz.tab fun K' h0 hw => ?_); conv => whnf)
 | (refine p_nil (hK _ ?_); clear hK)
 | ((with_reducible refine callV_id (f := 116) ?_); have hcs_ := c_growOf s.op f hop; (with_reducible apply callV_f own116 (hcs_)); (case hx => rfl); (case he => rfl); (case hle => first | ((repeat constructor); done) ); (case hpu => repeat constructor); (case' hK => (try clear hcs_); conv => whnf))
 | ((with_reducible refine callV_id (f := 117) ?_); (with_reducible apply callV_f own117 (hT)); (case hx => rfl); (case he => rfl); (case hle => first | (simp [growT, hk]; done)); (case hpu => repeat constructor); (case' hK => conv => whnf))
 | ((with_reducible apply go_cond); (case hb => rfl))
 | ((with_reducible first | refine w_ret Tryz.tab fun K' hL => ?_ ); (conv => whnf))
 | ((with_reducible apply And.intro); (case' right => try (conv => whnf)); (case' left => try first | rfl | decide | (simp [growT, hk]; done) ))
 | exact p_side
 | (first | (guard_hyp g2; intro g3; try simp at g3) | (guard_hyp g1; intro g2; try simp at g2) | intro g1; try simp at g1))
    · rw [hR, if_pos g2]; simp [stT, st0]
    · rw [hR, if_neg (by omega)]; simp [stT, hk]
    · exact absurd (g1 hc.1) (List.length_pos_iff.1 hc.2)
  · have hd : doneS s.op s.gs f = s.gs := if_neg hc
    rw [hd] at hT hR
    have hk : (f.key && decide (0 < s.op.length)) = false := by simp at hc ⊢; intro h; simp [hc h]
    repeat' (first
 | (with_reducible first | apply qz0 | (refine h0 _ _ ?_; clear h0 hw) | (refine hw _ _ _ ?_; clear h0 hw) | apply qz1 | apply qz2 | apply qz5 | apply qz6 | (refine hL _ ?_; clear hL))
 | refine p_reg fun K1 hK => ?_ | refine p_regE fun K1 hK => ?_
 | apply go_seq
 | ((first | refine p_op Tryz.tab fun K' h0 hw => ?_ | refine p_op0 Tryz.tab fun K' h0 hw => ?_); conv => whnf)
 | (refine p_nil (hK _ ?_); clear hK)
 | ((with_reducible refine callV_id (f := 116) ?_); have hcs_ := c_growOf s.op f hop; (with_reducible apply callV_f own116 (hcs_)); (case hx => rfl); (case he => rfl); (case hle => first | ((repeat constructor); done) ); (case hpu => repeat constructor); (case' hK => (try clear hcs_); conv => whnf))
 | (refine p_call own117 (hT) ?_; conv => whnf)
 | ((with_reducible apply go_cond); (case hb => rfl))
 | ((with_reducible first | refine w_ret Tryz.tab fun K' hL => ?_ ); (conv => whnf))
 | ((with_reducible apply And.intro); (case' right => try (conv => whnf)); (case' left => try first | rfl | decide | (simp [growT, hk]; done) ))
 | exact p_side
 | (first | (guard_hyp g2; intro g3; try simp at g3) | (guard_hyp g1; intro g2; try simp at g2) | intro g1; try simp at g1))
    · exact absurd g1 hc
    · rw [hR, if_pos g2]; simp [stT, st0]
    · rw [hR, if_neg (by omega)]; simp [stT, hk]
theorem Small.fits {s : Sto} (h : Small s) : FitsS s := by
  obtain ⟨h1, h2, h3, h4⟩ := h
  exact ⟨by omega, fun g hg => ⟨by have := (h2 g hg).1; omega, (h2 g hg).2⟩, ⟨by omega, h4⟩⟩
end Go.Proofs.YtokkencbpmjdaaaGreat
end

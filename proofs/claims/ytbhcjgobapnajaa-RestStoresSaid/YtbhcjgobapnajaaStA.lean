/- Walks of package store. No condition. -/
import Derived.Test.YtbhcjgobapnajaaGrA
section
namespace Go.Proofs.Ytbhcjgobapnajaa
open Go Go.Sy
set_option maxRecDepth 4000
set_option linter.unusedSimpArgs false
set_option linter.unusedVariables false
attribute [local irreducible] Reg RegD Later Out CallV Tri Side EqV
structure Sto where
  first : Int
  gs : List (List Fr)
  op : List Fr
abbrev stC (s : Sto) : List AV := [I s.first, grs s.gs, frs s.op]
def st0 : Sto := ⟨0, [], []⟩
theorem right_fits {g : List Fr} (h : groupE g = 0) : Fits g := by
  obtain ⟨_, h2, _, h4⟩ := groupE_ok h
  exact ⟨by omega, fun f hf => by have := (frameE_ok (h4 f hf)).2.2.1; omega⟩
def sumB : List (List Fr) → Nat
  | [] => 0
  | g :: l => groupB g + sumB l
theorem sumB_app (a b : List (List Fr)) : sumB (a ++ b) = sumB a + sumB b := by
  induction a with
  | nil => simp [sumB]
  | cons x a ih => simp only [List.cons_append, sumB, ih]; omega
theorem sumB_at {l : List (List Fr)} {i : Nat} {x : List Fr} (h : l[i]? = some x) : sumB (l.take (i + 1)) = sumB (l.take i) + groupB x := by
  rw [take_at h, sumB_app]; simp [sumB]
theorem sumB_right : ∀ {l : List (List Fr)}, (∀ g ∈ l, groupE g = 0) → sumB l ≤ 192 * l.length
  | [], _ => by simp [sumB]
  | g :: l, h => by
    have h1 := groupE_bytes (h g (by simp))
    have h2 := sumB_right (l := l) fun x hx => h x (by simp [hx])
    simp only [sumB, List.length_cons]; omega
theorem sumB_take (l : List (List Fr)) (i : Nat) : sumB (l.take i) ≤ sumB l := by
  have := sumB_app (l.take i) (l.drop i)
  rw [List.take_append_drop] at this; omega
def Rg (l : List (List Fr)) : Prop := l.length ≤ 1000 ∧ ∀ g ∈ l, groupE g = 0
theorem Rg.at {l : List (List Fr)} (h : Rg l) {i : Nat} {x : List Fr} (hx : l[i]? = some x) : groupE x = 0 := h.2 _ (List.mem_of_getElem? hx)
theorem Rg.sum {l : List (List Fr)} (h : Rg l) : sumB l ≤ 192000 := by have := sumB_right h.2; have := h.1; omega
set_option maxHeartbeats 1000000 in
theorem c_storeSize (l : List (List Fr)) (h : Rg l) : PSpec Try.prog 122 [grs l] (I (sumB l)) := by
  refine v_pspec Try.func122 rfl Try.ntmps122 Try.results122 (by simp) (by first | exact .s _ | repeat constructor) ?_
  have hl := h.1
  have hs := h.sum
  repeat' (first
 | (with_reducible first | apply qz0 | (refine h0 _ _ ?_; clear h0 hw) | apply qz3 )
 | (with_reducible first | refine w_reg (by decide +kernel) fun K1 hK => ?_ )
 | with_reducible refine go_seq ?_
 | ((with_reducible first | apply v_op Try.tab ) <;> first | (intro K' h0 hw; conv => whnf) | (simp only [Nat.reduceAdd, Nat.reduceMul]; rfl))
 | ((with_reducible apply v_nil); (case hm => (simp only [Nat.reduceAdd, Nat.reduceMul]; rfl)); (case' h => with_reducible refine hK _ ?_; clear hK))
 )
  refine w_loop (X := Nat) [3, 5, 8, 9, 10, 11, 12, 13, 14, 15, 16] (fun i => [(8, I i), (3, I (sumB (l.take i)))]) (fun _ => []) (fun i => i ≤ l.length) (fun i => l.length - i) 0 (by simp) ?_ ?_
  · refine ⟨kt_refl, ko_refl, ?_, ?_, ?_, ?_, Nat.le_refl _⟩ <;> simp [sumB]
  intro i h1
  repeat' (first
 | (with_reducible first | apply qz0 | (refine h0 _ _ ?_; clear h0 hw) | (refine hw _ _ _ ?_; clear h0 hw) | apply qz1 | apply qz2 | apply qz3 | apply qz4 | apply qz6 | apply qz7 | apply qz9 | apply qza | apply qzc | (refine hL _ ?_; clear hL))
 | (with_reducible first | refine w_reg (by decide +kernel) fun K1 hK => ?_ | refine w_reg_end (by decide +kernel) fun K1 hK => ?_)
 | with_reducible refine go_seq ?_
 | ((with_reducible first | apply v_op Try.tab | apply v_op0 Try.tab) <;> first | (intro K' h0 hw; conv => whnf) | (simp only [Nat.reduceAdd, Nat.reduceMul]; rfl))
 | ((with_reducible apply v_nil); (case hm => (simp only [Nat.reduceAdd, Nat.reduceMul]; rfl)); (case' h => with_reducible refine hK _ ?_; clear hK))
 | ((with_reducible refine callV_id (f := 155) ?_); have hcs_ := c_groupBytes x1 (right_fits (h.at (by simpa using hx1))) (by have := groupE_bytes (h.at (by simpa using hx1)); omega); (with_reducible apply callV_f own155 (hcs_)); (case hx => rfl); (case he => rfl); (case hle => first | ((repeat constructor); done) ); (case hpu => repeat constructor); (case' hK => (try clear hcs_); conv => whnf))
 | ((with_reducible apply go_cond); (case hb => rfl))
 | ((with_reducible first | refine w_ret Try.tab fun K' hL => ?_ ); (conv => whnf))
 | ((with_reducible apply And.intro); (case' right => try (conv => whnf)); (case' left => try first | rfl | decide | (simp; done) ))
 | ((with_reducible apply Side.mk); (try simp (disch := omega) only [wrp]); (try simp); (try simp (disch := omega) only [wrp]); (try omega))
 | ((with_reducible refine all_row ?_); (first | intro x1 hx1); conv => whnf)
 | (first  | intro g1; try simp at g1))
  · simp at hx1
    have e := sumB_at hx1
    have e2 := sumB_take l (i + 1)
    ((refine w_nx ((i + 1)) ?_ ?_ ?_ ?_ ?_ ?_); (case refine_1 => simp [e]); (case refine_2 => simp [e]); (case refine_3 => simp (disch := omega) [e, wrp]); (case refine_4 => simp [e]); (case refine_5 => first | (simp; omega) | (simp; done) | omega | (simp only; omega)); (case' refine_6 => (try simp only); (try exact trivial)))
    omega
  · rw [show l.take i = l from List.take_of_length_le (by omega)]; simp
def full (l : List (List Fr)) : Bool := decide (5 < l.length) || (decide (1 < l.length) && decide (100 < sumB l))
set_option maxHeartbeats 1000000 in
theorem c_storeFull (l : List (List Fr)) (h : Rg l) : PSpec Try.prog 73 [grs l] (B (full l)) := by
  refine v_pspec Try.func73 rfl Try.ntmps73 Try.results73 (by simp) (by first | exact .s _ | repeat constructor) ?_
  have hl := h.1
  repeat' (first
 | (with_reducible first | apply qz0 | (refine h0 _ _ ?_; clear h0 hw) | apply qz1 | (refine hL _ ?_; clear hL))
 | (with_reducible first | refine w_reg (by decide +kernel) fun K1 hK => ?_ )
 | ((with_reducible first | apply v_op Try.tab ) <;> first | (intro K' h0 hw; conv => whnf) | (simp only [Nat.reduceAdd, Nat.reduceMul]; rfl))
 | ((with_reducible apply v_nil); (case hm => (simp only [Nat.reduceAdd, Nat.reduceMul]; rfl)); (case' h => with_reducible refine hK _ ?_; clear hK))
 | (first | refine v_grd_yes (by rfl) (by rfl) ?_)
 | ((first | (apply v_grd_no; (case hg => rfl); (case hb => rfl)) | (apply v_grd_undef; (case hg => rfl); (case hb => rfl)) | (apply v_grd; (case hg => rfl); (case hb => rfl))); (case hi => (simp only [Nat.reduceAdd, Nat.reduceMul]; rfl)))
 | ((with_reducible refine callV_id (f := 122) ?_); have hcs_ := c_storeSize l h; (with_reducible apply callV_f own122 (hcs_)); (case hx => rfl); (case he => rfl); (case hle => first | ((repeat constructor); done) ); (case hpu => repeat constructor); (case' hK => (try clear hcs_); conv => whnf))
 | ((with_reducible first | refine w_ret Try.tab fun K' hL => ?_ ); (conv => whnf))
 | (first  | intro g1; try simp at g1))
  all_goals (refine le_of_eq ?_; congr 2; rw [Bool.eq_iff_iff]; simp [full]; (try omega))
set_option maxHeartbeats 1000000 in
theorem c_isFull (l : List (List Fr)) (h : Rg l) : PSpec Try.prog 104 [grs l] (B (full l)) := by
  refine v_pspec Try.func104 rfl Try.ntmps104 Try.results104 (by simp) (by first | exact .s _ | repeat constructor) ?_
  have hl := h.1
  have hs := h.sum
  repeat' (first
 | (with_reducible first | apply qz0 | (refine h0 _ _ ?_; clear h0 hw) | apply qz3 )
 | (with_reducible first | refine w_reg (by decide +kernel) fun K1 hK => ?_ )
 | with_reducible refine go_seq ?_
 | ((with_reducible first | apply v_op Try.tab ) <;> first | (intro K' h0 hw; conv => whnf) | (simp only [Nat.reduceAdd, Nat.reduceMul]; rfl))
 | ((with_reducible apply v_nil); (case hm => (simp only [Nat.reduceAdd, Nat.reduceMul]; rfl)); (case' h => with_reducible refine hK _ ?_; clear hK))
 )
  refine w_loop (X := Nat) [3, 4, 5, 6, 7, 8, 9, 10, 11, 12, 13, 14, 15, 16, 17] (fun i => [(4, I i), (3, I (sumB (l.take i)))]) (fun _ => []) (fun i => i ≤ l.length) (fun i => l.length - i) 0 (by simp) ?_ ?_
  · refine ⟨kt_refl, ko_refl, ?_, ?_, ?_, ?_, Nat.le_refl _⟩ <;> simp [sumB]
  intro i h1
  repeat' (first
 | (with_reducible first | apply qz0 | (refine h0 _ _ ?_; clear h0 hw) | apply qz1 | apply qz2 | apply qz3 | apply qz4 | apply qz6 | apply qz7 | apply qz9 | apply qza | apply qzc | (refine hL _ ?_; clear hL))
 | (with_reducible first | refine w_reg (by decide +kernel) fun K1 hK => ?_ | refine w_reg_end (by decide +kernel) fun K1 hK => ?_)
 | with_reducible refine go_seq ?_
 | ((with_reducible first | apply v_op Try.tab ) <;> first | (intro K' h0 hw; conv => whnf) | (simp only [Nat.reduceAdd, Nat.reduceMul]; rfl))
 | ((with_reducible apply v_nil); (case hm => (simp only [Nat.reduceAdd, Nat.reduceMul]; rfl)); (case' h => with_reducible refine hK _ ?_; clear hK))
 | (first | refine v_grd_yes (by rfl) (by rfl) ?_)
 | ((first | (apply v_grd_no; (case hg => rfl); (case hb => rfl)) | (apply v_grd_undef; (case hg => rfl); (case hb => rfl)) | (apply v_grd; (case hg => rfl); (case hb => rfl))); (case hi => (simp only [Nat.reduceAdd, Nat.reduceMul]; rfl)))
 | ((with_reducible refine callV_id (f := 142) ?_); have hcs_ := c_sizeOf x1 (right_fits (h.at (by simpa using hx1))) (by have := groupE_bytes (h.at (by simpa using hx1)); omega); (with_reducible apply callV_f own142 (hcs_)); (case hx => rfl); (case he => rfl); (case hle => first | ((repeat constructor); done) ); (case hpu => repeat constructor); (case' hK => (try clear hcs_); conv => whnf))
 | ((with_reducible apply go_cond); (case hb => rfl))
 | ((with_reducible first | refine w_ret Try.tab fun K' hL => ?_ ); (conv => whnf))
 | ((with_reducible apply And.intro); (case' right => try (conv => whnf)); (case' left => try first | decide | (simp; done) ))
 | ((with_reducible apply Side.mk); (try simp (disch := omega) only [wrp]); (try simp); (try simp (disch := omega) only [wrp]); (try omega))
 | ((with_reducible refine all_row ?_); (first | intro x1 hx1); conv => whnf)
 | (first  | intro g1; try simp at g1))
  · simp at hx1
    have e := sumB_at hx1
    have e2 := sumB_take l (i + 1)
    ((refine w_nx ((i + 1)) ?_ ?_ ?_ ?_ ?_ ?_); (case refine_1 => simp [e]); (case refine_2 => simp [e]); (case refine_3 => simp (disch := omega) [e, wrp]); (case refine_4 => simp [e]); (case refine_5 => first | (simp; omega) | (simp; done) | omega | (simp only; omega)); (case' refine_6 => (try simp only); (try exact trivial)))
    omega
  all_goals (try rw [show l.take i = l from List.take_of_length_le (by omega)])
  all_goals (refine le_of_eq ?_; congr 2; rw [Bool.eq_iff_iff]; simp [full]; (try omega))
theorem full_pos {l : List (List Fr)} (h : full l = true) : 1 < l.length := by
  unfold full at h; simp at h; omega
def trimS (first : Int) (l : List (List Fr)) : Int × List (List Fr) := if h : full l = true then trimS (first + 1) l.tail else (first, l)
termination_by l.length
decreasing_by have := full_pos h; simp; omega
theorem Rg.tail {l : List (List Fr)} (h : Rg l) : Rg l.tail := ⟨by have := h.1; simp; omega, fun g hg => h.2 g (List.mem_of_mem_tail hg)⟩
set_option maxHeartbeats 1000000 in
theorem c_trimmed : ∀ (n : Nat) (l : List (List Fr)) (first : Int), l.length = n → Rg l → (-1000000 ≤ first ∧ first + l.length ≤ 1000000) → PSpec Try.prog 68 [I first, grs l] (.tup [I (trimS first l).1, grs (trimS first l).2]) := by
  intro n
  induction n using Nat.strongRecOn with
  | _ n ih =>
  intro l first hn hr hf
  have e1 := wrp (n := first + 1) (by omega) (by omega)
  refine v_pspec Try.func68 rfl Try.ntmps68 Try.results68 (by simp) (by repeat constructor) ?_
  by_cases hfu : full l = true
  · have hp := full_pos hfu
    have ht : trimS first l = trimS (first + 1) l.tail := by rw [trimS, dif_pos hfu]
    rw [ht]
    cases l with
    | nil => simp at hp
    | cons g m =>
      have hcall := ih m.length (by simp at hn; omega) m (first + 1) rfl hr.tail (by simp at hf; omega)
      have e2 : List.take m.length (List.map grC m) = List.map grC m := List.take_of_length_le (by simp)
      simp only [List.tail_cons]
      repeat' (first
 | (with_reducible first | apply qz0 | (refine h0 _ _ ?_; clear h0 hw) | apply qz1 | apply qz2 | apply qz5 | apply qz6 | (refine hL _ ?_; clear hL))
 | (with_reducible first | refine w_reg (by decide +kernel) fun K1 hK => ?_ )
 | with_reducible refine go_seq ?_
 | ((with_reducible first | apply v_op Try.tab ) <;> first | (intro K' h0 hw; conv => whnf) | (simp only [Nat.reduceAdd, Nat.reduceMul]; rfl))
 | ((with_reducible apply v_nil); (case hm => (simp only [Nat.reduceAdd, Nat.reduceMul]; rfl)); (case' h => with_reducible refine hK _ ?_; clear hK))
 | ((with_reducible refine callV_id (f := 104) ?_); have hcs_ := c_isFull (g :: m) hr; (with_reducible apply callV_f own104 (hcs_)); (case hx => rfl); (case he => rfl); (case hle => first | ((repeat constructor); done) ); (case hpu => repeat constructor); (case' hK => (try clear hcs_); conv => whnf))
 | ((with_reducible refine callV_id (f := 68) ?_); (with_reducible apply callV_f own68 (hcall)); (case hx => rfl); (case he => rfl); (case hle => first | (simp [e1, e2]; done)); (case hpu => repeat constructor); (case' hK => conv => whnf))
 | ((with_reducible apply go_cond); (case hb => rfl))
 | ((with_reducible first | refine w_ret Try.tab fun K' hL => ?_ ); (conv => whnf))
 | ((with_reducible apply And.intro); (case' right => try (conv => whnf)); (case' left => try first | decide ))
 | ((with_reducible apply Side.mk); (try simp (disch := omega) only [wrp]); (try simp); (try simp (disch := omega) only [wrp]); (try omega))
 | (first | (guard_hyp g1; intro g2; try simp at g2) | intro g1; try simp at g1))
      · simp
      · exact absurd hfu (by simp [g1])
  · have ht : trimS first l = (first, l) := by rw [trimS, dif_neg hfu]
    rw [ht]
    repeat' (first
 | (with_reducible first | apply qz0 | (refine h0 _ _ ?_; clear h0 hw) | apply qz1 | apply qz2 | apply qz6 | (refine hL _ ?_; clear hL))
 | (with_reducible first | refine w_reg (by decide +kernel) fun K1 hK => ?_ )
 | with_reducible refine go_seq ?_
 | ((with_reducible first | apply v_op Try.tab ) <;> first | (intro K' h0 hw; conv => whnf) | (simp only [Nat.reduceAdd, Nat.reduceMul]; rfl))
 | ((with_reducible apply v_nil); (case hm => (simp only [Nat.reduceAdd, Nat.reduceMul]; rfl)); (case' h => with_reducible refine hK _ ?_; clear hK))
 | ((with_reducible refine callV_id (f := 104) ?_); have hcs_ := c_isFull l hr; (with_reducible apply callV_f own104 (hcs_)); (case hx => rfl); (case he => rfl); (case hle => first | ((repeat constructor); done) ); (case hpu => repeat constructor); (case' hK => (try clear hcs_); conv => whnf))
 | ((with_reducible apply go_cond); (case hb => rfl))
 | ((with_reducible first | refine w_ret Try.tab fun K' hL => ?_ ); (conv => whnf))
 | ((with_reducible apply And.intro); (case' right => try (conv => whnf)); (case' left => try first | decide ))
 | ((with_reducible apply Side.mk); (try simp (disch := omega) only [wrp]); (try simp); (try simp (disch := omega) only [wrp]); (try omega))
 | exact absurd g1 hfu
 | (first | (guard_hyp g1; intro g2; try simp at g2) | intro g1; try simp at g1))
    simp
set_option maxHeartbeats 1000000 in
theorem c_trim (first : Int) (l : List (List Fr)) (op : List Fr) (hr : Rg l) (hf : -1000000 ≤ first ∧ first + l.length ≤ 1000000) :
    CSpec Try.prog 116 [.ptr 0 0] [.box [I first, grs l, frs op]] (.tup []) [.box [I (trimS first l).1, grs (trimS first l).2, frs op]] := by
  refine v_cspec Try.func116 rfl Try.ntmps116 Try.results116 (by simp) (k := 1) rfl ?_
  repeat' (first
 | (with_reducible first | apply qz0 | apply qz3 )
 )
  refine w_loop (X := Int × List (List Fr)) [2, 3, 4, 5, 6, 7, 8, 9, 10, 11, 12, 13, 14, 15, 16, 17, 18, 19, 20, 21, 22, 23, 24, 25, 26] (fun _ => []) (fun x => [(0, .box [I x.1, grs x.2, frs op])]) (fun x => trimS x.1 x.2 = trimS first l ∧ Rg x.2 ∧ -1000000 ≤ x.1 ∧ x.1 + x.2.length ≤ 1000000) (fun x => x.2.length) (first, l) (by simp [hr, hf]) ?_ ?_
  · refine ⟨kt_refl, ko_refl, ?_, ?_, ?_, ?_, Nat.le_refl _⟩ <;> simp
  rintro ⟨a, m⟩ ⟨h1, h2, h3, h4⟩
  simp only at h1 h2 h3 h4
  have e1 := wrp (n := a + 1) (by omega) (by omega)
  by_cases hfu : full m = true
  · have hp := full_pos hfu
    have ht : trimS a m = trimS (a + 1) m.tail := by rw [trimS, dif_pos hfu]
    cases m with
    | nil => simp at hp
    | cons g m =>
      repeat' (first
 | (with_reducible first | apply qz0 | (refine h0 _ _ ?_; clear h0 hw) | (refine hw _ _ _ ?_; clear h0 hw) | apply qz2 | apply qz3 | apply qz4 | apply qz6 | apply qz7 | apply qz9 | apply qza | apply qzc )
 | (with_reducible first | refine w_reg (by decide +kernel) fun K1 hK => ?_ | refine w_reg_end (by decide +kernel) fun K1 hK => ?_)
 | with_reducible refine go_seq ?_
 | ((with_reducible first | apply v_op Try.tab | apply v_op0 Try.tab) <;> first | (intro K' h0 hw; conv => whnf) | (simp only [Nat.reduceAdd, Nat.reduceMul]; rfl))
 | ((with_reducible apply v_nil); (case hm => (simp only [Nat.reduceAdd, Nat.reduceMul]; rfl)); (case' h => with_reducible refine hK _ ?_; clear hK))
 | ((with_reducible refine callV_id (f := 73) ?_); have hcs_ := c_storeFull (g :: m) h2; (with_reducible apply callV_f own73 (hcs_)); (case hx => rfl); (case he => rfl); (case hle => first | ((repeat constructor); done) ); (case hpu => repeat constructor); (case' hK => (try clear hcs_); conv => whnf))
 | ((with_reducible apply go_cond); (case hb => rfl))
 | ((with_reducible apply And.intro); (case' right => try (conv => whnf)); (case' left => try first | rfl | decide | (simp; done) ))
 | ((with_reducible apply Side.mk); (try simp (disch := omega) only [wrp]); (try simp); (try simp (disch := omega) only [wrp]); (try omega))
 | (first | (guard_hyp g1; intro g2; try simp at g2) | intro g1; try simp at g1))
      · have e2 : List.take m.length (List.map grC m) = List.map grC m := List.take_of_length_le (by simp)
        ((refine w_nx ((a + 1, m)) ?_ ?_ ?_ ?_ ?_ ?_); (case refine_1 => simp [e1, e2]); (case refine_2 => simp [e1, e2]); (case refine_3 => simp (disch := omega) [e1, e2, wrp]); (case refine_4 => simp [e1, e2]); (case refine_5 => first | (simp; omega) | (simp; done) | omega | (simp only; omega)); (case' refine_6 => (try simp only); (try exact trivial)))
        exact ⟨by rw [← h1, ht]; rfl, h2.tail, by omega, by simp at h4; omega⟩
      · exact absurd hfu (by simp [g1])
  · have ht : trimS a m = (a, m) := by rw [trimS, dif_neg hfu]
    rw [ht] at h1
    rw [← h1]
    repeat' (first
 | (with_reducible first | apply qz0 | (refine h0 _ _ ?_; clear h0 hw) | (refine hw _ _ _ ?_; clear h0 hw) | apply qz2 | apply qz3 | apply qz4 | apply qz6 | apply qz7 | apply qz9 | apply qza | apply qzc )
 | (with_reducible first | refine w_reg (by decide +kernel) fun K1 hK => ?_ | refine w_reg_end (by decide +kernel) fun K1 hK => ?_)
 | with_reducible refine go_seq ?_
 | ((with_reducible first | apply v_op Try.tab | apply v_op0 Try.tab) <;> first | (intro K' h0 hw; conv => whnf) | (simp only [Nat.reduceAdd, Nat.reduceMul]; rfl))
 | ((with_reducible apply v_nil); (case hm => (simp only [Nat.reduceAdd, Nat.reduceMul]; rfl)); (case' h => with_reducible refine hK _ ?_; clear hK))
 | ((with_reducible refine callV_id (f := 73) ?_); have hcs_ := c_storeFull m h2; (with_reducible apply callV_f own73 (hcs_)); (case hx => rfl); (case he => rfl); (case hle => first | ((repeat constructor); done) ); (case hpu => repeat constructor); (case' hK => (try clear hcs_); conv => whnf))
 | ((with_reducible apply go_cond); (case hb => rfl))
 | ((with_reducible apply And.intro); (case' right => try (conv => whnf)); (case' left => try first | rfl | decide | (simp; done) ))
 | ((with_reducible apply Side.mk); (try simp (disch := omega) only [wrp]); (try simp); (try simp (disch := omega) only [wrp]); (try omega))
 | exact absurd g1 hfu
 | (first | (guard_hyp g1; intro g2; try simp at g2) | intro g1; try simp at g1))
    ((first | refine w_retO Try.tab [] (by rfl) (by simp) (by simp) (fun K' hL => ?_) ?_ ?_ ?_ | refine w_retO_end Try.tab [] (by rfl) (by simp) (by simp) (fun K' hL => ?_) ?_ ?_ ?_); (conv => whnf); (refine hL _ ?_; clear hL); all_goals simp)
def goS : List (List Fr) → Int
  | [] => 0
  | g :: l => if groupE g ≠ 0 then groupE g else goS l
def storeE (s : Sto) : Int := if ¬ (0 ≤ s.first ∧ s.first ≤ 100000) then 3 else if 5 < s.gs.length then 2 else if goS s.gs ≠ 0 then goS s.gs else if full s.gs = true then 2 else if 0 < s.op.length then groupE s.op else 0
theorem goS_ok : ∀ {l : List (List Fr)}, goS l = 0 → ∀ g ∈ l, groupE g = 0
  | [], _ => by simp
  | g :: l, h => by
    rw [goS] at h
    by_cases q : groupE g = 0
    · rw [if_neg (by simp [q])] at h
      intro x hx
      rcases List.mem_cons.1 hx with rfl | hx
      · exact q
      · exact goS_ok h x hx
    · rw [if_pos q] at h; exact absurd h q
def FitsS (s : Sto) : Prop := s.gs.length ≤ 6000000000000 ∧ (∀ g ∈ s.gs, Fits g) ∧ Fits s.op
section
variable {l : List (List Fr)} {i : Nat} {x : List Fr}
theorem goS_end (h : goS (l.drop i) = goS l) (hi : l.length ≤ i) : goS l = 0 := by rw [← h, List.drop_eq_nil_of_le hi]; rfl
theorem goS_bad (h : goS (l.drop i) = goS l) (hx : l[i]? = some x) (hf : ¬ groupE x = 0) : goS l = groupE x := by rw [← h, drop_at hx, goS, if_pos hf]
theorem goS_next (h : goS (l.drop i) = goS l) (hx : l[i]? = some x) (hf : groupE x = 0) : goS (l.drop (i + 1)) = goS l := by rw [← h, drop_at hx, goS, if_neg (by simp [hf])]
end
set_option maxHeartbeats 1000000 in
theorem c_storeCheck (s : Sto) (hs : FitsS s) : PSpec Try.prog 30 [.agg (stC s)] (I (storeE s)) := by
  refine v_pspec Try.func30 rfl Try.ntmps30 Try.results30 (by simp) (by first | exact .s _ | repeat constructor) ?_
  obtain ⟨h1, h2, h3⟩ := hs
  repeat' (first
 | (with_reducible first | apply qz0 | (refine h0 _ _ ?_; clear h0 hw) | (refine hw _ _ _ ?_; clear h0 hw) | apply qz1 | apply qz2 | apply qz3 | apply qz5 | apply qz6 | apply qz8 | apply qz9 | (refine hL _ ?_; clear hL))
 | (with_reducible first | refine w_reg (by decide +kernel) fun K1 hK => ?_ )
 | with_reducible refine go_seq ?_
 | ((with_reducible first | apply v_op Try.tab ) <;> first | (intro K' h0 hw; conv => whnf) | (simp only [Nat.reduceAdd, Nat.reduceMul]; rfl))
 | ((with_reducible apply v_nil); (case hm => (simp only [Nat.reduceAdd, Nat.reduceMul]; rfl)); (case' h => with_reducible refine hK _ ?_; clear hK))
 | (first | refine v_grd_yes (by rfl) (by rfl) ?_)
 | ((first | (apply v_grd_no; (case hg => rfl); (case hb => rfl)) | (apply v_grd; (case hg => rfl); (case hb => rfl))); (case hi => (simp only [Nat.reduceAdd, Nat.reduceMul]; rfl)))
 | ((with_reducible apply go_cond); (case hb => rfl))
 | ((with_reducible first | refine w_ret Try.tab fun K' hL => ?_ ); (conv => whnf))
 | ((with_reducible apply And.intro); (case' right => try (conv => whnf)); (case' left => try first | rfl | decide | (simp; done) ))
 | (first | (guard_hyp g6; intro g7; try simp at g7) | (guard_hyp g5; intro g6; try simp at g6) | (guard_hyp g4; intro g5; try simp at g5) | (guard_hyp g3; intro g4; try simp at g4) | (guard_hyp g2; intro g3; try simp at g3) | (guard_hyp g1; intro g2; try simp at g2) | intro g1; try simp at g1))
  any_goals first
    | (refine le_of_eq (congrArg I (Eq.symm (if_pos ?_ : storeE s = 3))); omega)
    | (refine le_of_eq (congrArg I (Eq.symm ((if_neg ?_).trans (if_pos ?_) : storeE s = 2))) <;> omega)
  have e1 : storeE s = if goS s.gs ≠ 0 then goS s.gs else if full s.gs = true then 2 else if 0 < s.op.length then groupE s.op else 0 := by unfold storeE; rw [if_neg (by omega), if_neg (by omega)]
  refine w_loop (X := Nat) [2, 4, 5, 23, 24, 25, 26, 27, 28, 29, 30, 31, 32] (fun i => [(23, I i)]) (fun _ => []) (fun i => i ≤ s.gs.length ∧ goS (s.gs.drop i) = goS s.gs) (fun i => s.gs.length - i) 0 (by simp) ?_ ?_
  · refine ⟨kt_refl, ko_refl, ?_, ?_, ?_, ?_, Nat.le_refl _⟩ <;> simp
  rintro i ⟨h4, h5⟩
  repeat' (first
 | (with_reducible first | apply qz0 | (refine h0 _ _ ?_; clear h0 hw) | (refine hw _ _ _ ?_; clear h0 hw) | apply qz1 | apply qz2 | apply qz3 | apply qz4 | apply qz5 | apply qz6 | apply qz7 | apply qz8 | apply qz9 | apply qza | apply qzb | apply qzc | (refine hL _ ?_; clear hL))
 | (with_reducible first | refine w_reg (by decide +kernel) fun K1 hK => ?_ | refine w_reg_end (by decide +kernel) fun K1 hK => ?_)
 | with_reducible refine go_seq ?_
 | ((with_reducible first | apply v_op Try.tab | apply v_op0 Try.tab) <;> first | (intro K' h0 hw; conv => whnf) | (simp only [Nat.reduceAdd, Nat.reduceMul]; rfl))
 | ((with_reducible apply v_nil); (case hm => (simp only [Nat.reduceAdd, Nat.reduceMul]; rfl)); (case' h => with_reducible refine hK _ ?_; clear hK))
 | ((with_reducible refine callV_id (f := 61) ?_); have hcs_ := c_groupCheck x1 (h2 x1 (List.mem_of_getElem? (by simpa using hx1))); (with_reducible apply callV_f own61 (hcs_)); (case hx => rfl); (case he => rfl); (case hle => first | ((repeat constructor); done) ); (case hpu => repeat constructor); (case' hK => (try clear hcs_); conv => whnf))
 | ((with_reducible refine callV_id (f := 73) ?_); have hcs_ := c_storeFull s.gs ⟨by omega, goS_ok (goS_end h5 (by omega))⟩; (with_reducible apply callV_f own73 (hcs_)); (case hx => rfl); (case he => rfl); (case hle => first | ((repeat constructor); done) ); (case hpu => repeat constructor); (case' hK => (try clear hcs_); conv => whnf))
 | ((with_reducible refine callV_id (f := 61) ?_); have hcs_ := c_groupCheck s.op h3; (with_reducible apply callV_f own61 (hcs_)); (case hx => rfl); (case he => rfl); (case hle => first | ((repeat constructor); done) ); (case hpu => repeat constructor); (case' hK => (try clear hcs_); conv => whnf))
 | ((with_reducible apply go_cond); (case hb => rfl))
 | ((with_reducible first | refine w_ret Try.tab fun K' hL => ?_ ); (conv => whnf))
 | ((with_reducible apply And.intro); (case' right => try (conv => whnf)); (case' left => try first | rfl | decide | (simp; done) ))
 | ((with_reducible apply Side.mk); (try simp (disch := omega) only [wrp]); (try simp); (try simp (disch := omega) only [wrp]); (try omega))
 | ((with_reducible refine all_row ?_); (first | intro x1 hx1); conv => whnf)
 | (first | (guard_hyp g6; intro g7; try simp at g7) | (guard_hyp g5; intro g6; try simp at g6) | (guard_hyp g4; intro g5; try simp at g5) | (guard_hyp g3; intro g4; try simp at g4) | (guard_hyp g2; intro g3; try simp at g3) | (guard_hyp g1; intro g2; try simp at g2) | intro g1; try simp at g1))
  · simp at hx1
    have hb := goS_bad h5 hx1 g5
    rw [hb, if_pos (by simpa using g5)] at e1
    simp [e1]
  · simp at hx1
    ((refine w_nx ((i + 1)) ?_ ?_ ?_ ?_ ?_ ?_); (case refine_1 => simp); (case refine_2 => simp); (case refine_3 => simp (disch := omega) [wrp]); (case refine_4 => simp); (case refine_5 => first | (simp; omega) | (simp; done) | omega | (simp only; omega)); (case' refine_6 => (try simp only); (try exact trivial)))
    exact ⟨by omega, goS_next h5 hx1 g5⟩
  all_goals
    rw [goS_end h5 (by omega), if_neg (by simp)] at e1
  · rw [if_pos g5] at e1; simp [e1]
  · rw [if_neg (by simp [g5]), if_pos g6] at e1; simp [e1]
  · rw [if_neg (by simp [g5]), if_neg (by simp [g6])] at e1; simp [e1]
set_option maxHeartbeats 1000000 in
theorem c_checkStore (s : Sto) (hs : FitsS s) : PSpec Try.prog 47 [.agg (stC s)] (I (storeE s)) := by
  refine v_pspec Try.func47 rfl Try.ntmps47 Try.results47 (by simp) (by first | exact .s _ | repeat constructor) ?_
  obtain ⟨h1, h2, h3⟩ := hs
  repeat' (first
 | (with_reducible first | apply qz0 | (refine h0 _ _ ?_; clear h0 hw) | (refine hw _ _ _ ?_; clear h0 hw) | apply qz1 | apply qz2 | apply qz3 | apply qz5 | apply qz6 | (refine hL _ ?_; clear hL))
 | (with_reducible first | refine w_reg (by decide +kernel) fun K1 hK => ?_ )
 | with_reducible refine go_seq ?_
 | ((with_reducible first | apply v_op Try.tab ) <;> first | (intro K' h0 hw; conv => whnf) | (simp only [Nat.reduceAdd, Nat.reduceMul]; rfl))
 | ((with_reducible apply v_nil); (case hm => (simp only [Nat.reduceAdd, Nat.reduceMul]; rfl)); (case' h => with_reducible refine hK _ ?_; clear hK))
 | ((with_reducible refine callV_id (f := 65) ?_); (with_reducible apply callV_f own65 (Outs.c_btw _ _ _)); (case hx => rfl); (case he => rfl); (case hle => first | ((repeat constructor); done) ); (case hpu => repeat constructor); (case' hK => conv => whnf))
 | ((with_reducible apply go_cond); (case hb => rfl))
 | ((with_reducible first | refine w_ret Try.tab fun K' hL => ?_ ); (conv => whnf))
 | ((with_reducible apply And.intro); (case' right => try (conv => whnf)); (case' left => try first | rfl | decide | (simp; done) ))
 | (first | (guard_hyp g5; intro g6; try simp at g6) | (guard_hyp g4; intro g5; try simp at g5) | (guard_hyp g3; intro g4; try simp at g4) | (guard_hyp g2; intro g3; try simp at g3) | (guard_hyp g1; intro g2; try simp at g2) | intro g1; try simp at g1))
  any_goals first
    | (refine le_of_eq (congrArg I (Eq.symm (if_pos ?_ : storeE s = 3))); omega)
    | (refine le_of_eq (congrArg I (Eq.symm ((if_neg ?_).trans (if_pos ?_) : storeE s = 2))) <;> omega)
  have e1 : storeE s = if goS s.gs ≠ 0 then goS s.gs else if full s.gs = true then 2 else if 0 < s.op.length then groupE s.op else 0 := by unfold storeE; rw [if_neg (by omega), if_neg (by omega)]
  refine w_loop (X := Nat) [2, 3, 4, 13, 14, 15, 16, 17, 18, 19, 20, 21, 22, 23, 24, 25, 26, 27, 28] (fun i => [(3, I i)]) (fun _ => []) (fun i => i ≤ s.gs.length ∧ goS (s.gs.drop i) = goS s.gs) (fun i => s.gs.length - i) 0 (by simp) ?_ ?_
  · refine ⟨kt_refl, ko_refl, ?_, ?_, ?_, ?_, Nat.le_refl _⟩ <;> simp
  rintro i ⟨h4, h5⟩
  repeat' (first
 | (with_reducible first | apply qz0 | (refine h0 _ _ ?_; clear h0 hw) | apply qz1 | apply qz2 | apply qz3 | apply qz4 | apply qz5 | apply qz6 | apply qz7 | apply qz8 | apply qz9 | apply qza | apply qzb | apply qzc | (refine hL _ ?_; clear hL))
 | (with_reducible first | refine w_reg (by decide +kernel) fun K1 hK => ?_ | refine w_reg_end (by decide +kernel) fun K1 hK => ?_)
 | with_reducible refine go_seq ?_
 | ((with_reducible first | apply v_op Try.tab ) <;> first | (intro K' h0 hw; conv => whnf) | (simp only [Nat.reduceAdd, Nat.reduceMul]; rfl))
 | ((with_reducible apply v_nil); (case hm => (simp only [Nat.reduceAdd, Nat.reduceMul]; rfl)); (case' h => with_reducible refine hK _ ?_; clear hK))
 | ((with_reducible refine callV_id (f := 66) ?_); have hcs_ := c_checkGroup x1 (h2 x1 (List.mem_of_getElem? (by simpa using hx1))); (with_reducible apply callV_f own66 (hcs_)); (case hx => rfl); (case he => rfl); (case hle => first | ((repeat constructor); done) ); (case hpu => repeat constructor); (case' hK => (try clear hcs_); conv => whnf))
 | ((with_reducible refine callV_id (f := 104) ?_); have hcs_ := c_isFull s.gs ⟨by omega, goS_ok (goS_end h5 (by omega))⟩; (with_reducible apply callV_f own104 (hcs_)); (case hx => rfl); (case he => rfl); (case hle => first | ((repeat constructor); done) ); (case hpu => repeat constructor); (case' hK => (try clear hcs_); conv => whnf))
 | ((with_reducible refine callV_id (f := 66) ?_); have hcs_ := c_checkGroup s.op h3; (with_reducible apply callV_f own66 (hcs_)); (case hx => rfl); (case he => rfl); (case hle => first | ((repeat constructor); done) ); (case hpu => repeat constructor); (case' hK => (try clear hcs_); conv => whnf))
 | ((with_reducible apply go_cond); (case hb => rfl))
 | ((with_reducible first | refine w_ret Try.tab fun K' hL => ?_ ); (conv => whnf))
 | ((with_reducible apply And.intro); (case' right => try (conv => whnf)); (case' left => try first | rfl | decide | (simp; done) ))
 | ((with_reducible apply Side.mk); (try simp (disch := omega) only [wrp]); (try simp); (try simp (disch := omega) only [wrp]); (try omega))
 | ((with_reducible refine all_row ?_); (first | intro x1 hx1); conv => whnf)
 | (first | (guard_hyp g5; intro g6; try simp at g6) | (guard_hyp g4; intro g5; try simp at g5) | (guard_hyp g3; intro g4; try simp at g4) | (guard_hyp g2; intro g3; try simp at g3) | (guard_hyp g1; intro g2; try simp at g2) | intro g1; try simp at g1))
  · simp at hx1
    have hb := goS_bad h5 hx1 g4
    rw [hb, if_pos (by simpa using g4)] at e1
    simp [e1]
  · simp at hx1
    ((refine w_nx ((i + 1)) ?_ ?_ ?_ ?_ ?_ ?_); (case refine_1 => simp); (case refine_2 => simp); (case refine_3 => simp (disch := omega) [wrp]); (case refine_4 => simp); (case refine_5 => first | (simp; omega) | (simp; done) | omega | (simp only; omega)); (case' refine_6 => (try simp only); (try exact trivial)))
    exact ⟨by omega, goS_next h5 hx1 g4⟩
  all_goals
    rw [goS_end h5 (by omega), if_neg (by simp)] at e1
  · rw [if_pos g4] at e1; simp [e1]
  · rw [if_neg (by simp [g4]), if_pos g5] at e1; simp [e1]
  · rw [if_neg (by simp [g4]), if_neg (by simp [g5])] at e1; simp [e1]
end Go.Proofs.Ytbhcjgobapnajaa
end
section
namespace Go.Proofs.Ytbhcjgobapnajaa
open Go Go.Sy
set_option maxRecDepth 4000
set_option linter.unusedSimpArgs false
set_option linter.unusedVariables false
attribute [local irreducible] Reg RegD Later Out CallV Tri Side EqV
set_option maxHeartbeats 1000000 in
theorem c_groupOwn (g : List Fr) (hg : g.length ≤ 1000000) (hp : ∀ f ∈ g, f.parts.length ≤ 8796093022208) : CSpec Try.prog 75 [.agg (grC g)] [] (.agg [.osl 0 3 (rowF g)]) [.perm 78 3 g.length] := by
  refine v_cspec Try.func75 rfl Try.ntmps75 Try.results75 (by simp) (k := 0) rfl ?_
  repeat' (first
 | ((with_reducible apply w_ownCell 32 0 78 3); (case hb => rfl); (case hj => rfl); (case hsz => decide); (case hm => (try simp only [Nat.reduceAdd, Nat.reduceMul]); exact rfl))
 | (with_reducible first | apply qz0 | (refine h0 _ _ ?_; clear h0 hw) | (refine hw _ _ _ ?_; clear h0 hw) | apply qz3 )
 | (with_reducible first | refine w_reg (by decide +kernel) fun K1 hK => ?_ )
 | with_reducible refine go_seq ?_
 | ((with_reducible first | apply v_op Try.tab ) <;> first | (intro K' h0 hw; conv => whnf) | (simp only [Nat.reduceAdd, Nat.reduceMul]; rfl))
 | ((with_reducible apply v_nil); (case hm => (simp only [Nat.reduceAdd, Nat.reduceMul]; rfl)); (case' h => with_reducible refine hK _ ?_; clear hK))
 | ((with_reducible apply And.intro); (case' right => try (conv => whnf)); (case' left => try first | rfl | decide | (simp; done) ))
 )
  refine w_loop (X := Nat) [5, 9, 10, 11, 12, 13, 14, 15, 16, 17, 18, 19, 20] (fun i => [(9, I i)]) (fun i => [(32, .box [.osl 48 3 (rowF (g.take i))]), (48, .perm 78 3 i)]) (fun i => i ≤ g.length) (fun i => g.length - i) 0 (by simp) ?_ ?_
  · refine ⟨kt_refl, ko_refl, ?_, ?_, ?_, ?_, Nat.le_refl _⟩ <;> simp
  intro i h1
  have hlen : min i g.length = i := by omega
  repeat' (first
 | (with_reducible first | apply qz0 | (refine h0 _ _ ?_; clear h0 hw) | (refine hw _ _ _ ?_; clear h0 hw) | apply qz1 | apply qz2 | apply qz3 | apply qz4 | apply qz6 | apply qz7 | apply qz9 | apply qza | apply qzc )
 | (with_reducible first | refine w_reg (by decide +kernel) fun K1 hK => ?_ | refine w_reg_end (by decide +kernel) fun K1 hK => ?_)
 | ((with_reducible first | apply d_reg_end Try.mix (by decide +kernel)); (case hm => simp only [List.length_cons, List.length_nil, Nat.reduceAdd, Nat.reduceMul]; rfl); (case' h => intro K1 hK))
 | with_reducible refine go_seq ?_
 | ((with_reducible first | apply v_op Try.tab | apply v_op0 Try.tab | apply d_op Try.tab | apply d_op0 Try.tab) <;> first | (intro K' h0 hw; conv => whnf) | (simp only [Nat.reduceAdd, Nat.reduceMul]; rfl))
 | ((with_reducible apply v_nil); (case hm => (simp only [Nat.reduceAdd, Nat.reduceMul]; rfl)); (case' h => with_reducible refine hK _ ?_; clear hK))
 | ((with_reducible apply d_nil); (refine hK _ _ _ _ (by first | (simp only [List.map_cons, List.map_nil, List.nil_append, List.cons_append]; decide +kernel) ) ?_; clear hK))
 | ((with_reducible refine callV_id (f := 124) ?_); have hcs_ := c_frameOwn x1 (hp x1 (List.mem_of_getElem? (by simpa using hx1))); (with_reducible apply callV_f own124 (hcs_)); (case hx => rfl); (case he => rfl); (case hle => first | ((repeat constructor); done) ); (case hpu => repeat constructor); (case' hK => (try clear hcs_); conv => whnf))
 | ((with_reducible apply go_cond); (case hb => rfl))
 | ((with_reducible apply And.intro); (case' right => try (conv => whnf)); (case' left => try first | rfl | decide | (simp [hlen]; done) ))
 | ((with_reducible apply Side.mk); (try simp (disch := omega) only [wrp]); (try simp); (try simp (disch := omega) only [wrp]); (try omega))
 | ((with_reducible refine all_row ?_); (first | intro x1 hx1); conv => whnf)
 | (first  | intro g1; try simp at g1))
  · simp at hx1
    have ht := take_at hx1
    ((refine w_nx ((i + 1)) ?_ ?_ ?_ ?_ ?_ ?_); (case refine_1 => simp [ht, hlen]); (case refine_2 => simp [ht, hlen]); (case refine_3 => simp (disch := omega) [ht, hlen, wrp]); (case refine_4 => simp [ht, hlen]); (case refine_5 => first | (simp; omega) | (simp; done) | omega | (simp only; omega)); (case' refine_6 => (try simp only); (try exact trivial)))
    omega
  · have e : g.take i = g := List.take_of_length_le (by omega)
    have e2 : i = g.length := by omega
    subst e2
    ((first | refine w_retO Try.tab [48] (by rfl) (by simp) (by simp) (fun K' hL => ?_) ?_ ?_ ?_ | refine w_retO_end Try.tab [48] (by rfl) (by simp) (by simp) (fun K' hL => ?_) ?_ ?_ ?_); (conv => whnf); (refine hL _ ?_; clear hL); all_goals simp [e])
def Small (s : Sto) : Prop := s.gs.length ≤ 1000000 ∧ (∀ g ∈ s.gs, g.length ≤ 1000000 ∧ ∀ f ∈ g, f.parts.length ≤ 8796093022208) ∧ s.op.length ≤ 1000000 ∧ ∀ f ∈ s.op, f.parts.length ≤ 8796093022208
set_option maxHeartbeats 1000000 in
theorem c_storeOwn (s : Sto) (hs : Small s) : CSpec Try.prog 128 [.agg (stC s)] [] (.agg [I s.first, .osl 0 1 (rowG s.gs), .osl 1 3 (rowF s.op)]) [.perm 30 1 s.gs.length, .perm 78 3 s.op.length] := by
  obtain ⟨h1, h2, h3, h4⟩ := hs
  refine v_cspec Try.func128 rfl Try.ntmps128 Try.results128 (by simp) (k := 0) rfl ?_
  repeat' (first
 | ((with_reducible apply w_ownCell 128 1 30 1); (case hb => rfl); (case hj => rfl); (case hsz => decide); (case hm => (try simp only [Nat.reduceAdd, Nat.reduceMul]); exact rfl))
 | (with_reducible first | apply qz0 | (refine h0 _ _ ?_; clear h0 hw) | (refine hw _ _ _ ?_; clear h0 hw) | apply qz3 )
 | (with_reducible first | refine w_reg (by decide +kernel) fun K1 hK => ?_ )
 | ((with_reducible first | apply d_reg Try.mix (by decide +kernel) ); (case hm => simp only [List.length_cons, List.length_nil, Nat.reduceAdd, Nat.reduceMul]; rfl); (case' h => intro K1 hK))
 | with_reducible refine go_seq ?_
 | ((with_reducible first | apply v_op Try.tab | apply d_op Try.tab | apply d_op0 Try.tab) <;> first | (intro K' h0 hw; conv => whnf) | (simp only [Nat.reduceAdd, Nat.reduceMul]; rfl))
 | ((with_reducible apply v_nil); (case hm => (simp only [Nat.reduceAdd, Nat.reduceMul]; rfl)); (case' h => with_reducible refine hK _ ?_; clear hK))
 | ((with_reducible apply d_nil); (refine hK _ _ _ _ (by first | (simp only [List.map_cons, List.map_nil, List.nil_append, List.cons_append]; decide +kernel) ) ?_; clear hK))
 | ((with_reducible refine callV_id (f := 75) ?_); have hcs_ := c_groupOwn s.op h3 h4; (with_reducible apply w_callO [] own75 (hcs_)); (case hx => rfl); (case he => rfl); (case hle => first | ((repeat constructor); done) ); (case hm => rfl); (case hnd => decide); (case' hK => (try clear hcs_); conv => whnf); (any_goals (simp; done)))
 | ((with_reducible apply And.intro); (case' right => try (conv => whnf)); (case' left => try first | rfl | decide | (simp; done) ))
 )
  refine w_loop (X := Nat) [5, 15, 16, 17, 18, 19, 20, 21, 22, 23, 24, 25, 26] (fun i => [(15, I i)]) (fun i => [(128, .box [I s.first, .osl 160 1 (rowG (s.gs.take i)), .osl 96 3 (rowF s.op)]), (160, .perm 30 1 i)]) (fun i => i ≤ s.gs.length) (fun i => s.gs.length - i) 0 (by simp) ?_ ?_
  · refine ⟨kt_refl, ko_refl, ?_, ?_, ?_, ?_, Nat.le_refl _⟩ <;> simp
  intro i hi
  have hlen : min i s.gs.length = i := by omega
  have hown : ∀ x1, s.gs[i]? = some x1 → PSpec Try.prog 75 [.agg (grC x1)] (.agg (grC x1)) := fun x1 hx => by
    have := h2 x1 (List.mem_of_getElem? hx)
    exact pspec_of_cspec (c_groupOwn x1 this.1 this.2) (.agg _ _ (.cons _ _ _ _ (.osl _ _ _) .nil)) (.agg _ (.cons _ _ (.sl _ _) .nil))
  repeat' (first
 | (with_reducible first | apply qz0 | (refine h0 _ _ ?_; clear h0 hw) | (refine hw _ _ _ ?_; clear h0 hw) | apply qz1 | apply qz2 | apply qz3 | apply qz4 | apply qz6 | apply qz7 | apply qz9 | apply qza | apply qzc )
 | (with_reducible first | refine w_reg (by decide +kernel) fun K1 hK => ?_ | refine w_reg_end (by decide +kernel) fun K1 hK => ?_)
 | ((with_reducible first | apply d_reg_end Try.mix (by decide +kernel)); (case hm => simp only [List.length_cons, List.length_nil, Nat.reduceAdd, Nat.reduceMul]; rfl); (case' h => intro K1 hK))
 | with_reducible refine go_seq ?_
 | ((with_reducible first | apply v_op Try.tab | apply v_op0 Try.tab | apply d_op Try.tab | apply d_op0 Try.tab) <;> first | (intro K' h0 hw; conv => whnf) | (simp only [Nat.reduceAdd, Nat.reduceMul]; rfl))
 | ((with_reducible apply v_nil); (case hm => (simp only [Nat.reduceAdd, Nat.reduceMul]; rfl)); (case' h => with_reducible refine hK _ ?_; clear hK))
 | ((with_reducible apply d_nil); (refine hK _ _ _ _ (by first | (simp only [List.map_cons, List.map_nil, List.nil_append, List.cons_append]; decide +kernel) ) ?_; clear hK))
 | ((with_reducible refine callV_id (f := 75) ?_); have hcs_ := hown x1 (by simpa using hx1); (with_reducible apply callV_f own75 (hcs_)); (case hx => rfl); (case he => rfl); (case hle => first | ((repeat constructor); done) ); (case hpu => repeat constructor); (case' hK => (try clear hcs_); conv => whnf))
 | ((with_reducible apply go_cond); (case hb => rfl))
 | ((with_reducible apply And.intro); (case' right => try (conv => whnf)); (case' left => try first | rfl | decide | (simp [hlen]; done) ))
 | ((with_reducible apply Side.mk); (try simp (disch := omega) only [wrp]); (try simp); (try simp (disch := omega) only [wrp]); (try omega))
 | ((with_reducible refine all_row ?_); (first | intro x1 hx1); conv => whnf)
 | (first  | intro g1; try simp at g1))
  · simp at hx1
    have ht := take_at hx1
    ((refine w_nx ((i + 1)) ?_ ?_ ?_ ?_ ?_ ?_); (case refine_1 => simp [ht, hlen]); (case refine_2 => simp [ht, hlen]); (case refine_3 => simp (disch := omega) [ht, hlen, wrp]); (case refine_4 => simp [ht, hlen]); (case refine_5 => first | (simp; omega) | (simp; done) | omega | (simp only; omega)); (case' refine_6 => (try simp only); (try exact trivial)))
    omega
  · have e : s.gs.take i = s.gs := List.take_of_length_le (by omega)
    have e2 : i = s.gs.length := by omega
    subst e2
    ((first | refine w_retO Try.tab [160, 96] (by rfl) (by simp) (by simp) (fun K' hL => ?_) ?_ ?_ ?_ | refine w_retO_end Try.tab [160, 96] (by rfl) (by simp) (by simp) (fun K' hL => ?_) ?_ ?_ ?_); (conv => whnf); (refine hL _ ?_; clear hL); all_goals simp [e])
def storeRaw (s : Sto) (f : Fr) : Sto × Bool × Int :=
  if 100000 < (trimS s.first (doneS s.op s.gs f)).1 then (st0, false, 2)
  else (⟨(trimS s.first (doneS s.op s.gs f)).1, (trimS s.first (doneS s.op s.gs f)).2, growS s.op f⟩, decide (s.gs.length < (doneS s.op s.gs f).length), 0)
def stT (r : Sto × Bool × Int) : AV := .tup [.agg (stC r.1), B r.2.1, I r.2.2]
def RightS (s : Sto) : Prop := (0 ≤ s.first ∧ s.first ≤ 100000) ∧ s.gs.length ≤ 5 ∧ (∀ g ∈ s.gs, groupE g = 0) ∧ OkG s.op ∧ full s.gs = false
theorem okG_fits {g : List Fr} (h : OkG g) : Fits g ∧ g.length ≤ 6 := by
  rcases h with h | h
  · subst h; exact ⟨⟨by simp, by simp⟩, by simp⟩
  · exact ⟨right_fits h, (groupE_ok h).2.1⟩
theorem RightS.small {s : Sto} (h : RightS s) : Small s := by
  obtain ⟨_, h2, h3, h4, _⟩ := h
  have h5 := okG_fits h4
  exact ⟨by omega, fun g hg => by have := right_fits (h3 g hg); have h6 := (groupE_ok (h3 g hg)).2.1; exact ⟨by omega, this.2⟩, by omega, h5.1.2⟩
theorem RightS.rg {s : Sto} (h : RightS s) {f : Fr} (hf : frameE f = 0) : Rg (doneS s.op s.gs f) := by
  obtain ⟨_, h2, h3, h4, _⟩ := h
  have := doneS_len s.op s.gs f
  exact ⟨by omega, okG_done h4 h3⟩
theorem storeE_ok {s : Sto} (h : storeE s = 0) : RightS s := by
  unfold storeE at h
  by_cases h1 : ¬ (0 ≤ s.first ∧ s.first ≤ 100000)
  · rw [if_pos h1] at h; cases h
  rw [if_neg h1] at h
  by_cases h2 : 5 < s.gs.length
  · rw [if_pos h2] at h; cases h
  rw [if_neg h2] at h
  by_cases h3 : goS s.gs = 0
  · rw [if_neg (by simp [h3])] at h
    by_cases h4 : full s.gs = true
    · rw [if_pos h4] at h; cases h
    rw [if_neg h4] at h
    refine ⟨by omega, by omega, goS_ok h3, ?_, by simpa using h4⟩
    by_cases h5 : 0 < s.op.length
    · rw [if_pos h5] at h; exact .inr h
    · exact .inl (List.eq_nil_of_length_eq_zero (by omega))
  · rw [if_pos h3] at h; exact absurd h h3
set_option maxHeartbeats 2000000 in
theorem c_storeRaw (s : Sto) (f : Fr) (hs : RightS s) (hf : frameE f = 0) : PSpec Try.prog 106 [.agg (stC s), .agg (frC f)] (stT (storeRaw s f)) := by
  refine v_pspec Try.func106 rfl Try.ntmps106 Try.results106 (by simp) (by repeat constructor) ?_
  have hrg := hs.rg hf
  have hdl := doneS_len s.op s.gs f
  obtain ⟨q1, q2, q3, q4, q5⟩ := hs
  have hfp := (frameE_ok hf).2.2.1
  have hop := (okG_fits q4).2
  rcases (by cases f.key <;> simp : f.key = false ∨ f.key = true) with hk | hk
  · repeat' (first
 | (with_reducible first | apply qz0 | (refine h0 _ _ ?_; clear h0 hw) | (refine hw _ _ _ ?_; clear h0 hw) | apply qz1 | apply qz2 | apply qz5 | apply qz6 | (refine hL _ ?_; clear hL))
 | (with_reducible first | refine w_reg (by decide +kernel) fun K1 hK => ?_ )
 | ((with_reducible first | apply d_reg Try.mix (by decide +kernel) ); (case hm => simp only [List.length_cons, List.length_nil, Nat.reduceAdd, Nat.reduceMul]; rfl); (case' h => intro K1 hK))
 | with_reducible refine go_seq ?_
 | ((with_reducible first | apply v_op Try.tab | apply v_op0 Try.tab | apply d_op Try.tab | apply d_op0 Try.tab) <;> first | (intro K' h0 hw; conv => whnf) | (simp only [Nat.reduceAdd, Nat.reduceMul]; rfl))
 | ((with_reducible apply v_nil); (case hm => (simp only [Nat.reduceAdd, Nat.reduceMul]; rfl)); (case' h => with_reducible refine hK _ ?_; clear hK))
 | ((with_reducible apply d_nil); (refine hK _ _ _ _ (by first | (simp only [List.map_cons, List.map_nil, List.nil_append, List.cons_append]; decide +kernel) ) ?_; clear hK))
 | ((with_reducible refine callV_id (f := 128) ?_); have hcs_ := c_storeOwn s (RightS.small ⟨q1, q2, q3, q4, q5⟩); (with_reducible apply w_callO [] own128 (hcs_)); (case hx => rfl); (case he => rfl); (case hle => first | ((repeat constructor); done) ); (case hm => rfl); (case hnd => decide); (case' hK => (try clear hcs_); conv => whnf); (any_goals (simp [makB]; done)))
 | ((with_reducible refine callV_id (f := 143) ?_); have hcs_ := c_addElse s.op s.gs f hk (by omega) (by omega); (with_reducible apply w_callO [336, 97, 96] own143 (hcs_)); (case hx => rfl); (case he => rfl); (case hle => first | ((repeat constructor); done) ); (case hm => rfl); (case hnd => decide); (case' hK => (try clear hcs_); conv => whnf); (any_goals (simp [makB]; done)))
 | ((with_reducible refine callV_id (f := 116) ?_); have hcs_ := c_trim s.first (doneS s.op s.gs f) (growS s.op f) hrg (by omega); (with_reducible apply w_callO [128] own116 (hcs_)); (case hx => rfl); (case he => rfl); (case hle => first | ((repeat constructor); done) ); (case hm => rfl); (case hnd => decide); (case' hK => (try clear hcs_); conv => whnf); (any_goals (simp [makB]; done)))
 | ((with_reducible apply go_cond); (case hb => rfl))
 | ((with_reducible first | refine w_ret Try.tab fun K' hL => ?_ ); (conv => whnf))
 | ((with_reducible apply And.intro); (case' right => try (conv => whnf)); (case' left => try first | rfl | decide | (simp [makB]; done) ))
 | (first | (guard_hyp g1; intro g2; try simp at g2) | intro g1; try simp at g1))
    · have e : storeRaw s f = (st0, false, 2) := if_pos g1
      rw [e]; simp [stT, st0]
    · have e : storeRaw s f = _ := if_neg (by omega)
      rw [e]; simp [stT]
  · repeat' (first
 | (with_reducible first | apply qz0 | (refine h0 _ _ ?_; clear h0 hw) | (refine hw _ _ _ ?_; clear h0 hw) | apply qz1 | apply qz2 | apply qz5 | apply qz6 | (refine hL _ ?_; clear hL))
 | (with_reducible first | refine w_reg (by decide +kernel) fun K1 hK => ?_ )
 | ((with_reducible first | apply d_reg Try.mix (by decide +kernel) ); (case hm => simp only [List.length_cons, List.length_nil, Nat.reduceAdd, Nat.reduceMul]; rfl); (case' h => intro K1 hK))
 | with_reducible refine go_seq ?_
 | ((with_reducible first | apply v_op Try.tab | apply v_op0 Try.tab | apply d_op Try.tab | apply d_op0 Try.tab) <;> first | (intro K' h0 hw; conv => whnf) | (simp only [Nat.reduceAdd, Nat.reduceMul]; rfl))
 | ((with_reducible apply v_nil); (case hm => (simp only [Nat.reduceAdd, Nat.reduceMul]; rfl)); (case' h => with_reducible refine hK _ ?_; clear hK))
 | ((with_reducible apply d_nil); (refine hK _ _ _ _ (by first | (simp only [List.map_cons, List.map_nil, List.nil_append, List.cons_append]; decide +kernel) ) ?_; clear hK))
 | ((with_reducible refine callV_id (f := 128) ?_); have hcs_ := c_storeOwn s (RightS.small ⟨q1, q2, q3, q4, q5⟩); (with_reducible apply w_callO [] own128 (hcs_)); (case hx => rfl); (case he => rfl); (case hle => first | ((repeat constructor); done) ); (case hm => rfl); (case hnd => decide); (case' hK => (try clear hcs_); conv => whnf); (any_goals (simp [makB]; done)))
 | ((with_reducible refine callV_id (f := 143) ?_); have hcs_ := c_addKey s.op s.gs f hk (by omega) (by omega); (with_reducible apply w_callO [336, 97, 96] own143 (hcs_)); (case hx => rfl); (case he => rfl); (case hle => first | ((repeat constructor); done) ); (case hm => rfl); (case hnd => decide); (case' hK => (try clear hcs_); conv => whnf); (any_goals (simp [makB]; done)))
 | ((with_reducible refine callV_id (f := 116) ?_); have hcs_ := c_trim s.first (doneS s.op s.gs f) (growS s.op f) hrg (by omega); (with_reducible apply w_callO [128] own116 (hcs_)); (case hx => rfl); (case he => rfl); (case hle => first | ((repeat constructor); done) ); (case hm => rfl); (case hnd => decide); (case' hK => (try clear hcs_); conv => whnf); (any_goals (simp [makB]; done)))
 | ((with_reducible apply go_cond); (case hb => rfl))
 | ((with_reducible first | refine w_ret Try.tab fun K' hL => ?_ ); (conv => whnf))
 | ((with_reducible apply And.intro); (case' right => try (conv => whnf)); (case' left => try first | rfl | decide | (simp [makB]; done) ))
 | (first | (guard_hyp g1; intro g2; try simp at g2) | intro g1; try simp at g1))
    · have e : storeRaw s f = (st0, false, 2) := if_pos g1
      rw [e]; simp [stT, st0]
    · have e : storeRaw s f = _ := if_neg (by omega)
      rw [e]; simp [stT]
end Go.Proofs.Ytbhcjgobapnajaa
end
section
namespace Go.Proofs.Ytbhcjgobapnajaa
open Go Go.Sy
set_option maxRecDepth 4000
set_option linter.unusedSimpArgs false
set_option linter.unusedVariables false
attribute [local irreducible] Reg RegD Later Out CallV Tri Side EqV
abbrev allS (s : Sto) : List (List Fr) := withOpen s.gs s.op
set_option maxHeartbeats 1000000 in
theorem c_storeAll (s : Sto) (hl : s.gs.length ≤ 1000000) : PSpec Try.prog 74 [.agg (stC s)] (grs (allS s)) := by
  refine v_pspec Try.func74 rfl Try.ntmps74 Try.results74 (by simp) (by first | exact .s _ | repeat constructor) ?_
  repeat' (first
 | (with_reducible first | apply qz0 | (refine h0 _ _ ?_; clear h0 hw) | (refine hw _ _ _ ?_; clear h0 hw) | apply qz1 | apply qz2 | apply qz5 | apply qz6 | (refine hL _ ?_; clear hL))
 | (with_reducible first | refine w_reg (by decide +kernel) fun K1 hK => ?_ )
 | ((with_reducible first | apply d_reg Try.mix (by decide +kernel) ); (case hm => simp only [List.length_cons, List.length_nil, Nat.reduceAdd, Nat.reduceMul]; rfl); (case' h => intro K1 hK))
 | with_reducible refine go_seq ?_
 | ((with_reducible first | apply v_op Try.tab | apply d_op Try.tab ) <;> first | (intro K' h0 hw; conv => whnf) | (simp only [Nat.reduceAdd, Nat.reduceMul]; rfl))
 | ((with_reducible apply v_nil); (case hm => (simp only [Nat.reduceAdd, Nat.reduceMul]; rfl)); (case' h => with_reducible refine hK _ ?_; clear hK))
 | ((with_reducible apply d_nil); (refine hK _ _ _ _ (by first | (simp only [List.map_cons, List.map_nil, List.nil_append, List.cons_append]; decide +kernel) ) ?_; clear hK))
 | ((with_reducible refine callV_id (f := 123) ?_); have hcs_ := c_cloneGr s.gs (by omega); (with_reducible apply w_callO [] own123 (hcs_)); (case hx => rfl); (case he => rfl); (case hle => first | ((repeat constructor); done) ); (case hm => rfl); (case hnd => decide); (case' hK => (try clear hcs_); conv => whnf); (any_goals (simp; done)))
 | ((with_reducible apply go_cond); (case hb => rfl))
 | ((with_reducible first | refine w_ret Try.tab fun K' hL => ?_ ); (conv => whnf))
 | ((with_reducible apply And.intro); (case' right => try (conv => whnf)); (case' left => try first | rfl | decide | (simp; done) ))
 | ((with_reducible apply Side.mk); (try simp (disch := omega) only [wrp]); (try simp); (try simp (disch := omega) only [wrp]); (try omega))
 | (first | (guard_hyp g1; intro g2; try simp at g2) | intro g1; try simp at g1))
  · simp [allS, withOpen, g1]
  · have := List.length_pos_iff.2 g1
    rw [allS, withOpen, if_pos this]; simp
def headT (g : List Fr) : Int := ((g[0]?).map (·.time)).getD 0
def atUp (l : List (List Fr)) (t : Int) : Nat → Nat
  | 0 => 0
  | i + 1 => if headT (l.getD i []) ≤ t then i else atUp l t i
def findS (s : Sto) (t : Int) : Int × Bool := (s.first + atUp (allS s) t (allS s).length, decide (0 < (allS s).length))
theorem atUp_le (l : List (List Fr)) (t : Int) : ∀ n, atUp l t n ≤ n
  | 0 => Nat.le_refl _
  | n + 1 => by
    rw [atUp]; split
    · omega
    · have := atUp_le l t n; omega
theorem all_len (s : Sto) : (allS s).length ≤ s.gs.length + 1 := by
  unfold allS withOpen; split <;> simp
theorem RightS.all {s : Sto} (h : RightS s) : (allS s).length ≤ 6 ∧ ∀ g ∈ allS s, groupE g = 0 := by
  obtain ⟨_, h2, h3, h4, _⟩ := h
  refine ⟨by have := all_len s; omega, fun g hg => ?_⟩
  unfold allS withOpen at hg
  split at hg
  · rename_i hp
    rcases List.mem_append.1 hg with hg | hg
    · exact h3 g hg
    · simp at hg; subst hg
      rcases h4 with h4 | h4
      · rw [h4] at hp; simp at hp
      · exact h4
  · exact h3 g hg
theorem head_of {g : List Fr} {x : Fr} (h : g[(0 : Int).toNat]? = some x) : headT g = x.time := by
  simp at h
  simp [headT, h]
theorem atUp_yes {l : List (List Fr)} {t : Int} {i : Nat} {g : List Fr} {x : Fr} (hg : l[i]? = some g) (hx : g[(0 : Int).toNat]? = some x) (h : x.time ≤ t) : atUp l t (i + 1) = i := by
  rw [atUp, List.getD_eq_getElem?_getD, hg, if_pos]; simp only [Option.getD_some]; rw [head_of hx]; exact h
theorem atUp_no {l : List (List Fr)} {t : Int} {i : Nat} {g : List Fr} {x : Fr} (hg : l[i]? = some g) (hx : g[(0 : Int).toNat]? = some x) (h : ¬ x.time ≤ t) : atUp l t (i + 1) = atUp l t i := by
  rw [atUp, List.getD_eq_getElem?_getD, hg, if_neg]; simp only [Option.getD_some]; rw [head_of hx]; exact h
set_option maxHeartbeats 1000000 in
theorem c_storeFind (s : Sto) (t : Int) (hs : RightS s) : PSpec Try.prog 121 [.agg (stC s), I t] (.tup [I (findS s t).1, B (findS s t).2]) := by
  refine v_pspec Try.func121 rfl Try.ntmps121 Try.results121 (by simp) (by first | exact .s _ | repeat constructor) ?_
  have hq := hs.all
  have h1 := hs.1
  have hgl := hs.2.1
  have hne : ∀ g, g ∈ allS s → 0 < g.length := fun g hg => List.length_pos_iff.2 (groupE_ok (hq.2 g hg)).1
  repeat' (first
 | (with_reducible first | apply qz0 | (refine h0 _ _ ?_; clear h0 hw) | (refine hw _ _ _ ?_; clear h0 hw) | apply qz3 )
 | (with_reducible first | refine w_reg (by decide +kernel) fun K1 hK => ?_ )
 | with_reducible refine go_seq ?_
 | ((with_reducible first | apply v_op Try.tab ) <;> first | (intro K' h0 hw; conv => whnf) | (simp only [Nat.reduceAdd, Nat.reduceMul]; rfl))
 | ((with_reducible apply v_nil); (case hm => (simp only [Nat.reduceAdd, Nat.reduceMul]; rfl)); (case' h => with_reducible refine hK _ ?_; clear hK))
 | ((with_reducible refine callV_id (f := 74) ?_); have hcs_ := c_storeAll s (by omega); (with_reducible apply callV_f own74 (hcs_)); (case hx => rfl); (case he => rfl); (case hle => first | ((repeat constructor); done) ); (case hpu => repeat constructor); (case' hK => (try clear hcs_); conv => whnf))
 | ((with_reducible apply And.intro); (case' right => try (conv => whnf)); (case' left => try first | rfl | decide | (simp; done) ))
 )
  refine w_loop (X := Nat) [7, 8, 9, 14, 15, 16, 17, 18, 19, 20, 21, 22, 23, 24, 25, 26, 27] (fun i => [(14, I i), (7, I (atUp (allS s) t i))]) (fun _ => []) (fun i => i ≤ (allS s).length) (fun i => (allS s).length - i) 0 (by simp) ?_ ?_
  · refine ⟨kt_refl, ko_refl, ?_, ?_, ?_, ?_, Nat.le_refl _⟩ <;> simp [atUp]
  intro i hi
  have hlu := atUp_le (allS s) t i
  repeat' (first
 | (with_reducible first | apply qz0 | (refine h0 _ _ ?_; clear h0 hw) | (refine hw _ _ _ ?_; clear h0 hw) | apply qz1 | apply qz2 | apply qz3 | apply qz4 | apply qz6 | apply qz7 | apply qz9 | apply qza | apply qzc | (refine hL _ ?_; clear hL))
 | (with_reducible first | refine w_reg (by decide +kernel) fun K1 hK => ?_ | refine w_reg_end (by decide +kernel) fun K1 hK => ?_)
 | with_reducible refine go_seq ?_
 | ((with_reducible first | apply v_op Try.tab | apply v_op0 Try.tab) <;> first | (intro K' h0 hw; conv => whnf) | (simp only [Nat.reduceAdd, Nat.reduceMul]; rfl))
 | ((with_reducible apply v_nil); (case hm => (simp only [Nat.reduceAdd, Nat.reduceMul]; rfl)); (case' h => with_reducible refine hK _ ?_; clear hK))
 | ((with_reducible apply go_cond); (case hb => rfl))
 | ((with_reducible first | refine w_ret Try.tab fun K' hL => ?_ ); (conv => whnf))
 | ((with_reducible apply And.intro); (case' right => try (conv => whnf)); (case' left => try first | rfl | decide | (simp; done) ))
 | ((with_reducible apply Side.mk); (try simp (disch := omega) only [wrp]); (try simp); (try simp (disch := omega) only [wrp]); (try omega))
 | ((with_reducible refine all_row ?_); (first | (guard_hyp hx1; intro x2 hx2) | intro x1 hx1); conv => whnf)
 | (first | (guard_hyp g2; intro g3; try simp at g3) | (guard_hyp g1; intro g2; try simp at g2) | intro g1; try simp at g1))
  all_goals (try simp at hx1)
  · have hg := hne x1 (List.mem_of_getElem? hx1)
    omega
  · have e := atUp_yes hx1 hx2 g2
    ((refine w_nx ((i + 1)) ?_ ?_ ?_ ?_ ?_ ?_); (case refine_1 => simp [e]); (case refine_2 => simp [e]); (case refine_3 => simp (disch := omega) [e, wrp]); (case refine_4 => simp [e]); (case refine_5 => first | (simp; omega) | (simp; done) | omega | (simp only; omega)); (case' refine_6 => (try simp only); (try exact trivial)))
    omega
  · have e : atUp (allS s) t (i + 1) = atUp (allS s) t i := atUp_no hx1 hx2 (by omega)
    ((refine w_nx ((i + 1)) ?_ ?_ ?_ ?_ ?_ ?_); (case refine_1 => simp [e]); (case refine_2 => simp [e]); (case refine_3 => simp (disch := omega) [e, wrp]); (case refine_4 => simp [e]); (case refine_5 => first | (simp; omega) | (simp; done) | omega | (simp only; omega)); (case' refine_6 => (try simp only); (try exact trivial)))
    omega
  · have e : i = (allS s).length := by omega
    subst e
    refine le_of_eq ?_
    simp (disch := omega) [findS, wrp]
def vE1 (s : Sto) (f : Fr) : Int := if storeE s = 0 then frameE f else storeE s
def wE1 (s : Sto) (t : Int) : Int := if storeE s = 0 ∧ (t < 0 ∨ 1000000 < t) then 3 else storeE s
def addS' (s : Sto) (f : Fr) : Sto × Bool × Int := if vE1 s f = 0 then storeRaw s f else (st0, false, vE1 s f)
def seekR (s : Sto) (t : Int) : Int × Bool := if 0 < (allS s).length then (s.first + atUp (allS s) t (allS s).length, true) else (0, false)
def seekS (s : Sto) (t : Int) : Int × Int := if wE1 s t = 0 then ((seekR s t).1, if (seekR s t).2 = true then 0 else 5) else (0, wE1 s t)
def getS (s : Sto) (n : Int) : List Fr × Int := if storeE s = 0 then (if n < s.first ∨ s.first + (allS s).length ≤ n then ([], 5) else ((allS s).getD (n - s.first).toNat [], 0)) else ([], storeE s)
theorem seekR_eq (s : Sto) (t : Int) : seekR s t = if (findS s t).2 = true then findS s t else (0, false) := by
  unfold seekR findS; simp only [decide_eq_true_eq]; split <;> simp_all
theorem vE1_ok {s : Sto} {f : Fr} (h : vE1 s f = 0) : RightS s ∧ frameE f = 0 := by
  unfold vE1 at h
  by_cases h1 : storeE s = 0
  · rw [if_pos h1] at h; exact ⟨storeE_ok h1, h⟩
  · rw [if_neg h1] at h; exact absurd h h1
theorem wE1_ok {s : Sto} {t : Int} (h : wE1 s t = 0) : RightS s ∧ 0 ≤ t ∧ t ≤ 1000000 := by
  unfold wE1 at h
  split at h
  · cases h
  · rename_i h1; exact ⟨storeE_ok h, by omega, by omega⟩
set_option maxHeartbeats 1000000 in
theorem c_storeSeek (s : Sto) (t : Int) (hs : FitsS s) : PSpec Try.prog 72 [.agg (stC s), I t] (.tup [I (seekS s t).1, I (seekS s t).2]) := by
  refine v_pspec Try.func72 rfl Try.ntmps72 Try.results72 (by simp) (by first | exact .s _ | repeat constructor) ?_
  repeat' (first
 | ((first | with_reducible refine w_cut (x := .seq (.region _ _ _) (.cond (.tmp 20) _ _)) (X := Unit) [6, 11, 12, 13, 14, 15, 16, 17, 18, 19, 20] (fun _ => [(6, I (wE1 s t))]) (fun _ => []) (fun _ => True) ?_ ?_); (try (rintro z hz; simp only at hz)))
 | (with_reducible first | apply qz0 | (refine h0 _ _ ?_; clear h0 hw) | (refine hw _ _ _ ?_; clear h0 hw) | apply qz1 | apply qz2 | apply qz5 | apply qz6 | (refine hL _ ?_; clear hL))
 | (with_reducible first | refine w_reg (by decide +kernel) fun K1 hK => ?_ | refine w_reg_end (by decide +kernel) fun K1 hK => ?_)
 | with_reducible refine go_seq ?_
 | ((with_reducible first | apply v_op Try.tab ) <;> first | (intro K' h0 hw; conv => whnf) | (simp only [Nat.reduceAdd, Nat.reduceMul]; rfl))
 | ((with_reducible apply v_nil); (case hm => (simp only [Nat.reduceAdd, Nat.reduceMul]; rfl)); (case' h => with_reducible refine hK _ ?_; clear hK))
 | (first | refine v_grd_yes (by rfl) (by rfl) ?_)
 | ((first | (apply v_grd_no; (case hg => rfl); (case hb => rfl)) | (apply v_grd_undef; (case hg => rfl); (case hb => rfl)) | (apply v_grd; (case hg => rfl); (case hb => rfl))); (case hi => (simp only [Nat.reduceAdd, Nat.reduceMul]; rfl)))
 | ((with_reducible refine callV_id (f := 30) ?_); have hcs_ := c_storeCheck s hs; (with_reducible apply callV_f own30 (hcs_)); (case hx => rfl); (case he => rfl); (case hle => first | ((repeat constructor); done) ); (case hpu => repeat constructor); (case' hK => (try clear hcs_); conv => whnf))
 | ((with_reducible refine callV_id (f := 121) ?_); have hcs_ := c_storeFind s t (wE1_ok (by assumption)).1; (with_reducible apply callV_f own121 (hcs_)); (case hx => rfl); (case he => rfl); (case hle => first | ((repeat constructor); done) ); (case hpu => repeat constructor); (case' hK => (try clear hcs_); conv => whnf))
 | ((with_reducible apply go_cond); (case hb => rfl))
 | ((with_reducible first | refine w_ret Try.tab fun K' hL => ?_ ); (conv => whnf))
 | ((with_reducible apply And.intro); (case' right => try (conv => whnf)); (case' left => try first | rfl | decide | (simp; done) ))
 | (first | (guard_hyp g4; intro g5; try simp at g5; try simp (disch := omega) only [wrp] at g5) | (guard_hyp g3; intro g4; try simp at g4; try simp (disch := omega) only [wrp] at g4) | (guard_hyp g2; intro g3; try simp at g3; try simp (disch := omega) only [wrp] at g3) | (guard_hyp g1; intro g2; try simp at g2; try simp (disch := omega) only [wrp] at g2) | intro g1; try simp at g1; try simp (disch := omega) only [wrp] at g1))
  all_goals try
    (have e : wE1 s t = 3 := if_pos ⟨g1, by omega⟩
     ((refine w_nx (()) ?_ ?_ ?_ ?_ ?_ ?_); (case refine_1 => simp [e]); (case refine_2 => simp [e]); (case refine_3 => simp (disch := omega) [e, wrp]); (case refine_4 => simp [e]); (case refine_5 => first | (simp; omega) | (simp; done) | omega | (simp only; omega)); (case' refine_6 => (try simp only); (try exact trivial)))
     done)
  all_goals try
    (have e : wE1 s t = storeE s := if_neg (by omega)
     ((refine w_nx (()) ?_ ?_ ?_ ?_ ?_ ?_); (case refine_1 => simp [e]); (case refine_2 => simp [e]); (case refine_3 => simp (disch := omega) [e, wrp]); (case refine_4 => simp [e]); (case refine_5 => first | (simp; omega) | (simp; done) | omega | (simp only; omega)); (case' refine_6 => (try simp only); (try exact trivial)))
     done)
  · have e : seekS s t = (0, wE1 s t) := if_neg (by assumption)
    rw [e]; simp
  · have e : seekS s t = _ := if_pos (by assumption)
    rw [e, seekR_eq, if_neg (by simpa using g4)]; simp
  · have e : seekS s t = _ := if_pos (by assumption)
    rw [e, seekR_eq, if_pos g4, if_pos g4]; simp
set_option maxHeartbeats 1000000 in
theorem c_storeGet (s : Sto) (n : Int) (hs : FitsS s) (hn : n ≤ 9223372036854775807) : PSpec Try.prog 31 [.agg (stC s), I n] (.tup [.agg (grC (getS s n).1), I (getS s n).2]) := by
  refine v_pspec Try.func31 rfl Try.ntmps31 Try.results31 (by simp) (by first | exact .s _ | repeat constructor) ?_
  have hown : storeE s = 0 → ∀ {x1 : List Fr} {i : Nat}, (allS s)[i]? = some x1 → PSpec Try.prog 75 [.agg (grC x1)] (.agg (grC x1)) := fun h {x1} {i} hx => by
    have h1 := right_fits ((storeE_ok h).all.2 x1 (List.mem_of_getElem? hx))
    have h2 := (groupE_ok ((storeE_ok h).all.2 x1 (List.mem_of_getElem? hx))).2.1
    exact pspec_of_cspec (c_groupOwn x1 (by omega) h1.2) (.agg _ _ (.cons _ _ _ _ (.osl _ _ _) .nil)) (.agg _ (.cons _ _ (.sl _ _) .nil))
  repeat' (first
 | (with_reducible first | apply qz0 | (refine h0 _ _ ?_; clear h0 hw) | (refine hw _ _ _ ?_; clear h0 hw) | apply qz1 | apply qz2 | apply qz5 | apply qz6 | (refine hL _ ?_; clear hL))
 | (with_reducible first | refine w_reg (by decide +kernel) fun K1 hK => ?_ )
 | with_reducible refine go_seq ?_
 | ((with_reducible first | apply v_op Try.tab | apply v_op0 Try.tab) <;> first | (intro K' h0 hw; conv => whnf) | (simp only [Nat.reduceAdd, Nat.reduceMul]; rfl))
 | ((with_reducible apply v_nil); (case hm => (simp only [Nat.reduceAdd, Nat.reduceMul]; rfl)); (case' h => with_reducible refine hK _ ?_; clear hK))
 | (first | refine v_grd_yes (by rfl) (by rfl) ?_)
 | ((first | (apply v_grd_no; (case hg => rfl); (case hb => rfl)) | (apply v_grd; (case hg => rfl); (case hb => rfl))); (case hi => (simp only [Nat.reduceAdd, Nat.reduceMul]; rfl)))
 | ((with_reducible refine callV_id (f := 30) ?_); have hcs_ := c_storeCheck s hs; (with_reducible apply callV_f own30 (hcs_)); (case hx => rfl); (case he => rfl); (case hle => first | ((repeat constructor); done) ); (case hpu => repeat constructor); (case' hK => (try clear hcs_); conv => whnf))
 | ((with_reducible refine callV_id (f := 74) ?_); have hcs_ := c_storeAll s (by have := (storeE_ok g1).2.1; omega); (with_reducible apply callV_f own74 (hcs_)); (case hx => rfl); (case he => rfl); (case hle => first | ((repeat constructor); done) ); (case hpu => repeat constructor); (case' hK => (try clear hcs_); conv => whnf))
 | ((with_reducible refine callV_id (f := 75) ?_); have hcs_ := hown g1 hx1; (with_reducible apply callV_f own75 (hcs_)); (case hx => rfl); (case he => rfl); (case hle => first | ((repeat constructor); done) ); (case hpu => repeat constructor); (case' hK => (try clear hcs_); conv => whnf))
 | ((with_reducible apply go_cond); (case hb => rfl))
 | ((with_reducible first | refine w_ret Try.tab fun K' hL => ?_ ); (conv => whnf))
 | ((with_reducible apply And.intro); (case' right => try (conv => whnf)); (case' left => try first | rfl | decide | (simp; done) ))
 | ((with_reducible apply Side.mk); (try simp (disch := omega) only [wrp]); (try simp); (try simp (disch := omega) only [wrp]); (try omega))
 | ((with_reducible refine all_row ?_); (first | intro x1 hx1); conv => whnf)
 | (first | (guard_hyp g3; intro g4; try simp at g4; try simp (disch := omega) only [wrp] at g4) | (guard_hyp g2; intro g3; try simp at g3; try simp (disch := omega) only [wrp] at g3) | (guard_hyp g1; intro g2; try simp at g2; try simp (disch := omega) only [wrp] at g2) | intro g1; try simp at g1; try simp (disch := omega) only [wrp] at g1))
  · have e : getS s n = ([], storeE s) := if_neg g1
    rw [e]; simp
  all_goals
    have hq := (storeE_ok g1).all.1
    have h0 := (storeE_ok g1).1
  · rw [wrp (by omega) (by omega)] at g3
    have e : getS s n = ([], 5) := (if_pos g1).trans (if_pos (by omega))
    rw [e]; simp
  · rw [wrp (by omega) (by omega)]; omega
  · rw [wrp (by omega) (by omega)] at g3 ⊢; show Nat.succ _ ≤ _; omega
  · rw [wrp (by omega) (by omega)] at g3 hx1
    have e : getS s n = (x1, 0) := (if_pos g1).trans ((if_neg (by omega)).trans (by rw [List.getD_eq_getElem?_getD, hx1]; rfl))
    rw [e]; simp
  · have e : getS s n = ([], 5) := (if_pos g1).trans (if_pos (by omega))
    rw [e]; simp
end Go.Proofs.Ytbhcjgobapnajaa
end
section
namespace Go.Proofs.Ytbhcjgobapnajaa
open Go Go.Sy
set_option maxRecDepth 4000
set_option linter.unusedSimpArgs false
set_option linter.unusedVariables false
attribute [local irreducible] Reg RegD Later Out CallV Tri Side EqV
theorem Sto.ext' {p q : Sto} (h1 : p.first = q.first) (h2 : p.gs = q.gs) (h3 : p.op = q.op) : p = q := by cases p; cases q; simp_all
instance : DecidableEq Sto := fun p q => decidable_of_iff (p.first = q.first ∧ p.gs = q.gs ∧ p.op = q.op) ⟨fun ⟨h1, h2, h3⟩ => Sto.ext' h1 h2 h3, fun h => by subst h; simp⟩
theorem trimS_drop : ∀ (n : Nat) (first : Int) (l : List (List Fr)), l.length = n → ∃ k : Nat, k ≤ l.length ∧ trimS first l = (first + k, l.drop k) ∧ full (l.drop k) = false ∧ (0 < l.length → k < l.length) ∧ (full l = false → k = 0) := by
  intro n
  induction n with
  | zero => 
    intro first l h
    have : l = [] := List.eq_nil_of_length_eq_zero h
    subst this
    have hf : full [] = false := by decide
    exact ⟨0, by simp, by rw [trimS, dif_neg (by simp [hf])]; simp, by simpa using hf, by simp, fun _ => rfl⟩
  | succ n ih =>
    intro first l h
    by_cases hf : full l = true
    · have hp := full_pos hf
      obtain ⟨k, h1, h2, h3, h4, _⟩ := ih (first + 1) l.tail (by simp; omega)
      refine ⟨k + 1, by simp at h1; omega, ?_, by rw [List.drop_tail] at h3; exact h3, fun _ => by simp at h4; omega, fun h => by rw [hf] at h; cases h⟩
      rw [trimS, dif_pos hf, h2]
      simp; omega
    · refine ⟨0, by omega, by rw [trimS, dif_neg hf]; simp, by simpa using hf, fun _ => by omega, fun _ => rfl⟩
theorem raw_right {s : Sto} {f : Fr} (hs : RightS s) (hf : frameE f = 0) (h : (storeRaw s f).2.2 = 0) : ∃ k : Nat, k ≤ (doneS s.op s.gs f).length ∧ storeRaw s f = (⟨s.first + k, (doneS s.op s.gs f).drop k, growS s.op f⟩, decide (s.gs.length < (doneS s.op s.gs f).length), 0) ∧
    RightS ⟨s.first + k, (doneS s.op s.gs f).drop k, growS s.op f⟩ ∧ (0 < (doneS s.op s.gs f).length → k < (doneS s.op s.gs f).length) ∧ (full (doneS s.op s.gs f) = false → k = 0) := by
  obtain ⟨k, h1, h2, h3, h4, h5⟩ := trimS_drop _ s.first (doneS s.op s.gs f) rfl
  unfold storeRaw at h ⊢
  rw [h2] at h ⊢
  by_cases q : 100000 < s.first + k
  · rw [if_pos q] at h; cases h
  · rw [if_neg q]
    have hrg := hs.rg hf
    obtain ⟨q1, q2, q3, q4, q5⟩ := hs
    refine ⟨k, h1, rfl, ⟨⟨by simp only; omega, by simp only; omega⟩, ?_, fun g hg => hrg.2 g (List.mem_of_mem_drop hg), okG_grow q4 hf, h3⟩, h4, h5⟩
    simp only
    have : ¬ 5 < ((doneS s.op s.gs f).drop k).length := fun hq => by unfold full at h3; simp at h3 hq; omega
    omega
theorem st0_small : Small st0 := ⟨by simp [st0], by simp [st0], by simp [st0], by simp [st0]⟩
theorem raw_small {s : Sto} {f : Fr} (hs : RightS s) (hf : frameE f = 0) : Small (storeRaw s f).1 := by
  by_cases h : (storeRaw s f).2.2 = 0
  · obtain ⟨k, _, h2, h3, _⟩ := raw_right hs hf h
    rw [h2]; exact h3.small
  · unfold storeRaw at h ⊢
    split
    · exact st0_small
    · rename_i q; rw [if_neg q] at h; exact absurd rfl h
theorem add_small (s : Sto) (f : Fr) : Small (addS' s f).1 := by
  unfold addS'
  split
  · rename_i h; exact raw_small (vE1_ok h).1 (vE1_ok h).2
  · exact st0_small
set_option maxHeartbeats 1000000 in
theorem c_storeAdd (s : Sto) (f : Fr) (hs : FitsS s) (hf : f.parts.length ≤ 8796093022208) : PSpec Try.prog 50 [.agg (stC s), .agg (frC f)] (stT (addS' s f)) := by
  refine v_pspec Try.func50 rfl Try.ntmps50 Try.results50 (by simp) (by repeat constructor) ?_
  repeat' (first
 | (with_reducible first | apply qz0 | (refine h0 _ _ ?_; clear h0 hw) | (refine hw _ _ _ ?_; clear h0 hw) | apply qz1 | apply qz2 | apply qz5 | apply qz6 | (refine hL _ ?_; clear hL))
 | (with_reducible first | refine w_reg (by decide +kernel) fun K1 hK => ?_ | refine w_reg_end (by decide +kernel) fun K1 hK => ?_)
 | with_reducible refine go_seq ?_
 | ((with_reducible first | apply v_op Try.tab | apply v_op0 Try.tab) <;> first | (intro K' h0 hw; conv => whnf) | (simp only [Nat.reduceAdd, Nat.reduceMul]; rfl))
 | ((with_reducible apply v_nil); (case hm => (simp only [Nat.reduceAdd, Nat.reduceMul]; rfl)); (case' h => with_reducible refine hK _ ?_; clear hK))
 | ((with_reducible refine callV_id (f := 30) ?_); have hcs_ := c_storeCheck s hs; (with_reducible apply callV_f own30 (hcs_)); (case hx => rfl); (case he => rfl); (case hle => first | ((repeat constructor); done) ); (case hpu => repeat constructor); (case' hK => (try clear hcs_); conv => whnf))
 | ((with_reducible refine callV_id (f := 103) ?_); have hcs_ := c_frameCheck f (by omega); (with_reducible apply callV_f own103 (hcs_)); (case hx => rfl); (case he => rfl); (case hle => first | ((repeat constructor); done) ); (case hpu => repeat constructor); (case' hK => (try clear hcs_); conv => whnf))
 | ((with_reducible refine callV_id (f := 106) ?_); have hcs_ := c_storeRaw s f (storeE_ok g1) (by assumption); (with_reducible apply callV_f own106 (hcs_)); (case hx => rfl); (case he => rfl); (case hle => first | ((repeat constructor); done) ); (case hpu => repeat constructor); (case' hK => (try clear hcs_); conv => whnf))
 | ((with_reducible apply go_cond); (case hb => rfl))
 | ((with_reducible first | refine w_ret Try.tab fun K' hL => ?_ ); (conv => whnf))
 | ((with_reducible apply And.intro); (case' right => try (conv => whnf)); (case' left => try first | rfl | decide | (simp; done) ))
 | exact absurd g2 g1
 | (first | (guard_hyp g2; intro g3; try simp at g3) | (guard_hyp g1; intro g2; try simp at g2) | intro g1; try simp at g1))
  · have e : vE1 s f = frameE f := if_pos g1
    have e2 : addS' s f = (st0, false, frameE f) := by rw [addS', e, if_neg g2]
    rw [e2]; simp [stT, st0]
  · have e : vE1 s f = frameE f := if_pos g1
    have e2 : addS' s f = storeRaw s f := by rw [addS', e, if_pos g2]
    rw [e2]; simp [stT]
  · have e : vE1 s f = storeE s := if_neg g1
    have e2 : addS' s f = (st0, false, storeE s) := by rw [addS', e, if_neg g1]
    rw [e2]; simp [stT, st0]
set_option maxHeartbeats 1000000 in
theorem c_storeAddR (s : Sto) (f : Fr) (hs : RightS s) (hf : frameE f = 0) : PSpec Try.prog 49 [.agg (stC s), .agg (frC f)] (stT (storeRaw s f)) := by
  refine v_pspec Try.func49 rfl Try.ntmps49 Try.results49 (by simp) (by repeat constructor) ?_
  have hrg := hs.rg hf
  have hdl := doneS_len s.op s.gs f
  have hde := doneS_eq s.op s.gs f
  obtain ⟨q1, q2, q3, q4, q5⟩ := hs
  have hop := (okG_fits q4).2
  have hT := c_trimmed _ (doneS s.op s.gs f) s.first rfl hrg (by omega)
  have hR : storeRaw s f = if 100000 < (trimS s.first (doneS s.op s.gs f)).1 then (st0, false, 2) else (⟨(trimS s.first (doneS s.op s.gs f)).1, (trimS s.first (doneS s.op s.gs f)).2, growS s.op f⟩, decide (s.gs.length < (doneS s.op s.gs f).length), 0) := rfl
  by_cases hc : f.key = true ∧ 0 < s.op.length
  · have hd : doneS s.op s.gs f = s.gs ++ [s.op] := if_pos hc
    rw [hd] at hT hR
    have hk : (f.key && decide (0 < s.op.length)) = true := by simp [hc]
    repeat' (first
 | (with_reducible first | apply qz0 | (refine h0 _ _ ?_; clear h0 hw) | (refine hw _ _ _ ?_; clear h0 hw) | apply qz1 | apply qz2 | apply qz5 | apply qz6 | (refine hL _ ?_; clear hL))
 | (with_reducible first | refine w_reg (by decide +kernel) fun K1 hK => ?_ | refine w_reg_end (by decide +kernel) fun K1 hK => ?_)
 | with_reducible refine go_seq ?_
 | ((with_reducible first | apply v_op Try.tab | apply v_op0 Try.tab) <;> first | (intro K' h0 hw; conv => whnf) | (simp only [Nat.reduceAdd, Nat.reduceMul]; rfl))
 | ((with_reducible apply v_nil); (case hm => (simp only [Nat.reduceAdd, Nat.reduceMul]; rfl)); (case' h => with_reducible refine hK _ ?_; clear hK))
 | ((with_reducible refine callV_id (f := 105) ?_); have hcs_ := c_growOf s.op f hop; (with_reducible apply callV_f own105 (hcs_)); (case hx => rfl); (case he => rfl); (case hle => first | ((repeat constructor); done) ); (case hpu => repeat constructor); (case' hK => (try clear hcs_); conv => whnf))
 | ((with_reducible refine callV_id (f := 68) ?_); (with_reducible apply callV_f own68 (hT)); (case hx => rfl); (case he => rfl); (case hle => first | (simp [growT, hk]; done)); (case hpu => repeat constructor); (case' hK => conv => whnf))
 | ((with_reducible apply go_cond); (case hb => rfl))
 | ((with_reducible first | refine w_ret Try.tab fun K' hL => ?_ ); (conv => whnf))
 | ((with_reducible apply And.intro); (case' right => try (conv => whnf)); (case' left => try first | rfl | decide | (simp [growT, hk]; done) ))
 | ((with_reducible apply Side.mk); (try simp (disch := omega) only [wrp]); (try simp); (try simp (disch := omega) only [wrp]); (try omega))
 | (first | (guard_hyp g2; intro g3; try simp at g3) | (guard_hyp g1; intro g2; try simp at g2) | intro g1; try simp at g1))
    · rw [hR, if_pos g2]; simp [stT, st0]
    · rw [hR, if_neg (by omega)]; simp [stT, hk]
    · exact absurd (g1 hc.1) (List.length_pos_iff.1 hc.2)
  · have hd : doneS s.op s.gs f = s.gs := if_neg hc
    rw [hd] at hT hR
    have hk : (f.key && decide (0 < s.op.length)) = false := by simp at hc ⊢; intro h; simp [hc h]
    repeat' (first
 | (with_reducible first | apply qz0 | (refine h0 _ _ ?_; clear h0 hw) | (refine hw _ _ _ ?_; clear h0 hw) | apply qz1 | apply qz2 | apply qz5 | apply qz6 | (refine hL _ ?_; clear hL))
 | (with_reducible first | refine w_reg (by decide +kernel) fun K1 hK => ?_ | refine w_reg_end (by decide +kernel) fun K1 hK => ?_)
 | with_reducible refine go_seq ?_
 | ((with_reducible first | apply v_op Try.tab | apply v_op0 Try.tab) <;> first | (intro K' h0 hw; conv => whnf) | (simp only [Nat.reduceAdd, Nat.reduceMul]; rfl))
 | ((with_reducible apply v_nil); (case hm => (simp only [Nat.reduceAdd, Nat.reduceMul]; rfl)); (case' h => with_reducible refine hK _ ?_; clear hK))
 | ((with_reducible refine callV_id (f := 105) ?_); have hcs_ := c_growOf s.op f hop; (with_reducible apply callV_f own105 (hcs_)); (case hx => rfl); (case he => rfl); (case hle => first | ((repeat constructor); done) ); (case hpu => repeat constructor); (case' hK => (try clear hcs_); conv => whnf))
 | ((with_reducible refine callV_id (f := 68) ?_); (with_reducible apply callV_f own68 (hT)); (case hx => rfl); (case he => rfl); (case hle => first | ((repeat constructor); done) ); (case hpu => repeat constructor); (case' hK => conv => whnf))
 | ((with_reducible apply go_cond); (case hb => rfl))
 | ((with_reducible first | refine w_ret Try.tab fun K' hL => ?_ ); (conv => whnf))
 | ((with_reducible apply And.intro); (case' right => try (conv => whnf)); (case' left => try first | rfl | decide | (simp [growT, hk]; done) ))
 | ((with_reducible apply Side.mk); (try simp (disch := omega) only [wrp]); (try simp); (try simp (disch := omega) only [wrp]); (try omega))
 | (first | (guard_hyp g2; intro g3; try simp at g3) | (guard_hyp g1; intro g2; try simp at g2) | intro g1; try simp at g1))
    · exact absurd g1 hc
    · rw [hR, if_pos g2]; simp [stT, st0]
    · rw [hR, if_neg (by omega)]; simp [stT, hk]
set_option maxHeartbeats 1000000 in
theorem c_sameStore (a b : Sto) (ha : Small a) : PSpec Try.prog 28 [.agg (stC a), .agg (stC b)] (B (decide (a = b))) := by
  refine v_pspec Try.func28 rfl Try.ntmps28 Try.results28 (by simp) (by first | exact .s _ | repeat constructor) ?_
  repeat' (first
 | (with_reducible first | apply qz0 | (refine h0 _ _ ?_; clear h0 hw) | (refine hw _ _ _ ?_; clear h0 hw) | apply qz1 | (refine hL _ ?_; clear hL))
 | (with_reducible first | refine w_reg (by decide +kernel) fun K1 hK => ?_ )
 | ((with_reducible first | apply v_op Try.tab ) <;> first | (intro K' h0 hw; conv => whnf) | (simp only [Nat.reduceAdd, Nat.reduceMul]; rfl))
 | ((with_reducible apply v_nil); (case hm => (simp only [Nat.reduceAdd, Nat.reduceMul]; rfl)); (case' h => with_reducible refine hK _ ?_; clear hK))
 | (first | refine v_grd_yes (by rfl) (by rfl) ?_)
 | ((first | (apply v_grd_no; (case hg => rfl); (case hb => rfl)) | (apply v_grd; (case hg => rfl); (case hb => rfl))); (case hi => (simp only [Nat.reduceAdd, Nat.reduceMul]; rfl)))
 | ((with_reducible refine callV_id (f := 69) ?_); have hcs_ := c_sameGroups a.gs b.gs (by have := ha.1; omega) (fun g hg => ⟨by have := (ha.2.1 g hg).1; omega, fun f hf => by have := (ha.2.1 g hg).2 f hf; omega⟩); (with_reducible apply callV_f own69 (hcs_)); (case hx => rfl); (case he => rfl); (case hle => first | ((repeat constructor); done) ); (case hpu => repeat constructor); (case' hK => (try clear hcs_); conv => whnf))
 | ((with_reducible refine callV_id (f := 15) ?_); have hcs_ := c_sameFrames a.op b.op (by have := ha.2.2.1; omega) (fun f hf => by have := ha.2.2.2 f hf; omega); (with_reducible apply callV_f own15 (hcs_)); (case hx => rfl); (case he => rfl); (case hle => first | ((repeat constructor); done) ); (case hpu => repeat constructor); (case' hK => (try clear hcs_); conv => whnf))
 | ((with_reducible first | refine w_ret Try.tab fun K' hL => ?_ ); (conv => whnf))
 | ((with_reducible apply And.intro); (case' right => try (conv => whnf)); (case' left => try first | rfl | decide | (simp; done) ))
 | (first | (guard_hyp g2; intro g3; try simp at g3) | (guard_hyp g1; intro g2; try simp at g2) | intro g1; try simp at g1))
  · refine le_of_eq (congrArg B ?_)
    rw [Bool.eq_iff_iff]; simp
    exact ⟨fun h => Sto.ext' g1 g2 h, fun h => by rw [h]⟩
  all_goals
    refine le_of_eq (congrArg B ?_)
    simp; intro h; subst h; simp_all
def shelf : Sto := ⟨3, [[pic 10 true, pic 12 false], [pic 20 true]], [pic 30 true]⟩
set_option maxHeartbeats 1000000 in
theorem c_shelf : PSpec Try.prog 70 [] (.agg (stC shelf)) := by
  refine v_pspec Try.func70 rfl Try.ntmps70 Try.results70 (by simp) (by first | exact .s _ | repeat constructor) ?_
  repeat' (first
 | (with_reducible first | apply qz0 | (refine h0 _ _ ?_; clear h0 hw) | (refine hw _ _ _ ?_; clear h0 hw) | apply qz1 | (refine hL _ ?_; clear hL))
 | (with_reducible first | refine w_reg (by decide +kernel) fun K1 hK => ?_ )
 | ((with_reducible first | apply v_op Try.tab | apply v_op0 Try.tab) <;> first | (intro K' h0 hw; conv => whnf) | (simp only [Nat.reduceAdd, Nat.reduceMul]; rfl))
 | ((with_reducible apply v_nil); (case hm => (simp only [Nat.reduceAdd, Nat.reduceMul]; rfl)); (case' h => with_reducible refine hK _ ?_; clear hK))
 | ((with_reducible refine callV_id (f := 71) ?_); (with_reducible apply callV_f own71 (c_pic _ _)); (case hx => rfl); (case he => rfl); (case hle => first | ((repeat constructor); done) ); (case hpu => repeat constructor); (case' hK => conv => whnf))
 | ((with_reducible first | refine w_ret Try.tab fun K' hL => ?_ ); (conv => whnf))
 | ((with_reducible apply And.intro); (case' right => try (conv => whnf)); (case' left => try first | rfl | decide ))
 )
  simp [shelf, pic]
theorem shelf_small : Small shelf := ⟨by decide, by decide, by decide, by decide⟩
theorem Small.fits {s : Sto} (h : Small s) : FitsS s := by
  obtain ⟨h1, h2, h3, h4⟩ := h
  exact ⟨by omega, fun g hg => ⟨by have := (h2 g hg).1; omega, (h2 g hg).2⟩, ⟨by omega, h4⟩⟩
theorem sb1 : PSpec Try.prog 50 [.agg (stC shelf), .agg (frC (pic 40 true))] (stT (⟨3, [[pic 10 true, pic 12 false], [pic 20 true], [pic 30 true]], [pic 40 true]⟩, true, 0)) := by
  have h := c_storeAdd shelf (pic 40 true) shelf_small.fits (by decide)
  rwa [show addS' shelf (pic 40 true) = (⟨3, [[pic 10 true, pic 12 false], [pic 20 true], [pic 30 true]], [pic 40 true]⟩, true, 0) by decide +kernel] at h
theorem sb2 : PSpec Try.prog 72 [.agg (stC shelf), I 25] (.tup [I 4, I 0]) := by
  have h := c_storeSeek shelf 25 shelf_small.fits
  rwa [show seekS shelf 25 = (4, 0) by decide +kernel] at h
theorem sb3 : PSpec Try.prog 31 [.agg (stC shelf), I 5] (.tup [.agg (grC [pic 30 true]), I 0]) := by
  have h := c_storeGet shelf 5 shelf_small.fits (by decide)
  rwa [show getS shelf 5 = ([pic 30 true], 0) by decide +kernel] at h
theorem sb4 : PSpec Try.prog 31 [.agg (stC shelf), I 6] (.tup [.agg (grC []), I 5]) := by
  have h := c_storeGet shelf 6 shelf_small.fits (by decide)
  rwa [show getS shelf 6 = ([], 5) by decide +kernel] at h
theorem sb5 : PSpec Try.prog 30 [.agg (stC shelf)] (I 0) := by
  have h := c_storeCheck shelf shelf_small.fits
  rwa [show storeE shelf = 0 by decide +kernel] at h
theorem sb6 : PSpec Try.prog 15 [frs [pic 30 true], frs [pic 30 true]] (B true) := by
  have h := c_sameFrames [pic 30 true] [pic 30 true] (by decide) (by decide)
  rwa [show decide ([pic 30 true] = [pic 30 true]) = true by simp] at h
set_option maxHeartbeats 2000000 in
theorem c_storeBegun : PSpec Try.prog 29 [] (B true) := by
  refine v_pspec Try.func29 rfl Try.ntmps29 Try.results29 (by simp) (by first | exact .s _ | repeat constructor) ?_
  repeat' (first
 | (with_reducible first | apply qz0 | (refine h0 _ _ ?_; clear h0 hw) | (refine hw _ _ _ ?_; clear h0 hw) | apply qz1 | (refine hL _ ?_; clear hL))
 | (with_reducible first | refine w_reg (by decide +kernel) fun K1 hK => ?_ )
 | ((with_reducible first | apply d_reg Try.mix (by decide +kernel) ); (case hm => simp only [List.length_cons, List.length_nil, Nat.reduceAdd, Nat.reduceMul]; rfl); (case' h => intro K1 hK))
 | ((with_reducible first | apply v_op Try.tab | apply v_op0 Try.tab | apply d_op Try.tab ) <;> first | (intro K' h0 hw; conv => whnf) | (simp only [Nat.reduceAdd, Nat.reduceMul]; rfl))
 | ((with_reducible apply v_nil); (case hm => (simp only [Nat.reduceAdd, Nat.reduceMul]; rfl)); (case' h => with_reducible refine hK _ ?_; clear hK))
 | ((with_reducible apply d_nil); (refine hK _ _ _ _ (by first | decide +kernel ) ?_; clear hK))
 | (first | refine d_grd_yes (by rfl) (by rfl) ?_ )
 | ((with_reducible refine callV_id (f := 70) ?_); (with_reducible apply callV_f own70 (c_shelf)); (case hx => rfl); (case he => rfl); (case hle => first | ((repeat constructor); done) ); (case hpu => repeat constructor); (case' hK => conv => whnf))
 | ((with_reducible refine callV_id (f := 71) ?_); (with_reducible apply callV_f own71 (c_pic _ _)); (case hx => rfl); (case he => rfl); (case hle => first | ((repeat constructor); done) ); (case hpu => repeat constructor); (case' hK => conv => whnf))
 | ((with_reducible refine callV_id (f := 50) ?_); (with_reducible apply callV_f own50 (sb1)); (case hx => rfl); (case he => rfl); (case hle => first | ((repeat constructor); done) ); (case hpu => repeat constructor); (case' hK => conv => whnf))
 | ((with_reducible refine callV_id (f := 72) ?_); (with_reducible apply callV_f own72 (sb2)); (case hx => rfl); (case he => rfl); (case hle => first | ((repeat constructor); done) ); (case hpu => repeat constructor); (case' hK => conv => whnf))
 | ((with_reducible refine callV_id (f := 31) ?_); (with_reducible apply callV_f own31 (sb3)); (case hx => rfl); (case he => rfl); (case hle => first | ((repeat constructor); done) ); (case hpu => repeat constructor); (case' hK => conv => whnf))
 | ((with_reducible refine callV_id (f := 31) ?_); (with_reducible apply callV_f own31 (sb4)); (case hx => rfl); (case he => rfl); (case hle => first | ((repeat constructor); done) ); (case hpu => repeat constructor); (case' hK => conv => whnf))
 | ((with_reducible refine callV_id (f := 30) ?_); (with_reducible apply callV_f own30 (sb5)); (case hx => rfl); (case he => rfl); (case hle => first | ((repeat constructor); done) ); (case hpu => repeat constructor); (case' hK => conv => whnf))
 | ((with_reducible refine callV_id (f := 15) ?_); (with_reducible apply callV_f own15 (sb6)); (case hx => rfl); (case he => rfl); (case hle => first | ((repeat constructor); done) ); (case hpu => repeat constructor); (case' hK => conv => whnf))
 | ((with_reducible first | refine w_ret Try.tab fun K' hL => ?_ ); (conv => whnf))
 | ((with_reducible apply And.intro); (case' right => try (conv => whnf)); (case' left => try first | rfl | decide ))
 )
  exact le_of_eq rfl
set_option maxHeartbeats 2000000 in
theorem c_storeIs (s : Sto) (e w : Int) (want : Sto) (hs : Small s) : PSpec Try.prog 27 [.agg (stC s), I e, I w, .agg (stC want)] (B (decide (e = w) && decide (s = if w = 0 then want else st0))) := by
  refine v_pspec Try.func27 rfl Try.ntmps27 Try.results27 (by simp) (by first | exact .s _ | repeat constructor) ?_
  repeat' (first
 | (with_reducible first | apply qz0 | (refine h0 _ _ ?_; clear h0 hw) | (refine hw _ _ _ ?_; clear h0 hw) | apply qz1 | apply qz2 | apply qz6 | (refine hL _ ?_; clear hL))
 | (with_reducible first | refine w_reg (by decide +kernel) fun K1 hK => ?_ | refine w_reg_end (by decide +kernel) fun K1 hK => ?_)
 | with_reducible refine go_seq ?_
 | ((with_reducible first | apply v_op Try.tab | apply v_op0 Try.tab) <;> first | (intro K' h0 hw; conv => whnf) | (simp only [Nat.reduceAdd, Nat.reduceMul]; rfl))
 | ((with_reducible apply v_nil); (case hm => (simp only [Nat.reduceAdd, Nat.reduceMul]; rfl)); (case' h => with_reducible refine hK _ ?_; clear hK))
 | (first | refine v_grd_yes (by rfl) (by rfl) ?_)
 | ((first | (apply v_grd_no; (case hg => rfl); (case hb => rfl)) | (apply v_grd; (case hg => rfl); (case hb => rfl))); (case hi => (simp only [Nat.reduceAdd, Nat.reduceMul]; rfl)))
 | ((with_reducible refine callV_id (f := 28) ?_); have hcs_ := c_sameStore s want hs; (with_reducible apply callV_f own28 (hcs_)); (case hx => rfl); (case he => rfl); (case hle => first | ((repeat constructor); done) ); (case hpu => repeat constructor); (case' hK => (try clear hcs_); conv => whnf))
 | ((with_reducible refine callV_id (f := 28) ?_); have hcs_ := c_sameStore s st0 hs; (with_reducible apply callV_f own28 (hcs_)); (case hx => rfl); (case he => rfl); (case hle => first | ((repeat constructor); done) ); (case hpu => repeat constructor); (case' hK => (try clear hcs_); conv => whnf))
 | ((with_reducible apply go_cond); (case hb => rfl))
 | ((with_reducible first | refine w_ret Try.tab fun K' hL => ?_ ); (conv => whnf))
 | ((with_reducible apply And.intro); (case' right => try (conv => whnf)); (case' left => try first | rfl | decide | (simp; done) ))
 | (first | (guard_hyp g2; intro g3; try simp at g3) | (guard_hyp g1; intro g2; try simp at g2) | intro g1; try simp at g1))
  all_goals simp [g1, g2]
  intro h; exact absurd (h.trans g1.symm) g2
theorem addS_err {s : Sto} {f : Fr} (h : ¬ (addS' s f).2.2 = 0) : (addS' s f).1 = st0 ∧ (addS' s f).2.1 = false := by
  unfold addS' at h ⊢
  split
  · rename_i q
    rw [if_pos q] at h
    unfold storeRaw at h ⊢
    split
    · simp
    · rename_i q2; rw [if_neg q2] at h; exact absurd rfl h
  · simp
theorem c_storeIs' (s : Sto) (f : Fr) : PSpec Try.prog 27 [.agg (stC (addS' s f).1), I (addS' s f).2.2, I (addS' s f).2.2, .agg (stC (addS' s f).1)] (B true) := by
  have h := c_storeIs (addS' s f).1 (addS' s f).2.2 (addS' s f).2.2 (addS' s f).1 (add_small s f)
  have e : (decide ((addS' s f).2.2 = (addS' s f).2.2) && decide ((addS' s f).1 = if (addS' s f).2.2 = 0 then (addS' s f).1 else st0)) = true := by
    by_cases q : (addS' s f).2.2 = 0
    · simp [q]
    · simp [q, addS_err q]
  rwa [e] at h
theorem getS_small (s : Sto) (n : Int) : (getS s n).1.length ≤ 6 ∧ ∀ f ∈ (getS s n).1, f.parts.length ≤ 8796093022208 := by
  unfold getS
  split
  · rename_i h
    split
    · simp
    · have hr := (storeE_ok h).all.2
      have hin : ∀ i, (allS s).getD i [] ∈ allS s ∨ (allS s).getD i [] = [] := fun i => by
        rw [List.getD_eq_getElem?_getD]
        cases hq : (allS s)[i]? with
        | none => right; rfl
        | some x => left; exact List.mem_of_getElem? hq
      rcases hin (n - s.first).toNat with h1 | h1
      · have h2 := groupE_ok (hr _ h1)
        exact ⟨h2.2.1, (right_fits (hr _ h1)).2⟩
      · simp only [h1]; simp
  · simp
end Go.Proofs.Ytbhcjgobapnajaa
end

/- buffer.Raw, Put, Empty, Flush, walked. No condition. -/
import Derived.Test.YtokkencbpmjdaaaGreatBuA
section
namespace Go.Proofs.YtokkencbpmjdaaaGreat
open Go Go.Sy
set_option maxRecDepth 4000
set_option linter.unusedSimpArgs false
set_option linter.unusedVariables false
attribute [local irreducible] Reg RegD Later Out CallV Tri Side EqV Pause
def insS (l : List Slt) (x : Slt) : List Slt := insL l (posS l x.n) x
def hasS (l : List Slt) (n : Int) : Bool := decide (∃ y ∈ l, y.n = n)
def bnxS (b : Bf) (x : Slt) : Int := if b.next = 0 then x.n else b.next
def rawB (b : Bf) (x : Slt) : Int × List Slt × List Slt := if bnxS b x ≤ x.n ∧ hasS b.held x.n = false then relS 4 (bnxS b x) (insS b.held x) [] else (bnxS b x, b.held, [])
theorem heldE_ok : ∀ {l : List Slt} {a : Int}, heldE a l = 0 → (∀ x ∈ l, sltE x = 0 ∧ a < x.n) ∧ l.Pairwise fun x y => x.n < y.n
  | [], a, _ => by simp
  | x :: l, a, h => by
    unfold heldE at h
    by_cases c : sltE x = 0
    · rw [if_neg (by simp [c])] at h
      by_cases c2 : x.n ≤ a
      · rw [if_pos c2] at h; cases h
      · rw [if_neg c2] at h
        obtain ⟨h1, h2⟩ := heldE_ok h
        refine ⟨fun y hy => ?_, List.pairwise_cons.2 ⟨fun y hy => (h1 y hy).2, h2⟩⟩
        rcases List.mem_cons.1 hy with rfl | hy
        · exact ⟨c, by omega⟩
        · exact ⟨(h1 y hy).1, by have := (h1 y hy).2; omega⟩
    · rw [if_pos c] at h; exact absurd h c
theorem bufE_ok {b : Bf} (h : bufE b = 0) : (b.next = 0 ∧ b.held = [] ∨ 65536 ≤ b.next ∧ b.next ≤ 1000000001) ∧ b.held.length ≤ 4 ∧ (∀ x ∈ b.held, sltE x = 0 ∧ b.next < x.n) ∧ b.held.Pairwise fun x y => x.n < y.n := by
  unfold bufE at h
  by_cases c1 : b.next ≠ 0 ∧ (b.next < 65536 ∨ 1000000001 < b.next)
  · rw [if_pos c1] at h; cases h
  rw [if_neg c1] at h
  by_cases c2 : 4 < b.held.length
  · rw [if_pos c2] at h; cases h
  rw [if_neg c2] at h
  by_cases c3 : heldE b.next b.held = 0
  · rw [if_neg (by simp [c3])] at h
    obtain ⟨h1, h2⟩ := heldE_ok c3
    refine ⟨?_, by omega, h1, h2⟩
    by_cases c4 : b.next = 0 ∧ 0 < b.held.length
    · rw [if_pos c4] at h; cases h
    · by_cases c5 : b.next = 0
      · exact .inl ⟨c5, List.length_eq_zero_iff.1 (by omega)⟩
      · exact .inr (by omega)
  · rw [if_pos c3] at h; exact absurd h c3
theorem insS_len (l : List Slt) (x : Slt) : (insS l x).length = l.length + 1 := by
  have := posS_le l x.n
  unfold insS insL; simp; omega
theorem insS_mem {l : List Slt} {x a : Slt} (h : a ∈ insS l x) : a = x ∨ a ∈ l := by
  unfold insS insL at h
  simp only [List.append_assoc, List.mem_append, List.mem_singleton] at h
  rcases h with h | h | h
  · exact .inr (List.mem_of_mem_take h)
  · exact .inl h
  · exact .inr (List.mem_of_mem_drop h)
set_option maxHeartbeats 2000000 in
theorem c_bufRaw (b : Bf) (x : Slt) (hb : bufE b = 0) (hx : sltE x = 0) : PSpec Tryz.prog 107 [.agg (bfC b), .agg (sltC x)] (relT (rawB b x)) := by
  obtain ⟨p1, p2, p3, p4⟩ := bufE_ok hb
  have px := (sltE_ok hx).1
  have hh : ∀ a ∈ b.held, 0 ≤ a.n ∧ a.n ≤ 1000000000000 := fun a ha => by have := (sltE_ok (p3 a ha).1).1; omega
  have hn : 0 ≤ bnxS b x ∧ bnxS b x ≤ 1000000000000 := by unfold bnxS; split <;> omega
  have hi : ∀ a ∈ insS b.held x, 0 ≤ a.n ∧ a.n ≤ 1000000000000 := fun a ha => by
    rcases insS_mem ha with rfl | h
    · omega
    · exact hh a h
  have hbs := c_binary b.held x.n (by omega) (by omega) hh p4
  by_cases hc : bnxS b x ≤ x.n ∧ hasS b.held x.n = false
  · have hsk := c_skip 4 (bnxS b x) (insS b.held x) [] (by rw [insS_len]; simp; omega) (by omega) hn hi
    rw [rawB, if_pos hc]
    by_cases hp : posS b.held x.n = b.held.length
    · have he : insS b.held x = b.held ++ [x] := by unfold insS insL; rw [hp]; simp
      rw [he] at hsk ⊢
      have hin := c_insEnd b.held x (by omega)
      rw [hp] at hbs
      refine p_pspec Tryz.func107 Tryz.ntmps107 Tryz.results107 ?_
      repeat' (first
 | ((with_reducible apply w_ownCell 80 2 102 7); (case hb => rfl); (case hj => rfl); (case hsz => decide); (case hm => (try simp only [Nat.reduceAdd, Nat.reduceMul]); exact rfl))
 | ((first | with_reducible refine w_cut (x := .seq (.region _ _ _) (.cond (.tmp 16) _ _)) (X := Unit) [11, 12, 13, 14, 15, 16, 17, 18, 19, 20, 21, 22] (fun _ => []) (fun _ => [(80, .box [I (bnxS b x), .osl 81 7 (rowL b.held), .osl 112 7 []])]) (fun _ => True) ?_ ?_); (try (rintro z hz; simp only at hz)))
 | (with_reducible first | apply qz0 | (refine h0 _ _ ?_; clear h0 hw) | (refine hw _ _ _ ?_; clear h0 hw) | apply qz1 | apply qz2 | apply qz6 | (refine hL _ ?_; clear hL))
 | refine p_reg fun K1 hK => ?_ | refine p_regE fun K1 hK => ?_
 | refine p_dreg Tryz.mix fun K1 hK => ?_
 | apply go_seq
 | ((first | refine p_op Tryz.tab fun K' h0 hw => ?_ | refine p_op0 Tryz.tab fun K' h0 hw => ?_ | refine p_dop Tryz.tab fun K' h0 hw => ?_ | refine p_dop0 Tryz.tab fun K' h0 hw => ?_); conv => whnf)
 | (refine p_nil (hK _ ?_); clear hK)
 | (refine d_nil (p_obj ?_ (hK _ _ _ _)); clear hK)
 | (first | refine d_grd_yes (by rfl) (by rfl) ?_ )
 | ((first | (apply d_grd_no; (case hg => rfl); (case hb => rfl)) | (apply d_grd; (case hg => rfl); (case hb => rfl)) ); (case hi => (simp only [Nat.reduceAdd, Nat.reduceMul]; rfl)))
 | ((with_reducible refine callV_id (f := 73) ?_); have hcs_ := c_own b (by omega); (with_reducible apply w_callO [] own73 (hcs_)); (case hx => rfl); (case he => rfl); (case hle => first | ((repeat constructor); done) ); (case hm => rfl); (case hnd => decide); (case' hK => (try clear hcs_); conv => whnf); (any_goals (simp; done)))
 | ((with_reducible refine callV_id (f := 124) ?_); (with_reducible apply w_callO [] own124 (hbs)); (case hx => rfl); (case he => rfl); (case hle => first | ((repeat constructor); done) ); (case hm => rfl); (case hnd => decide); (case' hK => conv => whnf); (any_goals (simp; done)))
 | ((with_reducible refine callV_id (f := 126) ?_); (with_reducible apply w_callO [81, 656] own126 (hin)); (case hx => rfl); (case he => rfl); (case hle => first | ((repeat constructor); done) ); (case hm => rfl); (case hnd => decide); (case' hK => conv => whnf); (any_goals (simp; done)))
 | ((with_reducible refine callV_id (f := 74) ?_); (with_reducible apply w_callO [80, 112] own74 (hsk)); (case hx => rfl); (case he => rfl); (case hle => first | ((repeat constructor); done) ); (case hm => rfl); (case hnd => decide); (case' hK => conv => whnf); (any_goals (simp; done)))
 | ((with_reducible apply go_cond); (case hb => rfl))
 | ((with_reducible first | refine w_ret Tryz.tab fun K' hL => ?_ ); (conv => whnf))
 | ((with_reducible apply And.intro); (case' right => try (conv => whnf)); (case' left => try first | rfl | decide | (simp; done) ))
 | (first | (guard_hyp g4; intro g5; try simp at g5) | (guard_hyp g3; intro g4; try simp at g4) | (guard_hyp g2; intro g3; try simp at g3) | (guard_hyp g1; intro g2; try simp at g2) | intro g1; try simp at g1))
      · have e : bnxS b x = x.n := if_pos g1
        ((refine w_nx (()) ?_ ?_ ?_ ?_ ?_ ?_); (case refine_1 => simp [e]); (case refine_2 => simp [e]); (case refine_3 => simp (disch := omega) [e, wrp]); (case refine_4 => simp [e]); (case refine_5 => first | (simp; omega) | (simp; done) | omega | (simp only; omega)); (case' refine_6 => (try simp only); (try exact trivial)))
      · have e : bnxS b x = b.next := if_neg g1
        ((refine w_nx (()) ?_ ?_ ?_ ?_ ?_ ?_); (case refine_1 => simp [e]); (case refine_2 => simp [e]); (case refine_3 => simp (disch := omega) [e, wrp]); (case refine_4 => simp [e]); (case refine_5 => first | (simp; omega) | (simp; done) | omega | (simp only; omega)); (case' refine_6 => (try simp only); (try exact trivial)))
      · repeat constructor
      · exact absurd g4 (by simpa [hasS] using hc.2)
      · exfalso; omega
    · have he : insS b.held x = insL b.held (posS b.held x.n) x := rfl
      have hpl := posS_le b.held x.n
      have hpl2 : posS b.held x.n < b.held.length := by omega
      have hins := fun cap => c_ins b.held (posS b.held x.n) x cap hpl2 (by omega)
      rw [he] at hsk ⊢
      refine p_pspec Tryz.func107 Tryz.ntmps107 Tryz.results107 ?_
      repeat' (first
 | ((with_reducible apply w_ownCell 80 2 102 7); (case hb => rfl); (case hj => rfl); (case hsz => decide); (case hm => (try simp only [Nat.reduceAdd, Nat.reduceMul]); exact rfl))
 | ((first | with_reducible refine w_cut (x := .seq (.region _ _ _) (.cond (.tmp 16) _ _)) (X := Unit) [11, 12, 13, 14, 15, 16, 17, 18, 19, 20, 21, 22] (fun _ => []) (fun _ => [(80, .box [I (bnxS b x), .osl 81 7 (rowL b.held), .osl 112 7 []])]) (fun _ => True) ?_ ?_); (try (rintro z hz; simp only at hz)))
 | ((with_reducible apply w_thaw (code := .seq (.region 6 _ _) _) 81 7 (rowL b.held) ([(3, .ptr 16 0), (4, .ptr 32 0), (6, .ptr 80 0), (7, I (posS b.held x.n))]) ([(16, .box (sltC x)), (32, .box [I 0, .s (.slice none 0 0)]), (80, .box [I (bnxS b x), .osl 81 7 (rowL b.held), .osl 112 7 []]), (112, .perm 102 7 0)])); (case hat => exact .inr ⟨80, _, rfl, 1, rfl⟩); (case hp16 => decide); (case hpe => rfl); (case hn0 => first | (simp; done)); (case h0 => first | (simp; omega)); (case hsc => simp [thokS, thokB, Ob.thok, AV.thok, thokL, permIs, scalR]); (case hS => simp); (case hB => simp); (case hSk => simp [thokS, thokB, Ob.thok, AV.thok, thokL, permIs, scalR]); (case hBk => simp [thokS, thokB, Ob.thok, AV.thok, thokL, permIs, scalR]); (case hm => (try simp only [Nat.reduceAdd, Nat.reduceMul]); exact rfl); (case' h => intro cap hc1 hc2))
 | (with_reducible first | apply qz0 | (refine h0 _ _ ?_; clear h0 hw) | (refine hw _ _ _ ?_; clear h0 hw) | apply qz1 | apply qz2 | apply qz6 | (refine hL _ ?_; clear hL))
 | refine p_reg fun K1 hK => ?_ | refine p_regE fun K1 hK => ?_
 | refine p_dreg Tryz.mix fun K1 hK => ?_
 | apply go_seq
 | ((first | refine p_op Tryz.tab fun K' h0 hw => ?_ | refine p_op0 Tryz.tab fun K' h0 hw => ?_ | refine p_dop Tryz.tab fun K' h0 hw => ?_ | refine p_dop0 Tryz.tab fun K' h0 hw => ?_); conv => whnf)
 | (refine p_nil (hK _ ?_); clear hK)
 | (refine d_nil (p_obj ?_ (hK _ _ _ _)); clear hK)
 | (first | refine d_grd_yes (by rfl) (by rfl) ?_ )
 | ((first | (apply d_grd_no; (case hg => rfl); (case hb => rfl)) | (apply d_grd; (case hg => rfl); (case hb => rfl)) ); (case hi => (simp only [Nat.reduceAdd, Nat.reduceMul]; rfl)))
 | ((with_reducible refine callV_id (f := 73) ?_); have hcs_ := c_own b (by omega); (with_reducible apply w_callO [] own73 (hcs_)); (case hx => rfl); (case he => rfl); (case hle => first | ((repeat constructor); done) ); (case hm => rfl); (case hnd => decide); (case' hK => (try clear hcs_); conv => whnf); (any_goals (simp [LeL.rfl', thL, AV.th, thB, thS, Ob.th, box_ren, box_lt]; done)))
 | ((with_reducible refine callV_id (f := 124) ?_); (with_reducible apply w_callO [] own124 (hbs)); (case hx => rfl); (case he => rfl); (case hle => first | ((repeat constructor); done) ); (case hm => rfl); (case hnd => decide); (case' hK => conv => whnf); (any_goals (simp [LeL.rfl', thL, AV.th, thB, thS, Ob.th, box_ren, box_lt]; done)))
 | ((with_reducible refine callV_id (f := 126) ?_); have hcs_ := hins cap hc1 hc2; (with_reducible apply w_callO [528, 672] own126 (hcs_)); (case hx => rfl); (case he => rfl); (case hle => first | ((repeat constructor); done) ); (case hm => rfl); (case hnd => decide); (case' hK => (try clear hcs_); conv => whnf); (any_goals (simp [LeL.rfl', thL, AV.th, thB, thS, Ob.th, box_ren, box_lt]; done)))
 | ((with_reducible refine callV_id (f := 74) ?_); (with_reducible apply w_callO [80, 112] own74 (hsk)); (case hx => rfl); (case he => rfl); (case hle => first | ((repeat constructor); done) ); (case hm => rfl); (case hnd => decide); (case' hK => conv => whnf); (any_goals (simp [LeL.rfl', thL, AV.th, thB, thS, Ob.th, box_ren, box_lt]; done)))
 | ((with_reducible apply go_cond); (case hb => rfl))
 | ((with_reducible first | refine w_ret Tryz.tab fun K' hL => ?_ ); (conv => whnf))
 | ((with_reducible apply And.intro); (case' right => try (conv => whnf)); (case' left => try first | rfl | decide | (simp [LeL.rfl', thL, AV.th, thB, thS, Ob.th, box_ren, box_lt]; done) ))
 | (first | (guard_hyp g4; intro g5; try simp at g5) | (guard_hyp g3; intro g4; try simp at g4) | (guard_hyp g2; intro g3; try simp at g3) | (guard_hyp g1; intro g2; try simp at g2) | intro g1; try simp at g1))
      · have e : bnxS b x = x.n := if_pos g1
        ((refine w_nx (()) ?_ ?_ ?_ ?_ ?_ ?_); (case refine_1 => simp [e]); (case refine_2 => simp [e]); (case refine_3 => simp (disch := omega) [e, wrp]); (case refine_4 => simp [e]); (case refine_5 => first | (simp; omega) | (simp; done) | omega | (simp only; omega)); (case' refine_6 => (try simp only); (try exact trivial)))
      · have e : bnxS b x = b.next := if_neg g1
        ((refine w_nx (()) ?_ ?_ ?_ ?_ ?_ ?_); (case refine_1 => simp [e]); (case refine_2 => simp [e]); (case refine_3 => simp (disch := omega) [e, wrp]); (case refine_4 => simp [e]); (case refine_5 => first | (simp; omega) | (simp; done) | omega | (simp only; omega)); (case' refine_6 => (try simp only); (try exact trivial)))
      · repeat constructor
      · exact absurd g4 (by simpa [hasS] using hc.2)
      · exfalso; omega
  · rw [rawB, if_neg hc]
    refine p_pspec Tryz.func107 Tryz.ntmps107 Tryz.results107 ?_
    repeat' (first
 | ((first | with_reducible refine w_cut (x := .seq (.region _ _ _) (.cond (.tmp 16) _ _)) (X := Unit) [11, 12, 13, 14, 15, 16, 17, 18, 19, 20, 21, 22] (fun _ => []) (fun _ => [(80, .box [I (bnxS b x), .osl 81 7 (rowL b.held), .s (.slice none 0 0)])]) (fun _ => True) ?_ ?_); (try (rintro z hz; simp only at hz)))
 | ((with_reducible refine halt_in (code := .seq (.region 6 _ _) _) ?_); exfalso; exact hc ⟨g3, by simpa [hasS] using g4⟩)
 | (with_reducible first | apply qz0 | (refine h0 _ _ ?_; clear h0 hw) | (refine hw _ _ _ ?_; clear h0 hw) | apply qz1 | apply qz2 | apply qz6 | (refine hL _ ?_; clear hL))
 | refine p_reg fun K1 hK => ?_ | refine p_regE fun K1 hK => ?_
 | refine p_dreg Tryz.mix fun K1 hK => ?_
 | apply go_seq
 | ((first | refine p_op Tryz.tab fun K' h0 hw => ?_ | refine p_op0 Tryz.tab fun K' h0 hw => ?_ | refine p_dop Tryz.tab fun K' h0 hw => ?_ | refine p_dop0 Tryz.tab fun K' h0 hw => ?_); conv => whnf)
 | (refine p_nil (hK _ ?_); clear hK)
 | (refine d_nil (p_obj ?_ (hK _ _ _ _)); clear hK)
 | (first | refine d_grd_yes (by rfl) (by rfl) ?_ )
 | ((first | (apply d_grd_no; (case hg => rfl); (case hb => rfl)) | (apply d_grd; (case hg => rfl); (case hb => rfl)) ); (case hi => (simp only [Nat.reduceAdd, Nat.reduceMul]; rfl)))
 | ((with_reducible refine callV_id (f := 73) ?_); have hcs_ := c_own b (by omega); (with_reducible apply w_callO [] own73 (hcs_)); (case hx => rfl); (case he => rfl); (case hle => first | ((repeat constructor); done) ); (case hm => rfl); (case hnd => decide); (case' hK => (try clear hcs_); conv => whnf); (any_goals (simp; done)))
 | ((with_reducible refine callV_id (f := 124) ?_); (with_reducible apply w_callO [] own124 (hbs)); (case hx => rfl); (case he => rfl); (case hle => first | ((repeat constructor); done) ); (case hm => rfl); (case hnd => decide); (case' hK => conv => whnf); (any_goals (simp; done)))
 | ((with_reducible apply go_cond); (case hb => rfl))
 | ((with_reducible first | refine w_ret Tryz.tab fun K' hL => ?_ ); (conv => whnf))
 | ((with_reducible apply And.intro); (case' right => try (conv => whnf)); (case' left => try first | rfl | decide | (simp; done) ))
 | (first | (guard_hyp g4; intro g5; try simp at g5) | (guard_hyp g3; intro g4; try simp at g4) | (guard_hyp g2; intro g3; try simp at g3) | (guard_hyp g1; intro g2; try simp at g2) | intro g1; try simp at g1))
    · have e : bnxS b x = x.n := if_pos g1
      ((refine w_nx (()) ?_ ?_ ?_ ?_ ?_ ?_); (case refine_1 => simp [e]); (case refine_2 => simp [e]); (case refine_3 => simp (disch := omega) [e, wrp]); (case refine_4 => simp [e]); (case refine_5 => first | (simp; omega) | (simp; done) | omega | (simp only; omega)); (case' refine_6 => (try simp only); (try exact trivial)))
    · have e : bnxS b x = b.next := if_neg g1
      ((refine w_nx (()) ?_ ?_ ?_ ?_ ?_ ?_); (case refine_1 => simp [e]); (case refine_2 => simp [e]); (case refine_3 => simp (disch := omega) [e, wrp]); (case refine_4 => simp [e]); (case refine_5 => first | (simp; omega) | (simp; done) | omega | (simp only; omega)); (case' refine_6 => (try simp only); (try exact trivial)))
    all_goals repeat constructor
set_option maxHeartbeats 1000000 in
theorem c_bufEmpty (b : Bf) (hb : bufE b = 0) : PSpec Tryz.prog 43 [.agg (bfC b)] (relT (relS 0 b.next b.held [])) := by
  obtain ⟨p1, p2, p3, p4⟩ := bufE_ok hb
  have hh : ∀ a ∈ b.held, 0 ≤ a.n ∧ a.n ≤ 1000000000000 := fun a ha => by have := (sltE_ok (p3 a ha).1).1; omega
  have hsk := c_skip 0 b.next b.held [] (by simp; omega) (by omega) (by omega) hh
  refine p_pspec Tryz.func43 Tryz.ntmps43 Tryz.results43 ?_
  repeat' (first
 | ((with_reducible apply w_ownCell 64 2 102 7); (case hb => rfl); (case hj => rfl); (case hsz => decide); (case hm => (try simp only [Nat.reduceAdd, Nat.reduceMul]); exact rfl))
 | (with_reducible first | apply qz0 | (refine h0 _ _ ?_; clear h0 hw) | (refine hw _ _ _ ?_; clear h0 hw) | apply qz1 | (refine hL _ ?_; clear hL))
 | refine p_reg fun K1 hK => ?_
 | refine p_dreg Tryz.mix fun K1 hK => ?_
 | ((first | refine p_op Tryz.tab fun K' h0 hw => ?_ | refine p_dop Tryz.tab fun K' h0 hw => ?_ | refine p_dop0 Tryz.tab fun K' h0 hw => ?_); conv => whnf)
 | (refine p_nil (hK _ ?_); clear hK)
 | (refine d_nil (p_obj ?_ (hK _ _ _ _)); clear hK)
 | ((with_reducible refine callV_id (f := 73) ?_); have hcs_ := c_own b (by omega); (with_reducible apply w_callO [] own73 (hcs_)); (case hx => rfl); (case he => rfl); (case hle => first | ((repeat constructor); done) ); (case hm => rfl); (case hnd => decide); (case' hK => (try clear hcs_); conv => whnf); (any_goals (simp; done)))
 | ((with_reducible refine callV_id (f := 74) ?_); (with_reducible apply w_callO [64, 96] own74 (hsk)); (case hx => rfl); (case he => rfl); (case hle => first | ((repeat constructor); done) ); (case hm => rfl); (case hnd => decide); (case' hK => conv => whnf); (any_goals (simp; done)))
 | ((with_reducible first | refine w_ret Tryz.tab fun K' hL => ?_ ); (conv => whnf))
 | ((with_reducible apply And.intro); (case' right => try (conv => whnf)); (case' left => try first | rfl | decide | (simp; done) ))
 )
  all_goals repeat constructor
end Go.Proofs.YtokkencbpmjdaaaGreat
end
section
namespace Go.Proofs.YtokkencbpmjdaaaGreat
open Go Go.Sy
set_option maxRecDepth 4000
set_option linter.unusedSimpArgs false
set_option linter.unusedVariables false
attribute [local irreducible] Reg RegD Later Out CallV Tri Side EqV Pause
theorem posS_nil (n : Int) : posS [] n = 0 := rfl
set_option maxHeartbeats 1000000 in
theorem c_putOfN (b : Bf) (x : Slt) (hb : bufE b = 0) (hx : sltE x = 0) (hc : ¬ (bnxS b x ≤ x.n ∧ hasS b.held x.n = false)) : PSpec Tryz.prog 60 [.agg (bfC b), .agg (sltC x)] (relT (bnxS b x, b.held, [])) := by
  obtain ⟨p1, p2, p3, p4⟩ := bufE_ok hb
  refine p_pspec Tryz.func60 Tryz.ntmps60 Tryz.results60 ?_
  repeat' (first
 | ((first | with_reducible refine w_cut (x := .seq (.region _ _ _) (.cond (.tmp 11) _ _)) (X := Unit) [9, 10, 11, 12, 13, 14] (fun _ => []) (fun _ => [(0, .box [I (bnxS b x), slts b.held])]) (fun _ => True) ?_ ?_); (try (rintro z hz; simp only at hz)))
 | (with_reducible first | apply qz0 | (refine h0 _ _ ?_; clear h0 hw) | (refine hw _ _ _ ?_; clear h0 hw) | apply qz2 | apply qz3 )
 | refine p_reg fun K1 hK => ?_ | refine p_regE fun K1 hK => ?_
 | apply go_seq
 | ((first | refine p_op Tryz.tab fun K' h0 hw => ?_ | refine p_op0 Tryz.tab fun K' h0 hw => ?_); conv => whnf)
 | (refine p_nil (hK _ ?_); clear hK)
 | ((with_reducible apply go_cond); (case hb => rfl))
 | ((with_reducible apply And.intro); (case' right => try (conv => whnf)); (case' left => try first | rfl | decide | (simp; done) ))
 | (first | (guard_hyp g4; intro g5; try simp at g5) | (guard_hyp g3; intro g4; try simp at g4) | (guard_hyp g2; intro g3; try simp at g3) | (guard_hyp g1; intro g2; try simp at g2) | intro g1; try simp at g1))
  · have e : bnxS b x = x.n := if_pos g1
    ((refine w_nx (()) ?_ ?_ ?_ ?_ ?_ ?_); (case refine_1 => simp [e]); (case refine_2 => simp [e]); (case refine_3 => simp (disch := omega) [e, wrp]); (case refine_4 => simp [e]); (case refine_5 => first | (simp; omega) | (simp; done) | omega | (simp only; omega)); (case' refine_6 => (try simp only); (try exact trivial)))
  · have e : bnxS b x = b.next := if_neg g1
    ((refine w_nx (()) ?_ ?_ ?_ ?_ ?_ ?_); (case refine_1 => simp [e]); (case refine_2 => simp [e]); (case refine_3 => simp (disch := omega) [e, wrp]); (case refine_4 => simp [e]); (case refine_5 => first | (simp; omega) | (simp; done) | omega | (simp only; omega)); (case' refine_6 => (try simp only); (try exact trivial)))
  refine w_loop (X := Nat) [5, 6, 15, 16, 17, 18, 19, 20, 21, 22, 23, 24, 25, 26, 27, 28, 29, 30, 31] (fun i => [(6, I i)]) (fun _ => []) (fun i => i ≤ b.held.length ∧ ∀ y ∈ b.held.take i, y.n ≠ x.n) (fun i => b.held.length - i) 0 (by simp) ?_ ?_
  · refine ⟨kt_refl, ko_refl, ?_, ?_, ?_, ?_, Nat.le_refl _⟩ <;> simp
  rintro i ⟨h1, h2⟩
  repeat' (first
 | ((with_reducible refine halt_in (code := .seq (.region 10 _ _) _) ?_); exfalso; refine hc ⟨by omega, ?_⟩; rw [List.take_of_length_le (by omega)] at h2; simpa [hasS] using h2)
 | (with_reducible first | apply qz0 | (refine h0 _ _ ?_; clear h0 hw) | (refine hw _ _ _ ?_; clear h0 hw) | apply qz1 | apply qz2 | apply qz3 | apply qz4 | apply qz5 | apply qz6 | apply qz7 | apply qz8 | apply qz9 | apply qza | apply qzb | apply qzc | (refine hL _ ?_; clear hL))
 | refine p_reg fun K1 hK => ?_ | refine p_regE fun K1 hK => ?_
 | refine p_dreg Tryz.mix fun K1 hK => ?_
 | apply go_seq
 | ((first | refine p_op Tryz.tab fun K' h0 hw => ?_ | refine p_op0 Tryz.tab fun K' h0 hw => ?_ | refine p_dop Tryz.tab fun K' h0 hw => ?_); conv => whnf)
 | (refine p_nil (hK _ ?_); clear hK)
 | (refine d_nil (p_obj ?_ (hK _ _ _ _)); clear hK)
 | ((with_reducible apply go_cond); (case hb => rfl))
 | ((with_reducible first | refine w_ret Tryz.tab fun K' hL => ?_ ); (conv => whnf))
 | ((with_reducible apply And.intro); (case' right => try (conv => whnf)); (case' left => try first | rfl | decide | (simp; done) ))
 | exact p_side
 | ((with_reducible refine all_row ?_); (first | intro x1 hx1); conv => whnf)
 | (first | (guard_hyp g4; intro g5; try simp at g5) | (guard_hyp g3; intro g4; try simp at g4) | (guard_hyp g2; intro g3; try simp at g3) | (guard_hyp g1; intro g2; try simp at g2) | intro g1; try simp at g1))
  · repeat constructor
  · simp at hx1
    (refine p_nx ((i + 1)) ?_; (try simp only); (try exact trivial))
    refine ⟨by omega, fun y hy => ?_⟩
    rw [take_at hx1] at hy
    rcases List.mem_append.1 hy with hy | hy
    · exact h2 y hy
    · simp at hy; subst hy; exact g4
  · repeat constructor
set_option maxHeartbeats 8000000 in
theorem c_putOf0 (b : Bf) (x : Slt) (hb : bufE b = 0) (hx : sltE x = 0) (hh : b.held = []) (hc : bnxS b x ≤ x.n) : PSpec Tryz.prog 60 [.agg (bfC b), .agg (sltC x)] (relT (relS 4 (bnxS b x) (insS b.held x) [])) := by
  obtain ⟨p1, p2, p3, p4⟩ := bufE_ok hb
  have px := (sltE_ok hx).1
  have hn : 0 ≤ bnxS b x ∧ bnxS b x ≤ 1000000000000 := by unfold bnxS; split <;> omega
  have hrel : ∀ l : List Slt, (∀ a ∈ l, a = x ∨ a ∈ b.held) → l.length ≤ 5 → PSpec Tryz.prog 88 [.agg [I (bnxS b x), slts l], I 4] (relT (relS 4 (bnxS b x) l [])) := fun l h1 h2 =>
    c_released 4 (bnxS b x) l (by omega) (by omega) hn fun a ha => by
      rcases h1 a ha with rfl | h
      · omega
      · have := (sltE_ok (p3 a h).1).1; omega
  clear p3 p4
  rw [hh] at hrel ⊢
  have hne : ∀ y ∈ b.held, y.n ≠ x.n := by rw [hh]; simp []
  refine p_pspec Tryz.func60 Tryz.ntmps60 Tryz.results60 ?_
  repeat' (first
 | ((first | with_reducible refine w_cut (x := .seq (.region _ _ _) (.cond (.tmp 11) _ _)) (X := Unit) [9, 10, 11, 12, 13, 14] (fun _ => []) (fun _ => [(0, .box [I (bnxS b x), slts b.held])]) (fun _ => True) ?_ ?_); (try (rintro z hz; simp only at hz)))
 | (with_reducible first | apply qz0 | (refine h0 _ _ ?_; clear h0 hw) | (refine hw _ _ _ ?_; clear h0 hw) | apply qz2 | apply qz3 )
 | refine p_reg fun K1 hK => ?_ | refine p_regE fun K1 hK => ?_
 | apply go_seq
 | ((first | refine p_op Tryz.tab fun K' h0 hw => ?_ | refine p_op0 Tryz.tab fun K' h0 hw => ?_); conv => whnf)
 | (refine p_nil (hK _ ?_); clear hK)
 | ((with_reducible apply go_cond); (case hb => rfl))
 | ((with_reducible apply And.intro); (case' right => try (conv => whnf)); (case' left => try first | rfl | decide | (simp; done) ))
 | (first | (guard_hyp g4; intro g5; try simp at g5) | (guard_hyp g3; intro g4; try simp at g4) | (guard_hyp g2; intro g3; try simp at g3) | (guard_hyp g1; intro g2; try simp at g2) | intro g1; try simp at g1))
  · have e : bnxS b x = x.n := if_pos g1
    ((refine w_nx (()) ?_ ?_ ?_ ?_ ?_ ?_); (case refine_1 => simp [e]); (case refine_2 => simp [e]); (case refine_3 => simp (disch := omega) [e, wrp]); (case refine_4 => simp [e]); (case refine_5 => first | (simp; omega) | (simp; done) | omega | (simp only; omega)); (case' refine_6 => (try simp only); (try exact trivial)))
  · have e : bnxS b x = b.next := if_neg g1
    ((refine w_nx (()) ?_ ?_ ?_ ?_ ?_ ?_); (case refine_1 => simp [e]); (case refine_2 => simp [e]); (case refine_3 => simp (disch := omega) [e, wrp]); (case refine_4 => simp [e]); (case refine_5 => first | (simp; omega) | (simp; done) | omega | (simp only; omega)); (case' refine_6 => (try simp only); (try exact trivial)))
  rw [hh]
  refine w_loop (X := Nat) [5, 6, 15, 16, 17, 18, 19, 20, 21, 22, 23, 24, 25, 26, 27, 28, 29, 30, 31] (fun i => [(6, I i)]) (fun _ => []) (fun i => i ≤ 0) (fun i => 0 - i) 0 (by simp) ?_ ?_
  · refine ⟨kt_refl, ko_refl, ?_, ?_, ?_, ?_, Nat.le_refl _⟩ <;> simp
  intro i h1
  repeat' (first
 | ((with_reducible refine halt_in (code := .seq (.region 9 _ _) _) ?_); exfalso; omega)
 | (with_reducible refine halt_in (code := .seq (.region 11 _ _) _) ?_)
 | (with_reducible first | apply qz0 | (refine h0 _ _ ?_; clear h0 hw) | (refine hw _ _ _ ?_; clear h0 hw) | apply qz1 | apply qz2 | apply qz3 | apply qz4 | apply qz5 | apply qz6 | apply qz7 | apply qz8 | apply qz9 | apply qza | apply qzb | apply qzc | (refine hL _ ?_; clear hL))
 | refine p_reg fun K1 hK => ?_ | refine p_regE fun K1 hK => ?_
 | refine p_dreg Tryz.mix fun K1 hK => ?_
 | apply go_seq
 | ((first | refine p_op Tryz.tab fun K' h0 hw => ?_ | refine p_op0 Tryz.tab fun K' h0 hw => ?_ | refine p_dop Tryz.tab fun K' h0 hw => ?_); conv => whnf)
 | (refine p_nil (hK _ ?_); clear hK)
 | (refine d_nil (p_obj ?_ (hK _ _ _ _)); clear hK)
 | ((with_reducible apply go_cond); (case hb => rfl))
 | ((with_reducible first | refine w_ret Tryz.tab fun K' hL => ?_ ); (conv => whnf))
 | ((with_reducible apply And.intro); (case' right => try (conv => whnf)); (case' left => try first | rfl | decide | (simp; done) | (simp (disch := omega) [wrp]; (try omega); done)))
 | exact p_side
 | ((with_reducible refine all_row ?_); (first | intro x1 hx1); conv => whnf)
 | (first | (guard_hyp g4; intro g5; try simp at g5) | (guard_hyp g3; intro g4; try simp at g4) | (guard_hyp g2; intro g3; try simp at g3) | (guard_hyp g1; intro g2; try simp at g2) | intro g1; try simp at g1))
  · exfalso
    have := List.mem_of_getElem? hx1
    exact hne x1 (by rw [hh]; exact this) g4
  · (refine p_nx ((i + 1)) ?_; (try simp only); (try exact trivial))
    all_goals omega
  refine halt_out ?_
  repeat' (first
 | ((with_reducible apply w_thaw (code := .seq (.region 11 _ _) _) 240 7 (rowL [x]) ([(7, .osl 240 7 (rowL [x])), (2, .ptr 0 0), (4, .ptr 32 0)]) ([(0, .box [I (bnxS b x), .junk]), (32, .box [I 0, .s (.slice none 0 0)])])); (case hat => exact .inl ⟨7, rfl⟩); (case hp16 => decide); (case hpe => rfl); (case hn0 => first | rfl ); (case h0 => first | (simp; done) ); (case hsc => simp [thokS, thokB, Ob.thok, AV.thok, thokL, permIs, scalR]); (case hS => simp); (case hB => simp); (case hSk => simp [thokS, thokB, Ob.thok, AV.thok, thokL, permIs, scalR]); (case hBk => simp [thokS, thokB, Ob.thok, AV.thok, thokL, permIs, scalR]); (case hm => (try simp only [Nat.reduceAdd, Nat.reduceMul]); exact rfl); (case' h => intro cap hc1 hc2))
 | ((with_reducible apply w_freeze (code := .seq (.region 15 _ _) _) 7 (rowL [x])); (case hs => rfl); (case hq => rfl); (case hn => first | rfl ); (case hes => simp); (case hl => simp); (case hpu => first | ((repeat constructor); done) ); (case hone => simp))
 | (with_reducible first | apply qz0 | (refine h0 _ _ ?_; clear h0 hw) | (refine hw _ _ _ ?_; clear h0 hw) | apply qz1 | apply qz3 | apply qz4 | apply qz6 | apply qz7 | apply qza | (refine hL _ ?_; clear hL))
 | refine p_reg fun K1 hK => ?_
 | refine p_dreg Tryz.mix fun K1 hK => ?_
 | apply go_seq
 | ((first | refine p_op Tryz.tab fun K' h0 hw => ?_ | refine p_op0 Tryz.tab fun K' h0 hw => ?_ | refine p_dop Tryz.tab fun K' h0 hw => ?_); conv => whnf)
 | (refine p_nil (hK _ ?_); clear hK)
 | (refine d_nil (p_obj ?_ (hK _ _ _ _)); clear hK)
 | ((first | (apply d_grd_no; (case hg => rfl); (case hb => rfl)) ); (case hi => (simp only [Nat.reduceAdd, Nat.reduceMul]; rfl)))
 | ((with_reducible refine callV_id (f := 88) ?_); have hcs_ := hrel [x] (by simp) (by simp); (with_reducible apply callV_f own88 (hcs_)); (case hx => rfl); (case he => rfl); (case hle => first | ((repeat constructor); done) ); (case hpu => repeat constructor); (case' hK => (try clear hcs_); conv => whnf))
 | ((with_reducible apply go_cond); (case hb => rfl))
 | ((with_reducible first | refine w_ret Tryz.tab fun K' hL => ?_ ); (conv => whnf))
 | ((with_reducible apply And.intro); (case' right => try (conv => whnf)); (case' left => try first | rfl | decide | (simp [thL, AV.th, thB, thS, Ob.th]; done) ))
 | ((with_reducible apply w_num (code := .loop _) 8); (case hv => (conv => lhs; whnf); try exact rfl); (case he => (simp (disch := omega) [wrp]); try exact rfl))
 | (with_reducible refine w_unroll ?_)
 | (with_reducible refine un_exit ?_)
 | (first | (guard_hyp g4; intro g5; try simp at g5) | (guard_hyp g3; intro g4; try simp at g4) | (guard_hyp g2; intro g3; try simp at g3) | (guard_hyp g1; intro g2; try simp at g2) | intro g1; try simp at g1))
  all_goals first
    | (rw [show insS [] x = [x] by simp [insS, insL, posS_cons, posS_nil]]; (repeat constructor); done)

set_option maxHeartbeats 8000000 in
theorem c_putOf1 (b : Bf) (x : Slt) (a1 : Slt) (hb : bufE b = 0) (hx : sltE x = 0) (hh : b.held = [a1]) (hc : bnxS b x ≤ x.n) (n1 : a1.n ≠ x.n) : PSpec Tryz.prog 60 [.agg (bfC b), .agg (sltC x)] (relT (relS 4 (bnxS b x) (insS b.held x) [])) := by
  obtain ⟨p1, p2, p3, p4⟩ := bufE_ok hb
  have px := (sltE_ok hx).1
  have hn : 0 ≤ bnxS b x ∧ bnxS b x ≤ 1000000000000 := by unfold bnxS; split <;> omega
  have hrel : ∀ l : List Slt, (∀ a ∈ l, a = x ∨ a ∈ b.held) → l.length ≤ 5 → PSpec Tryz.prog 88 [.agg [I (bnxS b x), slts l], I 4] (relT (relS 4 (bnxS b x) l [])) := fun l h1 h2 =>
    c_released 4 (bnxS b x) l (by omega) (by omega) hn fun a ha => by
      rcases h1 a ha with rfl | h
      · omega
      · have := (sltE_ok (p3 a h).1).1; omega
  clear p3 p4
  rw [hh] at hrel ⊢
  have hne : ∀ y ∈ b.held, y.n ≠ x.n := by rw [hh]; simp [n1]
  refine p_pspec Tryz.func60 Tryz.ntmps60 Tryz.results60 ?_
  repeat' (first
 | ((first | with_reducible refine w_cut (x := .seq (.region _ _ _) (.cond (.tmp 11) _ _)) (X := Unit) [9, 10, 11, 12, 13, 14] (fun _ => []) (fun _ => [(0, .box [I (bnxS b x), slts b.held])]) (fun _ => True) ?_ ?_); (try (rintro z hz; simp only at hz)))
 | (with_reducible first | apply qz0 | (refine h0 _ _ ?_; clear h0 hw) | (refine hw _ _ _ ?_; clear h0 hw) | apply qz2 | apply qz3 )
 | refine p_reg fun K1 hK => ?_ | refine p_regE fun K1 hK => ?_
 | apply go_seq
 | ((first | refine p_op Tryz.tab fun K' h0 hw => ?_ | refine p_op0 Tryz.tab fun K' h0 hw => ?_); conv => whnf)
 | (refine p_nil (hK _ ?_); clear hK)
 | ((with_reducible apply go_cond); (case hb => rfl))
 | ((with_reducible apply And.intro); (case' right => try (conv => whnf)); (case' left => try first | rfl | decide | (simp; done) ))
 | (first | (guard_hyp g4; intro g5; try simp at g5) | (guard_hyp g3; intro g4; try simp at g4) | (guard_hyp g2; intro g3; try simp at g3) | (guard_hyp g1; intro g2; try simp at g2) | intro g1; try simp at g1))
  · have e : bnxS b x = x.n := if_pos g1
    ((refine w_nx (()) ?_ ?_ ?_ ?_ ?_ ?_); (case refine_1 => simp [e]); (case refine_2 => simp [e]); (case refine_3 => simp (disch := omega) [e, wrp]); (case refine_4 => simp [e]); (case refine_5 => first | (simp; omega) | (simp; done) | omega | (simp only; omega)); (case' refine_6 => (try simp only); (try exact trivial)))
  · have e : bnxS b x = b.next := if_neg g1
    ((refine w_nx (()) ?_ ?_ ?_ ?_ ?_ ?_); (case refine_1 => simp [e]); (case refine_2 => simp [e]); (case refine_3 => simp (disch := omega) [e, wrp]); (case refine_4 => simp [e]); (case refine_5 => first | (simp; omega) | (simp; done) | omega | (simp only; omega)); (case' refine_6 => (try simp only); (try exact trivial)))
  rw [hh]
  refine w_loop (X := Nat) [5, 6, 15, 16, 17, 18, 19, 20, 21, 22, 23, 24, 25, 26, 27, 28, 29, 30, 31] (fun i => [(6, I i)]) (fun _ => []) (fun i => i ≤ 1) (fun i => 1 - i) 0 (by simp) ?_ ?_
  · refine ⟨kt_refl, ko_refl, ?_, ?_, ?_, ?_, Nat.le_refl _⟩ <;> simp
  intro i h1
  repeat' (first
 | ((with_reducible refine halt_in (code := .seq (.region 9 _ _) _) ?_); exfalso; omega)
 | (with_reducible refine halt_in (code := .seq (.region 11 _ _) _) ?_)
 | (with_reducible first | apply qz0 | (refine h0 _ _ ?_; clear h0 hw) | (refine hw _ _ _ ?_; clear h0 hw) | apply qz1 | apply qz2 | apply qz3 | apply qz4 | apply qz5 | apply qz6 | apply qz7 | apply qz8 | apply qz9 | apply qza | apply qzb | apply qzc | (refine hL _ ?_; clear hL))
 | refine p_reg fun K1 hK => ?_ | refine p_regE fun K1 hK => ?_
 | refine p_dreg Tryz.mix fun K1 hK => ?_
 | apply go_seq
 | ((first | refine p_op Tryz.tab fun K' h0 hw => ?_ | refine p_op0 Tryz.tab fun K' h0 hw => ?_ | refine p_dop Tryz.tab fun K' h0 hw => ?_); conv => whnf)
 | (refine p_nil (hK _ ?_); clear hK)
 | (refine d_nil (p_obj ?_ (hK _ _ _ _)); clear hK)
 | ((with_reducible apply go_cond); (case hb => rfl))
 | ((with_reducible first | refine w_ret Tryz.tab fun K' hL => ?_ ); (conv => whnf))
 | ((with_reducible apply And.intro); (case' right => try (conv => whnf)); (case' left => try first | rfl | decide | (simp; done) ))
 | ((with_reducible apply Side.mk); (try simp (disch := omega) only [wrp]); (try simp); (try simp (disch := omega) only [wrp]); (try omega))
 | ((with_reducible refine all_row ?_); (first | intro x1 hx1); conv => whnf)
 | (first | (guard_hyp g4; intro g5; try simp at g5) | (guard_hyp g3; intro g4; try simp at g4) | (guard_hyp g2; intro g3; try simp at g3) | (guard_hyp g1; intro g2; try simp at g2) | intro g1; try simp at g1))
  · exfalso
    have := List.mem_of_getElem? hx1
    exact hne x1 (by rw [hh]; exact this) g4
  · (refine p_nx ((i + 1)) ?_; (try simp only); (try exact trivial))
    all_goals omega
  refine halt_out ?_
  repeat' (first
 | ((with_reducible apply w_thaw (code := .seq (.region 11 _ _) _) 240 7 (rowL [a1, x]) ([(7, .osl 240 7 (rowL [a1, x])), (2, .ptr 0 0), (4, .ptr 32 0)]) ([(0, .box [I (bnxS b x), .junk]), (32, .box [I 0, .s (.slice none 0 0)])])); (case hat => exact .inl ⟨7, rfl⟩); (case hp16 => decide); (case hpe => rfl); (case hn0 => first | rfl ); (case h0 => first | (simp; done) ); (case hsc => simp [thokS, thokB, Ob.thok, AV.thok, thokL, permIs, scalR]); (case hS => simp); (case hB => simp); (case hSk => simp [thokS, thokB, Ob.thok, AV.thok, thokL, permIs, scalR]); (case hBk => simp [thokS, thokB, Ob.thok, AV.thok, thokL, permIs, scalR]); (case hm => (try simp only [Nat.reduceAdd, Nat.reduceMul]); exact rfl); (case' h => intro cap hc1 hc2))
 | ((with_reducible apply w_freeze (code := .seq (.region 15 _ _) _) 7 (rowL [x, a1])); (case hs => rfl); (case hq => rfl); (case hn => first | rfl ); (case hes => simp); (case hl => simp); (case hpu => first | ((repeat constructor); done) ); (case hone => simp))
 | ((with_reducible apply w_freeze (code := .seq (.region 15 _ _) _) 7 (rowL [a1, x])); (case hs => rfl); (case hq => rfl); (case hn => first | rfl ); (case hes => simp); (case hl => simp); (case hpu => first | ((repeat constructor); done) ); (case hone => simp))
 | (with_reducible first | apply qz0 | (refine h0 _ _ ?_; clear h0 hw) | (refine hw _ _ _ ?_; clear h0 hw) | apply qz1 | apply qz2 | apply qz3 | apply qz4 | apply qz6 | apply qz7 | apply qz9 | apply qza | (refine hL _ ?_; clear hL))
 | refine p_reg fun K1 hK => ?_ | refine p_regE fun K1 hK => ?_
 | refine p_dreg Tryz.mix fun K1 hK => ?_ | refine p_dregE Tryz.mix fun K1 hK => ?_
 | apply go_seq
 | ((first | refine p_op Tryz.tab fun K' h0 hw => ?_ | refine p_op0 Tryz.tab fun K' h0 hw => ?_ | refine p_dop Tryz.tab fun K' h0 hw => ?_ | refine p_dop0 Tryz.tab fun K' h0 hw => ?_); conv => whnf)
 | (refine p_nil (hK _ ?_); clear hK)
 | (refine d_nil (p_obj ?_ (hK _ _ _ _)); clear hK)
 | (first | refine d_grd_yes (by rfl) (by rfl) ?_ )
 | ((first | (apply d_grd_no; (case hg => rfl); (case hb => rfl)) ); (case hi => (simp only [Nat.reduceAdd, Nat.reduceMul]; rfl)))
 | ((with_reducible refine callV_id (f := 88) ?_); have hcs_ := hrel [x, a1] (by simp) (by simp); (with_reducible apply callV_f own88 (hcs_)); (case hx => rfl); (case he => rfl); (case hle => first | ((repeat constructor); done) ); (case hpu => repeat constructor); (case' hK => (try clear hcs_); conv => whnf))
 | ((with_reducible refine callV_id (f := 88) ?_); have hcs_ := hrel [a1, x] (by simp) (by simp); (with_reducible apply callV_f own88 (hcs_)); (case hx => rfl); (case he => rfl); (case hle => first | ((repeat constructor); done) ); (case hpu => repeat constructor); (case' hK => (try clear hcs_); conv => whnf))
 | ((with_reducible apply go_cond); (case hb => rfl))
 | ((with_reducible first | refine w_ret Tryz.tab fun K' hL => ?_ ); (conv => whnf))
 | ((with_reducible apply And.intro); (case' right => try (conv => whnf)); (case' left => try first | rfl | decide | (simp [thL, AV.th, thB, thS, Ob.th]; done) | (simp (disch := omega) [thL, AV.th, thB, thS, Ob.th, wrp]; (try omega); done)))
 | ((with_reducible apply Side.mk); (try simp (disch := omega) only [wrp]); (try simp); (try simp (disch := omega) only [wrp]); (try omega))
 | ((with_reducible refine nfL_stop ?_); conv => whnf)
 | ((with_reducible apply w_num (code := .loop _) 8); (case hv => (conv => lhs; whnf); try exact rfl); (case he => (simp (disch := omega) [wrp]); try exact rfl))
 | (with_reducible refine w_unroll ?_)
 | ((with_reducible apply un_nextS 8); (case hv => (conv => lhs; whnf); try exact rfl); (case he => (simp (disch := omega) only [wrp, Int.reduceAdd]); try exact rfl))
 | (with_reducible refine un_exit ?_)
 | (first | (guard_hyp g4; intro g5; try simp at g5) | (guard_hyp g3; intro g4; try simp at g4) | (guard_hyp g2; intro g3; try simp at g3) | (guard_hyp g1; intro g2; try simp at g2) | intro g1; try simp at g1))
  all_goals first
    | (have q1 : ¬ a1.n < x.n := by omega
       rw [show insS [a1] x = [x, a1] by simp [insS, insL, posS_cons, posS_nil, q1]]; (repeat constructor); done)
    | (have q1 : a1.n < x.n := by omega
       rw [show insS [a1] x = [a1, x] by simp [insS, insL, posS_cons, posS_nil, q1]]; (repeat constructor); done)

set_option maxHeartbeats 8000000 in
theorem c_putOf2 (b : Bf) (x : Slt) (a1 a2 : Slt) (hb : bufE b = 0) (hx : sltE x = 0) (hh : b.held = [a1, a2]) (hc : bnxS b x ≤ x.n) (n1 : a1.n ≠ x.n) (n2 : a2.n ≠ x.n) (o1 : a1.n < a2.n) : PSpec Tryz.prog 60 [.agg (bfC b), .agg (sltC x)] (relT (relS 4 (bnxS b x) (insS b.held x) [])) := by
  obtain ⟨p1, p2, p3, p4⟩ := bufE_ok hb
  have px := (sltE_ok hx).1
  have hn : 0 ≤ bnxS b x ∧ bnxS b x ≤ 1000000000000 := by unfold bnxS; split <;> omega
  have hrel : ∀ l : List Slt, (∀ a ∈ l, a = x ∨ a ∈ b.held) → l.length ≤ 5 → PSpec Tryz.prog 88 [.agg [I (bnxS b x), slts l], I 4] (relT (relS 4 (bnxS b x) l [])) := fun l h1 h2 =>
    c_released 4 (bnxS b x) l (by omega) (by omega) hn fun a ha => by
      rcases h1 a ha with rfl | h
      · omega
      · have := (sltE_ok (p3 a h).1).1; omega
  clear p3 p4
  rw [hh] at hrel ⊢
  have hne : ∀ y ∈ b.held, y.n ≠ x.n := by rw [hh]; simp [n1, n2]
  refine p_pspec Tryz.func60 Tryz.ntmps60 Tryz.results60 ?_
  repeat' (first
 | ((first | with_reducible refine w_cut (x := .seq (.region _ _ _) (.cond (.tmp 11) _ _)) (X := Unit) [9, 10, 11, 12, 13, 14] (fun _ => []) (fun _ => [(0, .box [I (bnxS b x), slts b.held])]) (fun _ => True) ?_ ?_); (try (rintro z hz; simp only at hz)))
 | (with_reducible first | apply qz0 | (refine h0 _ _ ?_; clear h0 hw) | (refine hw _ _ _ ?_; clear h0 hw) | apply qz2 | apply qz3 )
 | refine p_reg fun K1 hK => ?_ | refine p_regE fun K1 hK => ?_
 | apply go_seq
 | ((first | refine p_op Tryz.tab fun K' h0 hw => ?_ | refine p_op0 Tryz.tab fun K' h0 hw => ?_); conv => whnf)
 | (refine p_nil (hK _ ?_); clear hK)
 | ((with_reducible apply go_cond); (case hb => rfl))
 | ((with_reducible apply And.intro); (case' right => try (conv => whnf)); (case' left => try first | rfl | decide | (simp; done) ))
 | (first | (guard_hyp g4; intro g5; try simp at g5) | (guard_hyp g3; intro g4; try simp at g4) | (guard_hyp g2; intro g3; try simp at g3) | (guard_hyp g1; intro g2; try simp at g2) | intro g1; try simp at g1))
  · have e : bnxS b x = x.n := if_pos g1
    ((refine w_nx (()) ?_ ?_ ?_ ?_ ?_ ?_); (case refine_1 => simp [e]); (case refine_2 => simp [e]); (case refine_3 => simp (disch := omega) [e, wrp]); (case refine_4 => simp [e]); (case refine_5 => first | (simp; omega) | (simp; done) | omega | (simp only; omega)); (case' refine_6 => (try simp only); (try exact trivial)))
  · have e : bnxS b x = b.next := if_neg g1
    ((refine w_nx (()) ?_ ?_ ?_ ?_ ?_ ?_); (case refine_1 => simp [e]); (case refine_2 => simp [e]); (case refine_3 => simp (disch := omega) [e, wrp]); (case refine_4 => simp [e]); (case refine_5 => first | (simp; omega) | (simp; done) | omega | (simp only; omega)); (case' refine_6 => (try simp only); (try exact trivial)))
  rw [hh]
  refine w_loop (X := Nat) [5, 6, 15, 16, 17, 18, 19, 20, 21, 22, 23, 24, 25, 26, 27, 28, 29, 30, 31] (fun i => [(6, I i)]) (fun _ => []) (fun i => i ≤ 2) (fun i => 2 - i) 0 (by simp) ?_ ?_
  · refine ⟨kt_refl, ko_refl, ?_, ?_, ?_, ?_, Nat.le_refl _⟩ <;> simp
  intro i h1
  repeat' (first
 | ((with_reducible refine halt_in (code := .seq (.region 9 _ _) _) ?_); exfalso; omega)
 | (with_reducible refine halt_in (code := .seq (.region 11 _ _) _) ?_)
 | (with_reducible first | apply qz0 | (refine h0 _ _ ?_; clear h0 hw) | (refine hw _ _ _ ?_; clear h0 hw) | apply qz1 | apply qz2 | apply qz3 | apply qz4 | apply qz5 | apply qz6 | apply qz7 | apply qz8 | apply qz9 | apply qza | apply qzb | apply qzc | (refine hL _ ?_; clear hL))
 | refine p_reg fun K1 hK => ?_ | refine p_regE fun K1 hK => ?_
 | refine p_dreg Tryz.mix fun K1 hK => ?_
 | apply go_seq
 | ((first | refine p_op Tryz.tab fun K' h0 hw => ?_ | refine p_op0 Tryz.tab fun K' h0 hw => ?_ | refine p_dop Tryz.tab fun K' h0 hw => ?_); conv => whnf)
 | (refine p_nil (hK _ ?_); clear hK)
 | (refine d_nil (p_obj ?_ (hK _ _ _ _)); clear hK)
 | ((with_reducible apply go_cond); (case hb => rfl))
 | ((with_reducible first | refine w_ret Tryz.tab fun K' hL => ?_ ); (conv => whnf))
 | ((with_reducible apply And.intro); (case' right => try (conv => whnf)); (case' left => try first | rfl | decide | (simp; done) ))
 | exact p_side
 | ((with_reducible refine all_row ?_); (first | intro x1 hx1); conv => whnf)
 | (first | (guard_hyp g4; intro g5; try simp at g5) | (guard_hyp g3; intro g4; try simp at g4) | (guard_hyp g2; intro g3; try simp at g3) | (guard_hyp g1; intro g2; try simp at g2) | intro g1; try simp at g1))
  · exfalso
    have := List.mem_of_getElem? hx1
    exact hne x1 (by rw [hh]; exact this) g4
  · (refine p_nx ((i + 1)) ?_; (try simp only); (try exact trivial))
    all_goals omega
  refine halt_out ?_
  repeat' (first
 | ((with_reducible apply w_thaw (code := .seq (.region 11 _ _) _) 240 7 (rowL [a1, a2, x]) ([(7, .osl 240 7 (rowL [a1, a2, x])), (2, .ptr 0 0), (4, .ptr 32 0)]) ([(0, .box [I (bnxS b x), .junk]), (32, .box [I 0, .s (.slice none 0 0)])])); (case hat => exact .inl ⟨7, rfl⟩); (case hp16 => decide); (case hpe => rfl); (case hn0 => first | rfl ); (case h0 => first | (simp; done) ); (case hsc => simp [thokS, thokB, Ob.thok, AV.thok, thokL, permIs, scalR]); (case hS => simp); (case hB => simp); (case hSk => simp [thokS, thokB, Ob.thok, AV.thok, thokL, permIs, scalR]); (case hBk => simp [thokS, thokB, Ob.thok, AV.thok, thokL, permIs, scalR]); (case hm => (try simp only [Nat.reduceAdd, Nat.reduceMul]); exact rfl); (case' h => intro cap hc1 hc2))
 | ((with_reducible apply w_freeze (code := .seq (.region 15 _ _) _) 7 (rowL [x, a1, a2])); (case hs => rfl); (case hq => rfl); (case hn => first | rfl ); (case hes => simp); (case hl => simp); (case hpu => first | ((repeat constructor); done) ); (case hone => simp))
 | ((with_reducible apply w_freeze (code := .seq (.region 15 _ _) _) 7 (rowL [a1, x, a2])); (case hs => rfl); (case hq => rfl); (case hn => first | rfl ); (case hes => simp); (case hl => simp); (case hpu => first | ((repeat constructor); done) ); (case hone => simp))
 | ((with_reducible apply w_freeze (code := .seq (.region 15 _ _) _) 7 (rowL [a1, a2, x])); (case hs => rfl); (case hq => rfl); (case hn => first | rfl ); (case hes => simp); (case hl => simp); (case hpu => first | ((repeat constructor); done) ); (case hone => simp))
 | (with_reducible first | apply qz0 | (refine h0 _ _ ?_; clear h0 hw) | (refine hw _ _ _ ?_; clear h0 hw) | apply qz1 | apply qz2 | apply qz3 | apply qz4 | apply qz6 | apply qz7 | apply qz9 | apply qza | (refine hL _ ?_; clear hL))
 | refine p_reg fun K1 hK => ?_ | refine p_regE fun K1 hK => ?_
 | refine p_dreg Tryz.mix fun K1 hK => ?_ | refine p_dregE Tryz.mix fun K1 hK => ?_
 | apply go_seq
 | ((first | refine p_op Tryz.tab fun K' h0 hw => ?_ | refine p_op0 Tryz.tab fun K' h0 hw => ?_ | refine p_dop Tryz.tab fun K' h0 hw => ?_ | refine p_dop0 Tryz.tab fun K' h0 hw => ?_); conv => whnf)
 | (refine p_nil (hK _ ?_); clear hK)
 | (refine d_nil (p_obj ?_ (hK _ _ _ _)); clear hK)
 | (first | refine d_grd_yes (by rfl) (by rfl) ?_ )
 | ((first | (apply d_grd_no; (case hg => rfl); (case hb => rfl)) ); (case hi => (simp only [Nat.reduceAdd, Nat.reduceMul]; rfl)))
 | ((with_reducible refine callV_id (f := 88) ?_); have hcs_ := hrel [x, a1, a2] (by simp) (by simp); (with_reducible apply callV_f own88 (hcs_)); (case hx => rfl); (case he => rfl); (case hle => first | ((repeat constructor); done) ); (case hpu => repeat constructor); (case' hK => (try clear hcs_); conv => whnf))
 | ((with_reducible refine callV_id (f := 88) ?_); have hcs_ := hrel [a1, x, a2] (by simp) (by simp); (with_reducible apply callV_f own88 (hcs_)); (case hx => rfl); (case he => rfl); (case hle => first | ((repeat constructor); done) ); (case hpu => repeat constructor); (case' hK => (try clear hcs_); conv => whnf))
 | ((with_reducible refine callV_id (f := 88) ?_); have hcs_ := hrel [a1, a2, x] (by simp) (by simp); (with_reducible apply callV_f own88 (hcs_)); (case hx => rfl); (case he => rfl); (case hle => first | ((repeat constructor); done) ); (case hpu => repeat constructor); (case' hK => (try clear hcs_); conv => whnf))
 | ((with_reducible apply go_cond); (case hb => rfl))
 | ((with_reducible first | refine w_ret Tryz.tab fun K' hL => ?_ ); (conv => whnf))
 | ((with_reducible apply And.intro); (case' right => try (conv => whnf)); (case' left => try first | rfl | decide | (simp [thL, AV.th, thB, thS, Ob.th]; done) | (simp (disch := omega) [thL, AV.th, thB, thS, Ob.th, wrp]; (try omega); done)))
 | exact p_side
 | ((with_reducible refine nfL_stop ?_); conv => whnf)
 | ((with_reducible apply w_num (code := .loop _) 8); (case hv => (conv => lhs; whnf); try exact rfl); (case he => (simp (disch := omega) [wrp]); try exact rfl))
 | (with_reducible refine w_unroll ?_)
 | ((with_reducible apply un_nextS 8); (case hv => (conv => lhs; whnf); try exact rfl); (case he => (simp (disch := omega) only [wrp, Int.reduceAdd]); try exact rfl))
 | (with_reducible refine un_exit ?_)
 | (first | (guard_hyp g4; intro g5; try simp at g5) | (guard_hyp g3; intro g4; try simp at g4) | (guard_hyp g2; intro g3; try simp at g3) | (guard_hyp g1; intro g2; try simp at g2) | intro g1; try simp at g1))
  all_goals first
    | (have q1 : ¬ a1.n < x.n := by omega
       rw [show insS [a1, a2] x = [x, a1, a2] by simp [insS, insL, posS_cons, posS_nil, q1]]; (repeat constructor); done)
    | (have q1 : a1.n < x.n := by omega
       have q2 : ¬ a2.n < x.n := by omega
       rw [show insS [a1, a2] x = [a1, x, a2] by simp [insS, insL, posS_cons, posS_nil, q1, q2]]; (repeat constructor); done)
    | (have q1 : a1.n < x.n := by omega
       have q2 : a2.n < x.n := by omega
       rw [show insS [a1, a2] x = [a1, a2, x] by simp [insS, insL, posS_cons, posS_nil, q1, q2]]; (repeat constructor); done)

set_option maxHeartbeats 8000000 in
theorem c_putOf3 (b : Bf) (x : Slt) (a1 a2 a3 : Slt) (hb : bufE b = 0) (hx : sltE x = 0) (hh : b.held = [a1, a2, a3]) (hc : bnxS b x ≤ x.n) (n1 : a1.n ≠ x.n) (n2 : a2.n ≠ x.n) (n3 : a3.n ≠ x.n) (o1 : a1.n < a2.n) (o2 : a2.n < a3.n) : PSpec Tryz.prog 60 [.agg (bfC b), .agg (sltC x)] (relT (relS 4 (bnxS b x) (insS b.held x) [])) := by
  obtain ⟨p1, p2, p3, p4⟩ := bufE_ok hb
  have px := (sltE_ok hx).1
  have hn : 0 ≤ bnxS b x ∧ bnxS b x ≤ 1000000000000 := by unfold bnxS; split <;> omega
  have hrel : ∀ l : List Slt, (∀ a ∈ l, a = x ∨ a ∈ b.held) → l.length ≤ 5 → PSpec Tryz.prog 88 [.agg [I (bnxS b x), slts l], I 4] (relT (relS 4 (bnxS b x) l [])) := fun l h1 h2 =>
    c_released 4 (bnxS b x) l (by omega) (by omega) hn fun a ha => by
      rcases h1 a ha with rfl | h
      · omega
      · have := (sltE_ok (p3 a h).1).1; omega
  clear p3 p4
  rw [hh] at hrel ⊢
  have hne : ∀ y ∈ b.held, y.n ≠ x.n := by rw [hh]; simp [n1, n2, n3]
  refine p_pspec Tryz.func60 Tryz.ntmps60 Tryz.results60 ?_
  repeat' (first
 | ((first | with_reducible refine w_cut (x := .seq (.region _ _ _) (.cond (.tmp 11) _ _)) (X := Unit) [9, 10, 11, 12, 13, 14] (fun _ => []) (fun _ => [(0, .box [I (bnxS b x), slts b.held])]) (fun _ => True) ?_ ?_); (try (rintro z hz; simp only at hz)))
 | (with_reducible first | apply qz0 | (refine h0 _ _ ?_; clear h0 hw) | (refine hw _ _ _ ?_; clear h0 hw) | apply qz2 | apply qz3 )
 | refine p_reg fun K1 hK => ?_ | refine p_regE fun K1 hK => ?_
 | apply go_seq
 | ((first | refine p_op Tryz.tab fun K' h0 hw => ?_ | refine p_op0 Tryz.tab fun K' h0 hw => ?_); conv => whnf)
 | (refine p_nil (hK _ ?_); clear hK)
 | ((with_reducible apply go_cond); (case hb => rfl))
 | ((with_reducible apply And.intro); (case' right => try (conv => whnf)); (case' left => try first | rfl | decide | (simp; done) ))
 | (first | (guard_hyp g4; intro g5; try simp at g5) | (guard_hyp g3; intro g4; try simp at g4) | (guard_hyp g2; intro g3; try simp at g3) | (guard_hyp g1; intro g2; try simp at g2) | intro g1; try simp at g1))
  · have e : bnxS b x = x.n := if_pos g1
    ((refine w_nx (()) ?_ ?_ ?_ ?_ ?_ ?_); (case refine_1 => simp [e]); (case refine_2 => simp [e]); (case refine_3 => simp (disch := omega) [e, wrp]); (case refine_4 => simp [e]); (case refine_5 => first | (simp; omega) | (simp; done) | omega | (simp only; omega)); (case' refine_6 => (try simp only); (try exact trivial)))
  · have e : bnxS b x = b.next := if_neg g1
    ((refine w_nx (()) ?_ ?_ ?_ ?_ ?_ ?_); (case refine_1 => simp [e]); (case refine_2 => simp [e]); (case refine_3 => simp (disch := omega) [e, wrp]); (case refine_4 => simp [e]); (case refine_5 => first | (simp; omega) | (simp; done) | omega | (simp only; omega)); (case' refine_6 => (try simp only); (try exact trivial)))
  rw [hh]
  refine w_loop (X := Nat) [5, 6, 15, 16, 17, 18, 19, 20, 21, 22, 23, 24, 25, 26, 27, 28, 29, 30, 31] (fun i => [(6, I i)]) (fun _ => []) (fun i => i ≤ 3) (fun i => 3 - i) 0 (by simp) ?_ ?_
  · refine ⟨kt_refl, ko_refl, ?_, ?_, ?_, ?_, Nat.le_refl _⟩ <;> simp
  intro i h1
  repeat' (first
 | ((with_reducible refine halt_in (code := .seq (.region 9 _ _) _) ?_); exfalso; omega)
 | (with_reducible refine halt_in (code := .seq (.region 11 _ _) _) ?_)
 | (with_reducible first | apply qz0 | (refine h0 _ _ ?_; clear h0 hw) | (refine hw _ _ _ ?_; clear h0 hw) | apply qz1 | apply qz2 | apply qz3 | apply qz4 | apply qz5 | apply qz6 | apply qz7 | apply qz8 | apply qz9 | apply qza | apply qzb | apply qzc | (refine hL _ ?_; clear hL))
 | refine p_reg fun K1 hK => ?_ | refine p_regE fun K1 hK => ?_
 | refine p_dreg Tryz.mix fun K1 hK => ?_
 | apply go_seq
 | ((first | refine p_op Tryz.tab fun K' h0 hw => ?_ | refine p_op0 Tryz.tab fun K' h0 hw => ?_ | refine p_dop Tryz.tab fun K' h0 hw => ?_); conv => whnf)
 | (refine p_nil (hK _ ?_); clear hK)
 | (refine d_nil (p_obj ?_ (hK _ _ _ _)); clear hK)
 | ((with_reducible apply go_cond); (case hb => rfl))
 | ((with_reducible first | refine w_ret Tryz.tab fun K' hL => ?_ ); (conv => whnf))
 | ((with_reducible apply And.intro); (case' right => try (conv => whnf)); (case' left => try first | rfl | decide | (simp; done) ))
 | exact p_side
 | ((with_reducible refine all_row ?_); (first | intro x1 hx1); conv => whnf)
 | (first | (guard_hyp g4; intro g5; try simp at g5) | (guard_hyp g3; intro g4; try simp at g4) | (guard_hyp g2; intro g3; try simp at g3) | (guard_hyp g1; intro g2; try simp at g2) | intro g1; try simp at g1))
  · exfalso
    have := List.mem_of_getElem? hx1
    exact hne x1 (by rw [hh]; exact this) g4
  · (refine p_nx ((i + 1)) ?_; (try simp only); (try exact trivial))
    all_goals omega
  refine halt_out ?_
  repeat' (first
 | ((with_reducible apply w_thaw (code := .seq (.region 11 _ _) _) 240 7 (rowL [a1, a2, a3, x]) ([(7, .osl 240 7 (rowL [a1, a2, a3, x])), (2, .ptr 0 0), (4, .ptr 32 0)]) ([(0, .box [I (bnxS b x), .junk]), (32, .box [I 0, .s (.slice none 0 0)])])); (case hat => exact .inl ⟨7, rfl⟩); (case hp16 => decide); (case hpe => rfl); (case hn0 => first | rfl ); (case h0 => first | (simp; done) ); (case hsc => simp [thokS, thokB, Ob.thok, AV.thok, thokL, permIs, scalR]); (case hS => simp); (case hB => simp); (case hSk => simp [thokS, thokB, Ob.thok, AV.thok, thokL, permIs, scalR]); (case hBk => simp [thokS, thokB, Ob.thok, AV.thok, thokL, permIs, scalR]); (case hm => (try simp only [Nat.reduceAdd, Nat.reduceMul]); exact rfl); (case' h => intro cap hc1 hc2))
 | ((with_reducible apply w_freeze (code := .seq (.region 15 _ _) _) 7 (rowL [x, a1, a2, a3])); (case hs => rfl); (case hq => rfl); (case hn => first | rfl ); (case hes => simp); (case hl => simp); (case hpu => first | ((repeat constructor); done) ); (case hone => simp))
 | ((with_reducible apply w_freeze (code := .seq (.region 15 _ _) _) 7 (rowL [a1, x, a2, a3])); (case hs => rfl); (case hq => rfl); (case hn => first | rfl ); (case hes => simp); (case hl => simp); (case hpu => first | ((repeat constructor); done) ); (case hone => simp))
 | ((with_reducible apply w_freeze (code := .seq (.region 15 _ _) _) 7 (rowL [a1, a2, x, a3])); (case hs => rfl); (case hq => rfl); (case hn => first | rfl ); (case hes => simp); (case hl => simp); (case hpu => first | ((repeat constructor); done) ); (case hone => simp))
 | ((with_reducible apply w_freeze (code := .seq (.region 15 _ _) _) 7 (rowL [a1, a2, a3, x])); (case hs => rfl); (case hq => rfl); (case hn => first | rfl ); (case hes => simp); (case hl => simp); (case hpu => first | ((repeat constructor); done) ); (case hone => simp))
 | (with_reducible first | apply qz0 | (refine h0 _ _ ?_; clear h0 hw) | (refine hw _ _ _ ?_; clear h0 hw) | apply qz1 | apply qz2 | apply qz3 | apply qz4 | apply qz6 | apply qz7 | apply qz9 | apply qza | (refine hL _ ?_; clear hL))
 | refine p_reg fun K1 hK => ?_ | refine p_regE fun K1 hK => ?_
 | refine p_dreg Tryz.mix fun K1 hK => ?_ | refine p_dregE Tryz.mix fun K1 hK => ?_
 | apply go_seq
 | ((first | refine p_op Tryz.tab fun K' h0 hw => ?_ | refine p_op0 Tryz.tab fun K' h0 hw => ?_ | refine p_dop Tryz.tab fun K' h0 hw => ?_ | refine p_dop0 Tryz.tab fun K' h0 hw => ?_); conv => whnf)
 | (refine p_nil (hK _ ?_); clear hK)
 | (refine d_nil (p_obj ?_ (hK _ _ _ _)); clear hK)
 | (first | refine d_grd_yes (by rfl) (by rfl) ?_ )
 | ((first | (apply d_grd_no; (case hg => rfl); (case hb => rfl)) ); (case hi => (simp only [Nat.reduceAdd, Nat.reduceMul]; rfl)))
 | ((with_reducible refine callV_id (f := 88) ?_); have hcs_ := hrel [x, a1, a2, a3] (by simp) (by simp); (with_reducible apply callV_f own88 (hcs_)); (case hx => rfl); (case he => rfl); (case hle => first | ((repeat constructor); done) ); (case hpu => repeat constructor); (case' hK => (try clear hcs_); conv => whnf))
 | ((with_reducible refine callV_id (f := 88) ?_); have hcs_ := hrel [a1, x, a2, a3] (by simp) (by simp); (with_reducible apply callV_f own88 (hcs_)); (case hx => rfl); (case he => rfl); (case hle => first | ((repeat constructor); done) ); (case hpu => repeat constructor); (case' hK => (try clear hcs_); conv => whnf))
 | ((with_reducible refine callV_id (f := 88) ?_); have hcs_ := hrel [a1, a2, x, a3] (by simp) (by simp); (with_reducible apply callV_f own88 (hcs_)); (case hx => rfl); (case he => rfl); (case hle => first | ((repeat constructor); done) ); (case hpu => repeat constructor); (case' hK => (try clear hcs_); conv => whnf))
 | ((with_reducible refine callV_id (f := 88) ?_); have hcs_ := hrel [a1, a2, a3, x] (by simp) (by simp); (with_reducible apply callV_f own88 (hcs_)); (case hx => rfl); (case he => rfl); (case hle => first | ((repeat constructor); done) ); (case hpu => repeat constructor); (case' hK => (try clear hcs_); conv => whnf))
 | ((with_reducible apply go_cond); (case hb => rfl))
 | ((with_reducible first | refine w_ret Tryz.tab fun K' hL => ?_ ); (conv => whnf))
 | ((with_reducible apply And.intro); (case' right => try (conv => whnf)); (case' left => try first | rfl | decide | (simp [thL, AV.th, thB, thS, Ob.th]; done) | (simp (disch := omega) [thL, AV.th, thB, thS, Ob.th, wrp]; (try omega); done)))
 | exact p_side
 | ((with_reducible refine nfL_stop ?_); conv => whnf)
 | ((with_reducible apply w_num (code := .loop _) 8); (case hv => (conv => lhs; whnf); try exact rfl); (case he => (simp (disch := omega) [wrp]); try exact rfl))
 | (with_reducible refine w_unroll ?_)
 | ((with_reducible apply un_nextS 8); (case hv => (conv => lhs; whnf); try exact rfl); (case he => (simp (disch := omega) only [wrp, Int.reduceAdd]); try exact rfl))
 | (with_reducible refine un_exit ?_)
 | (first | (guard_hyp g4; intro g5; try simp at g5) | (guard_hyp g3; intro g4; try simp at g4) | (guard_hyp g2; intro g3; try simp at g3) | (guard_hyp g1; intro g2; try simp at g2) | intro g1; try simp at g1))
  all_goals first
    | (have q1 : ¬ a1.n < x.n := by omega
       rw [show insS [a1, a2, a3] x = [x, a1, a2, a3] by simp [insS, insL, posS_cons, posS_nil, q1]]; (repeat constructor); done)
    | (have q1 : a1.n < x.n := by omega
       have q2 : ¬ a2.n < x.n := by omega
       rw [show insS [a1, a2, a3] x = [a1, x, a2, a3] by simp [insS, insL, posS_cons, posS_nil, q1, q2]]; (repeat constructor); done)
    | (have q1 : a1.n < x.n := by omega
       have q2 : a2.n < x.n := by omega
       have q3 : ¬ a3.n < x.n := by omega
       rw [show insS [a1, a2, a3] x = [a1, a2, x, a3] by simp [insS, insL, posS_cons, posS_nil, q1, q2, q3]]; (repeat constructor); done)
    | (have q1 : a1.n < x.n := by omega
       have q2 : a2.n < x.n := by omega
       have q3 : a3.n < x.n := by omega
       rw [show insS [a1, a2, a3] x = [a1, a2, a3, x] by simp [insS, insL, posS_cons, posS_nil, q1, q2, q3]]; (repeat constructor); done)

set_option maxHeartbeats 8000000 in
theorem c_putOf4 (b : Bf) (x : Slt) (a1 a2 a3 a4 : Slt) (hb : bufE b = 0) (hx : sltE x = 0) (hh : b.held = [a1, a2, a3, a4]) (hc : bnxS b x ≤ x.n) (n1 : a1.n ≠ x.n) (n2 : a2.n ≠ x.n) (n3 : a3.n ≠ x.n) (n4 : a4.n ≠ x.n) (o1 : a1.n < a2.n) (o2 : a2.n < a3.n) (o3 : a3.n < a4.n) : PSpec Tryz.prog 60 [.agg (bfC b), .agg (sltC x)] (relT (relS 4 (bnxS b x) (insS b.held x) [])) := by
  obtain ⟨p1, p2, p3, p4⟩ := bufE_ok hb
  have px := (sltE_ok hx).1
  have hn : 0 ≤ bnxS b x ∧ bnxS b x ≤ 1000000000000 := by unfold bnxS; split <;> omega
  have hrel : ∀ l : List Slt, (∀ a ∈ l, a = x ∨ a ∈ b.held) → l.length ≤ 5 → PSpec Tryz.prog 88 [.agg [I (bnxS b x), slts l], I 4] (relT (relS 4 (bnxS b x) l [])) := fun l h1 h2 =>
    c_released 4 (bnxS b x) l (by omega) (by omega) hn fun a ha => by
      rcases h1 a ha with rfl | h
      · omega
      · have := (sltE_ok (p3 a h).1).1; omega
  clear p3 p4
  rw [hh] at hrel ⊢
  have hne : ∀ y ∈ b.held, y.n ≠ x.n := by rw [hh]; simp [n1, n2, n3, n4]
  refine p_pspec Tryz.func60 Tryz.ntmps60 Tryz.results60 ?_
  repeat' (first
 | ((first | with_reducible refine w_cut (x := .seq (.region _ _ _) (.cond (.tmp 11) _ _)) (X := Unit) [9, 10, 11, 12, 13, 14] (fun _ => []) (fun _ => [(0, .box [I (bnxS b x), slts b.held])]) (fun _ => True) ?_ ?_); (try (rintro z hz; simp only at hz)))
 | (with_reducible first | apply qz0 | (refine h0 _ _ ?_; clear h0 hw) | (refine hw _ _ _ ?_; clear h0 hw) | apply qz2 | apply qz3 )
 | refine p_reg fun K1 hK => ?_ | refine p_regE fun K1 hK => ?_
 | apply go_seq
 | ((first | refine p_op Tryz.tab fun K' h0 hw => ?_ | refine p_op0 Tryz.tab fun K' h0 hw => ?_); conv => whnf)
 | (refine p_nil (hK _ ?_); clear hK)
 | ((with_reducible apply go_cond); (case hb => rfl))
 | ((with_reducible apply And.intro); (case' right => try (conv => whnf)); (case' left => try first | rfl | decide | (simp; done) ))
 | (first | (guard_hyp g4; intro g5; try simp at g5) | (guard_hyp g3; intro g4; try simp at g4) | (guard_hyp g2; intro g3; try simp at g3) | (guard_hyp g1; intro g2; try simp at g2) | intro g1; try simp at g1))
  · have e : bnxS b x = x.n := if_pos g1
    ((refine w_nx (()) ?_ ?_ ?_ ?_ ?_ ?_); (case refine_1 => simp [e]); (case refine_2 => simp [e]); (case refine_3 => simp (disch := omega) [e, wrp]); (case refine_4 => simp [e]); (case refine_5 => first | (simp; omega) | (simp; done) | omega | (simp only; omega)); (case' refine_6 => (try simp only); (try exact trivial)))
  · have e : bnxS b x = b.next := if_neg g1
    ((refine w_nx (()) ?_ ?_ ?_ ?_ ?_ ?_); (case refine_1 => simp [e]); (case refine_2 => simp [e]); (case refine_3 => simp (disch := omega) [e, wrp]); (case refine_4 => simp [e]); (case refine_5 => first | (simp; omega) | (simp; done) | omega | (simp only; omega)); (case' refine_6 => (try simp only); (try exact trivial)))
  rw [hh]
  refine w_loop (X := Nat) [5, 6, 15, 16, 17, 18, 19, 20, 21, 22, 23, 24, 25, 26, 27, 28, 29, 30, 31] (fun i => [(6, I i)]) (fun _ => []) (fun i => i ≤ 4) (fun i => 4 - i) 0 (by simp) ?_ ?_
  · refine ⟨kt_refl, ko_refl, ?_, ?_, ?_, ?_, Nat.le_refl _⟩ <;> simp
  intro i h1
  repeat' (first
 | ((with_reducible refine halt_in (code := .seq (.region 9 _ _) _) ?_); exfalso; omega)
 | (with_reducible refine halt_in (code := .seq (.region 11 _ _) _) ?_)
 | (with_reducible first | apply qz0 | (refine h0 _ _ ?_; clear h0 hw) | (refine hw _ _ _ ?_; clear h0 hw) | apply qz1 | apply qz2 | apply qz3 | apply qz4 | apply qz5 | apply qz6 | apply qz7 | apply qz8 | apply qz9 | apply qza | apply qzb | apply qzc | (refine hL _ ?_; clear hL))
 | refine p_reg fun K1 hK => ?_ | refine p_regE fun K1 hK => ?_
 | refine p_dreg Tryz.mix fun K1 hK => ?_
 | apply go_seq
 | ((first | refine p_op Tryz.tab fun K' h0 hw => ?_ | refine p_op0 Tryz.tab fun K' h0 hw => ?_ | refine p_dop Tryz.tab fun K' h0 hw => ?_); conv => whnf)
 | (refine p_nil (hK _ ?_); clear hK)
 | (refine d_nil (p_obj ?_ (hK _ _ _ _)); clear hK)
 | ((with_reducible apply go_cond); (case hb => rfl))
 | ((with_reducible first | refine w_ret Tryz.tab fun K' hL => ?_ ); (conv => whnf))
 | ((with_reducible apply And.intro); (case' right => try (conv => whnf)); (case' left => try first | rfl | decide | (simp; done) ))
 | exact p_side
 | ((with_reducible refine all_row ?_); (first | intro x1 hx1); conv => whnf)
 | (first | (guard_hyp g4; intro g5; try simp at g5) | (guard_hyp g3; intro g4; try simp at g4) | (guard_hyp g2; intro g3; try simp at g3) | (guard_hyp g1; intro g2; try simp at g2) | intro g1; try simp at g1))
  · exfalso
    have := List.mem_of_getElem? hx1
    exact hne x1 (by rw [hh]; exact this) g4
  · (refine p_nx ((i + 1)) ?_; (try simp only); (try exact trivial))
    all_goals omega
  refine halt_out ?_
  repeat' (first
 | ((with_reducible apply w_thaw (code := .seq (.region 11 _ _) _) 240 7 (rowL [a1, a2, a3, a4, x]) ([(7, .osl 240 7 (rowL [a1, a2, a3, a4, x])), (2, .ptr 0 0), (4, .ptr 32 0)]) ([(0, .box [I (bnxS b x), .junk]), (32, .box [I 0, .s (.slice none 0 0)])])); (case hat => exact .inl ⟨7, rfl⟩); (case hp16 => decide); (case hpe => rfl); (case hn0 => first | rfl ); (case h0 => first | (simp; done) ); (case hsc => simp [thokS, thokB, Ob.thok, AV.thok, thokL, permIs, scalR]); (case hS => simp); (case hB => simp); (case hSk => simp [thokS, thokB, Ob.thok, AV.thok, thokL, permIs, scalR]); (case hBk => simp [thokS, thokB, Ob.thok, AV.thok, thokL, permIs, scalR]); (case hm => (try simp only [Nat.reduceAdd, Nat.reduceMul]); exact rfl); (case' h => intro cap hc1 hc2))
 | ((with_reducible apply w_freeze (code := .seq (.region 15 _ _) _) 7 (rowL [x, a1, a2, a3, a4])); (case hs => rfl); (case hq => rfl); (case hn => first | rfl ); (case hes => simp); (case hl => simp); (case hpu => first | ((repeat constructor); done) ); (case hone => simp))
 | ((with_reducible apply w_freeze (code := .seq (.region 15 _ _) _) 7 (rowL [a1, x, a2, a3, a4])); (case hs => rfl); (case hq => rfl); (case hn => first | rfl ); (case hes => simp); (case hl => simp); (case hpu => first | ((repeat constructor); done) ); (case hone => simp))
 | ((with_reducible apply w_freeze (code := .seq (.region 15 _ _) _) 7 (rowL [a1, a2, x, a3, a4])); (case hs => rfl); (case hq => rfl); (case hn => first | rfl ); (case hes => simp); (case hl => simp); (case hpu => first | ((repeat constructor); done) ); (case hone => simp))
 | ((with_reducible apply w_freeze (code := .seq (.region 15 _ _) _) 7 (rowL [a1, a2, a3, x, a4])); (case hs => rfl); (case hq => rfl); (case hn => first | rfl ); (case hes => simp); (case hl => simp); (case hpu => first | ((repeat constructor); done) ); (case hone => simp))
 | ((with_reducible apply w_freeze (code := .seq (.region 15 _ _) _) 7 (rowL [a1, a2, a3, a4, x])); (case hs => rfl); (case hq => rfl); (case hn => first | rfl ); (case hes => simp); (case hl => simp); (case hpu => first | ((repeat constructor); done) ); (case hone => simp))
 | (with_reducible first | apply qz0 | (refine h0 _ _ ?_; clear h0 hw) | (refine hw _ _ _ ?_; clear h0 hw) | apply qz1 | apply qz2 | apply qz3 | apply qz4 | apply qz6 | apply qz7 | apply qz9 | apply qza | (refine hL _ ?_; clear hL))
 | refine p_reg fun K1 hK => ?_ | refine p_regE fun K1 hK => ?_
 | refine p_dreg Tryz.mix fun K1 hK => ?_ | refine p_dregE Tryz.mix fun K1 hK => ?_
 | apply go_seq
 | ((first | refine p_op Tryz.tab fun K' h0 hw => ?_ | refine p_op0 Tryz.tab fun K' h0 hw => ?_ | refine p_dop Tryz.tab fun K' h0 hw => ?_ | refine p_dop0 Tryz.tab fun K' h0 hw => ?_); conv => whnf)
 | (refine p_nil (hK _ ?_); clear hK)
 | (refine d_nil (p_obj ?_ (hK _ _ _ _)); clear hK)
 | (first | refine d_grd_yes (by rfl) (by rfl) ?_ )
 | ((first | (apply d_grd_no; (case hg => rfl); (case hb => rfl)) ); (case hi => (simp only [Nat.reduceAdd, Nat.reduceMul]; rfl)))
 | ((with_reducible refine callV_id (f := 88) ?_); have hcs_ := hrel [x, a1, a2, a3, a4] (by simp) (by simp); (with_reducible apply callV_f own88 (hcs_)); (case hx => rfl); (case he => rfl); (case hle => first | ((repeat constructor); done) ); (case hpu => repeat constructor); (case' hK => (try clear hcs_); conv => whnf))
 | ((with_reducible refine callV_id (f := 88) ?_); have hcs_ := hrel [a1, x, a2, a3, a4] (by simp) (by simp); (with_reducible apply callV_f own88 (hcs_)); (case hx => rfl); (case he => rfl); (case hle => first | ((repeat constructor); done) ); (case hpu => repeat constructor); (case' hK => (try clear hcs_); conv => whnf))
 | ((with_reducible refine callV_id (f := 88) ?_); have hcs_ := hrel [a1, a2, x, a3, a4] (by simp) (by simp); (with_reducible apply callV_f own88 (hcs_)); (case hx => rfl); (case he => rfl); (case hle => first | ((repeat constructor); done) ); (case hpu => repeat constructor); (case' hK => (try clear hcs_); conv => whnf))
 | ((with_reducible refine callV_id (f := 88) ?_); have hcs_ := hrel [a1, a2, a3, x, a4] (by simp) (by simp); (with_reducible apply callV_f own88 (hcs_)); (case hx => rfl); (case he => rfl); (case hle => first | ((repeat constructor); done) ); (case hpu => repeat constructor); (case' hK => (try clear hcs_); conv => whnf))
 | ((with_reducible refine callV_id (f := 88) ?_); have hcs_ := hrel [a1, a2, a3, a4, x] (by simp) (by simp); (with_reducible apply callV_f own88 (hcs_)); (case hx => rfl); (case he => rfl); (case hle => first | ((repeat constructor); done) ); (case hpu => repeat constructor); (case' hK => (try clear hcs_); conv => whnf))
 | ((with_reducible apply go_cond); (case hb => rfl))
 | ((with_reducible first | refine w_ret Tryz.tab fun K' hL => ?_ ); (conv => whnf))
 | ((with_reducible apply And.intro); (case' right => try (conv => whnf)); (case' left => try first | rfl | decide | (simp [thL, AV.th, thB, thS, Ob.th]; done) | (simp (disch := omega) [thL, AV.th, thB, thS, Ob.th, wrp]; (try omega); done)))
 | exact p_side
 | ((with_reducible refine nfL_stop ?_); conv => whnf)
 | ((with_reducible apply w_num (code := .loop _) 8); (case hv => (conv => lhs; whnf); try exact rfl); (case he => (simp (disch := omega) [wrp]); try exact rfl))
 | (with_reducible refine w_unroll ?_)
 | ((with_reducible apply un_nextS 8); (case hv => (conv => lhs; whnf); try exact rfl); (case he => (simp (disch := omega) only [wrp, Int.reduceAdd]); try exact rfl))
 | (with_reducible refine un_exit ?_)
 | (first | (guard_hyp g4; intro g5; try simp at g5) | (guard_hyp g3; intro g4; try simp at g4) | (guard_hyp g2; intro g3; try simp at g3) | (guard_hyp g1; intro g2; try simp at g2) | intro g1; try simp at g1))
  all_goals first
    | (have q1 : ¬ a1.n < x.n := by omega
       rw [show insS [a1, a2, a3, a4] x = [x, a1, a2, a3, a4] by simp [insS, insL, posS_cons, posS_nil, q1]]; (repeat constructor); done)
    | (have q1 : a1.n < x.n := by omega
       have q2 : ¬ a2.n < x.n := by omega
       rw [show insS [a1, a2, a3, a4] x = [a1, x, a2, a3, a4] by simp [insS, insL, posS_cons, posS_nil, q1, q2]]; (repeat constructor); done)
    | (have q1 : a1.n < x.n := by omega
       have q2 : a2.n < x.n := by omega
       have q3 : ¬ a3.n < x.n := by omega
       rw [show insS [a1, a2, a3, a4] x = [a1, a2, x, a3, a4] by simp [insS, insL, posS_cons, posS_nil, q1, q2, q3]]; (repeat constructor); done)
    | (have q1 : a1.n < x.n := by omega
       have q2 : a2.n < x.n := by omega
       have q3 : a3.n < x.n := by omega
       have q4 : ¬ a4.n < x.n := by omega
       rw [show insS [a1, a2, a3, a4] x = [a1, a2, a3, x, a4] by simp [insS, insL, posS_cons, posS_nil, q1, q2, q3, q4]]; (repeat constructor); done)
    | (have q1 : a1.n < x.n := by omega
       have q2 : a2.n < x.n := by omega
       have q3 : a3.n < x.n := by omega
       have q4 : a4.n < x.n := by omega
       rw [show insS [a1, a2, a3, a4] x = [a1, a2, a3, a4, x] by simp [insS, insL, posS_cons, posS_nil, q1, q2, q3, q4]]; (repeat constructor); done)

end Go.Proofs.YtokkencbpmjdaaaGreat
end
section
namespace Go.Proofs.YtokkencbpmjdaaaGreat
open Go Go.Sy
set_option maxRecDepth 4000
set_option linter.unusedSimpArgs false
set_option linter.unusedVariables false
attribute [local irreducible] Reg RegD Later Out CallV Tri Side EqV Pause
theorem c_putOf (b : Bf) (x : Slt) (hb : bufE b = 0) (hx : sltE x = 0) : PSpec Tryz.prog 60 [.agg (bfC b), .agg (sltC x)] (relT (rawB b x)) := by
  by_cases hc : bnxS b x ≤ x.n ∧ hasS b.held x.n = false
  · obtain ⟨p1, p2, p3, p4⟩ := bufE_ok hb
    rw [rawB, if_pos hc]
    obtain ⟨h1, h2⟩ := hc
    have hne : ∀ y ∈ b.held, y.n ≠ x.n := by simpa [hasS] using h2
    rcases hh : b.held with _ | ⟨a1, _ | ⟨a2, _ | ⟨a3, _ | ⟨a4, _ | ⟨a5, l⟩⟩⟩⟩⟩
    all_goals rw [hh] at hne p2 p4
    all_goals simp at hne p2 p4
    · have h := c_putOf0 b x hb hx hh h1; rw [hh] at h; exact h
    · have h := c_putOf1 b x a1 hb hx hh h1 hne; rw [hh] at h; exact h
    · have h := c_putOf2 b x a1 a2 hb hx hh h1 hne.1 hne.2 p4; rw [hh] at h; exact h
    · have h := c_putOf3 b x a1 a2 a3 hb hx hh h1 hne.1 hne.2.1 hne.2.2 p4.1.1 p4.2; rw [hh] at h; exact h
    · have h := c_putOf4 b x a1 a2 a3 a4 hb hx hh h1 hne.1 hne.2.1 hne.2.2.1 hne.2.2.2 p4.1.1 p4.2.1.1 p4.2.2; rw [hh] at h; exact h
  · rw [rawB, if_neg hc]; exact c_putOfN b x hb hx hc
end Go.Proofs.YtokkencbpmjdaaaGreat
end
section
namespace Go.Proofs.YtokkencbpmjdaaaGreat
open Go Go.Sy
set_option maxRecDepth 4000
set_option linter.unusedSimpArgs false
set_option linter.unusedVariables false
attribute [local irreducible] Reg RegD Later Out CallV Tri Side EqV Pause
set_option maxHeartbeats 1000000 in
theorem c_sameBuffer (a b : Bf) (ha : a.held.length ≤ 17592186043904) : PSpec Tryz.prog 38 [.agg (bfC a), .agg (bfC b)] (B (decide (a.next = b.next ∧ a.held = b.held))) := by
  refine p_pspec Tryz.func38 Tryz.ntmps38 Tryz.results38 ?_
  repeat' (first
 | (with_reducible first | apply qz0 | (refine h0 _ _ ?_; clear h0 hw) | (refine hw _ _ _ ?_; clear h0 hw) | apply qz1 | (refine hL _ ?_; clear hL))
 | refine p_reg fun K1 hK => ?_
 | (refine p_op Tryz.tab fun K' h0 hw => ?_; conv => whnf)
 | (refine p_nil (hK _ ?_); clear hK)
 | (first | refine v_grd_yes (by rfl) (by rfl) ?_)
 | ((first | (apply v_grd_no; (case hg => rfl); (case hb => rfl)) | (apply v_grd; (case hg => rfl); (case hb => rfl))); (case hi => (simp only [Nat.reduceAdd, Nat.reduceMul]; rfl)))
 | ((with_reducible refine callV_id (f := 39) ?_); have hcs_ := c_sameSlots a.held b.held ha; (with_reducible apply callV_f own39 (hcs_)); (case hx => rfl); (case he => rfl); (case hle => first | ((repeat constructor); done) ); (case hpu => repeat constructor); (case' hK => (try clear hcs_); conv => whnf))
 | ((with_reducible first | refine w_ret Tryz.tab fun K' hL => ?_ ); (conv => whnf))
 | ((with_reducible apply And.intro); (case' right => try (conv => whnf)); (case' left => try first | rfl | decide | (simp; done) ))
 | (first | (guard_hyp g1; intro g2; try simp at g2) | intro g1; try simp at g1))
  all_goals (refine le_of_eq ?_; simp [g1])
abbrev s1 : Slt := mk 70002 1 true true true
abbrev s2 : Slt := mk 70001 1 true true true
end Go.Proofs.YtokkencbpmjdaaaGreat
end
section
namespace Go.Proofs.YtokkencbpmjdaaaGreat
open Go Go.Sy
set_option linter.unusedSimpArgs false
set_option linter.unusedVariables false
abbrev Rise (l : List Slt) : Prop := l.Pairwise fun x y => x.n < y.n
theorem relS_spec (most : Nat) : ∀ (l : List Slt) (n : Int) (o : List Slt), Rise l → (∀ a ∈ l, n ≤ a.n) →
    ∃ out, (relS most n l o).2.2 = o ++ out ∧ l = out ++ (relS most n l o).2.1 ∧ n ≤ (relS most n l o).1 ∧ (∀ a ∈ out, n ≤ a.n ∧ a.n < (relS most n l o).1) ∧ (∀ a ∈ (relS most n l o).2.1, (relS most n l o).1 < a.n) ∧
      (relS most n l o).2.1.length ≤ most ∧ ((relS most n l o).1 = n ∨ ∃ a ∈ l, (relS most n l o).1 = a.n + 1)
  | [], n, o, _, _ => ⟨[], by simp [relS], rfl, Int.le_refl _, by simp, by simp [relS], by simp [relS], .inl rfl⟩
  | x :: l, n, o, hr, hn => by
    have hr := List.pairwise_cons.1 hr
    have hx := hn x (by simp)
    by_cases c : x.n = n
    · obtain ⟨out, h1, h2, h3, h4, h5, h6, h7⟩ := relS_spec most l (n + 1) (o ++ [x]) hr.2 (fun a ha => by have := hr.1 a ha; omega)
      have e : relS most n (x :: l) o = relS most (n + 1) l (o ++ [x]) := by simp only [relS, if_pos c]
      rw [e]
      refine ⟨x :: out, by rw [h1]; simp, by rw [List.cons_append, ← h2], by omega, fun a ha => ?_, h5, h6, ?_⟩
      · rcases List.mem_cons.1 ha with rfl | ha
        · omega
        · have := h4 a ha; omega
      · rcases h7 with h7 | ⟨a, ha, h7⟩
        · exact .inr ⟨x, by simp, by rw [h7]; omega⟩
        · exact .inr ⟨a, by simp [ha], h7⟩
    · by_cases c2 : l.length + 1 ≤ most
      · have e : relS most n (x :: l) o = (n, x :: l, o) := by simp only [relS, if_neg c, if_pos c2]
        rw [e]
        refine ⟨[], by simp, rfl, Int.le_refl _, by simp, fun a ha => ?_, by simpa using c2, .inl rfl⟩
        rcases List.mem_cons.1 ha with rfl | ha
        · simp only; omega
        · have := hr.1 a ha; simp only; omega
      · obtain ⟨out, h1, h2, h3, h4, h5, h6, h7⟩ := relS_spec most l (x.n + 1) (o ++ [x]) hr.2 (fun a ha => by have := hr.1 a ha; omega)
        have e : relS most n (x :: l) o = relS most (x.n + 1) l (o ++ [x]) := by simp only [relS, if_neg c, if_neg c2]
        rw [e]
        refine ⟨x :: out, by rw [h1]; simp, by rw [List.cons_append, ← h2], by omega, fun a ha => ?_, h5, h6, ?_⟩
        · rcases List.mem_cons.1 ha with rfl | ha
          · omega
          · have := h4 a ha; omega
        · rcases h7 with h7 | ⟨a, ha, h7⟩
          · exact .inr ⟨x, by simp, h7⟩
          · exact .inr ⟨a, by simp [ha], h7⟩
theorem heldE_mk : ∀ {l : List Slt} {a : Int}, (∀ x ∈ l, sltE x = 0 ∧ a < x.n) → Rise l → heldE a l = 0
  | [], a, _, _ => rfl
  | x :: l, a, h, hr => by
    have hr := List.pairwise_cons.1 hr
    have hx := h x (by simp)
    unfold heldE
    rw [if_neg (by simp [hx.1]), if_neg (by omega)]
    exact heldE_mk (fun y hy => ⟨(h y (by simp [hy])).1, hr.1 y hy⟩) hr.2
theorem bufE_mk {n : Int} {l : List Slt} (h1 : 65536 ≤ n ∧ n ≤ 1000000001) (h2 : l.length ≤ 4) (h3 : ∀ x ∈ l, sltE x = 0 ∧ n < x.n) (h4 : Rise l) : bufE ⟨n, l⟩ = 0 := by
  unfold bufE
  simp only
  rw [if_neg (by omega), if_neg (by omega), if_neg (by simp [heldE_mk h3 h4]), if_neg (by omega)]
theorem insS_rise {l : List Slt} {x : Slt} (hr : Rise l) (hx : ∀ y ∈ l, y.n ≠ x.n) : Rise (insS l x) := by
  unfold insS insL Rise
  have hlt : ∀ a ∈ l.take (posS l x.n), a.n < x.n := fun a ha => by
    obtain ⟨k, hk⟩ := List.mem_iff_getElem?.1 ha
    rw [List.getElem?_take] at hk
    split at hk
    · rename_i h; exact pos_lt h hk
    · cases hk
  have hgt : ∀ a ∈ l.drop (posS l x.n), x.n < a.n := fun a ha => by
    obtain ⟨k, hk⟩ := List.mem_iff_getElem?.1 ha
    rw [List.getElem?_drop] at hk
    have h1 := pos_ge hr (Nat.le_add_right _ k) hk
    have h2 := hx a (List.mem_of_mem_drop ha)
    omega
  rw [List.append_assoc, List.pairwise_append]
  refine ⟨hr.sublist (List.take_sublist _ _), ?_, fun a ha c hc => ?_⟩
  · rw [List.singleton_append, List.pairwise_cons]
    exact ⟨hgt, hr.sublist (List.drop_sublist _ _)⟩
  · have := hlt a ha
    rcases List.mem_append.1 hc with h | h
    · simp at h; subst h; exact this
    · have := hgt c h; omega
theorem insS_has (l : List Slt) (x : Slt) : x ∈ insS l x := by unfold insS insL; simp
theorem rawB_spec {b : Bf} {x : Slt} (hb : bufE b = 0) (hx : sltE x = 0) : bufE ⟨(rawB b x).1, (rawB b x).2.1⟩ = 0 ∧ b.next ≤ (rawB b x).1 ∧ Rise (rawB b x).2.2 ∧ (∀ a ∈ (rawB b x).2.2, bnxS b x ≤ a.n ∧ a.n < (rawB b x).1) ∧
    (∀ a ∈ (rawB b x).2.2 ++ (rawB b x).2.1, a = x ∨ a ∈ b.held) ∧ (rawB b x).2.2.length ≤ 5 ∧ 65536 ≤ (rawB b x).1 ∧ (x.n < (rawB b x).1 ∨ ∃ y ∈ (rawB b x).2.1, y.n = x.n) := by
  obtain ⟨p1, p2, p3, p4⟩ := bufE_ok hb
  have px := (sltE_ok hx).1
  have hn : b.next ≤ bnxS b x ∧ 65536 ≤ bnxS b x ∧ bnxS b x ≤ 1000000001 := by unfold bnxS; split <;> omega
  by_cases hc : bnxS b x ≤ x.n ∧ hasS b.held x.n = false
  · have e : rawB b x = relS 4 (bnxS b x) (insS b.held x) [] := if_pos hc
    have hne : ∀ y ∈ b.held, y.n ≠ x.n := by simpa [hasS] using hc.2
    have hri := insS_rise p4 hne
    have hge : ∀ a ∈ insS b.held x, bnxS b x ≤ a.n := fun a ha => by
      rcases insS_mem ha with rfl | h
      · exact hc.1
      · have := (p3 a h).2
        unfold bnxS; split
        · rename_i h0
          rcases p1 with ⟨_, h5⟩ | h5
          · rw [h5] at h; cases h
          · omega
        · omega
    have hok : ∀ a ∈ insS b.held x, sltE a = 0 := fun a ha => by
      rcases insS_mem ha with rfl | h
      · exact hx
      · exact (p3 a h).1
    obtain ⟨out, h1, h2, h3, h4, h5, h6, h7⟩ := relS_spec 4 (insS b.held x) (bnxS b x) [] hri hge
    rw [e]
    rw [List.nil_append] at h1
    have hsub : ∀ a ∈ out ++ (relS 4 (bnxS b x) (insS b.held x) []).2.1, a ∈ insS b.held x := fun a ha => by rw [h2]; exact ha
    have hri2 : Rise (out ++ (relS 4 (bnxS b x) (insS b.held x) []).2.1) := by rw [← h2]; exact hri
    rw [h1]
    refine ⟨bufE_mk ⟨by omega, ?_⟩ h6 (fun a ha => ⟨hok a (hsub a (by simp [ha])), h5 a ha⟩) (List.pairwise_append.1 hri2).2.1, by omega, (List.pairwise_append.1 hri2).1, h4, fun a ha => insS_mem (hsub a ha), ?_, by omega, ?_⟩
    · rcases h7 with h7 | ⟨a, ha, h7⟩
      · omega
      · have := (sltE_ok (hok a ha)).1; omega
    · have := congrArg List.length h2
      rw [insS_len, List.length_append] at this; omega
    · have := insS_has b.held x
      rw [h2] at this
      rcases List.mem_append.1 this with h | h
      · exact .inl (h4 x h).2
      · exact .inr ⟨x, h, rfl⟩
  · have e : rawB b x = (bnxS b x, b.held, []) := if_neg hc
    rw [e]
    simp only
    by_cases h0 : b.next = 0
    · have hh : b.held = [] := by
        rcases p1 with h | h
        · exact h.2
        · omega
      exact absurd ⟨by rw [bnxS, if_pos h0]; exact Int.le_refl _, by rw [hh]; rfl⟩ hc
    · have e2 : bnxS b x = b.next := if_neg h0
      rw [e2]
      have hb' : bufE ⟨b.next, b.held⟩ = 0 := hb
      refine ⟨hb', Int.le_refl _, List.Pairwise.nil, by simp, fun a ha => .inr (by simpa using ha), by simp, by omega, ?_⟩
      by_cases h1 : b.next ≤ x.n
      · have : hasS b.held x.n = true := by
          cases q : hasS b.held x.n with
          | true => rfl
          | false => exact absurd ⟨by rw [e2]; exact h1, q⟩ hc
        exact .inr (by simpa [hasS] using this)
      · exact .inl (by omega)
end Go.Proofs.YtokkencbpmjdaaaGreat
end

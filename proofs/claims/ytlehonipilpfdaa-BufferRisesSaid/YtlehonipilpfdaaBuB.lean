/- buffer.Raw, Put, Empty, Flush, walked. No condition. -/
import Derived.Test.YtlehonipilpfdaaBuA
section
namespace Go.Proofs.Ytlehonipilpfdaa
open Go Go.Sy
set_option maxRecDepth 4000
set_option linter.unusedSimpArgs false
set_option linter.unusedVariables false
attribute [local irreducible] Reg RegD Later Out CallV Tri Side EqV
def insS (l : List Slt) (x : Slt) : List Slt := insL l (posS l x.n) x
def hasS (l : List Slt) (n : Int) : Bool := decide (∃ y ∈ l, y.n = n)
def bnxS (b : Bf) (x : Slt) : Int := if b.next = 0 then x.n else b.next
def rawB (b : Bf) (x : Slt) : Int × List Slt × List Slt := if bnxS b x ≤ x.n ∧ hasS b.held x.n = false then relS 4 (bnxS b x) (insS b.held x) [] else (bnxS b x, b.held, [])
theorem heldE_ok : ∀ {l : List Slt} {a : Int}, heldE a l = 0 → (∀ x ∈ l, sltE x = 0 ∧ a < x.n) ∧ l.Pairwise fun x y => x.n < y.n
  | [], a, _ => by simp
  | x :: l, a, h => by
    unfold heldE at h
    by_cases c : sltE x = 0
    · rw [if_neg (by simp [c])] at h
      by_cases c2 : x.n ≤ a
      · rw [if_pos c2] at h; cases h
      · rw [if_neg c2] at h
        obtain ⟨h1, h2⟩ := heldE_ok h
        refine ⟨fun y hy => ?_, List.pairwise_cons.2 ⟨fun y hy => (h1 y hy).2, h2⟩⟩
        rcases List.mem_cons.1 hy with rfl | hy
        · exact ⟨c, by omega⟩
        · exact ⟨(h1 y hy).1, by have := (h1 y hy).2; omega⟩
    · rw [if_pos c] at h; exact absurd h c
theorem bufE_ok {b : Bf} (h : bufE b = 0) : (b.next = 0 ∧ b.held = [] ∨ 65536 ≤ b.next ∧ b.next ≤ 1000000001) ∧ b.held.length ≤ 4 ∧ (∀ x ∈ b.held, sltE x = 0 ∧ b.next < x.n) ∧ b.held.Pairwise fun x y => x.n < y.n := by
  unfold bufE at h
  by_cases c1 : b.next ≠ 0 ∧ (b.next < 65536 ∨ 1000000001 < b.next)
  · rw [if_pos c1] at h; cases h
  rw [if_neg c1] at h
  by_cases c2 : 4 < b.held.length
  · rw [if_pos c2] at h; cases h
  rw [if_neg c2] at h
  by_cases c3 : heldE b.next b.held = 0
  · rw [if_neg (by simp [c3])] at h
    obtain ⟨h1, h2⟩ := heldE_ok c3
    refine ⟨?_, by omega, h1, h2⟩
    by_cases c4 : b.next = 0 ∧ 0 < b.held.length
    · rw [if_pos c4] at h; cases h
    · by_cases c5 : b.next = 0
      · exact .inl ⟨c5, List.length_eq_zero_iff.1 (by omega)⟩
      · exact .inr (by omega)
  · rw [if_pos c3] at h; exact absurd h c3
theorem insS_len (l : List Slt) (x : Slt) : (insS l x).length = l.length + 1 := by
  have := posS_le l x.n
  unfold insS insL; simp; omega
theorem insS_mem {l : List Slt} {x a : Slt} (h : a ∈ insS l x) : a = x ∨ a ∈ l := by
  unfold insS insL at h
  simp only [List.append_assoc, List.mem_append, List.mem_singleton] at h
  rcases h with h | h | h
  · exact .inr (List.mem_of_mem_take h)
  · exact .inl h
  · exact .inr (List.mem_of_mem_drop h)
set_option maxHeartbeats 2000000 in
theorem c_bufRaw (b : Bf) (x : Slt) (hb : bufE b = 0) (hx : sltE x = 0) : PSpec Try.prog 60 [.agg (bfC b), .agg (sltC x)] (relT (rawB b x)) := by
  obtain ⟨p1, p2, p3, p4⟩ := bufE_ok hb
  have px := (sltE_ok hx).1
  have hh : ∀ a ∈ b.held, 0 ≤ a.n ∧ a.n ≤ 1000000000000 := fun a ha => by have := (sltE_ok (p3 a ha).1).1; omega
  have hn : 0 ≤ bnxS b x ∧ bnxS b x ≤ 1000000000000 := by unfold bnxS; split <;> omega
  have hi : ∀ a ∈ insS b.held x, 0 ≤ a.n ∧ a.n ≤ 1000000000000 := fun a ha => by
    rcases insS_mem ha with rfl | h
    · omega
    · exact hh a h
  have hbs := c_binary b.held x.n (by omega) (by omega) hh p4
  by_cases hc : bnxS b x ≤ x.n ∧ hasS b.held x.n = false
  · have hsk := c_skip 4 (bnxS b x) (insS b.held x) [] (by rw [insS_len]; simp; omega) (by omega) hn hi
    rw [rawB, if_pos hc]
    by_cases hp : posS b.held x.n = b.held.length
    · have he : insS b.held x = b.held ++ [x] := by unfold insS insL; rw [hp]; simp
      rw [he] at hsk ⊢
      have hin := c_insEnd b.held x (by omega)
      rw [hp] at hbs
      refine v_pspec Try.func60 rfl Try.ntmps60 Try.results60 (by simp) (by first | exact .s _ | repeat constructor) ?_
      repeat' (first
 | ((with_reducible apply w_ownCell 80 2 48 7); (case hb => rfl); (case hj => rfl); (case hsz => decide); (case hm => (try simp only [Nat.reduceAdd, Nat.reduceMul]); exact rfl))
 | ((first | with_reducible refine w_cut (x := .cond (.tmp 16) _ _) (X := Unit) [11, 12, 13, 14, 15, 16, 17, 18, 19, 20, 21, 22] (fun _ => []) (fun _ => [(80, .box [I (bnxS b x), .osl 81 7 (rowL b.held), .osl 112 7 []])]) (fun _ => True) ?_ ?_ | with_reducible refine w_cut (x := .seq (.region _ _ _) (.cond (.tmp 16) _ _)) (X := Unit) [11, 12, 13, 14, 15, 16, 17, 18, 19, 20, 21, 22] (fun _ => []) (fun _ => [(80, .box [I (bnxS b x), .osl 81 7 (rowL b.held), .osl 112 7 []])]) (fun _ => True) ?_ ?_); (try (rintro z hz; simp only at hz)))
 | (with_reducible first | apply qz0 | (refine h0 _ _ ?_; clear h0 hw) | (refine hw _ _ _ ?_; clear h0 hw) | apply qz1 | apply qz2 | apply qz4 | apply qz5 | apply qz6 | apply qz7 | apply qzb | apply qzc | apply qzd | apply qze | (refine hL _ ?_; clear hL))
 | (with_reducible first | refine w_reg (by decide +kernel) fun K1 hK => ?_ | refine w_reg_end (by decide +kernel) fun K1 hK => ?_)
 | ((with_reducible first | apply d_reg Try.mix (by decide +kernel) | apply d_reg_end Try.mix (by decide +kernel)); (case hm => simp only [List.length_cons, List.length_nil, Nat.reduceAdd, Nat.reduceMul]; rfl); (case' h => intro K1 hK))
 | with_reducible refine go_seq ?_
 | ((with_reducible first | apply v_op Try.tab | apply v_op0 Try.tab | apply d_op Try.tab | apply d_op0 Try.tab) <;> first | (intro K' h0 hw; conv => whnf) | (simp only [Nat.reduceAdd, Nat.reduceMul]; rfl))
 | ((with_reducible apply v_nil); (case hm => (simp only [Nat.reduceAdd, Nat.reduceMul]; rfl)); (case' h => with_reducible refine hK _ ?_; clear hK))
 | ((with_reducible apply d_nil); (refine hK _ _ _ _ (by first | decide +kernel | (simp only [List.map_cons, List.map_nil, List.nil_append, List.cons_append]; decide +kernel) | rfl) ?_; clear hK))
 | (first | refine d_grd_yes (by rfl) (by rfl) ?_ | refine v_grd_yes (by rfl) (by rfl) ?_)
 | ((first | (apply d_grd_no; (case hg => rfl); (case hb => rfl)) | (apply d_grd_undef; (case hg => rfl); (case hb => rfl)) | (apply d_grd; (case hg => rfl); (case hb => rfl)) | (apply v_grd_no; (case hg => rfl); (case hb => rfl)) | (apply v_grd_undef; (case hg => rfl); (case hb => rfl)) | (apply v_grd; (case hg => rfl); (case hb => rfl))); (case hi => (simp only [Nat.reduceAdd, Nat.reduceMul]; rfl)))
 | ((with_reducible refine callV_id (f := 85) ?_); have hcs_ := c_own b (by omega); (with_reducible apply w_callO [] own85 (hcs_)); (case hx => rfl); (case he => rfl); (case hle => first | ((repeat constructor); done) | (simp; done)); (case hm => rfl); (case hnd => decide); (case' hK => (try clear hcs_); conv => whnf); (any_goals (simp; done)))
 | ((with_reducible refine callV_id (f := 86) ?_); (with_reducible apply w_callO [] own86 (hbs)); (case hx => rfl); (case he => rfl); (case hle => first | ((repeat constructor); done) | (simp; done)); (case hm => rfl); (case hnd => decide); (case' hK => conv => whnf); (any_goals (simp; done)))
 | ((with_reducible refine callV_id (f := 88) ?_); (with_reducible apply w_callO [81, 656] own88 (hin)); (case hx => rfl); (case he => rfl); (case hle => first | ((repeat constructor); done) | (simp; done)); (case hm => rfl); (case hnd => decide); (case' hK => conv => whnf); (any_goals (simp; done)))
 | ((with_reducible refine callV_id (f := 89) ?_); (with_reducible apply w_callO [80, 112] own89 (hsk)); (case hx => rfl); (case he => rfl); (case hle => first | ((repeat constructor); done) | (simp; done)); (case hm => rfl); (case hnd => decide); (case' hK => conv => whnf); (any_goals (simp; done)))
 | ((with_reducible apply go_cond); (case hb => rfl))
 | ((with_reducible first | refine w_ret Try.tab fun K' hL => ?_ | refine w_ret_end Try.tab fun K' hL => ?_); (conv => whnf))
 | ((with_reducible apply And.intro); (case' right => try (conv => whnf)); (case' left => try first | rfl | decide | (simp; done) | (simp (disch := omega) only [wrp]; omega) | (simp (disch := omega) [wrp]; (try omega); done)))
 | ((with_reducible apply Side.mk); (try simp (disch := omega) only [wrp]); (try simp); (try simp (disch := omega) only [wrp]); (try omega))
 | (first | (guard_hyp g4; intro g5; try simp at g5) | (guard_hyp g3; intro g4; try simp at g4) | (guard_hyp g2; intro g3; try simp at g3) | (guard_hyp g1; intro g2; try simp at g2) | intro g1; try simp at g1))
      · have e : bnxS b x = x.n := if_pos g1
        ((refine w_nx (()) ?_ ?_ ?_ ?_ ?_ ?_); (case refine_1 => simp [e]); (case refine_2 => simp [e]); (case refine_3 => simp (disch := omega) [e, wrp]); (case refine_4 => simp [e]); (case refine_5 => first | (simp; omega) | (simp; done) | omega | (simp only; omega)); (case' refine_6 => (try simp only); (try exact trivial)))
      · have e : bnxS b x = b.next := if_neg g1
        ((refine w_nx (()) ?_ ?_ ?_ ?_ ?_ ?_); (case refine_1 => simp [e]); (case refine_2 => simp [e]); (case refine_3 => simp (disch := omega) [e, wrp]); (case refine_4 => simp [e]); (case refine_5 => first | (simp; omega) | (simp; done) | omega | (simp only; omega)); (case' refine_6 => (try simp only); (try exact trivial)))
      · repeat constructor
      · exact absurd g4 (by simpa [hasS] using hc.2)
      · exfalso; omega
    · have he : insS b.held x = insL b.held (posS b.held x.n) x := rfl
      have hpl := posS_le b.held x.n
      have hpl2 : posS b.held x.n < b.held.length := by omega
      have hins := fun cap => c_ins b.held (posS b.held x.n) x cap hpl2 (by omega)
      rw [he] at hsk ⊢
      refine v_pspec Try.func60 rfl Try.ntmps60 Try.results60 (by simp) (by first | exact .s _ | repeat constructor) ?_
      repeat' (first
 | ((with_reducible apply w_ownCell 80 2 48 7); (case hb => rfl); (case hj => rfl); (case hsz => decide); (case hm => (try simp only [Nat.reduceAdd, Nat.reduceMul]); exact rfl))
 | ((first | with_reducible refine w_cut (x := .cond (.tmp 16) _ _) (X := Unit) [11, 12, 13, 14, 15, 16, 17, 18, 19, 20, 21, 22] (fun _ => []) (fun _ => [(80, .box [I (bnxS b x), .osl 81 7 (rowL b.held), .osl 112 7 []])]) (fun _ => True) ?_ ?_ | with_reducible refine w_cut (x := .seq (.region _ _ _) (.cond (.tmp 16) _ _)) (X := Unit) [11, 12, 13, 14, 15, 16, 17, 18, 19, 20, 21, 22] (fun _ => []) (fun _ => [(80, .box [I (bnxS b x), .osl 81 7 (rowL b.held), .osl 112 7 []])]) (fun _ => True) ?_ ?_); (try (rintro z hz; simp only at hz)))
 | ((with_reducible apply w_thaw (code := .seq (.region 6 _ _) _) 81 7 (rowL b.held) ([(3, .ptr 16 0), (4, .ptr 32 0), (6, .ptr 80 0), (7, I (posS b.held x.n))]) ([(16, .box (sltC x)), (32, .box [I 0, .s (.slice none 0 0)]), (80, .box [I (bnxS b x), .osl 81 7 (rowL b.held), .osl 112 7 []]), (112, .perm 48 7 0)])); (case hat => exact .inr ⟨80, _, rfl, 1, rfl⟩); (case hp16 => decide); (case hpe => rfl); (case hn0 => first | rfl | (simp; done)); (case h0 => first | omega | (simp; done) | (simp; omega)); (case hsc => simp [thokS, thokB, Ob.thok, AV.thok, thokL, permIs, scalR]); (case hS => simp); (case hB => simp); (case hSk => simp [thokS, thokB, Ob.thok, AV.thok, thokL, permIs, scalR]); (case hBk => simp [thokS, thokB, Ob.thok, AV.thok, thokL, permIs, scalR]); (case hm => (try simp only [Nat.reduceAdd, Nat.reduceMul]); exact rfl); (case' h => intro cap hc1 hc2))
 | (with_reducible first | apply qz0 | (refine h0 _ _ ?_; clear h0 hw) | (refine hw _ _ _ ?_; clear h0 hw) | apply qz1 | apply qz2 | apply qz4 | apply qz5 | apply qz6 | apply qz7 | apply qzb | apply qzc | apply qzd | apply qze | (refine hL _ ?_; clear hL))
 | (with_reducible first | refine w_reg (by decide +kernel) fun K1 hK => ?_ | refine w_reg_end (by decide +kernel) fun K1 hK => ?_)
 | ((with_reducible first | apply d_reg Try.mix (by decide +kernel) | apply d_reg_end Try.mix (by decide +kernel)); (case hm => simp only [List.length_cons, List.length_nil, Nat.reduceAdd, Nat.reduceMul]; rfl); (case' h => intro K1 hK))
 | with_reducible refine go_seq ?_
 | ((with_reducible first | apply v_op Try.tab | apply v_op0 Try.tab | apply d_op Try.tab | apply d_op0 Try.tab) <;> first | (intro K' h0 hw; conv => whnf) | (simp only [Nat.reduceAdd, Nat.reduceMul]; rfl))
 | ((with_reducible apply v_nil); (case hm => (simp only [Nat.reduceAdd, Nat.reduceMul]; rfl)); (case' h => with_reducible refine hK _ ?_; clear hK))
 | ((with_reducible apply d_nil); (refine hK _ _ _ _ (by first | decide +kernel | (simp only [List.map_cons, List.map_nil, List.nil_append, List.cons_append]; decide +kernel) | rfl) ?_; clear hK))
 | (first | refine d_grd_yes (by rfl) (by rfl) ?_ | refine v_grd_yes (by rfl) (by rfl) ?_)
 | ((first | (apply d_grd_no; (case hg => rfl); (case hb => rfl)) | (apply d_grd_undef; (case hg => rfl); (case hb => rfl)) | (apply d_grd; (case hg => rfl); (case hb => rfl)) | (apply v_grd_no; (case hg => rfl); (case hb => rfl)) | (apply v_grd_undef; (case hg => rfl); (case hb => rfl)) | (apply v_grd; (case hg => rfl); (case hb => rfl))); (case hi => (simp only [Nat.reduceAdd, Nat.reduceMul]; rfl)))
 | ((with_reducible refine callV_id (f := 85) ?_); have hcs_ := c_own b (by omega); (with_reducible apply w_callO [] own85 (hcs_)); (case hx => rfl); (case he => rfl); (case hle => first | ((repeat constructor); done) | (simp [LeL.rfl', thL, AV.th, thB, thS, Ob.th, box_ren, box_lt]; done)); (case hm => rfl); (case hnd => decide); (case' hK => (try clear hcs_); conv => whnf); (any_goals (simp [LeL.rfl', thL, AV.th, thB, thS, Ob.th, box_ren, box_lt]; done)))
 | ((with_reducible refine callV_id (f := 86) ?_); (with_reducible apply w_callO [] own86 (hbs)); (case hx => rfl); (case he => rfl); (case hle => first | ((repeat constructor); done) | (simp [LeL.rfl', thL, AV.th, thB, thS, Ob.th, box_ren, box_lt]; done)); (case hm => rfl); (case hnd => decide); (case' hK => conv => whnf); (any_goals (simp [LeL.rfl', thL, AV.th, thB, thS, Ob.th, box_ren, box_lt]; done)))
 | ((with_reducible refine callV_id (f := 88) ?_); have hcs_ := hins cap hc1 hc2; (with_reducible apply w_callO [528, 672] own88 (hcs_)); (case hx => rfl); (case he => rfl); (case hle => first | ((repeat constructor); done) | (simp [LeL.rfl', thL, AV.th, thB, thS, Ob.th, box_ren, box_lt]; done)); (case hm => rfl); (case hnd => decide); (case' hK => (try clear hcs_); conv => whnf); (any_goals (simp [LeL.rfl', thL, AV.th, thB, thS, Ob.th, box_ren, box_lt]; done)))
 | ((with_reducible refine callV_id (f := 89) ?_); (with_reducible apply w_callO [80, 112] own89 (hsk)); (case hx => rfl); (case he => rfl); (case hle => first | ((repeat constructor); done) | (simp [LeL.rfl', thL, AV.th, thB, thS, Ob.th, box_ren, box_lt]; done)); (case hm => rfl); (case hnd => decide); (case' hK => conv => whnf); (any_goals (simp [LeL.rfl', thL, AV.th, thB, thS, Ob.th, box_ren, box_lt]; done)))
 | ((with_reducible apply go_cond); (case hb => rfl))
 | ((with_reducible first | refine w_ret Try.tab fun K' hL => ?_ | refine w_ret_end Try.tab fun K' hL => ?_); (conv => whnf))
 | ((with_reducible apply And.intro); (case' right => try (conv => whnf)); (case' left => try first | rfl | decide | (simp [LeL.rfl', thL, AV.th, thB, thS, Ob.th, box_ren, box_lt]; done) | (simp (disch := omega) only [wrp]; omega) | (simp (disch := omega) [LeL.rfl', thL, AV.th, thB, thS, Ob.th, box_ren, box_lt, wrp]; (try omega); done)))
 | ((with_reducible apply Side.mk); (try simp (disch := omega) only [wrp]); (try simp); (try simp (disch := omega) only [wrp]); (try omega))
 | (first | (guard_hyp g4; intro g5; try simp at g5) | (guard_hyp g3; intro g4; try simp at g4) | (guard_hyp g2; intro g3; try simp at g3) | (guard_hyp g1; intro g2; try simp at g2) | intro g1; try simp at g1))
      · have e : bnxS b x = x.n := if_pos g1
        ((refine w_nx (()) ?_ ?_ ?_ ?_ ?_ ?_); (case refine_1 => simp [e]); (case refine_2 => simp [e]); (case refine_3 => simp (disch := omega) [e, wrp]); (case refine_4 => simp [e]); (case refine_5 => first | (simp; omega) | (simp; done) | omega | (simp only; omega)); (case' refine_6 => (try simp only); (try exact trivial)))
      · have e : bnxS b x = b.next := if_neg g1
        ((refine w_nx (()) ?_ ?_ ?_ ?_ ?_ ?_); (case refine_1 => simp [e]); (case refine_2 => simp [e]); (case refine_3 => simp (disch := omega) [e, wrp]); (case refine_4 => simp [e]); (case refine_5 => first | (simp; omega) | (simp; done) | omega | (simp only; omega)); (case' refine_6 => (try simp only); (try exact trivial)))
      · repeat constructor
      · exact absurd g4 (by simpa [hasS] using hc.2)
      · exfalso; omega
  · rw [rawB, if_neg hc]
    refine v_pspec Try.func60 rfl Try.ntmps60 Try.results60 (by simp) (by first | exact .s _ | repeat constructor) ?_
    repeat' (first
 | ((first | with_reducible refine w_cut (x := .cond (.tmp 16) _ _) (X := Unit) [11, 12, 13, 14, 15, 16, 17, 18, 19, 20, 21, 22] (fun _ => []) (fun _ => [(80, .box [I (bnxS b x), .osl 81 7 (rowL b.held), .s (.slice none 0 0)])]) (fun _ => True) ?_ ?_ | with_reducible refine w_cut (x := .seq (.region _ _ _) (.cond (.tmp 16) _ _)) (X := Unit) [11, 12, 13, 14, 15, 16, 17, 18, 19, 20, 21, 22] (fun _ => []) (fun _ => [(80, .box [I (bnxS b x), .osl 81 7 (rowL b.held), .s (.slice none 0 0)])]) (fun _ => True) ?_ ?_); (try (rintro z hz; simp only at hz)))
 | ((with_reducible refine halt_in (code := .seq (.region 6 _ _) _) ?_); exfalso; exact hc ⟨g3, by simpa [hasS] using g4⟩)
 | (with_reducible first | apply qz0 | (refine h0 _ _ ?_; clear h0 hw) | (refine hw _ _ _ ?_; clear h0 hw) | apply qz1 | apply qz2 | apply qz4 | apply qz5 | apply qz6 | apply qz7 | apply qzb | apply qzc | apply qzd | apply qze | (refine hL _ ?_; clear hL))
 | (with_reducible first | refine w_reg (by decide +kernel) fun K1 hK => ?_ | refine w_reg_end (by decide +kernel) fun K1 hK => ?_)
 | ((with_reducible first | apply d_reg Try.mix (by decide +kernel) | apply d_reg_end Try.mix (by decide +kernel)); (case hm => simp only [List.length_cons, List.length_nil, Nat.reduceAdd, Nat.reduceMul]; rfl); (case' h => intro K1 hK))
 | with_reducible refine go_seq ?_
 | ((with_reducible first | apply v_op Try.tab | apply v_op0 Try.tab | apply d_op Try.tab | apply d_op0 Try.tab) <;> first | (intro K' h0 hw; conv => whnf) | (simp only [Nat.reduceAdd, Nat.reduceMul]; rfl))
 | ((with_reducible apply v_nil); (case hm => (simp only [Nat.reduceAdd, Nat.reduceMul]; rfl)); (case' h => with_reducible refine hK _ ?_; clear hK))
 | ((with_reducible apply d_nil); (refine hK _ _ _ _ (by first | decide +kernel | (simp only [List.map_cons, List.map_nil, List.nil_append, List.cons_append]; decide +kernel) | rfl) ?_; clear hK))
 | (first | refine d_grd_yes (by rfl) (by rfl) ?_ | refine v_grd_yes (by rfl) (by rfl) ?_)
 | ((first | (apply d_grd_no; (case hg => rfl); (case hb => rfl)) | (apply d_grd_undef; (case hg => rfl); (case hb => rfl)) | (apply d_grd; (case hg => rfl); (case hb => rfl)) | (apply v_grd_no; (case hg => rfl); (case hb => rfl)) | (apply v_grd_undef; (case hg => rfl); (case hb => rfl)) | (apply v_grd; (case hg => rfl); (case hb => rfl))); (case hi => (simp only [Nat.reduceAdd, Nat.reduceMul]; rfl)))
 | ((with_reducible refine callV_id (f := 85) ?_); have hcs_ := c_own b (by omega); (with_reducible apply w_callO [] own85 (hcs_)); (case hx => rfl); (case he => rfl); (case hle => first | ((repeat constructor); done) | (simp; done)); (case hm => rfl); (case hnd => decide); (case' hK => (try clear hcs_); conv => whnf); (any_goals (simp; done)))
 | ((with_reducible refine callV_id (f := 86) ?_); (with_reducible apply w_callO [] own86 (hbs)); (case hx => rfl); (case he => rfl); (case hle => first | ((repeat constructor); done) | (simp; done)); (case hm => rfl); (case hnd => decide); (case' hK => conv => whnf); (any_goals (simp; done)))
 | ((with_reducible apply go_cond); (case hb => rfl))
 | ((with_reducible first | refine w_ret Try.tab fun K' hL => ?_ | refine w_ret_end Try.tab fun K' hL => ?_); (conv => whnf))
 | ((with_reducible apply And.intro); (case' right => try (conv => whnf)); (case' left => try first | rfl | decide | (simp; done) | (simp (disch := omega) only [wrp]; omega) | (simp (disch := omega) [wrp]; (try omega); done)))
 | ((with_reducible apply Side.mk); (try simp (disch := omega) only [wrp]); (try simp); (try simp (disch := omega) only [wrp]); (try omega))
 | (first | (guard_hyp g4; intro g5; try simp at g5) | (guard_hyp g3; intro g4; try simp at g4) | (guard_hyp g2; intro g3; try simp at g3) | (guard_hyp g1; intro g2; try simp at g2) | intro g1; try simp at g1))
    · have e : bnxS b x = x.n := if_pos g1
      ((refine w_nx (()) ?_ ?_ ?_ ?_ ?_ ?_); (case refine_1 => simp [e]); (case refine_2 => simp [e]); (case refine_3 => simp (disch := omega) [e, wrp]); (case refine_4 => simp [e]); (case refine_5 => first | (simp; omega) | (simp; done) | omega | (simp only; omega)); (case' refine_6 => (try simp only); (try exact trivial)))
    · have e : bnxS b x = b.next := if_neg g1
      ((refine w_nx (()) ?_ ?_ ?_ ?_ ?_ ?_); (case refine_1 => simp [e]); (case refine_2 => simp [e]); (case refine_3 => simp (disch := omega) [e, wrp]); (case refine_4 => simp [e]); (case refine_5 => first | (simp; omega) | (simp; done) | omega | (simp only; omega)); (case' refine_6 => (try simp only); (try exact trivial)))
    all_goals repeat constructor
set_option maxHeartbeats 1000000 in
theorem c_bufEmpty (b : Bf) (hb : bufE b = 0) : PSpec Try.prog 61 [.agg (bfC b)] (relT (relS 0 b.next b.held [])) := by
  obtain ⟨p1, p2, p3, p4⟩ := bufE_ok hb
  have hh : ∀ a ∈ b.held, 0 ≤ a.n ∧ a.n ≤ 1000000000000 := fun a ha => by have := (sltE_ok (p3 a ha).1).1; omega
  have hsk := c_skip 0 b.next b.held [] (by simp; omega) (by omega) (by omega) hh
  refine v_pspec Try.func61 rfl Try.ntmps61 Try.results61 (by simp) (by first | exact .s _ | repeat constructor) ?_
  repeat' (first
 | ((with_reducible apply w_ownCell 64 2 48 7); (case hb => rfl); (case hj => rfl); (case hsz => decide); (case hm => (try simp only [Nat.reduceAdd, Nat.reduceMul]); exact rfl))
 | (with_reducible first | apply qz0 | (refine h0 _ _ ?_; clear h0 hw) | (refine hw _ _ _ ?_; clear h0 hw) | apply qz1 | apply qz2 | apply qz5 | apply qz6 | (refine hL _ ?_; clear hL))
 | (with_reducible first | refine w_reg (by decide +kernel) fun K1 hK => ?_ | refine w_reg_end (by decide +kernel) fun K1 hK => ?_)
 | ((with_reducible first | apply d_reg Try.mix (by decide +kernel) | apply d_reg_end Try.mix (by decide +kernel)); (case hm => simp only [List.length_cons, List.length_nil, Nat.reduceAdd, Nat.reduceMul]; rfl); (case' h => intro K1 hK))
 | with_reducible refine go_seq ?_
 | ((with_reducible first | apply v_op Try.tab | apply v_op0 Try.tab | apply d_op Try.tab | apply d_op0 Try.tab) <;> first | (intro K' h0 hw; conv => whnf) | (simp only [Nat.reduceAdd, Nat.reduceMul]; rfl))
 | ((with_reducible apply v_nil); (case hm => (simp only [Nat.reduceAdd, Nat.reduceMul]; rfl)); (case' h => with_reducible refine hK _ ?_; clear hK))
 | ((with_reducible apply d_nil); (refine hK _ _ _ _ (by first | decide +kernel | (simp only [List.map_cons, List.map_nil, List.nil_append, List.cons_append]; decide +kernel) | rfl) ?_; clear hK))
 | ((with_reducible refine callV_id (f := 85) ?_); have hcs_ := c_own b (by omega); (with_reducible apply w_callO [] own85 (hcs_)); (case hx => rfl); (case he => rfl); (case hle => first | ((repeat constructor); done) | (simp; done)); (case hm => rfl); (case hnd => decide); (case' hK => (try clear hcs_); conv => whnf); (any_goals (simp; done)))
 | ((with_reducible refine callV_id (f := 89) ?_); (with_reducible apply w_callO [64, 96] own89 (hsk)); (case hx => rfl); (case he => rfl); (case hle => first | ((repeat constructor); done) | (simp; done)); (case hm => rfl); (case hnd => decide); (case' hK => conv => whnf); (any_goals (simp; done)))
 | ((with_reducible first | refine w_ret Try.tab fun K' hL => ?_ | refine w_ret_end Try.tab fun K' hL => ?_); (conv => whnf))
 | ((with_reducible apply And.intro); (case' right => try (conv => whnf)); (case' left => try first | rfl | decide | (simp; done) | (simp (disch := omega) only [wrp]; omega) | (simp (disch := omega) [wrp]; (try omega); done)))
 | ((with_reducible apply Side.mk); (try simp (disch := omega) only [wrp]); (try simp); (try simp (disch := omega) only [wrp]); (try omega))
 | (first  | intro g1; try simp at g1))
  all_goals repeat constructor
def putE (b : Bf) (x : Slt) : Int := if bufE b ≠ 0 then bufE b else sltE x
def putR (b : Bf) (x : Slt) : Int × List Slt × List Slt := if putE b x = 0 then rawB b x else (0, [], [])
def flushR (b : Bf) : Int × List Slt × List Slt := if bufE b = 0 then relS 0 b.next b.held [] else (0, [], [])
abbrev relT3 (x : Int × List Slt × List Slt) (e : Int) : AV := .tup [.agg [I x.1, slts x.2.1], slts x.2.2, I e]
set_option maxHeartbeats 1000000 in
theorem c_bufPut (b : Bf) (x : Slt) (hl : b.held.length ≤ 4000000000000) : PSpec Try.prog 22 [.agg (bfC b), .agg (sltC x)] (relT3 (putR b x) (putE b x)) := by
  by_cases h : putE b x = 0
  · have h1 : bufE b = 0 ∧ sltE x = 0 := by
      unfold putE at h
      by_cases c : bufE b = 0
      · rw [if_neg (by simp [c])] at h; exact ⟨c, h⟩
      · rw [if_pos c] at h; exact absurd h c
    rw [putR, if_pos h, h]
    have hr := c_bufRaw b x h1.1 h1.2
    refine v_pspec Try.func22 rfl Try.ntmps22 Try.results22 (by simp) (by first | exact .s _ | repeat constructor) ?_
    repeat' (first
 | (with_reducible first | apply qz0 | (refine h0 _ _ ?_; clear h0 hw) | (refine hw _ _ _ ?_; clear h0 hw) | apply qz1 | apply qz2 | apply qz5 | apply qz6 | (refine hL _ ?_; clear hL))
 | (with_reducible first | refine w_reg (by decide +kernel) fun K1 hK => ?_ | refine w_reg_end (by decide +kernel) fun K1 hK => ?_)
 | with_reducible refine go_seq ?_
 | ((with_reducible first | apply v_op Try.tab | apply v_op0 Try.tab) <;> first | (intro K' h0 hw; conv => whnf) | (simp only [Nat.reduceAdd, Nat.reduceMul]; rfl))
 | ((with_reducible apply v_nil); (case hm => (simp only [Nat.reduceAdd, Nat.reduceMul]; rfl)); (case' h => with_reducible refine hK _ ?_; clear hK))
 | ((with_reducible refine callV_id (f := 29) ?_); have hcs_ := c_bufCheck b hl; (with_reducible apply callV_f own29 (hcs_)); (case hx => rfl); (case he => rfl); (case hle => first | ((repeat constructor); done) | (simp; done)); (case hpu => repeat constructor); (case' hK => (try clear hcs_); conv => whnf))
 | ((with_reducible refine callV_id (f := 59) ?_); have hcs_ := c_slot x; (with_reducible apply callV_f own59 (hcs_)); (case hx => rfl); (case he => rfl); (case hle => first | ((repeat constructor); done) | (simp; done)); (case hpu => repeat constructor); (case' hK => (try clear hcs_); conv => whnf))
 | ((with_reducible refine callV_id (f := 60) ?_); (with_reducible apply callV_f own60 (hr)); (case hx => rfl); (case he => rfl); (case hle => first | ((repeat constructor); done) | (simp; done)); (case hpu => repeat constructor); (case' hK => conv => whnf))
 | ((with_reducible apply go_cond); (case hb => rfl))
 | ((with_reducible first | refine w_ret Try.tab fun K' hL => ?_ | refine w_ret_end Try.tab fun K' hL => ?_); (conv => whnf))
 | ((with_reducible apply And.intro); (case' right => try (conv => whnf)); (case' left => try first | rfl | decide | (simp; done) | (simp (disch := omega) only [wrp]; omega) | (simp (disch := omega) [wrp]; (try omega); done)))
 | ((with_reducible apply Side.mk); (try simp (disch := omega) only [wrp]); (try simp); (try simp (disch := omega) only [wrp]); (try omega))
 | (first | (guard_hyp g2; intro g3; try simp at g3) | (guard_hyp g1; intro g2; try simp at g2) | intro g1; try simp at g1))
    all_goals first
      | exact absurd h1.1 g1
      | exact absurd h1.2 g2
      | ((repeat constructor); done)
  · rw [putR, if_neg h]
    refine v_pspec Try.func22 rfl Try.ntmps22 Try.results22 (by simp) (by first | exact .s _ | repeat constructor) ?_
    repeat' (first
 | (with_reducible first | apply qz0 | (refine h0 _ _ ?_; clear h0 hw) | (refine hw _ _ _ ?_; clear h0 hw) | apply qz1 | apply qz2 | apply qz5 | apply qz6 | (refine hL _ ?_; clear hL))
 | (with_reducible first | refine w_reg (by decide +kernel) fun K1 hK => ?_ | refine w_reg_end (by decide +kernel) fun K1 hK => ?_)
 | with_reducible refine go_seq ?_
 | ((with_reducible first | apply v_op Try.tab | apply v_op0 Try.tab) <;> first | (intro K' h0 hw; conv => whnf) | (simp only [Nat.reduceAdd, Nat.reduceMul]; rfl))
 | ((with_reducible apply v_nil); (case hm => (simp only [Nat.reduceAdd, Nat.reduceMul]; rfl)); (case' h => with_reducible refine hK _ ?_; clear hK))
 | ((with_reducible refine callV_id (f := 29) ?_); have hcs_ := c_bufCheck b hl; (with_reducible apply callV_f own29 (hcs_)); (case hx => rfl); (case he => rfl); (case hle => first | ((repeat constructor); done) | (simp; done)); (case hpu => repeat constructor); (case' hK => (try clear hcs_); conv => whnf))
 | ((with_reducible refine callV_id (f := 59) ?_); have hcs_ := c_slot x; (with_reducible apply callV_f own59 (hcs_)); (case hx => rfl); (case he => rfl); (case hle => first | ((repeat constructor); done) | (simp; done)); (case hpu => repeat constructor); (case' hK => (try clear hcs_); conv => whnf))
 | ((with_reducible apply go_cond); (case hb => rfl))
 | ((with_reducible first | refine w_ret Try.tab fun K' hL => ?_ | refine w_ret_end Try.tab fun K' hL => ?_); (conv => whnf))
 | ((with_reducible apply And.intro); (case' right => try (conv => whnf)); (case' left => try first | rfl | decide | (simp; done) | (simp (disch := omega) only [wrp]; omega) | (simp (disch := omega) [wrp]; (try omega); done)))
 | ((with_reducible apply Side.mk); (try simp (disch := omega) only [wrp]); (try simp); (try simp (disch := omega) only [wrp]); (try omega))
 | (first | (guard_hyp g2; intro g3; try simp at g3) | (guard_hyp g1; intro g2; try simp at g2) | intro g1; try simp at g1))
    · rw [show putE b x = sltE x from if_neg (by simp [g1])]; repeat constructor
    · exact absurd (show putE b x = 0 by rw [show putE b x = sltE x from if_neg (by simp [g1]), g2]) h
    · rw [show putE b x = bufE b from if_pos g1]; repeat constructor
    · exact absurd g2 g1
set_option maxHeartbeats 1000000 in
theorem c_bufFlush (b : Bf) (hl : b.held.length ≤ 4000000000000) : PSpec Try.prog 23 [.agg (bfC b)] (relT3 (flushR b) (bufE b)) := by
  by_cases h : bufE b = 0
  · rw [flushR, if_pos h, h]
    have hr := c_bufEmpty b h
    refine v_pspec Try.func23 rfl Try.ntmps23 Try.results23 (by simp) (by first | exact .s _ | repeat constructor) ?_
    repeat' (first
 | (with_reducible first | apply qz0 | (refine h0 _ _ ?_; clear h0 hw) | (refine hw _ _ _ ?_; clear h0 hw) | apply qz1 | apply qz2 | apply qz5 | apply qz6 | (refine hL _ ?_; clear hL))
 | (with_reducible first | refine w_reg (by decide +kernel) fun K1 hK => ?_ | refine w_reg_end (by decide +kernel) fun K1 hK => ?_)
 | with_reducible refine go_seq ?_
 | ((with_reducible first | apply v_op Try.tab | apply v_op0 Try.tab) <;> first | (intro K' h0 hw; conv => whnf) | (simp only [Nat.reduceAdd, Nat.reduceMul]; rfl))
 | ((with_reducible apply v_nil); (case hm => (simp only [Nat.reduceAdd, Nat.reduceMul]; rfl)); (case' h => with_reducible refine hK _ ?_; clear hK))
 | ((with_reducible refine callV_id (f := 29) ?_); have hcs_ := c_bufCheck b hl; (with_reducible apply callV_f own29 (hcs_)); (case hx => rfl); (case he => rfl); (case hle => first | ((repeat constructor); done) | (simp; done)); (case hpu => repeat constructor); (case' hK => (try clear hcs_); conv => whnf))
 | ((with_reducible refine callV_id (f := 61) ?_); (with_reducible apply callV_f own61 (hr)); (case hx => rfl); (case he => rfl); (case hle => first | ((repeat constructor); done) | (simp; done)); (case hpu => repeat constructor); (case' hK => conv => whnf))
 | ((with_reducible apply go_cond); (case hb => rfl))
 | ((with_reducible first | refine w_ret Try.tab fun K' hL => ?_ | refine w_ret_end Try.tab fun K' hL => ?_); (conv => whnf))
 | ((with_reducible apply And.intro); (case' right => try (conv => whnf)); (case' left => try first | rfl | decide | (simp; done) | (simp (disch := omega) only [wrp]; omega) | (simp (disch := omega) [wrp]; (try omega); done)))
 | ((with_reducible apply Side.mk); (try simp (disch := omega) only [wrp]); (try simp); (try simp (disch := omega) only [wrp]); (try omega))
 | (first | (guard_hyp g1; intro g2; try simp at g2) | intro g1; try simp at g1))
    all_goals first
      | exact absurd h g1
      | ((repeat constructor); done)
  · rw [flushR, if_neg h]
    refine v_pspec Try.func23 rfl Try.ntmps23 Try.results23 (by simp) (by first | exact .s _ | repeat constructor) ?_
    repeat' (first
 | (with_reducible first | apply qz0 | (refine h0 _ _ ?_; clear h0 hw) | (refine hw _ _ _ ?_; clear h0 hw) | apply qz1 | apply qz2 | apply qz5 | apply qz6 | (refine hL _ ?_; clear hL))
 | (with_reducible first | refine w_reg (by decide +kernel) fun K1 hK => ?_ | refine w_reg_end (by decide +kernel) fun K1 hK => ?_)
 | with_reducible refine go_seq ?_
 | ((with_reducible first | apply v_op Try.tab | apply v_op0 Try.tab) <;> first | (intro K' h0 hw; conv => whnf) | (simp only [Nat.reduceAdd, Nat.reduceMul]; rfl))
 | ((with_reducible apply v_nil); (case hm => (simp only [Nat.reduceAdd, Nat.reduceMul]; rfl)); (case' h => with_reducible refine hK _ ?_; clear hK))
 | ((with_reducible refine callV_id (f := 29) ?_); have hcs_ := c_bufCheck b hl; (with_reducible apply callV_f own29 (hcs_)); (case hx => rfl); (case he => rfl); (case hle => first | ((repeat constructor); done) | (simp; done)); (case hpu => repeat constructor); (case' hK => (try clear hcs_); conv => whnf))
 | ((with_reducible apply go_cond); (case hb => rfl))
 | ((with_reducible first | refine w_ret Try.tab fun K' hL => ?_ | refine w_ret_end Try.tab fun K' hL => ?_); (conv => whnf))
 | ((with_reducible apply And.intro); (case' right => try (conv => whnf)); (case' left => try first | rfl | decide | (simp; done) | (simp (disch := omega) only [wrp]; omega) | (simp (disch := omega) [wrp]; (try omega); done)))
 | ((with_reducible apply Side.mk); (try simp (disch := omega) only [wrp]); (try simp); (try simp (disch := omega) only [wrp]); (try omega))
 | (first | (guard_hyp g1; intro g2; try simp at g2) | intro g1; try simp at g1))
    all_goals first
      | exact absurd g1 h
      | ((repeat constructor); done)
end Go.Proofs.Ytlehonipilpfdaa
end
section
namespace Go.Proofs.Ytlehonipilpfdaa
open Go Go.Sy
set_option maxRecDepth 4000
set_option linter.unusedSimpArgs false
set_option linter.unusedVariables false
attribute [local irreducible] Reg RegD Later Out CallV Tri Side EqV
end Go.Proofs.Ytlehonipilpfdaa
end
section
namespace Go.Proofs.Ytlehonipilpfdaa
open Go Go.Sy
set_option maxRecDepth 4000
set_option linter.unusedSimpArgs false
set_option linter.unusedVariables false
attribute [local irreducible] Reg RegD Later Out CallV Tri Side EqV
end Go.Proofs.Ytlehonipilpfdaa
end
section
namespace Go.Proofs.Ytlehonipilpfdaa
open Go Go.Sy
set_option maxRecDepth 4000
set_option linter.unusedSimpArgs false
set_option linter.unusedVariables false
attribute [local irreducible] Reg RegD Later Out CallV Tri Side EqV
abbrev Rel := Int × List Slt × List Slt
abbrev s0 : Slt := mk 70000 1 true true true
abbrev s1 : Slt := mk 70002 1 true true true
abbrev s2 : Slt := mk 70001 1 true true true
set_option maxHeartbeats 1000000 in
theorem c_bufferBegun : PSpec Try.prog 28 [] (B true) := by
  refine v_pspec Try.func28 rfl Try.ntmps28 Try.results28 (by simp) (by first | exact .s _ | repeat constructor) ?_
  have m0 := c_mkSlot 70000 1 true true true (by omega)
  have m1 := c_mkSlot 70002 1 true true true (by omega)
  have m2 := c_mkSlot 70001 1 true true true (by omega)
  have q0 := c_bufPut ⟨0, []⟩ s0 (by simp)
  rw [show putR ⟨0, []⟩ s0 = (70001, [], [s0]) by decide +kernel, show putE ⟨0, []⟩ s0 = 0 by decide +kernel] at q0
  have q1 := c_bufPut ⟨70001, []⟩ s1 (by simp)
  rw [show putR ⟨70001, []⟩ s1 = (70001, [s1], []) by decide +kernel, show putE ⟨70001, []⟩ s1 = 0 by decide +kernel] at q1
  have q2 := c_bufPut ⟨70001, [s1]⟩ s2 (by simp)
  rw [show putR ⟨70001, [s1]⟩ s2 = (70003, [], [s2, s1]) by decide +kernel, show putE ⟨70001, [s1]⟩ s2 = 0 by decide +kernel] at q2
  have q3 := c_bufFlush ⟨70001, [s1]⟩ (by simp)
  rw [show flushR ⟨70001, [s1]⟩ = (70003, [], [s1]) by decide +kernel, show bufE ⟨70001, [s1]⟩ = 0 by decide +kernel] at q3
  have q4 := c_bufCheck ⟨70001, [s1]⟩ (by simp)
  rw [show bufE ⟨70001, [s1]⟩ = 0 by decide +kernel] at q4
  repeat' (first
 | (with_reducible first | apply qz0 | (refine h0 _ _ ?_; clear h0 hw) | (refine hw _ _ _ ?_; clear h0 hw) | apply qz1 | apply qz2 | apply qz5 | apply qz6 | (refine hL _ ?_; clear hL))
 | (with_reducible first | refine w_reg (by decide +kernel) fun K1 hK => ?_ | refine w_reg_end (by decide +kernel) fun K1 hK => ?_)
 | ((with_reducible first | apply d_reg Try.mix (by decide +kernel) | apply d_reg_end Try.mix (by decide +kernel)); (case hm => simp only [List.length_cons, List.length_nil, Nat.reduceAdd, Nat.reduceMul]; rfl); (case' h => intro K1 hK))
 | with_reducible refine go_seq ?_
 | ((with_reducible first | apply v_op Try.tab | apply v_op0 Try.tab | apply d_op Try.tab | apply d_op0 Try.tab) <;> first | (intro K' h0 hw; conv => whnf) | (simp only [Nat.reduceAdd, Nat.reduceMul]; rfl))
 | ((with_reducible apply v_nil); (case hm => (simp only [Nat.reduceAdd, Nat.reduceMul]; rfl)); (case' h => with_reducible refine hK _ ?_; clear hK))
 | ((with_reducible apply d_nil); (refine hK _ _ _ _ (by first | decide +kernel | (simp only [List.map_cons, List.map_nil, List.nil_append, List.cons_append]; decide +kernel) | rfl) ?_; clear hK))
 | (first | refine d_grd_yes (by rfl) (by rfl) ?_ | refine v_grd_yes (by rfl) (by rfl) ?_)
 | ((first | (apply d_grd_no; (case hg => rfl); (case hb => rfl)) | (apply d_grd_undef; (case hg => rfl); (case hb => rfl)) | (apply d_grd; (case hg => rfl); (case hb => rfl)) | (apply v_grd_no; (case hg => rfl); (case hb => rfl)) | (apply v_grd_undef; (case hg => rfl); (case hb => rfl)) | (apply v_grd; (case hg => rfl); (case hb => rfl))); (case hi => (simp only [Nat.reduceAdd, Nat.reduceMul]; rfl)))
 | ((with_reducible refine callV_id (f := 64) ?_); (with_reducible apply callV_f own64 (m0)); (case hx => rfl); (case he => rfl); (case hle => first | ((repeat constructor); done) | (simp; done)); (case hpu => repeat constructor); (case' hK => conv => whnf))
 | ((with_reducible refine callV_id (f := 64) ?_); (with_reducible apply callV_f own64 (m1)); (case hx => rfl); (case he => rfl); (case hle => first | ((repeat constructor); done) | (simp; done)); (case hpu => repeat constructor); (case' hK => conv => whnf))
 | ((with_reducible refine callV_id (f := 64) ?_); (with_reducible apply callV_f own64 (m2)); (case hx => rfl); (case he => rfl); (case hle => first | ((repeat constructor); done) | (simp; done)); (case hpu => repeat constructor); (case' hK => conv => whnf))
 | ((with_reducible refine callV_id (f := 22) ?_); (with_reducible apply callV_f own22 (q0)); (case hx => rfl); (case he => rfl); (case hle => first | ((repeat constructor); done) | (simp; done)); (case hpu => repeat constructor); (case' hK => conv => whnf))
 | ((with_reducible refine callV_id (f := 22) ?_); (with_reducible apply callV_f own22 (q1)); (case hx => rfl); (case he => rfl); (case hle => first | ((repeat constructor); done) | (simp; done)); (case hpu => repeat constructor); (case' hK => conv => whnf))
 | ((with_reducible refine callV_id (f := 22) ?_); (with_reducible apply callV_f own22 (q2)); (case hx => rfl); (case he => rfl); (case hle => first | ((repeat constructor); done) | (simp; done)); (case hpu => repeat constructor); (case' hK => conv => whnf))
 | ((with_reducible refine callV_id (f := 23) ?_); (with_reducible apply callV_f own23 (q3)); (case hx => rfl); (case he => rfl); (case hle => first | ((repeat constructor); done) | (simp; done)); (case hpu => repeat constructor); (case' hK => conv => whnf))
 | ((with_reducible refine callV_id (f := 29) ?_); (with_reducible apply callV_f own29 (q4)); (case hx => rfl); (case he => rfl); (case hle => first | ((repeat constructor); done) | (simp; done)); (case hpu => repeat constructor); (case' hK => conv => whnf))
 | ((with_reducible first | refine w_ret Try.tab fun K' hL => ?_ | refine w_ret_end Try.tab fun K' hL => ?_); (conv => whnf))
 | ((with_reducible apply And.intro); (case' right => try (conv => whnf)); (case' left => try first | rfl | decide | (simp; done) | (simp (disch := omega) only [wrp]; omega) | (simp (disch := omega) [wrp]; (try omega); done)))
 | ((with_reducible apply Side.mk); (try simp (disch := omega) only [wrp]); (try simp); (try simp (disch := omega) only [wrp]); (try omega))
 | (first  | intro g1; try simp at g1))
  all_goals (refine le_of_eq ?_; simp)
theorem relS_len (most : Nat) : ∀ (l : List Slt) (n : Int) (o : List Slt), (relS most n l o).2.1.length ≤ l.length ∧ (relS most n l o).2.2.length ≤ l.length + o.length
  | [], n, o => by simp [relS]
  | x :: l, n, o => by
    simp only [relS]
    split
    · have := relS_len most l (n + 1) (o ++ [x]); simp at this ⊢; omega
    · split
      · simp
      · have := relS_len most l (x.n + 1) (o ++ [x]); simp at this ⊢; omega
theorem reads_bf {a : AV} (h : ReadsArg (.agg [.int .i64, .sl 7 48 (.agg [.int .i64, .agg [.int .i64, .int .i64, .bool, .bool, .bool, .str]])]) a) : ∃ b : Bf, a = .agg (bfC b) ∧ b.held.length ≤ 4000000000000 ∧ ∀ s ∈ b.held, s.p.text.size ≤ reachBytes := by
  obtain ⟨_, rfl, _, _, rfl, ⟨n, rfl, _⟩, c, _, rfl, h, rfl⟩ := h
  obtain ⟨l, rfl, h1, h2⟩ := cells_slts h
  exact ⟨⟨n, l⟩, rfl, h1, h2⟩
end Go.Proofs.Ytlehonipilpfdaa
end
section
namespace Go.Proofs.Ytlehonipilpfdaa
open Go Go.Sy
set_option linter.unusedSimpArgs false
set_option linter.unusedVariables false
abbrev Rise (l : List Slt) : Prop := l.Pairwise fun x y => x.n < y.n
theorem relS_spec (most : Nat) : ∀ (l : List Slt) (n : Int) (o : List Slt), Rise l → (∀ a ∈ l, n ≤ a.n) →
    ∃ out, (relS most n l o).2.2 = o ++ out ∧ l = out ++ (relS most n l o).2.1 ∧ n ≤ (relS most n l o).1 ∧ (∀ a ∈ out, n ≤ a.n ∧ a.n < (relS most n l o).1) ∧ (∀ a ∈ (relS most n l o).2.1, (relS most n l o).1 < a.n) ∧
      (relS most n l o).2.1.length ≤ most ∧ ((relS most n l o).1 = n ∨ ∃ a ∈ l, (relS most n l o).1 = a.n + 1)
  | [], n, o, _, _ => ⟨[], by simp [relS], rfl, Int.le_refl _, by simp, by simp [relS], by simp [relS], .inl rfl⟩
  | x :: l, n, o, hr, hn => by
    have hr := List.pairwise_cons.1 hr
    have hx := hn x (by simp)
    by_cases c : x.n = n
    · obtain ⟨out, h1, h2, h3, h4, h5, h6, h7⟩ := relS_spec most l (n + 1) (o ++ [x]) hr.2 (fun a ha => by have := hr.1 a ha; omega)
      have e : relS most n (x :: l) o = relS most (n + 1) l (o ++ [x]) := by simp only [relS, if_pos c]
      rw [e]
      refine ⟨x :: out, by rw [h1]; simp, by rw [List.cons_append, ← h2], by omega, fun a ha => ?_, h5, h6, ?_⟩
      · rcases List.mem_cons.1 ha with rfl | ha
        · omega
        · have := h4 a ha; omega
      · rcases h7 with h7 | ⟨a, ha, h7⟩
        · exact .inr ⟨x, by simp, by rw [h7]; omega⟩
        · exact .inr ⟨a, by simp [ha], h7⟩
    · by_cases c2 : l.length + 1 ≤ most
      · have e : relS most n (x :: l) o = (n, x :: l, o) := by simp only [relS, if_neg c, if_pos c2]
        rw [e]
        refine ⟨[], by simp, rfl, Int.le_refl _, by simp, fun a ha => ?_, by simpa using c2, .inl rfl⟩
        rcases List.mem_cons.1 ha with rfl | ha
        · simp only; omega
        · have := hr.1 a ha; simp only; omega
      · obtain ⟨out, h1, h2, h3, h4, h5, h6, h7⟩ := relS_spec most l (x.n + 1) (o ++ [x]) hr.2 (fun a ha => by have := hr.1 a ha; omega)
        have e : relS most n (x :: l) o = relS most (x.n + 1) l (o ++ [x]) := by simp only [relS, if_neg c, if_neg c2]
        rw [e]
        refine ⟨x :: out, by rw [h1]; simp, by rw [List.cons_append, ← h2], by omega, fun a ha => ?_, h5, h6, ?_⟩
        · rcases List.mem_cons.1 ha with rfl | ha
          · omega
          · have := h4 a ha; omega
        · rcases h7 with h7 | ⟨a, ha, h7⟩
          · exact .inr ⟨x, by simp, h7⟩
          · exact .inr ⟨a, by simp [ha], h7⟩
theorem heldE_mk : ∀ {l : List Slt} {a : Int}, (∀ x ∈ l, sltE x = 0 ∧ a < x.n) → Rise l → heldE a l = 0
  | [], a, _, _ => rfl
  | x :: l, a, h, hr => by
    have hr := List.pairwise_cons.1 hr
    have hx := h x (by simp)
    unfold heldE
    rw [if_neg (by simp [hx.1]), if_neg (by omega)]
    exact heldE_mk (fun y hy => ⟨(h y (by simp [hy])).1, hr.1 y hy⟩) hr.2
theorem bufE_mk {n : Int} {l : List Slt} (h1 : 65536 ≤ n ∧ n ≤ 1000000001) (h2 : l.length ≤ 4) (h3 : ∀ x ∈ l, sltE x = 0 ∧ n < x.n) (h4 : Rise l) : bufE ⟨n, l⟩ = 0 := by
  unfold bufE
  simp only
  rw [if_neg (by omega), if_neg (by omega), if_neg (by simp [heldE_mk h3 h4]), if_neg (by omega)]
theorem insS_rise {l : List Slt} {x : Slt} (hr : Rise l) (hx : ∀ y ∈ l, y.n ≠ x.n) : Rise (insS l x) := by
  unfold insS insL Rise
  have hlt : ∀ a ∈ l.take (posS l x.n), a.n < x.n := fun a ha => by
    obtain ⟨k, hk⟩ := List.mem_iff_getElem?.1 ha
    rw [List.getElem?_take] at hk
    split at hk
    · rename_i h; exact pos_lt h hk
    · cases hk
  have hgt : ∀ a ∈ l.drop (posS l x.n), x.n < a.n := fun a ha => by
    obtain ⟨k, hk⟩ := List.mem_iff_getElem?.1 ha
    rw [List.getElem?_drop] at hk
    have h1 := pos_ge hr (Nat.le_add_right _ k) hk
    have h2 := hx a (List.mem_of_mem_drop ha)
    omega
  rw [List.append_assoc, List.pairwise_append]
  refine ⟨hr.sublist (List.take_sublist _ _), ?_, fun a ha c hc => ?_⟩
  · rw [List.singleton_append, List.pairwise_cons]
    exact ⟨hgt, hr.sublist (List.drop_sublist _ _)⟩
  · have := hlt a ha
    rcases List.mem_append.1 hc with h | h
    · simp at h; subst h; exact this
    · have := hgt c h; omega
theorem insS_has (l : List Slt) (x : Slt) : x ∈ insS l x := by unfold insS insL; simp
theorem rawB_spec {b : Bf} {x : Slt} (hb : bufE b = 0) (hx : sltE x = 0) : bufE ⟨(rawB b x).1, (rawB b x).2.1⟩ = 0 ∧ b.next ≤ (rawB b x).1 ∧ Rise (rawB b x).2.2 ∧ (∀ a ∈ (rawB b x).2.2, bnxS b x ≤ a.n ∧ a.n < (rawB b x).1) ∧
    (∀ a ∈ (rawB b x).2.2 ++ (rawB b x).2.1, a = x ∨ a ∈ b.held) ∧ (rawB b x).2.2.length ≤ 5 ∧ 65536 ≤ (rawB b x).1 ∧ (x.n < (rawB b x).1 ∨ ∃ y ∈ (rawB b x).2.1, y.n = x.n) := by
  obtain ⟨p1, p2, p3, p4⟩ := bufE_ok hb
  have px := (sltE_ok hx).1
  have hn : b.next ≤ bnxS b x ∧ 65536 ≤ bnxS b x ∧ bnxS b x ≤ 1000000001 := by unfold bnxS; split <;> omega
  by_cases hc : bnxS b x ≤ x.n ∧ hasS b.held x.n = false
  · have e : rawB b x = relS 4 (bnxS b x) (insS b.held x) [] := if_pos hc
    have hne : ∀ y ∈ b.held, y.n ≠ x.n := by simpa [hasS] using hc.2
    have hri := insS_rise p4 hne
    have hge : ∀ a ∈ insS b.held x, bnxS b x ≤ a.n := fun a ha => by
      rcases insS_mem ha with rfl | h
      · exact hc.1
      · have := (p3 a h).2
        unfold bnxS; split
        · rename_i h0
          rcases p1 with ⟨_, h5⟩ | h5
          · rw [h5] at h; cases h
          · omega
        · omega
    have hok : ∀ a ∈ insS b.held x, sltE a = 0 := fun a ha => by
      rcases insS_mem ha with rfl | h
      · exact hx
      · exact (p3 a h).1
    obtain ⟨out, h1, h2, h3, h4, h5, h6, h7⟩ := relS_spec 4 (insS b.held x) (bnxS b x) [] hri hge
    rw [e]
    rw [List.nil_append] at h1
    have hsub : ∀ a ∈ out ++ (relS 4 (bnxS b x) (insS b.held x) []).2.1, a ∈ insS b.held x := fun a ha => by rw [h2]; exact ha
    have hri2 : Rise (out ++ (relS 4 (bnxS b x) (insS b.held x) []).2.1) := by rw [← h2]; exact hri
    rw [h1]
    refine ⟨bufE_mk ⟨by omega, ?_⟩ h6 (fun a ha => ⟨hok a (hsub a (by simp [ha])), h5 a ha⟩) (List.pairwise_append.1 hri2).2.1, by omega, (List.pairwise_append.1 hri2).1, h4, fun a ha => insS_mem (hsub a ha), ?_, by omega, ?_⟩
    · rcases h7 with h7 | ⟨a, ha, h7⟩
      · omega
      · have := (sltE_ok (hok a ha)).1; omega
    · have := congrArg List.length h2
      rw [insS_len, List.length_append] at this; omega
    · have := insS_has b.held x
      rw [h2] at this
      rcases List.mem_append.1 this with h | h
      · exact .inl (h4 x h).2
      · exact .inr ⟨x, h, rfl⟩
  · have e : rawB b x = (bnxS b x, b.held, []) := if_neg hc
    rw [e]
    simp only
    by_cases h0 : b.next = 0
    · have hh : b.held = [] := by
        rcases p1 with h | h
        · exact h.2
        · omega
      exact absurd ⟨by rw [bnxS, if_pos h0]; exact Int.le_refl _, by rw [hh]; rfl⟩ hc
    · have e2 : bnxS b x = b.next := if_neg h0
      rw [e2]
      have hb' : bufE ⟨b.next, b.held⟩ = 0 := hb
      refine ⟨hb', Int.le_refl _, List.Pairwise.nil, by simp, fun a ha => .inr (by simpa using ha), by simp, by omega, ?_⟩
      by_cases h1 : b.next ≤ x.n
      · have : hasS b.held x.n = true := by
          cases q : hasS b.held x.n with
          | true => rfl
          | false => exact absurd ⟨by rw [e2]; exact h1, q⟩ hc
        exact .inr (by simpa [hasS] using this)
      · exact .inl (by omega)
end Go.Proofs.Ytlehonipilpfdaa
end

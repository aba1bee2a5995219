/- buffer.Raw, Put, Empty, Flush, walked. No condition. -/
import Derived.Test.YtlehonipilpfdaaBuf3
import Derived.Test.YtlehonipilpfdaaIns2
namespace Go.Proofs.Ytlehonipilpfdaa
open Go Go.Sy
set_option maxRecDepth 4000
set_option linter.unusedSimpArgs false
set_option linter.unusedVariables false
attribute [local irreducible] Reg RegD Later Out CallV Tri Side EqV
def insS (l : List Slt) (x : Slt) : List Slt := insL l (posS l x.n) x
def hasS (l : List Slt) (n : Int) : Bool := decide (∃ y ∈ l, y.n = n)
def nextS (b : Bf) (x : Slt) : Int := if b.next = 0 then x.n else b.next
def rawB (b : Bf) (x : Slt) : Int × List Slt × List Slt := if nextS b x ≤ x.n ∧ hasS b.held x.n = false then relS 4 (nextS b x) (insS b.held x) [] else (nextS b x, b.held, [])
theorem heldE_ok : ∀ {l : List Slt} {a : Int}, heldE a l = 0 → (∀ x ∈ l, sltE x = 0 ∧ a < x.n) ∧ l.Pairwise fun x y => x.n < y.n
  | [], a, _ => by simp
  | x :: l, a, h => by
    unfold heldE at h
    by_cases c : sltE x = 0
    · rw [if_neg (by simp [c])] at h
      by_cases c2 : x.n ≤ a
      · rw [if_pos c2] at h; cases h
      · rw [if_neg c2] at h
        obtain ⟨h1, h2⟩ := heldE_ok h
        refine ⟨fun y hy => ?_, List.pairwise_cons.2 ⟨fun y hy => (h1 y hy).2, h2⟩⟩
        rcases List.mem_cons.1 hy with rfl | hy
        · exact ⟨c, by omega⟩
        · exact ⟨(h1 y hy).1, by have := (h1 y hy).2; omega⟩
    · rw [if_pos c] at h; exact absurd h c
theorem bufE_ok {b : Bf} (h : bufE b = 0) : (b.next = 0 ∧ b.held = [] ∨ 65536 ≤ b.next ∧ b.next ≤ 1000000001) ∧ b.held.length ≤ 4 ∧ (∀ x ∈ b.held, sltE x = 0 ∧ b.next < x.n) ∧ b.held.Pairwise fun x y => x.n < y.n := by
  unfold bufE at h
  by_cases c1 : b.next ≠ 0 ∧ (b.next < 65536 ∨ 1000000001 < b.next)
  · rw [if_pos c1] at h; cases h
  rw [if_neg c1] at h
  by_cases c2 : 4 < b.held.length
  · rw [if_pos c2] at h; cases h
  rw [if_neg c2] at h
  by_cases c3 : heldE b.next b.held = 0
  · rw [if_neg (by simp [c3])] at h
    obtain ⟨h1, h2⟩ := heldE_ok c3
    refine ⟨?_, by omega, h1, h2⟩
    by_cases c4 : b.next = 0 ∧ 0 < b.held.length
    · rw [if_pos c4] at h; cases h
    · by_cases c5 : b.next = 0
      · exact .inl ⟨c5, List.length_eq_zero_iff.1 (by omega)⟩
      · exact .inr (by omega)
  · rw [if_pos c3] at h; exact absurd h c3
theorem insS_len (l : List Slt) (x : Slt) : (insS l x).length = l.length + 1 := by
  have := posS_le l x.n
  unfold insS insL; simp; omega
theorem insS_mem {l : List Slt} {x a : Slt} (h : a ∈ insS l x) : a = x ∨ a ∈ l := by
  unfold insS insL at h
  simp only [List.append_assoc, List.mem_append, List.mem_singleton] at h
  rcases h with h | h | h
  · exact .inr (List.mem_of_mem_take h)
  · exact .inl h
  · exact .inr (List.mem_of_mem_drop h)
set_option maxHeartbeats 2000000 in
theorem c_bufRaw (b : Bf) (x : Slt) (hb : bufE b = 0) (hx : sltE x = 0) : PSpec Try.prog 60 [.agg (bfC b), .agg (sltC x)] (relT (rawB b x)) := by
  obtain ⟨p1, p2, p3, p4⟩ := bufE_ok hb
  have px := (sltE_ok hx).1
  have hh : ∀ a ∈ b.held, 0 ≤ a.n ∧ a.n ≤ 1000000000000 := fun a ha => by have := (sltE_ok (p3 a ha).1).1; omega
  have hn : 0 ≤ nextS b x ∧ nextS b x ≤ 1000000000000 := by unfold nextS; split <;> omega
  have hi : ∀ a ∈ insS b.held x, 0 ≤ a.n ∧ a.n ≤ 1000000000000 := fun a ha => by
    rcases insS_mem ha with rfl | h
    · omega
    · exact hh a h
  have hbs := c_binary b.held x.n (by omega) (by omega) hh p4
  by_cases hc : nextS b x ≤ x.n ∧ hasS b.held x.n = false
  · have hsk := c_skip 4 (nextS b x) (insS b.held x) [] (by rw [insS_len]; simp; omega) (by omega) hn hi
    rw [rawB, if_pos hc]
    by_cases hp : posS b.held x.n = b.held.length
    · have he : insS b.held x = b.held ++ [x] := by unfold insS insL; rw [hp]; simp
      rw [he] at hsk ⊢
      have hin := c_insEnd b.held x (by omega)
      rw [hp] at hbs
      refine v_pspec Try.func60 rfl Try.ntmps60 Try.results60 (by simp) (by first | exact .s _ | repeat constructor) ?_
      repeat' (first
    | ((with_reducible apply w_ownCell 80 2 48 7); (case hb => rfl); (case hj => rfl); (case hsz => decide); (case hm => (try simp only [Nat.reduceAdd, Nat.reduceMul]); exact rfl))
    | ((first | with_reducible refine w_cut (x := .cond (.tmp 16) _ _) (X := Unit) [11, 12, 13, 14, 15, 16, 17, 18, 19, 20, 21, 22] (fun _ => []) (fun _ => [(80, .box [I (nextS b x), .osl 81 7 (rowL b.held), .osl 112 7 []])]) (fun _ => True) ?_ ?_ | with_reducible refine w_cut (x := .seq (.region _ _ _) (.cond (.tmp 16) _ _)) (X := Unit) [11, 12, 13, 14, 15, 16, 17, 18, 19, 20, 21, 22] (fun _ => []) (fun _ => [(80, .box [I (nextS b x), .osl 81 7 (rowL b.held), .osl 112 7 []])]) (fun _ => True) ?_ ?_); (try (rintro z hz; simp only at hz)))
    | (with_reducible first | refine go_later ?_ | (refine h0 _ _ ?_; clear h0 hw) | (refine hw _ _ _ ?_; clear h0 hw) | refine go_ret ?_ | refine go_skip ?_ | refine go_block ?_ | refine go_exit ?_ | refine out_seq_ret ?_ | refine out_seq_normal ?_ | refine out_seq_exit ?_ | refine out_block_ret ?_ | refine out_block_normal ?_ | refine out_block_here ?_ | refine out_loop_ret ?_ | refine out_loop_exit ?_ | refine out_loopR_ret ?_ | refine out_loopR_exit ?_ | refine out_seq_panic ?_ | refine out_block_panic ?_ | refine out_loop_panic ?_ | (refine hL _ ?_; clear hL))
    | (with_reducible first | refine w_reg (by decide +kernel) fun K1 hK => ?_ | refine w_reg_end (by decide +kernel) fun K1 hK => ?_)
    | ((with_reducible first | apply d_reg Try.mix (by decide +kernel) | apply d_reg_end Try.mix (by decide +kernel)); (case hm => simp only [List.length_cons, List.length_nil, Nat.reduceAdd, Nat.reduceMul]; rfl); (case' h => intro K1 hK))
    | with_reducible refine go_seq ?_
    | ((with_reducible first | apply v_op Try.tab | apply v_op0 Try.tab | apply d_op Try.tab | apply d_op0 Try.tab) <;> first | (intro K' h0 hw; conv => whnf) | (simp only [Nat.reduceAdd, Nat.reduceMul]; rfl))
    | ((with_reducible apply v_nil); (case hm => (simp only [Nat.reduceAdd, Nat.reduceMul]; rfl)); (case' h => with_reducible refine hK _ ?_; clear hK))
    | ((with_reducible apply d_nil); (refine hK _ _ _ _ (by first | decide +kernel | (simp only [List.map_cons, List.map_nil, List.nil_append, List.cons_append]; decide +kernel) | rfl) ?_; clear hK))
    | (first | refine d_grd_yes (by rfl) (by rfl) ?_ | refine v_grd_yes (by rfl) (by rfl) ?_)
    | (apply d_grd_no; (case hg => rfl); (case hb => rfl); (case hi => (simp only [Nat.reduceAdd, Nat.reduceMul]; rfl)))
    | (apply d_grd_undef; (case hg => rfl); (case hb => rfl); (case hi => (simp only [Nat.reduceAdd, Nat.reduceMul]; rfl)))
    | (apply d_grd; (case hg => rfl); (case hb => rfl); (case hi => (simp only [Nat.reduceAdd, Nat.reduceMul]; rfl)))
    | (apply v_grd_no; (case hg => rfl); (case hb => rfl); (case hi => (simp only [Nat.reduceAdd, Nat.reduceMul]; rfl)))
    | (apply v_grd_undef; (case hg => rfl); (case hb => rfl); (case hi => (simp only [Nat.reduceAdd, Nat.reduceMul]; rfl)))
    | (apply v_grd; (case hg => rfl); (case hb => rfl); (case hi => (simp only [Nat.reduceAdd, Nat.reduceMul]; rfl)))
    | ((with_reducible refine callV_id (f := 85) ?_); have hcs_ := c_own b (by omega); (with_reducible apply w_callO [] own85 (hcs_)); (case hx => rfl); (case he => rfl); (case hle => first | ((repeat constructor); done) | (simp; done)); (case hm => rfl); (case hnd => decide); (case' hK => (try clear hcs_); conv => whnf); (any_goals (simp; done)))
    | ((with_reducible refine callV_id (f := 86) ?_); have hcs_ := hbs; (with_reducible apply w_callO [] own86 (hcs_)); (case hx => rfl); (case he => rfl); (case hle => first | ((repeat constructor); done) | (simp; done)); (case hm => rfl); (case hnd => decide); (case' hK => (try clear hcs_); conv => whnf); (any_goals (simp; done)))
    | ((with_reducible refine callV_id (f := 88) ?_); have hcs_ := hin; (with_reducible apply w_callO [81, 656] own88 (hcs_)); (case hx => rfl); (case he => rfl); (case hle => first | ((repeat constructor); done) | (simp; done)); (case hm => rfl); (case hnd => decide); (case' hK => (try clear hcs_); conv => whnf); (any_goals (simp; done)))
    | ((with_reducible refine callV_id (f := 89) ?_); have hcs_ := hsk; (with_reducible apply w_callO [80, 112] own89 (hcs_)); (case hx => rfl); (case he => rfl); (case hle => first | ((repeat constructor); done) | (simp; done)); (case hm => rfl); (case hnd => decide); (case' hK => (try clear hcs_); conv => whnf); (any_goals (simp; done)))
    | ((with_reducible apply go_cond); (case hb => rfl))
    | ((with_reducible apply out_block_there); (case hne => rfl))
    | ((with_reducible first | refine w_ret Try.tab fun K' hL => ?_ | refine w_ret_end Try.tab fun K' hL => ?_); (conv => whnf))
    | ((with_reducible apply And.intro); (case' right => try (conv => whnf)); (case' left => try first | rfl | decide | (simp; done) | (simp (disch := omega) only [wrp]; omega)))
    | ((with_reducible apply Side.mk); (try simp (disch := omega) only [wrp]); (try simp); (try omega))
    | ((with_reducible apply all_rk); (case hx => with_reducible assumption); (conv => whnf))
    | ((with_reducible refine all_row ?_); (first | (have _y := hx5; clear _y; intro x6 hx6) | (have _y := hx4; clear _y; intro x5 hx5) | (have _y := hx3; clear _y; intro x4 hx4) | (have _y := hx2; clear _y; intro x3 hx3) | (have _y := hx1; clear _y; intro x2 hx2) | (intro x1 hx1)); conv => whnf)
    | (refine ⟨_, eqAT (by rfl) (by rfl) (by rfl) (by rfl), ?_⟩; conv => whnf)
    | ((first | (have _y := g9; clear _y; intro g10; try simp at g10) | (have _y := g8; clear _y; intro g9; try simp at g9) | (have _y := g7; clear _y; intro g8; try simp at g8) | (have _y := g6; clear _y; intro g7; try simp at g7) | (have _y := g5; clear _y; intro g6; try simp at g6) | (have _y := g4; clear _y; intro g5; try simp at g5) | (have _y := g3; clear _y; intro g4; try simp at g4) | (have _y := g2; clear _y; intro g3; try simp at g3) | (have _y := g1; clear _y; intro g2; try simp at g2) | (intro g1; try simp at g1))))
      · have e : nextS b x = x.n := if_pos g1
        ((with_reducible apply w_next (())); (case kt => first | exact kt_refl | (repeat (first | exact kt_refl | refine kt_wr (by rfl) ?_ | refine kt_jnk (by rfl) ?_ | refine kt_wrs (by rfl) ?_))); (case ko => repeat (first | exact ko_refl | refine ko_wo (by first | exact .inl (by rfl) | exact .inr (by simp) | exact .inr (by omega)) ?_ | refine ko_wor (by rfl) ?_ | refine ko_wos (by simp) ?_)); (case hn => first | exact Nat.le_refl _ | (simp; done) | (simp; omega)); (case hs => simp [e]); (case hb => simp [e]); (case ls => simp (disch := omega) [e, wrp]); (case lb => simp [e]); (case mu => first | (simp; omega) | (simp; done) | omega | (simp only; omega)); (case' rel' => (try simp only); (try exact trivial)))
      · have e : nextS b x = b.next := if_neg g1
        ((with_reducible apply w_next (())); (case kt => first | exact kt_refl | (repeat (first | exact kt_refl | refine kt_wr (by rfl) ?_ | refine kt_jnk (by rfl) ?_ | refine kt_wrs (by rfl) ?_))); (case ko => repeat (first | exact ko_refl | refine ko_wo (by first | exact .inl (by rfl) | exact .inr (by simp) | exact .inr (by omega)) ?_ | refine ko_wor (by rfl) ?_ | refine ko_wos (by simp) ?_)); (case hn => first | exact Nat.le_refl _ | (simp; done) | (simp; omega)); (case hs => simp [e]); (case hb => simp [e]); (case ls => simp (disch := omega) [e, wrp]); (case lb => simp [e]); (case mu => first | (simp; omega) | (simp; done) | omega | (simp only; omega)); (case' rel' => (try simp only); (try exact trivial)))
      · repeat constructor
      · exact absurd g4 (by simpa [hasS] using hc.2)
      · exfalso; omega
    · have he : insS b.held x = insL b.held (posS b.held x.n) x := rfl
      have hpl := posS_le b.held x.n
      have hpl2 : posS b.held x.n < b.held.length := by omega
      have hins := fun cap => c_ins b.held (posS b.held x.n) x cap hpl2 (by omega)
      rw [he] at hsk ⊢
      refine v_pspec Try.func60 rfl Try.ntmps60 Try.results60 (by simp) (by first | exact .s _ | repeat constructor) ?_
      repeat' (first
    | ((with_reducible apply w_ownCell 80 2 48 7); (case hb => rfl); (case hj => rfl); (case hsz => decide); (case hm => (try simp only [Nat.reduceAdd, Nat.reduceMul]); exact rfl))
    | ((first | with_reducible refine w_cut (x := .cond (.tmp 16) _ _) (X := Unit) [11, 12, 13, 14, 15, 16, 17, 18, 19, 20, 21, 22] (fun _ => []) (fun _ => [(80, .box [I (nextS b x), .osl 81 7 (rowL b.held), .osl 112 7 []])]) (fun _ => True) ?_ ?_ | with_reducible refine w_cut (x := .seq (.region _ _ _) (.cond (.tmp 16) _ _)) (X := Unit) [11, 12, 13, 14, 15, 16, 17, 18, 19, 20, 21, 22] (fun _ => []) (fun _ => [(80, .box [I (nextS b x), .osl 81 7 (rowL b.held), .osl 112 7 []])]) (fun _ => True) ?_ ?_); (try (rintro z hz; simp only at hz)))
    | ((with_reducible apply w_thaw (code := .seq (.region 6 _ _) _) 81 7 (rowL b.held) ([(3, .ptr 16 0), (4, .ptr 32 0), (6, .ptr 80 0), (7, I (posS b.held x.n))]) ([(16, .box (sltC x)), (32, .box [I 0, .s (.slice none 0 0)]), (80, .box [I (nextS b x), .osl 81 7 (rowL b.held), .osl 112 7 []]), (112, .perm 48 7 0)])); (case hat => exact .inr ⟨80, _, rfl, 1, rfl⟩); (case hp16 => decide); (case hpe => rfl); (case hn0 => first | rfl | (simp; done)); (case h0 => first | omega | (simp; done) | (simp; omega)); (case hsc => simp [thokS, thokB, Ob.thok, AV.thok, thokL, permIs, scalR]); (case hS => simp); (case hB => simp); (case hSk => simp [thokS, thokB, Ob.thok, AV.thok, thokL, permIs, scalR]); (case hBk => simp [thokS, thokB, Ob.thok, AV.thok, thokL, permIs, scalR]); (case hm => (try simp only [Nat.reduceAdd, Nat.reduceMul]); exact rfl); (case' h => intro cap hc1 hc2))
    | (with_reducible first | refine go_later ?_ | (refine h0 _ _ ?_; clear h0 hw) | (refine hw _ _ _ ?_; clear h0 hw) | refine go_ret ?_ | refine go_skip ?_ | refine go_block ?_ | refine go_exit ?_ | refine out_seq_ret ?_ | refine out_seq_normal ?_ | refine out_seq_exit ?_ | refine out_block_ret ?_ | refine out_block_normal ?_ | refine out_block_here ?_ | refine out_loop_ret ?_ | refine out_loop_exit ?_ | refine out_loopR_ret ?_ | refine out_loopR_exit ?_ | refine out_seq_panic ?_ | refine out_block_panic ?_ | refine out_loop_panic ?_ | (refine hL _ ?_; clear hL))
    | (with_reducible first | refine w_reg (by decide +kernel) fun K1 hK => ?_ | refine w_reg_end (by decide +kernel) fun K1 hK => ?_)
    | ((with_reducible first | apply d_reg Try.mix (by decide +kernel) | apply d_reg_end Try.mix (by decide +kernel)); (case hm => simp only [List.length_cons, List.length_nil, Nat.reduceAdd, Nat.reduceMul]; rfl); (case' h => intro K1 hK))
    | with_reducible refine go_seq ?_
    | ((with_reducible first | apply v_op Try.tab | apply v_op0 Try.tab | apply d_op Try.tab | apply d_op0 Try.tab) <;> first | (intro K' h0 hw; conv => whnf) | (simp only [Nat.reduceAdd, Nat.reduceMul]; rfl))
    | ((with_reducible apply v_nil); (case hm => (simp only [Nat.reduceAdd, Nat.reduceMul]; rfl)); (case' h => with_reducible refine hK _ ?_; clear hK))
    | ((with_reducible apply d_nil); (refine hK _ _ _ _ (by first | decide +kernel | (simp only [List.map_cons, List.map_nil, List.nil_append, List.cons_append]; decide +kernel) | rfl) ?_; clear hK))
    | (first | refine d_grd_yes (by rfl) (by rfl) ?_ | refine v_grd_yes (by rfl) (by rfl) ?_)
    | (apply d_grd_no; (case hg => rfl); (case hb => rfl); (case hi => (simp only [Nat.reduceAdd, Nat.reduceMul]; rfl)))
    | (apply d_grd_undef; (case hg => rfl); (case hb => rfl); (case hi => (simp only [Nat.reduceAdd, Nat.reduceMul]; rfl)))
    | (apply d_grd; (case hg => rfl); (case hb => rfl); (case hi => (simp only [Nat.reduceAdd, Nat.reduceMul]; rfl)))
    | (apply v_grd_no; (case hg => rfl); (case hb => rfl); (case hi => (simp only [Nat.reduceAdd, Nat.reduceMul]; rfl)))
    | (apply v_grd_undef; (case hg => rfl); (case hb => rfl); (case hi => (simp only [Nat.reduceAdd, Nat.reduceMul]; rfl)))
    | (apply v_grd; (case hg => rfl); (case hb => rfl); (case hi => (simp only [Nat.reduceAdd, Nat.reduceMul]; rfl)))
    | ((with_reducible refine callV_id (f := 85) ?_); have hcs_ := c_own b (by omega); (with_reducible apply w_callO [] own85 (hcs_)); (case hx => rfl); (case he => rfl); (case hle => first | ((repeat constructor); done) | (simp [LeL.rfl', thL, AV.th, thB, thS, Ob.th, box_ren, box_lt]; done)); (case hm => rfl); (case hnd => decide); (case' hK => (try clear hcs_); conv => whnf); (any_goals (simp [LeL.rfl', thL, AV.th, thB, thS, Ob.th, box_ren, box_lt]; done)))
    | ((with_reducible refine callV_id (f := 86) ?_); have hcs_ := hbs; (with_reducible apply w_callO [] own86 (hcs_)); (case hx => rfl); (case he => rfl); (case hle => first | ((repeat constructor); done) | (simp [LeL.rfl', thL, AV.th, thB, thS, Ob.th, box_ren, box_lt]; done)); (case hm => rfl); (case hnd => decide); (case' hK => (try clear hcs_); conv => whnf); (any_goals (simp [LeL.rfl', thL, AV.th, thB, thS, Ob.th, box_ren, box_lt]; done)))
    | ((with_reducible refine callV_id (f := 88) ?_); have hcs_ := hins cap hc1 hc2; (with_reducible apply w_callO [528, 672] own88 (hcs_)); (case hx => rfl); (case he => rfl); (case hle => first | ((repeat constructor); done) | (simp [LeL.rfl', thL, AV.th, thB, thS, Ob.th, box_ren, box_lt]; done)); (case hm => rfl); (case hnd => decide); (case' hK => (try clear hcs_); conv => whnf); (any_goals (simp [LeL.rfl', thL, AV.th, thB, thS, Ob.th, box_ren, box_lt]; done)))
    | ((with_reducible refine callV_id (f := 89) ?_); have hcs_ := hsk; (with_reducible apply w_callO [80, 112] own89 (hcs_)); (case hx => rfl); (case he => rfl); (case hle => first | ((repeat constructor); done) | (simp [LeL.rfl', thL, AV.th, thB, thS, Ob.th, box_ren, box_lt]; done)); (case hm => rfl); (case hnd => decide); (case' hK => (try clear hcs_); conv => whnf); (any_goals (simp [LeL.rfl', thL, AV.th, thB, thS, Ob.th, box_ren, box_lt]; done)))
    | ((with_reducible apply go_cond); (case hb => rfl))
    | ((with_reducible apply out_block_there); (case hne => rfl))
    | ((with_reducible first | refine w_ret Try.tab fun K' hL => ?_ | refine w_ret_end Try.tab fun K' hL => ?_); (conv => whnf))
    | ((with_reducible apply And.intro); (case' right => try (conv => whnf)); (case' left => try first | rfl | decide | (simp [LeL.rfl', thL, AV.th, thB, thS, Ob.th, box_ren, box_lt]; done) | (simp (disch := omega) only [wrp]; omega)))
    | ((with_reducible apply Side.mk); (try simp (disch := omega) only [wrp]); (try simp); (try omega))
    | ((with_reducible apply all_rk); (case hx => with_reducible assumption); (conv => whnf))
    | ((with_reducible refine all_row ?_); (first | (have _y := hx5; clear _y; intro x6 hx6) | (have _y := hx4; clear _y; intro x5 hx5) | (have _y := hx3; clear _y; intro x4 hx4) | (have _y := hx2; clear _y; intro x3 hx3) | (have _y := hx1; clear _y; intro x2 hx2) | (intro x1 hx1)); conv => whnf)
    | (refine ⟨_, eqAT (by rfl) (by rfl) (by rfl) (by rfl), ?_⟩; conv => whnf)
    | ((first | (have _y := g9; clear _y; intro g10; try simp at g10) | (have _y := g8; clear _y; intro g9; try simp at g9) | (have _y := g7; clear _y; intro g8; try simp at g8) | (have _y := g6; clear _y; intro g7; try simp at g7) | (have _y := g5; clear _y; intro g6; try simp at g6) | (have _y := g4; clear _y; intro g5; try simp at g5) | (have _y := g3; clear _y; intro g4; try simp at g4) | (have _y := g2; clear _y; intro g3; try simp at g3) | (have _y := g1; clear _y; intro g2; try simp at g2) | (intro g1; try simp at g1))))
      · have e : nextS b x = x.n := if_pos g1
        ((with_reducible apply w_next (())); (case kt => first | exact kt_refl | (repeat (first | exact kt_refl | refine kt_wr (by rfl) ?_ | refine kt_jnk (by rfl) ?_ | refine kt_wrs (by rfl) ?_))); (case ko => repeat (first | exact ko_refl | refine ko_wo (by first | exact .inl (by rfl) | exact .inr (by simp) | exact .inr (by omega)) ?_ | refine ko_wor (by rfl) ?_ | refine ko_wos (by simp) ?_)); (case hn => first | exact Nat.le_refl _ | (simp; done) | (simp; omega)); (case hs => simp [e]); (case hb => simp [e]); (case ls => simp (disch := omega) [e, wrp]); (case lb => simp [e]); (case mu => first | (simp; omega) | (simp; done) | omega | (simp only; omega)); (case' rel' => (try simp only); (try exact trivial)))
      · have e : nextS b x = b.next := if_neg g1
        ((with_reducible apply w_next (())); (case kt => first | exact kt_refl | (repeat (first | exact kt_refl | refine kt_wr (by rfl) ?_ | refine kt_jnk (by rfl) ?_ | refine kt_wrs (by rfl) ?_))); (case ko => repeat (first | exact ko_refl | refine ko_wo (by first | exact .inl (by rfl) | exact .inr (by simp) | exact .inr (by omega)) ?_ | refine ko_wor (by rfl) ?_ | refine ko_wos (by simp) ?_)); (case hn => first | exact Nat.le_refl _ | (simp; done) | (simp; omega)); (case hs => simp [e]); (case hb => simp [e]); (case ls => simp (disch := omega) [e, wrp]); (case lb => simp [e]); (case mu => first | (simp; omega) | (simp; done) | omega | (simp only; omega)); (case' rel' => (try simp only); (try exact trivial)))
      · repeat constructor
      · exact absurd g4 (by simpa [hasS] using hc.2)
      · exfalso; omega
  · rw [rawB, if_neg hc]
    refine v_pspec Try.func60 rfl Try.ntmps60 Try.results60 (by simp) (by first | exact .s _ | repeat constructor) ?_
    repeat' (first
    | ((first | with_reducible refine w_cut (x := .cond (.tmp 16) _ _) (X := Unit) [11, 12, 13, 14, 15, 16, 17, 18, 19, 20, 21, 22] (fun _ => []) (fun _ => [(80, .box [I (nextS b x), .osl 81 7 (rowL b.held), .s (.slice none 0 0)])]) (fun _ => True) ?_ ?_ | with_reducible refine w_cut (x := .seq (.region _ _ _) (.cond (.tmp 16) _ _)) (X := Unit) [11, 12, 13, 14, 15, 16, 17, 18, 19, 20, 21, 22] (fun _ => []) (fun _ => [(80, .box [I (nextS b x), .osl 81 7 (rowL b.held), .s (.slice none 0 0)])]) (fun _ => True) ?_ ?_); (try (rintro z hz; simp only at hz)))
    | ((with_reducible refine halt_in (code := .seq (.region 6 _ _) _) ?_); exfalso; exact hc ⟨g3, by simpa [hasS] using g4⟩)
    | (with_reducible first | refine go_later ?_ | (refine h0 _ _ ?_; clear h0 hw) | (refine hw _ _ _ ?_; clear h0 hw) | refine go_ret ?_ | refine go_skip ?_ | refine go_block ?_ | refine go_exit ?_ | refine out_seq_ret ?_ | refine out_seq_normal ?_ | refine out_seq_exit ?_ | refine out_block_ret ?_ | refine out_block_normal ?_ | refine out_block_here ?_ | refine out_loop_ret ?_ | refine out_loop_exit ?_ | refine out_loopR_ret ?_ | refine out_loopR_exit ?_ | refine out_seq_panic ?_ | refine out_block_panic ?_ | refine out_loop_panic ?_ | (refine hL _ ?_; clear hL))
    | (with_reducible first | refine w_reg (by decide +kernel) fun K1 hK => ?_ | refine w_reg_end (by decide +kernel) fun K1 hK => ?_)
    | ((with_reducible first | apply d_reg Try.mix (by decide +kernel) | apply d_reg_end Try.mix (by decide +kernel)); (case hm => simp only [List.length_cons, List.length_nil, Nat.reduceAdd, Nat.reduceMul]; rfl); (case' h => intro K1 hK))
    | with_reducible refine go_seq ?_
    | ((with_reducible first | apply v_op Try.tab | apply v_op0 Try.tab | apply d_op Try.tab | apply d_op0 Try.tab) <;> first | (intro K' h0 hw; conv => whnf) | (simp only [Nat.reduceAdd, Nat.reduceMul]; rfl))
    | ((with_reducible apply v_nil); (case hm => (simp only [Nat.reduceAdd, Nat.reduceMul]; rfl)); (case' h => with_reducible refine hK _ ?_; clear hK))
    | ((with_reducible apply d_nil); (refine hK _ _ _ _ (by first | decide +kernel | (simp only [List.map_cons, List.map_nil, List.nil_append, List.cons_append]; decide +kernel) | rfl) ?_; clear hK))
    | (first | refine d_grd_yes (by rfl) (by rfl) ?_ | refine v_grd_yes (by rfl) (by rfl) ?_)
    | (apply d_grd_no; (case hg => rfl); (case hb => rfl); (case hi => (simp only [Nat.reduceAdd, Nat.reduceMul]; rfl)))
    | (apply d_grd_undef; (case hg => rfl); (case hb => rfl); (case hi => (simp only [Nat.reduceAdd, Nat.reduceMul]; rfl)))
    | (apply d_grd; (case hg => rfl); (case hb => rfl); (case hi => (simp only [Nat.reduceAdd, Nat.reduceMul]; rfl)))
    | (apply v_grd_no; (case hg => rfl); (case hb => rfl); (case hi => (simp only [Nat.reduceAdd, Nat.reduceMul]; rfl)))
    | (apply v_grd_undef; (case hg => rfl); (case hb => rfl); (case hi => (simp only [Nat.reduceAdd, Nat.reduceMul]; rfl)))
    | (apply v_grd; (case hg => rfl); (case hb => rfl); (case hi => (simp only [Nat.reduceAdd, Nat.reduceMul]; rfl)))
    | ((with_reducible refine callV_id (f := 85) ?_); have hcs_ := c_own b (by omega); (with_reducible apply w_callO [] own85 (hcs_)); (case hx => rfl); (case he => rfl); (case hle => first | ((repeat constructor); done) | (simp; done)); (case hm => rfl); (case hnd => decide); (case' hK => (try clear hcs_); conv => whnf); (any_goals (simp; done)))
    | ((with_reducible refine callV_id (f := 86) ?_); have hcs_ := hbs; (with_reducible apply w_callO [] own86 (hcs_)); (case hx => rfl); (case he => rfl); (case hle => first | ((repeat constructor); done) | (simp; done)); (case hm => rfl); (case hnd => decide); (case' hK => (try clear hcs_); conv => whnf); (any_goals (simp; done)))
    | ((with_reducible apply go_cond); (case hb => rfl))
    | ((with_reducible apply out_block_there); (case hne => rfl))
    | ((with_reducible first | refine w_ret Try.tab fun K' hL => ?_ | refine w_ret_end Try.tab fun K' hL => ?_); (conv => whnf))
    | ((with_reducible apply And.intro); (case' right => try (conv => whnf)); (case' left => try first | rfl | decide | (simp; done) | (simp (disch := omega) only [wrp]; omega)))
    | ((with_reducible apply Side.mk); (try simp (disch := omega) only [wrp]); (try simp); (try omega))
    | ((with_reducible apply all_rk); (case hx => with_reducible assumption); (conv => whnf))
    | ((with_reducible refine all_row ?_); (first | (have _y := hx5; clear _y; intro x6 hx6) | (have _y := hx4; clear _y; intro x5 hx5) | (have _y := hx3; clear _y; intro x4 hx4) | (have _y := hx2; clear _y; intro x3 hx3) | (have _y := hx1; clear _y; intro x2 hx2) | (intro x1 hx1)); conv => whnf)
    | (refine ⟨_, eqAT (by rfl) (by rfl) (by rfl) (by rfl), ?_⟩; conv => whnf)
    | ((first | (have _y := g9; clear _y; intro g10; try simp at g10) | (have _y := g8; clear _y; intro g9; try simp at g9) | (have _y := g7; clear _y; intro g8; try simp at g8) | (have _y := g6; clear _y; intro g7; try simp at g7) | (have _y := g5; clear _y; intro g6; try simp at g6) | (have _y := g4; clear _y; intro g5; try simp at g5) | (have _y := g3; clear _y; intro g4; try simp at g4) | (have _y := g2; clear _y; intro g3; try simp at g3) | (have _y := g1; clear _y; intro g2; try simp at g2) | (intro g1; try simp at g1))))
    · have e : nextS b x = x.n := if_pos g1
      ((with_reducible apply w_next (())); (case kt => first | exact kt_refl | (repeat (first | exact kt_refl | refine kt_wr (by rfl) ?_ | refine kt_jnk (by rfl) ?_ | refine kt_wrs (by rfl) ?_))); (case ko => repeat (first | exact ko_refl | refine ko_wo (by first | exact .inl (by rfl) | exact .inr (by simp) | exact .inr (by omega)) ?_ | refine ko_wor (by rfl) ?_ | refine ko_wos (by simp) ?_)); (case hn => first | exact Nat.le_refl _ | (simp; done) | (simp; omega)); (case hs => simp [e]); (case hb => simp [e]); (case ls => simp (disch := omega) [e, wrp]); (case lb => simp [e]); (case mu => first | (simp; omega) | (simp; done) | omega | (simp only; omega)); (case' rel' => (try simp only); (try exact trivial)))
    · have e : nextS b x = b.next := if_neg g1
      ((with_reducible apply w_next (())); (case kt => first | exact kt_refl | (repeat (first | exact kt_refl | refine kt_wr (by rfl) ?_ | refine kt_jnk (by rfl) ?_ | refine kt_wrs (by rfl) ?_))); (case ko => repeat (first | exact ko_refl | refine ko_wo (by first | exact .inl (by rfl) | exact .inr (by simp) | exact .inr (by omega)) ?_ | refine ko_wor (by rfl) ?_ | refine ko_wos (by simp) ?_)); (case hn => first | exact Nat.le_refl _ | (simp; done) | (simp; omega)); (case hs => simp [e]); (case hb => simp [e]); (case ls => simp (disch := omega) [e, wrp]); (case lb => simp [e]); (case mu => first | (simp; omega) | (simp; done) | omega | (simp only; omega)); (case' rel' => (try simp only); (try exact trivial)))
    all_goals repeat constructor
set_option maxHeartbeats 1000000 in
theorem c_bufEmpty (b : Bf) (hb : bufE b = 0) : PSpec Try.prog 61 [.agg (bfC b)] (relT (relS 0 b.next b.held [])) := by
  obtain ⟨p1, p2, p3, p4⟩ := bufE_ok hb
  have hh : ∀ a ∈ b.held, 0 ≤ a.n ∧ a.n ≤ 1000000000000 := fun a ha => by have := (sltE_ok (p3 a ha).1).1; omega
  have hsk := c_skip 0 b.next b.held [] (by simp; omega) (by omega) (by omega) hh
  refine v_pspec Try.func61 rfl Try.ntmps61 Try.results61 (by simp) (by first | exact .s _ | repeat constructor) ?_
  repeat' (first
    | ((with_reducible apply w_ownCell 64 2 48 7); (case hb => rfl); (case hj => rfl); (case hsz => decide); (case hm => (try simp only [Nat.reduceAdd, Nat.reduceMul]); exact rfl))
    | (with_reducible first | refine go_later ?_ | (refine h0 _ _ ?_; clear h0 hw) | (refine hw _ _ _ ?_; clear h0 hw) | refine go_ret ?_ | refine go_skip ?_ | refine go_block ?_ | refine go_exit ?_ | refine out_seq_ret ?_ | refine out_seq_normal ?_ | refine out_seq_exit ?_ | refine out_block_ret ?_ | refine out_block_normal ?_ | refine out_block_here ?_ | refine out_loop_ret ?_ | refine out_loop_exit ?_ | refine out_loopR_ret ?_ | refine out_loopR_exit ?_ | refine out_seq_panic ?_ | refine out_block_panic ?_ | refine out_loop_panic ?_ | (refine hL _ ?_; clear hL))
    | (with_reducible first | refine w_reg (by decide +kernel) fun K1 hK => ?_ | refine w_reg_end (by decide +kernel) fun K1 hK => ?_)
    | ((with_reducible first | apply d_reg Try.mix (by decide +kernel) | apply d_reg_end Try.mix (by decide +kernel)); (case hm => simp only [List.length_cons, List.length_nil, Nat.reduceAdd, Nat.reduceMul]; rfl); (case' h => intro K1 hK))
    | with_reducible refine go_seq ?_
    | ((with_reducible first | apply v_op Try.tab | apply v_op0 Try.tab | apply d_op Try.tab | apply d_op0 Try.tab) <;> first | (intro K' h0 hw; conv => whnf) | (simp only [Nat.reduceAdd, Nat.reduceMul]; rfl))
    | ((with_reducible apply v_nil); (case hm => (simp only [Nat.reduceAdd, Nat.reduceMul]; rfl)); (case' h => with_reducible refine hK _ ?_; clear hK))
    | ((with_reducible apply d_nil); (refine hK _ _ _ _ (by first | decide +kernel | (simp only [List.map_cons, List.map_nil, List.nil_append, List.cons_append]; decide +kernel) | rfl) ?_; clear hK))
    | (first | refine d_grd_yes (by rfl) (by rfl) ?_ | refine v_grd_yes (by rfl) (by rfl) ?_)
    | (apply d_grd_no; (case hg => rfl); (case hb => rfl); (case hi => (simp only [Nat.reduceAdd, Nat.reduceMul]; rfl)))
    | (apply d_grd_undef; (case hg => rfl); (case hb => rfl); (case hi => (simp only [Nat.reduceAdd, Nat.reduceMul]; rfl)))
    | (apply d_grd; (case hg => rfl); (case hb => rfl); (case hi => (simp only [Nat.reduceAdd, Nat.reduceMul]; rfl)))
    | (apply v_grd_no; (case hg => rfl); (case hb => rfl); (case hi => (simp only [Nat.reduceAdd, Nat.reduceMul]; rfl)))
    | (apply v_grd_undef; (case hg => rfl); (case hb => rfl); (case hi => (simp only [Nat.reduceAdd, Nat.reduceMul]; rfl)))
    | (apply v_grd; (case hg => rfl); (case hb => rfl); (case hi => (simp only [Nat.reduceAdd, Nat.reduceMul]; rfl)))
    | ((with_reducible refine callV_id (f := 85) ?_); have hcs_ := c_own b (by omega); (with_reducible apply w_callO [] own85 (hcs_)); (case hx => rfl); (case he => rfl); (case hle => first | ((repeat constructor); done) | (simp; done)); (case hm => rfl); (case hnd => decide); (case' hK => (try clear hcs_); conv => whnf); (any_goals (simp; done)))
    | ((with_reducible refine callV_id (f := 89) ?_); have hcs_ := hsk; (with_reducible apply w_callO [64, 96] own89 (hcs_)); (case hx => rfl); (case he => rfl); (case hle => first | ((repeat constructor); done) | (simp; done)); (case hm => rfl); (case hnd => decide); (case' hK => (try clear hcs_); conv => whnf); (any_goals (simp; done)))
    | ((with_reducible apply go_cond); (case hb => rfl))
    | ((with_reducible apply out_block_there); (case hne => rfl))
    | ((with_reducible first | refine w_ret Try.tab fun K' hL => ?_ | refine w_ret_end Try.tab fun K' hL => ?_); (conv => whnf))
    | ((with_reducible apply And.intro); (case' right => try (conv => whnf)); (case' left => try first | rfl | decide | (simp; done) | (simp (disch := omega) only [wrp]; omega)))
    | ((with_reducible apply Side.mk); (try simp (disch := omega) only [wrp]); (try simp); (try omega))
    | ((with_reducible apply all_rk); (case hx => with_reducible assumption); (conv => whnf))
    | ((with_reducible refine all_row ?_); (first | (have _y := hx5; clear _y; intro x6 hx6) | (have _y := hx4; clear _y; intro x5 hx5) | (have _y := hx3; clear _y; intro x4 hx4) | (have _y := hx2; clear _y; intro x3 hx3) | (have _y := hx1; clear _y; intro x2 hx2) | (intro x1 hx1)); conv => whnf)
    | (refine ⟨_, eqAT (by rfl) (by rfl) (by rfl) (by rfl), ?_⟩; conv => whnf)
    | ((first | (have _y := g9; clear _y; intro g10; try simp at g10) | (have _y := g8; clear _y; intro g9; try simp at g9) | (have _y := g7; clear _y; intro g8; try simp at g8) | (have _y := g6; clear _y; intro g7; try simp at g7) | (have _y := g5; clear _y; intro g6; try simp at g6) | (have _y := g4; clear _y; intro g5; try simp at g5) | (have _y := g3; clear _y; intro g4; try simp at g4) | (have _y := g2; clear _y; intro g3; try simp at g3) | (have _y := g1; clear _y; intro g2; try simp at g2) | (intro g1; try simp at g1))))
  all_goals repeat constructor
def putE (b : Bf) (x : Slt) : Int := if bufE b ≠ 0 then bufE b else sltE x
def putR (b : Bf) (x : Slt) : Int × List Slt × List Slt := if putE b x = 0 then rawB b x else (0, [], [])
def flushR (b : Bf) : Int × List Slt × List Slt := if bufE b = 0 then relS 0 b.next b.held [] else (0, [], [])
abbrev relT3 (x : Int × List Slt × List Slt) (e : Int) : AV := .tup [.agg [I x.1, slts x.2.1], slts x.2.2, I e]
set_option maxHeartbeats 1000000 in
theorem c_bufPut (b : Bf) (x : Slt) (hl : b.held.length ≤ 4000000000000) : PSpec Try.prog 22 [.agg (bfC b), .agg (sltC x)] (relT3 (putR b x) (putE b x)) := by
  by_cases h : putE b x = 0
  · have h1 : bufE b = 0 ∧ sltE x = 0 := by
      unfold putE at h
      by_cases c : bufE b = 0
      · rw [if_neg (by simp [c])] at h; exact ⟨c, h⟩
      · rw [if_pos c] at h; exact absurd h c
    rw [putR, if_pos h, h]
    have hr := c_bufRaw b x h1.1 h1.2
    refine v_pspec Try.func22 rfl Try.ntmps22 Try.results22 (by simp) (by first | exact .s _ | repeat constructor) ?_
    repeat' (first
    | (with_reducible first | refine go_later ?_ | (refine h0 _ _ ?_; clear h0 hw) | (refine hw _ _ _ ?_; clear h0 hw) | refine go_ret ?_ | refine go_skip ?_ | refine go_block ?_ | refine go_exit ?_ | refine out_seq_ret ?_ | refine out_seq_normal ?_ | refine out_seq_exit ?_ | refine out_block_ret ?_ | refine out_block_normal ?_ | refine out_block_here ?_ | refine out_loop_ret ?_ | refine out_loop_exit ?_ | refine out_loopR_ret ?_ | refine out_loopR_exit ?_ | refine out_seq_panic ?_ | refine out_block_panic ?_ | refine out_loop_panic ?_ | (refine hL _ ?_; clear hL))
    | (with_reducible first | refine w_reg (by decide +kernel) fun K1 hK => ?_ | refine w_reg_end (by decide +kernel) fun K1 hK => ?_)
    | ((with_reducible first | apply d_reg Try.mix (by decide +kernel) | apply d_reg_end Try.mix (by decide +kernel)); (case hm => simp only [List.length_cons, List.length_nil, Nat.reduceAdd, Nat.reduceMul]; rfl); (case' h => intro K1 hK))
    | with_reducible refine go_seq ?_
    | ((with_reducible first | apply v_op Try.tab | apply v_op0 Try.tab | apply d_op Try.tab | apply d_op0 Try.tab) <;> first | (intro K' h0 hw; conv => whnf) | (simp only [Nat.reduceAdd, Nat.reduceMul]; rfl))
    | ((with_reducible apply v_nil); (case hm => (simp only [Nat.reduceAdd, Nat.reduceMul]; rfl)); (case' h => with_reducible refine hK _ ?_; clear hK))
    | ((with_reducible apply d_nil); (refine hK _ _ _ _ (by first | decide +kernel | (simp only [List.map_cons, List.map_nil, List.nil_append, List.cons_append]; decide +kernel) | rfl) ?_; clear hK))
    | (first | refine d_grd_yes (by rfl) (by rfl) ?_ | refine v_grd_yes (by rfl) (by rfl) ?_)
    | (apply d_grd_no; (case hg => rfl); (case hb => rfl); (case hi => (simp only [Nat.reduceAdd, Nat.reduceMul]; rfl)))
    | (apply d_grd_undef; (case hg => rfl); (case hb => rfl); (case hi => (simp only [Nat.reduceAdd, Nat.reduceMul]; rfl)))
    | (apply d_grd; (case hg => rfl); (case hb => rfl); (case hi => (simp only [Nat.reduceAdd, Nat.reduceMul]; rfl)))
    | (apply v_grd_no; (case hg => rfl); (case hb => rfl); (case hi => (simp only [Nat.reduceAdd, Nat.reduceMul]; rfl)))
    | (apply v_grd_undef; (case hg => rfl); (case hb => rfl); (case hi => (simp only [Nat.reduceAdd, Nat.reduceMul]; rfl)))
    | (apply v_grd; (case hg => rfl); (case hb => rfl); (case hi => (simp only [Nat.reduceAdd, Nat.reduceMul]; rfl)))
    | ((with_reducible refine callV_id (f := 29) ?_); have hcs_ := c_bufCheck b hl; (with_reducible apply callV_f own29 (hcs_)); (case hx => rfl); (case he => rfl); (case hle => first | ((repeat constructor); done) | (simp; done)); (case hpu => repeat constructor); (case' hK => (try clear hcs_); conv => whnf))
    | ((with_reducible refine callV_id (f := 59) ?_); have hcs_ := c_slot x; (with_reducible apply callV_f own59 (hcs_)); (case hx => rfl); (case he => rfl); (case hle => first | ((repeat constructor); done) | (simp; done)); (case hpu => repeat constructor); (case' hK => (try clear hcs_); conv => whnf))
    | ((with_reducible refine callV_id (f := 60) ?_); have hcs_ := hr; (with_reducible apply callV_f own60 (hcs_)); (case hx => rfl); (case he => rfl); (case hle => first | ((repeat constructor); done) | (simp; done)); (case hpu => repeat constructor); (case' hK => (try clear hcs_); conv => whnf))
    | ((with_reducible apply go_cond); (case hb => rfl))
    | ((with_reducible apply out_block_there); (case hne => rfl))
    | ((with_reducible first | refine w_ret Try.tab fun K' hL => ?_ | refine w_ret_end Try.tab fun K' hL => ?_); (conv => whnf))
    | ((with_reducible apply And.intro); (case' right => try (conv => whnf)); (case' left => try first | rfl | decide | (simp; done) | (simp (disch := omega) only [wrp]; omega)))
    | ((with_reducible apply Side.mk); (try simp (disch := omega) only [wrp]); (try simp); (try omega))
    | ((with_reducible apply all_rk); (case hx => with_reducible assumption); (conv => whnf))
    | ((with_reducible refine all_row ?_); (first | (have _y := hx5; clear _y; intro x6 hx6) | (have _y := hx4; clear _y; intro x5 hx5) | (have _y := hx3; clear _y; intro x4 hx4) | (have _y := hx2; clear _y; intro x3 hx3) | (have _y := hx1; clear _y; intro x2 hx2) | (intro x1 hx1)); conv => whnf)
    | (refine ⟨_, eqAT (by rfl) (by rfl) (by rfl) (by rfl), ?_⟩; conv => whnf)
    | ((first | (have _y := g9; clear _y; intro g10; try simp at g10) | (have _y := g8; clear _y; intro g9; try simp at g9) | (have _y := g7; clear _y; intro g8; try simp at g8) | (have _y := g6; clear _y; intro g7; try simp at g7) | (have _y := g5; clear _y; intro g6; try simp at g6) | (have _y := g4; clear _y; intro g5; try simp at g5) | (have _y := g3; clear _y; intro g4; try simp at g4) | (have _y := g2; clear _y; intro g3; try simp at g3) | (have _y := g1; clear _y; intro g2; try simp at g2) | (intro g1; try simp at g1))))
    all_goals first
      | exact absurd h1.1 g1
      | exact absurd h1.2 g2
      | ((repeat constructor); done)
  · rw [putR, if_neg h]
    refine v_pspec Try.func22 rfl Try.ntmps22 Try.results22 (by simp) (by first | exact .s _ | repeat constructor) ?_
    repeat' (first
    | (with_reducible first | refine go_later ?_ | (refine h0 _ _ ?_; clear h0 hw) | (refine hw _ _ _ ?_; clear h0 hw) | refine go_ret ?_ | refine go_skip ?_ | refine go_block ?_ | refine go_exit ?_ | refine out_seq_ret ?_ | refine out_seq_normal ?_ | refine out_seq_exit ?_ | refine out_block_ret ?_ | refine out_block_normal ?_ | refine out_block_here ?_ | refine out_loop_ret ?_ | refine out_loop_exit ?_ | refine out_loopR_ret ?_ | refine out_loopR_exit ?_ | refine out_seq_panic ?_ | refine out_block_panic ?_ | refine out_loop_panic ?_ | (refine hL _ ?_; clear hL))
    | (with_reducible first | refine w_reg (by decide +kernel) fun K1 hK => ?_ | refine w_reg_end (by decide +kernel) fun K1 hK => ?_)
    | ((with_reducible first | apply d_reg Try.mix (by decide +kernel) | apply d_reg_end Try.mix (by decide +kernel)); (case hm => simp only [List.length_cons, List.length_nil, Nat.reduceAdd, Nat.reduceMul]; rfl); (case' h => intro K1 hK))
    | with_reducible refine go_seq ?_
    | ((with_reducible first | apply v_op Try.tab | apply v_op0 Try.tab | apply d_op Try.tab | apply d_op0 Try.tab) <;> first | (intro K' h0 hw; conv => whnf) | (simp only [Nat.reduceAdd, Nat.reduceMul]; rfl))
    | ((with_reducible apply v_nil); (case hm => (simp only [Nat.reduceAdd, Nat.reduceMul]; rfl)); (case' h => with_reducible refine hK _ ?_; clear hK))
    | ((with_reducible apply d_nil); (refine hK _ _ _ _ (by first | decide +kernel | (simp only [List.map_cons, List.map_nil, List.nil_append, List.cons_append]; decide +kernel) | rfl) ?_; clear hK))
    | (first | refine d_grd_yes (by rfl) (by rfl) ?_ | refine v_grd_yes (by rfl) (by rfl) ?_)
    | (apply d_grd_no; (case hg => rfl); (case hb => rfl); (case hi => (simp only [Nat.reduceAdd, Nat.reduceMul]; rfl)))
    | (apply d_grd_undef; (case hg => rfl); (case hb => rfl); (case hi => (simp only [Nat.reduceAdd, Nat.reduceMul]; rfl)))
    | (apply d_grd; (case hg => rfl); (case hb => rfl); (case hi => (simp only [Nat.reduceAdd, Nat.reduceMul]; rfl)))
    | (apply v_grd_no; (case hg => rfl); (case hb => rfl); (case hi => (simp only [Nat.reduceAdd, Nat.reduceMul]; rfl)))
    | (apply v_grd_undef; (case hg => rfl); (case hb => rfl); (case hi => (simp only [Nat.reduceAdd, Nat.reduceMul]; rfl)))
    | (apply v_grd; (case hg => rfl); (case hb => rfl); (case hi => (simp only [Nat.reduceAdd, Nat.reduceMul]; rfl)))
    | ((with_reducible refine callV_id (f := 29) ?_); have hcs_ := c_bufCheck b hl; (with_reducible apply callV_f own29 (hcs_)); (case hx => rfl); (case he => rfl); (case hle => first | ((repeat constructor); done) | (simp; done)); (case hpu => repeat constructor); (case' hK => (try clear hcs_); conv => whnf))
    | ((with_reducible refine callV_id (f := 59) ?_); have hcs_ := c_slot x; (with_reducible apply callV_f own59 (hcs_)); (case hx => rfl); (case he => rfl); (case hle => first | ((repeat constructor); done) | (simp; done)); (case hpu => repeat constructor); (case' hK => (try clear hcs_); conv => whnf))
    | ((with_reducible apply go_cond); (case hb => rfl))
    | ((with_reducible apply out_block_there); (case hne => rfl))
    | ((with_reducible first | refine w_ret Try.tab fun K' hL => ?_ | refine w_ret_end Try.tab fun K' hL => ?_); (conv => whnf))
    | ((with_reducible apply And.intro); (case' right => try (conv => whnf)); (case' left => try first | rfl | decide | (simp; done) | (simp (disch := omega) only [wrp]; omega)))
    | ((with_reducible apply Side.mk); (try simp (disch := omega) only [wrp]); (try simp); (try omega))
    | ((with_reducible apply all_rk); (case hx => with_reducible assumption); (conv => whnf))
    | ((with_reducible refine all_row ?_); (first | (have _y := hx5; clear _y; intro x6 hx6) | (have _y := hx4; clear _y; intro x5 hx5) | (have _y := hx3; clear _y; intro x4 hx4) | (have _y := hx2; clear _y; intro x3 hx3) | (have _y := hx1; clear _y; intro x2 hx2) | (intro x1 hx1)); conv => whnf)
    | (refine ⟨_, eqAT (by rfl) (by rfl) (by rfl) (by rfl), ?_⟩; conv => whnf)
    | ((first | (have _y := g9; clear _y; intro g10; try simp at g10) | (have _y := g8; clear _y; intro g9; try simp at g9) | (have _y := g7; clear _y; intro g8; try simp at g8) | (have _y := g6; clear _y; intro g7; try simp at g7) | (have _y := g5; clear _y; intro g6; try simp at g6) | (have _y := g4; clear _y; intro g5; try simp at g5) | (have _y := g3; clear _y; intro g4; try simp at g4) | (have _y := g2; clear _y; intro g3; try simp at g3) | (have _y := g1; clear _y; intro g2; try simp at g2) | (intro g1; try simp at g1))))
    · rw [show putE b x = sltE x from if_neg (by simp [g1])]; repeat constructor
    · exact absurd (show putE b x = 0 by rw [show putE b x = sltE x from if_neg (by simp [g1]), g2]) h
    · rw [show putE b x = bufE b from if_pos g1]; repeat constructor
    · exact absurd g2 g1
set_option maxHeartbeats 1000000 in
theorem c_bufFlush (b : Bf) (hl : b.held.length ≤ 4000000000000) : PSpec Try.prog 23 [.agg (bfC b)] (relT3 (flushR b) (bufE b)) := by
  by_cases h : bufE b = 0
  · rw [flushR, if_pos h, h]
    have hr := c_bufEmpty b h
    refine v_pspec Try.func23 rfl Try.ntmps23 Try.results23 (by simp) (by first | exact .s _ | repeat constructor) ?_
    repeat' (first
    | (with_reducible first | refine go_later ?_ | (refine h0 _ _ ?_; clear h0 hw) | (refine hw _ _ _ ?_; clear h0 hw) | refine go_ret ?_ | refine go_skip ?_ | refine go_block ?_ | refine go_exit ?_ | refine out_seq_ret ?_ | refine out_seq_normal ?_ | refine out_seq_exit ?_ | refine out_block_ret ?_ | refine out_block_normal ?_ | refine out_block_here ?_ | refine out_loop_ret ?_ | refine out_loop_exit ?_ | refine out_loopR_ret ?_ | refine out_loopR_exit ?_ | refine out_seq_panic ?_ | refine out_block_panic ?_ | refine out_loop_panic ?_ | (refine hL _ ?_; clear hL))
    | (with_reducible first | refine w_reg (by decide +kernel) fun K1 hK => ?_ | refine w_reg_end (by decide +kernel) fun K1 hK => ?_)
    | ((with_reducible first | apply d_reg Try.mix (by decide +kernel) | apply d_reg_end Try.mix (by decide +kernel)); (case hm => simp only [List.length_cons, List.length_nil, Nat.reduceAdd, Nat.reduceMul]; rfl); (case' h => intro K1 hK))
    | with_reducible refine go_seq ?_
    | ((with_reducible first | apply v_op Try.tab | apply v_op0 Try.tab | apply d_op Try.tab | apply d_op0 Try.tab) <;> first | (intro K' h0 hw; conv => whnf) | (simp only [Nat.reduceAdd, Nat.reduceMul]; rfl))
    | ((with_reducible apply v_nil); (case hm => (simp only [Nat.reduceAdd, Nat.reduceMul]; rfl)); (case' h => with_reducible refine hK _ ?_; clear hK))
    | ((with_reducible apply d_nil); (refine hK _ _ _ _ (by first | decide +kernel | (simp only [List.map_cons, List.map_nil, List.nil_append, List.cons_append]; decide +kernel) | rfl) ?_; clear hK))
    | (first | refine d_grd_yes (by rfl) (by rfl) ?_ | refine v_grd_yes (by rfl) (by rfl) ?_)
    | (apply d_grd_no; (case hg => rfl); (case hb => rfl); (case hi => (simp only [Nat.reduceAdd, Nat.reduceMul]; rfl)))
    | (apply d_grd_undef; (case hg => rfl); (case hb => rfl); (case hi => (simp only [Nat.reduceAdd, Nat.reduceMul]; rfl)))
    | (apply d_grd; (case hg => rfl); (case hb => rfl); (case hi => (simp only [Nat.reduceAdd, Nat.reduceMul]; rfl)))
    | (apply v_grd_no; (case hg => rfl); (case hb => rfl); (case hi => (simp only [Nat.reduceAdd, Nat.reduceMul]; rfl)))
    | (apply v_grd_undef; (case hg => rfl); (case hb => rfl); (case hi => (simp only [Nat.reduceAdd, Nat.reduceMul]; rfl)))
    | (apply v_grd; (case hg => rfl); (case hb => rfl); (case hi => (simp only [Nat.reduceAdd, Nat.reduceMul]; rfl)))
    | ((with_reducible refine callV_id (f := 29) ?_); have hcs_ := c_bufCheck b hl; (with_reducible apply callV_f own29 (hcs_)); (case hx => rfl); (case he => rfl); (case hle => first | ((repeat constructor); done) | (simp; done)); (case hpu => repeat constructor); (case' hK => (try clear hcs_); conv => whnf))
    | ((with_reducible refine callV_id (f := 61) ?_); have hcs_ := hr; (with_reducible apply callV_f own61 (hcs_)); (case hx => rfl); (case he => rfl); (case hle => first | ((repeat constructor); done) | (simp; done)); (case hpu => repeat constructor); (case' hK => (try clear hcs_); conv => whnf))
    | ((with_reducible apply go_cond); (case hb => rfl))
    | ((with_reducible apply out_block_there); (case hne => rfl))
    | ((with_reducible first | refine w_ret Try.tab fun K' hL => ?_ | refine w_ret_end Try.tab fun K' hL => ?_); (conv => whnf))
    | ((with_reducible apply And.intro); (case' right => try (conv => whnf)); (case' left => try first | rfl | decide | (simp; done) | (simp (disch := omega) only [wrp]; omega)))
    | ((with_reducible apply Side.mk); (try simp (disch := omega) only [wrp]); (try simp); (try omega))
    | ((with_reducible apply all_rk); (case hx => with_reducible assumption); (conv => whnf))
    | ((with_reducible refine all_row ?_); (first | (have _y := hx5; clear _y; intro x6 hx6) | (have _y := hx4; clear _y; intro x5 hx5) | (have _y := hx3; clear _y; intro x4 hx4) | (have _y := hx2; clear _y; intro x3 hx3) | (have _y := hx1; clear _y; intro x2 hx2) | (intro x1 hx1)); conv => whnf)
    | (refine ⟨_, eqAT (by rfl) (by rfl) (by rfl) (by rfl), ?_⟩; conv => whnf)
    | ((first | (have _y := g9; clear _y; intro g10; try simp at g10) | (have _y := g8; clear _y; intro g9; try simp at g9) | (have _y := g7; clear _y; intro g8; try simp at g8) | (have _y := g6; clear _y; intro g7; try simp at g7) | (have _y := g5; clear _y; intro g6; try simp at g6) | (have _y := g4; clear _y; intro g5; try simp at g5) | (have _y := g3; clear _y; intro g4; try simp at g4) | (have _y := g2; clear _y; intro g3; try simp at g3) | (have _y := g1; clear _y; intro g2; try simp at g2) | (intro g1; try simp at g1))))
    all_goals first
      | exact absurd h g1
      | ((repeat constructor); done)
  · rw [flushR, if_neg h]
    refine v_pspec Try.func23 rfl Try.ntmps23 Try.results23 (by simp) (by first | exact .s _ | repeat constructor) ?_
    repeat' (first
    | (with_reducible first | refine go_later ?_ | (refine h0 _ _ ?_; clear h0 hw) | (refine hw _ _ _ ?_; clear h0 hw) | refine go_ret ?_ | refine go_skip ?_ | refine go_block ?_ | refine go_exit ?_ | refine out_seq_ret ?_ | refine out_seq_normal ?_ | refine out_seq_exit ?_ | refine out_block_ret ?_ | refine out_block_normal ?_ | refine out_block_here ?_ | refine out_loop_ret ?_ | refine out_loop_exit ?_ | refine out_loopR_ret ?_ | refine out_loopR_exit ?_ | refine out_seq_panic ?_ | refine out_block_panic ?_ | refine out_loop_panic ?_ | (refine hL _ ?_; clear hL))
    | (with_reducible first | refine w_reg (by decide +kernel) fun K1 hK => ?_ | refine w_reg_end (by decide +kernel) fun K1 hK => ?_)
    | ((with_reducible first | apply d_reg Try.mix (by decide +kernel) | apply d_reg_end Try.mix (by decide +kernel)); (case hm => simp only [List.length_cons, List.length_nil, Nat.reduceAdd, Nat.reduceMul]; rfl); (case' h => intro K1 hK))
    | with_reducible refine go_seq ?_
    | ((with_reducible first | apply v_op Try.tab | apply v_op0 Try.tab | apply d_op Try.tab | apply d_op0 Try.tab) <;> first | (intro K' h0 hw; conv => whnf) | (simp only [Nat.reduceAdd, Nat.reduceMul]; rfl))
    | ((with_reducible apply v_nil); (case hm => (simp only [Nat.reduceAdd, Nat.reduceMul]; rfl)); (case' h => with_reducible refine hK _ ?_; clear hK))
    | ((with_reducible apply d_nil); (refine hK _ _ _ _ (by first | decide +kernel | (simp only [List.map_cons, List.map_nil, List.nil_append, List.cons_append]; decide +kernel) | rfl) ?_; clear hK))
    | (first | refine d_grd_yes (by rfl) (by rfl) ?_ | refine v_grd_yes (by rfl) (by rfl) ?_)
    | (apply d_grd_no; (case hg => rfl); (case hb => rfl); (case hi => (simp only [Nat.reduceAdd, Nat.reduceMul]; rfl)))
    | (apply d_grd_undef; (case hg => rfl); (case hb => rfl); (case hi => (simp only [Nat.reduceAdd, Nat.reduceMul]; rfl)))
    | (apply d_grd; (case hg => rfl); (case hb => rfl); (case hi => (simp only [Nat.reduceAdd, Nat.reduceMul]; rfl)))
    | (apply v_grd_no; (case hg => rfl); (case hb => rfl); (case hi => (simp only [Nat.reduceAdd, Nat.reduceMul]; rfl)))
    | (apply v_grd_undef; (case hg => rfl); (case hb => rfl); (case hi => (simp only [Nat.reduceAdd, Nat.reduceMul]; rfl)))
    | (apply v_grd; (case hg => rfl); (case hb => rfl); (case hi => (simp only [Nat.reduceAdd, Nat.reduceMul]; rfl)))
    | ((with_reducible refine callV_id (f := 29) ?_); have hcs_ := c_bufCheck b hl; (with_reducible apply callV_f own29 (hcs_)); (case hx => rfl); (case he => rfl); (case hle => first | ((repeat constructor); done) | (simp; done)); (case hpu => repeat constructor); (case' hK => (try clear hcs_); conv => whnf))
    | ((with_reducible apply go_cond); (case hb => rfl))
    | ((with_reducible apply out_block_there); (case hne => rfl))
    | ((with_reducible first | refine w_ret Try.tab fun K' hL => ?_ | refine w_ret_end Try.tab fun K' hL => ?_); (conv => whnf))
    | ((with_reducible apply And.intro); (case' right => try (conv => whnf)); (case' left => try first | rfl | decide | (simp; done) | (simp (disch := omega) only [wrp]; omega)))
    | ((with_reducible apply Side.mk); (try simp (disch := omega) only [wrp]); (try simp); (try omega))
    | ((with_reducible apply all_rk); (case hx => with_reducible assumption); (conv => whnf))
    | ((with_reducible refine all_row ?_); (first | (have _y := hx5; clear _y; intro x6 hx6) | (have _y := hx4; clear _y; intro x5 hx5) | (have _y := hx3; clear _y; intro x4 hx4) | (have _y := hx2; clear _y; intro x3 hx3) | (have _y := hx1; clear _y; intro x2 hx2) | (intro x1 hx1)); conv => whnf)
    | (refine ⟨_, eqAT (by rfl) (by rfl) (by rfl) (by rfl), ?_⟩; conv => whnf)
    | ((first | (have _y := g9; clear _y; intro g10; try simp at g10) | (have _y := g8; clear _y; intro g9; try simp at g9) | (have _y := g7; clear _y; intro g8; try simp at g8) | (have _y := g6; clear _y; intro g7; try simp at g7) | (have _y := g5; clear _y; intro g6; try simp at g6) | (have _y := g4; clear _y; intro g5; try simp at g5) | (have _y := g3; clear _y; intro g4; try simp at g4) | (have _y := g2; clear _y; intro g3; try simp at g3) | (have _y := g1; clear _y; intro g2; try simp at g2) | (intro g1; try simp at g1))))
    all_goals first
      | exact absurd g1 h
      | ((repeat constructor); done)
end Go.Proofs.Ytlehonipilpfdaa

/- The program's plain types, as structures, and how they lie in cells. No condition. -/
import Derived.Test.YtdanlpkclkjkcaaTab
import Derived.Test.YtdanlpkclkjkcaaOwn
import Derived.Test.YtdanlpkclkjkcaaEqs
import Derived.Test.YtdanlpkclkjkcaaSim
import Derived.Test.YtdanlpkclkjkcaaSy4
import Derived.Test.YtdanlpkclkjkcaaSy3
section
namespace Go.Proofs.Ytdanlpkclkjkcaa
open Go Go.Sy
set_option linter.unusedVariables false
structure Pkt where
  seq : Int
  time : Int
  first : Bool
  fin : Bool
  key : Bool
  text : ByteArray
structure Slt where
  n : Int
  p : Pkt
structure Fr where
  time : Int
  key : Bool
  parts : List ByteArray
structure Ou where
  last : Int
  time : Int
  shift : Int
abbrev pktC (p : Pkt) : List AV := [I p.seq, I p.time, B p.first, B p.fin, B p.key, Tx p.text]
abbrev sltC (s : Slt) : List AV := [I s.n, I s.p.seq, I s.p.time, B s.p.first, B s.p.fin, B s.p.key, Tx s.p.text]
abbrev rowS (l : List ByteArray) : List (List AV) := l.map fun s => [Tx s]
abbrev strs (l : List ByteArray) : AV := .sl 1 (rowS l)
abbrev frC (f : Fr) : List AV := [I f.time, B f.key, strs f.parts]
abbrev ouC (o : Ou) : List AV := [I o.last, I o.time, I o.shift]
abbrev rowP (l : List Pkt) : List (List AV) := l.map pktC
abbrev pkts (l : List Pkt) : AV := .sl 6 (rowP l)
abbrev rowL (l : List Slt) : List (List AV) := l.map sltC
abbrev slts (l : List Slt) : AV := .sl 7 (rowL l)
abbrev rowF (l : List Fr) : List (List AV) := l.map frC
abbrev frs (l : List Fr) : AV := .sl 3 (rowF l)
abbrev grC (g : List Fr) : List AV := [frs g]
abbrev rowG (l : List (List Fr)) : List (List AV) := l.map grC
abbrev grs (l : List (List Fr)) : AV := .sl 1 (rowG l)
theorem Pkt.ext' {p q : Pkt} (h1 : p.seq = q.seq) (h2 : p.time = q.time) (h3 : p.first = q.first) (h4 : p.fin = q.fin) (h5 : p.key = q.key) (h6 : p.text = q.text) : p = q := by cases p; cases q; simp_all
instance : DecidableEq Pkt := fun p q => decidable_of_iff (p.seq = q.seq ∧ p.time = q.time ∧ p.first = q.first ∧ p.fin = q.fin ∧ p.key = q.key ∧ p.text = q.text) ⟨fun ⟨h1, h2, h3, h4, h5, h6⟩ => Pkt.ext' h1 h2 h3 h4 h5 h6, fun h => by subst h; simp⟩
theorem Fr.ext' {p q : Fr} (h1 : p.time = q.time) (h2 : p.key = q.key) (h3 : p.parts = q.parts) : p = q := by cases p; cases q; simp_all
instance : DecidableEq Fr := fun p q => decidable_of_iff (p.time = q.time ∧ p.key = q.key ∧ p.parts = q.parts) ⟨fun ⟨h1, h2, h3⟩ => Fr.ext' h1 h2 h3, fun h => by subst h; simp⟩
theorem Slt.ext' {p q : Slt} (h1 : p.n = q.n) (h2 : p.p = q.p) : p = q := by cases p; cases q; simp_all
instance : DecidableEq Slt := fun p q => decidable_of_iff (p.n = q.n ∧ p.p = q.p) ⟨fun ⟨h1, h2⟩ => Slt.ext' h1 h2, fun h => by subst h; simp⟩
theorem Ou.ext' {p q : Ou} (h1 : p.last = q.last) (h2 : p.time = q.time) (h3 : p.shift = q.shift) : p = q := by cases p; cases q; simp_all
end Go.Proofs.Ytdanlpkclkjkcaa
end
section
namespace Go.Proofs.Ytdanlpkclkjkcaa
open Go Go.Sy
set_option maxRecDepth 4000
set_option linter.unusedSimpArgs false
set_option linter.unusedVariables false
attribute [local irreducible] Reg RegD Later Out CallV Tri Side EqV
namespace Outs
end Outs
/-- Too many bytes? -/
def big (s : ByteArray) : Bool := decide (8 < s.size)
def frameE (f : Fr) : Int := if ¬ (0 ≤ f.time ∧ f.time ≤ 1000000) then 3 else if f.parts = [] then 5 else if 4 < f.parts.length ∨ f.parts.any big = true then 2 else 0
set_option maxHeartbeats 400000 in
theorem c_big (s : ByteArray) : PSpec Try.prog 49 [Tx s] (B (big s)) := by
  refine v_pspec Try.func49 rfl Try.ntmps49 Try.results49 (by simp) (by first | exact .s _ | repeat constructor) ?_
  repeat' (first
 | (with_reducible first | apply qz0 | (refine h0 _ _ ?_; clear h0 hw) | (refine hw _ _ _ ?_; clear h0 hw) | apply qz1 | apply qz2 | apply qz5 | apply qz6 | (refine hL _ ?_; clear hL))
 | (with_reducible first | refine w_reg (by decide +kernel) fun K1 hK => ?_ | refine w_reg_end (by decide +kernel) fun K1 hK => ?_)
 | with_reducible refine go_seq ?_
 | ((with_reducible first | apply v_op Try.tab | apply v_op0 Try.tab) <;> first | (intro K' h0 hw; conv => whnf) | (simp only [Nat.reduceAdd, Nat.reduceMul]; rfl))
 | ((with_reducible apply v_nil); (case hm => (simp only [Nat.reduceAdd, Nat.reduceMul]; rfl)); (case' h => with_reducible refine hK _ ?_; clear hK))
 | ((with_reducible first | refine w_ret Try.tab fun K' hL => ?_ | refine w_ret_end Try.tab fun K' hL => ?_); (conv => whnf))
 | ((with_reducible apply And.intro); (case' right => try (conv => whnf)); (case' left => try first | rfl | decide | (simp; done) | (simp (disch := omega) only [wrp]; omega) | (simp (disch := omega) [wrp]; (try omega); done)))
 | ((with_reducible apply Side.mk); (try simp (disch := omega) only [wrp]); (try simp); (try simp (disch := omega) only [wrp]); (try omega))
 | (first  | intro g1; try simp at g1))
  all_goals (refine le_of_eq ?_; simp [big]; omega)
/-- Where the first one is, or -1. -/
def idxBig : Nat → List ByteArray → Int
  | _, [] => -1
  | k, s :: l => if big s = true then k else idxBig (k + 1) l
theorem idxBig_any : ∀ (l : List ByteArray) (k : Nat), 0 ≤ idxBig k l ↔ l.any big = true
  | [], k => by simp [idxBig]
  | s :: l, k => by
    simp only [idxBig, List.any_cons, Bool.or_eq_true]
    split
    · rename_i h; simp [h]
    · rename_i h; simp [h, idxBig_any l (k + 1)]
set_option maxHeartbeats 400000 in
theorem c_indexBig (l : List ByteArray) (hl : l.length ≤ 17592186043904) : CSpec Try.prog 65 [strs l, .fn (.func 49) [] []] [] (I (idxBig 0 l)) [] := by
  refine v_cspec Try.func65 rfl Try.ntmps65 Try.results65 (by simp) (k := 0) rfl ?_
  repeat' (first
 | (with_reducible first | apply qz0 | (refine h0 _ _ ?_; clear h0 hw) | (refine hw _ _ _ ?_; clear h0 hw) | apply qz1 | apply qz2 | apply qz3 | apply qz4 | apply qz5 | apply qz6 | apply qz7 | apply qz8 | apply qz9 | apply qza | apply qzb | apply qzc | apply qzd | apply qze | (refine hL _ ?_; clear hL))
 | (with_reducible first | refine w_reg (by decide +kernel) fun K1 hK => ?_ | refine w_reg_end (by decide +kernel) fun K1 hK => ?_)
 | with_reducible refine go_seq ?_
 | ((with_reducible first | apply v_op Try.tab | apply v_op0 Try.tab) <;> first | (intro K' h0 hw; conv => whnf) | (simp only [Nat.reduceAdd, Nat.reduceMul]; rfl))
 | ((with_reducible apply v_nil); (case hm => (simp only [Nat.reduceAdd, Nat.reduceMul]; rfl)); (case' h => with_reducible refine hK _ ?_; clear hK))
 | ((with_reducible apply go_cond); (case hb => rfl))
 | ((with_reducible apply out_block_there); (case hne => rfl))
 | ((with_reducible first | refine w_ret Try.tab fun K' hL => ?_ | refine w_ret_end Try.tab fun K' hL => ?_); (conv => whnf))
 | ((with_reducible apply And.intro); (case' right => try (conv => whnf)); (case' left => try first | rfl | decide | (simp; done) | (simp (disch := omega) only [wrp]; omega) | (simp (disch := omega) [wrp]; (try omega); done)))
 | ((with_reducible apply Side.mk); (try simp (disch := omega) only [wrp]); (try simp); (try simp (disch := omega) only [wrp]); (try omega))
 | ((with_reducible apply all_rk); (case hx => with_reducible assumption); (conv => whnf))
 | ((with_reducible refine all_row ?_); (first | (guard_hyp hx1; intro x2 hx2) | intro x1 hx1); conv => whnf)
 | (first | (guard_hyp g2; intro g3; try simp at g3) | (guard_hyp g1; intro g2; try simp at g2) | intro g1; try simp at g1))
  refine w_loop (X := Nat) [4, 5, 8, 9, 10, 11, 12, 13, 14, 15, 16, 17, 18] (fun i => [(8, I i)]) (fun _ => []) (fun i => i ≤ l.length ∧ idxBig i (l.drop i) = idxBig 0 l) (fun i => l.length - i) 0 (by simp) ?_ ?_
  · refine ⟨kt_refl, ko_refl, ?_, ?_, ?_, ?_, Nat.le_refl _⟩ <;> simp
  rintro i ⟨h1, h2⟩
  repeat' (first
 | (with_reducible first | apply qz0 | (refine h0 _ _ ?_; clear h0 hw) | (refine hw _ _ _ ?_; clear h0 hw) | apply qz1 | apply qz2 | apply qz3 | apply qz4 | apply qz5 | apply qz6 | apply qz7 | apply qz8 | apply qz9 | apply qza | apply qzb | apply qzc | apply qzd | apply qze | (refine hL _ ?_; clear hL))
 | (with_reducible first | refine w_reg (by decide +kernel) fun K1 hK => ?_ | refine w_reg_end (by decide +kernel) fun K1 hK => ?_)
 | with_reducible refine go_seq ?_
 | ((with_reducible first | apply v_op Try.tab | apply v_op0 Try.tab) <;> first | (intro K' h0 hw; conv => whnf) | (simp only [Nat.reduceAdd, Nat.reduceMul]; rfl))
 | ((with_reducible apply v_nil); (case hm => (simp only [Nat.reduceAdd, Nat.reduceMul]; rfl)); (case' h => with_reducible refine hK _ ?_; clear hK))
 | ((with_reducible refine callV_id (f := 49) ?_); (with_reducible apply callV_f own49 (c_big _)); (case hx => rfl); (case he => rfl); (case hle => first | ((repeat constructor); done) | (simp; done)); (case hpu => repeat constructor); (case' hK => conv => whnf))
 | ((with_reducible apply go_cond); (case hb => rfl))
 | ((with_reducible apply out_block_there); (case hne => rfl))
 | ((with_reducible first | refine w_ret Try.tab fun K' hL => ?_ | refine w_ret_end Try.tab fun K' hL => ?_); (conv => whnf))
 | ((with_reducible apply And.intro); (case' right => try (conv => whnf)); (case' left => try first | rfl | decide | (simp; done) | (simp (disch := omega) only [wrp]; omega) | (simp (disch := omega) [wrp]; (try omega); done)))
 | ((with_reducible apply Side.mk); (try simp (disch := omega) only [wrp]); (try simp); (try simp (disch := omega) only [wrp]); (try omega))
 | ((with_reducible apply all_rk); (case hx => with_reducible assumption); (conv => whnf))
 | ((with_reducible refine all_row ?_); (first | (guard_hyp hx1; intro x2 hx2) | intro x1 hx1); conv => whnf)
 | (first | (guard_hyp g2; intro g3; try simp at g3) | (guard_hyp g1; intro g2; try simp at g2) | intro g1; try simp at g1))
  · simp at hx1
    rw [drop_at hx1, idxBig, if_pos g2] at h2
    rw [← h2]
    ((first | refine w_retO Try.tab [] (by rfl) (by simp) (by simp) (fun K' hL => ?_) ?_ ?_ ?_ | refine w_retO_end Try.tab [] (by rfl) (by simp) (by simp) (fun K' hL => ?_) ?_ ?_ ?_); (conv => whnf); (refine hL _ ?_; clear hL); all_goals simp)
  · simp at hx1
    rw [drop_at hx1, idxBig, if_neg (by simp [g2])] at h2
    ((refine w_nx ((i + 1)) ?_ ?_ ?_ ?_ ?_ ?_); (case refine_1 => simp); (case refine_2 => simp); (case refine_3 => simp (disch := omega) [wrp]); (case refine_4 => simp); (case refine_5 => first | (simp; omega) | (simp; done) | omega | (simp only; omega)); (case' refine_6 => (try simp only); (try exact trivial)))
    exact ⟨by omega, h2⟩
  · rw [List.drop_eq_nil_of_le (by omega), idxBig] at h2
    rw [← h2]
    ((first | refine w_retO Try.tab [] (by rfl) (by simp) (by simp) (fun K' hL => ?_) ?_ ?_ ?_ | refine w_retO_end Try.tab [] (by rfl) (by simp) (by simp) (fun K' hL => ?_) ?_ ?_ ?_); (conv => whnf); (refine hL _ ?_; clear hL); all_goals simp)
set_option maxHeartbeats 400000 in
theorem c_containsBig (l : List ByteArray) (hl : l.length ≤ 17592186043904) : CSpec Try.prog 48 [strs l, .fn (.func 49) [] []] [] (B (l.any big)) [] := by
  have e : decide (0 ≤ idxBig 0 l) = l.any big := by rw [Bool.eq_iff_iff, decide_eq_true_eq]; exact idxBig_any l 0
  refine v_cspec Try.func48 rfl Try.ntmps48 Try.results48 (by simp) (k := 0) rfl ?_
  repeat' (first
 | (with_reducible first | apply qz0 | (refine h0 _ _ ?_; clear h0 hw) | (refine hw _ _ _ ?_; clear h0 hw) | apply qz1 | apply qz2 | apply qz5 | apply qz6 | (refine hL _ ?_; clear hL))
 | (with_reducible first | refine w_reg (by decide +kernel) fun K1 hK => ?_ | refine w_reg_end (by decide +kernel) fun K1 hK => ?_)
 | with_reducible refine go_seq ?_
 | ((with_reducible first | apply v_op Try.tab | apply v_op0 Try.tab) <;> first | (intro K' h0 hw; conv => whnf) | (simp only [Nat.reduceAdd, Nat.reduceMul]; rfl))
 | ((with_reducible apply v_nil); (case hm => (simp only [Nat.reduceAdd, Nat.reduceMul]; rfl)); (case' h => with_reducible refine hK _ ?_; clear hK))
 | ((with_reducible refine callV_id (f := 65) ?_); (with_reducible apply w_callO [] own65 (c_indexBig _ hl)); (case hx => rfl); (case he => rfl); (case hle => first | ((repeat constructor); done) | (simp; done)); (case hm => rfl); (case hnd => decide); (case' hK => conv => whnf); (any_goals (simp; done)))
 | ((with_reducible first | refine w_ret Try.tab fun K' hL => ?_ | refine w_ret_end Try.tab fun K' hL => ?_); (conv => whnf))
 | ((with_reducible apply And.intro); (case' right => try (conv => whnf)); (case' left => try first | rfl | decide | (simp; done) | (simp (disch := omega) only [wrp]; omega) | (simp (disch := omega) [wrp]; (try omega); done)))
 | ((with_reducible apply Side.mk); (try simp (disch := omega) only [wrp]); (try simp); (try simp (disch := omega) only [wrp]); (try omega))
 | (first  | intro g1; try simp at g1))
  ((first | refine w_retO Try.tab [] (by rfl) (by simp) (by simp) (fun K' hL => ?_) ?_ ?_ ?_ | refine w_retO_end Try.tab [] (by rfl) (by simp) (by simp) (fun K' hL => ?_) ?_ ?_ ?_); (conv => whnf); (refine hL _ ?_; clear hL); all_goals simp [e])
theorem frameE_eq (f : Fr) : frameE f = if f.time < 0 then 3 else if 1000000 < f.time then 3 else if f.parts = [] then 5 else if 4 < f.parts.length then 2 else if f.parts.any big = true then 2 else 0 := by
  unfold frameE; (repeat' split) <;> first | rfl | (exfalso; simp_all; done) | (exfalso; omega) | (exfalso; simp_all; omega)
set_option maxHeartbeats 400000 in
theorem c_frameCheck (f : Fr) (hl : f.parts.length ≤ 17592186043904) : PSpec Try.prog 24 [.agg (frC f)] (I (frameE f)) := by
  refine v_pspec Try.func24 rfl Try.ntmps24 Try.results24 (by simp) (by first | exact .s _ | repeat constructor) ?_
  repeat' (first
 | (with_reducible first | apply qz0 | (refine h0 _ _ ?_; clear h0 hw) | (refine hw _ _ _ ?_; clear h0 hw) | apply qz1 | apply qz2 | apply qz3 | apply qz4 | apply qz5 | apply qz6 | apply qz7 | apply qz8 | apply qz9 | apply qza | (refine hL _ ?_; clear hL))
 | (with_reducible first | refine w_reg (by decide +kernel) fun K1 hK => ?_ | refine w_reg_end (by decide +kernel) fun K1 hK => ?_)
 | with_reducible refine go_seq ?_
 | ((with_reducible first | apply v_op Try.tab | apply v_op0 Try.tab) <;> first | (intro K' h0 hw; conv => whnf) | (simp only [Nat.reduceAdd, Nat.reduceMul]; rfl))
 | ((with_reducible apply v_nil); (case hm => (simp only [Nat.reduceAdd, Nat.reduceMul]; rfl)); (case' h => with_reducible refine hK _ ?_; clear hK))
 | (first | refine v_grd_yes (by rfl) (by rfl) ?_)
 | ((first | (apply v_grd_no; (case hg => rfl); (case hb => rfl)) | (apply v_grd_undef; (case hg => rfl); (case hb => rfl)) | (apply v_grd; (case hg => rfl); (case hb => rfl))); (case hi => (simp only [Nat.reduceAdd, Nat.reduceMul]; rfl)))
 | ((with_reducible refine callV_id (f := 48) ?_); (with_reducible apply w_callO [] own48 (c_containsBig _ hl)); (case hx => rfl); (case he => rfl); (case hle => first | ((repeat constructor); done) | (simp; done)); (case hm => rfl); (case hnd => decide); (case' hK => conv => whnf); (any_goals (simp; done)))
 | ((with_reducible apply go_cond); (case hb => rfl))
 | ((with_reducible apply out_block_there); (case hne => rfl))
 | ((with_reducible first | refine w_ret Try.tab fun K' hL => ?_ | refine w_ret_end Try.tab fun K' hL => ?_); (conv => whnf))
 | ((with_reducible apply And.intro); (case' right => try (conv => whnf)); (case' left => try first | rfl | decide | (simp; done) | (simp (disch := omega) only [wrp]; omega) | (simp (disch := omega) [wrp]; (try omega); done)))
 | ((with_reducible apply Side.mk); (try simp (disch := omega) only [wrp]); (try simp); (try simp (disch := omega) only [wrp]); (try omega))
 | (first | (guard_hyp g5; intro g6; try simp at g6) | (guard_hyp g4; intro g5; try simp at g5) | (guard_hyp g3; intro g4; try simp at g4) | (guard_hyp g2; intro g3; try simp at g3) | (guard_hyp g1; intro g2; try simp at g2) | intro g1; try simp at g1))
  all_goals (refine le_of_eq ?_; rw [frameE_eq])
  all_goals (repeat' split) <;> first | rfl | (exfalso; omega) | (exfalso; simp_all; done) | (exfalso; rename_i q; simp at q; obtain ⟨x, q1, q2⟩ := q; have := g5 x q1; simp_all; done)
theorem frameE_ok {f : Fr} (h : frameE f = 0) : 0 ≤ f.time ∧ f.time ≤ 1000000 ∧ f.parts.length ≤ 4 ∧ f.parts ≠ [] ∧ f.parts.any big = false := by
  rw [frameE_eq] at h
  by_cases h1 : f.time < 0
  · rw [if_pos h1] at h; cases h
  rw [if_neg h1] at h
  by_cases h2 : 1000000 < f.time
  · rw [if_pos h2] at h; cases h
  rw [if_neg h2] at h
  by_cases h3 : f.parts = []
  · rw [if_pos h3] at h; cases h
  rw [if_neg h3] at h
  by_cases h4 : 4 < f.parts.length
  · rw [if_pos h4] at h; cases h
  rw [if_neg h4] at h
  by_cases h5 : f.parts.any big = true
  · rw [if_pos h5] at h; cases h
  exact ⟨by omega, by omega, by omega, h3, by simpa using h5⟩
end Go.Proofs.Ytdanlpkclkjkcaa
end
section
namespace Go.Proofs.Ytdanlpkclkjkcaa
open Go Go.Sy
set_option maxRecDepth 4000
set_option linter.unusedSimpArgs false
set_option linter.unusedVariables false
attribute [local irreducible] Reg RegD Later Out CallV Tri Side EqV
end Go.Proofs.Ytdanlpkclkjkcaa
end
section
namespace Go.Proofs.Ytdanlpkclkjkcaa
open Go Go.Sy
set_option maxRecDepth 4000
set_option linter.unusedSimpArgs false
set_option linter.unusedVariables false
attribute [local irreducible] Reg RegD Later Out CallV Tri Side EqV
def abc : ByteArray := ⟨#[97, 98, 99]⟩
set_option maxHeartbeats 400000 in
theorem c_pic (t : Int) (k : Bool) : PSpec Try.prog 12 [I t, B k] (.agg (frC ⟨t, k, [abc]⟩)) := by
  refine v_pspec Try.func12 rfl Try.ntmps12 Try.results12 (by simp) (by first | exact .s _ | repeat constructor) ?_
  repeat' (first
 | (with_reducible first | apply qz0 | (refine h0 _ _ ?_; clear h0 hw) | (refine hw _ _ _ ?_; clear h0 hw) | apply qz1 | apply qz2 | apply qz5 | apply qz6 | (refine hL _ ?_; clear hL))
 | (with_reducible first | refine w_reg (by decide +kernel) fun K1 hK => ?_ | refine w_reg_end (by decide +kernel) fun K1 hK => ?_)
 | with_reducible refine go_seq ?_
 | ((with_reducible first | apply v_op Try.tab | apply v_op0 Try.tab) <;> first | (intro K' h0 hw; conv => whnf) | (simp only [Nat.reduceAdd, Nat.reduceMul]; rfl))
 | ((with_reducible apply v_nil); (case hm => (simp only [Nat.reduceAdd, Nat.reduceMul]; rfl)); (case' h => with_reducible refine hK _ ?_; clear hK))
 | ((with_reducible first | refine w_ret Try.tab fun K' hL => ?_ | refine w_ret_end Try.tab fun K' hL => ?_); (conv => whnf))
 | ((with_reducible apply And.intro); (case' right => try (conv => whnf)); (case' left => try first | rfl | decide | (simp; done) | (simp (disch := omega) only [wrp]; omega) | (simp (disch := omega) [wrp]; (try omega); done)))
 | ((with_reducible apply Side.mk); (try simp (disch := omega) only [wrp]); (try simp); (try simp (disch := omega) only [wrp]); (try omega))
 | (first  | intro g1; try simp at g1))
  all_goals simp [abc]
end Go.Proofs.Ytdanlpkclkjkcaa
end
section
namespace Go.Proofs.Ytdanlpkclkjkcaa
open Go Go.Sy
set_option maxRecDepth 4000
set_option linter.unusedSimpArgs false
set_option linter.unusedVariables false
attribute [local irreducible] Reg RegD Later Out CallV Tri Side EqV
set_option maxHeartbeats 400000 in
theorem c_cloneStr (l : List ByteArray) (hl : l.length ≤ 8796093022208) : CSpec Try.prog 80 [strs l] [] (.osl 0 1 (rowS l)) [.perm 9 1 l.length] := by
  cases l with
  | nil =>
    refine cspec_empty fun v hv => ?_
    rcases hv with rfl | ⟨a, cap, rfl⟩
    · refine v_cspec Try.func80 rfl Try.ntmps80 Try.results80 (by simp) (k := 0) rfl ?_
      repeat' (first
 | ((with_reducible apply w_ownNil 2 9 1); (case hs => rfl); (case hsz => decide); (case hm => (try simp only [Nat.reduceAdd, Nat.reduceMul]); exact rfl))
 | (with_reducible first | apply qz0 | (refine h0 _ _ ?_; clear h0 hw) | (refine hw _ _ _ ?_; clear h0 hw) | apply qz1 | apply qz2 | apply qz5 | apply qz6 | (refine hL _ ?_; clear hL))
 | (with_reducible first | refine w_reg (by decide +kernel) fun K1 hK => ?_ | refine w_reg_end (by decide +kernel) fun K1 hK => ?_)
 | with_reducible refine go_seq ?_
 | ((with_reducible first | apply v_op Try.tab | apply v_op0 Try.tab) <;> first | (intro K' h0 hw; conv => whnf) | (simp only [Nat.reduceAdd, Nat.reduceMul]; rfl))
 | ((with_reducible apply v_nil); (case hm => (simp only [Nat.reduceAdd, Nat.reduceMul]; rfl)); (case' h => with_reducible refine hK _ ?_; clear hK))
 | ((with_reducible apply go_cond); (case hb => rfl))
 | ((with_reducible first | refine w_ret Try.tab fun K' hL => ?_ | refine w_ret_end Try.tab fun K' hL => ?_); (conv => whnf))
 | ((with_reducible apply And.intro); (case' right => try (conv => whnf)); (case' left => try first | rfl | decide | (simp; done) | (simp (disch := omega) only [wrp]; omega) | (simp (disch := omega) [wrp]; (try omega); done)))
 | ((with_reducible apply Side.mk); (try simp (disch := omega) only [wrp]); (try simp); (try simp (disch := omega) only [wrp]); (try omega))
 | (first  | intro g1; try simp at g1))
      ((first | refine w_retO Try.tab [80] (by rfl) (by simp) (by simp) (fun K' hL => ?_) ?_ ?_ ?_ | refine w_retO_end Try.tab [80] (by rfl) (by simp) (by simp) (fun K' hL => ?_) ?_ ?_ ?_); (conv => whnf); (refine hL _ ?_; clear hL); all_goals simp)
    · refine v_cspec Try.func80 rfl Try.ntmps80 Try.results80 (by simp) (k := 0) rfl ?_
      repeat' (first
 | (with_reducible first | apply qz0 | (refine h0 _ _ ?_; clear h0 hw) | (refine hw _ _ _ ?_; clear h0 hw) | apply qz1 | apply qz2 | apply qz5 | apply qz6 | (refine hL _ ?_; clear hL))
 | (with_reducible first | refine w_reg (by decide +kernel) fun K1 hK => ?_ | refine w_reg_end (by decide +kernel) fun K1 hK => ?_)
 | with_reducible refine go_seq ?_
 | ((with_reducible first | apply v_op Try.tab | apply v_op0 Try.tab) <;> first | (intro K' h0 hw; conv => whnf) | (simp only [Nat.reduceAdd, Nat.reduceMul]; rfl))
 | ((with_reducible apply v_nil); (case hm => (simp only [Nat.reduceAdd, Nat.reduceMul]; rfl)); (case' h => with_reducible refine hK _ ?_; clear hK))
 | ((with_reducible apply go_cond); (case hb => rfl))
 | ((with_reducible first | refine w_ret Try.tab fun K' hL => ?_ | refine w_ret_end Try.tab fun K' hL => ?_); (conv => whnf))
 | ((with_reducible apply And.intro); (case' right => try (conv => whnf)); (case' left => try first | rfl | decide | (simp; done) | (simp (disch := omega) only [wrp]; omega) | (simp (disch := omega) [wrp]; (try omega); done)))
 | ((with_reducible apply Side.mk); (try simp (disch := omega) only [wrp]); (try simp); (try simp (disch := omega) only [wrp]); (try omega))
 | (first  | intro g1; try simp at g1))
      ((first | refine w_retO Try.tab [48] (by rfl) (by simp) (by simp) (fun K' hL => ?_) ?_ ?_ ?_ | refine w_retO_end Try.tab [48] (by rfl) (by simp) (by simp) (fun K' hL => ?_) ?_ ?_ ?_); (conv => whnf); (refine hL _ ?_; clear hL); all_goals simp)
  | cons x l =>
    simp at hl
    refine v_cspec Try.func80 rfl Try.ntmps80 Try.results80 (by simp) (k := 0) rfl ?_
    repeat' (first
 | (with_reducible first | apply qz0 | (refine h0 _ _ ?_; clear h0 hw) | (refine hw _ _ _ ?_; clear h0 hw) | apply qz1 | apply qz2 | apply qz5 | apply qz6 | (refine hL _ ?_; clear hL))
 | (with_reducible first | refine w_reg (by decide +kernel) fun K1 hK => ?_ | refine w_reg_end (by decide +kernel) fun K1 hK => ?_)
 | with_reducible refine go_seq ?_
 | ((with_reducible first | apply v_op Try.tab | apply v_op0 Try.tab) <;> first | (intro K' h0 hw; conv => whnf) | (simp only [Nat.reduceAdd, Nat.reduceMul]; rfl))
 | ((with_reducible apply v_nil); (case hm => (simp only [Nat.reduceAdd, Nat.reduceMul]; rfl)); (case' h => with_reducible refine hK _ ?_; clear hK))
 | ((with_reducible apply go_cond); (case hb => rfl))
 | ((with_reducible first | refine w_ret Try.tab fun K' hL => ?_ | refine w_ret_end Try.tab fun K' hL => ?_); (conv => whnf))
 | ((with_reducible apply And.intro); (case' right => try (conv => whnf)); (case' left => try first | rfl | decide | (simp; done) | (simp (disch := omega) only [wrp]; omega) | (simp (disch := omega) [wrp]; (try omega); done)))
 | ((with_reducible apply Side.mk); (try simp (disch := omega) only [wrp]); (try simp); (try simp (disch := omega) only [wrp]); (try omega))
 | (first  | intro g1; try simp at g1))
    ((first | refine w_retO Try.tab [48] (by rfl) (by simp) (by simp) (fun K' hL => ?_) ?_ ?_ ?_ | refine w_retO_end Try.tab [48] (by rfl) (by simp) (by simp) (fun K' hL => ?_) ?_ ?_ ?_); (conv => whnf); (refine hL _ ?_; clear hL); all_goals simp)
set_option maxHeartbeats 400000 in
theorem c_cloneSlt (l : List Slt) (hl : l.length ≤ 1000000000000) : CSpec Try.prog 27 [slts l] [] (.osl 0 7 (rowL l)) [.perm 74 7 l.length] := by
  cases l with
  | nil =>
    refine cspec_empty fun v hv => ?_
    rcases hv with rfl | ⟨a, cap, rfl⟩
    · refine v_cspec Try.func27 rfl Try.ntmps27 Try.results27 (by simp) (k := 0) rfl ?_
      repeat' (first
 | ((with_reducible apply w_ownNil 2 74 7); (case hs => rfl); (case hsz => decide); (case hm => (try simp only [Nat.reduceAdd, Nat.reduceMul]); exact rfl))
 | (with_reducible first | apply qz0 | (refine h0 _ _ ?_; clear h0 hw) | (refine hw _ _ _ ?_; clear h0 hw) | apply qz1 | apply qz2 | apply qz5 | apply qz6 | (refine hL _ ?_; clear hL))
 | (with_reducible first | refine w_reg (by decide +kernel) fun K1 hK => ?_ | refine w_reg_end (by decide +kernel) fun K1 hK => ?_)
 | with_reducible refine go_seq ?_
 | ((with_reducible first | apply v_op Try.tab | apply v_op0 Try.tab) <;> first | (intro K' h0 hw; conv => whnf) | (simp only [Nat.reduceAdd, Nat.reduceMul]; rfl))
 | ((with_reducible apply v_nil); (case hm => (simp only [Nat.reduceAdd, Nat.reduceMul]; rfl)); (case' h => with_reducible refine hK _ ?_; clear hK))
 | ((with_reducible apply go_cond); (case hb => rfl))
 | ((with_reducible first | refine w_ret Try.tab fun K' hL => ?_ | refine w_ret_end Try.tab fun K' hL => ?_); (conv => whnf))
 | ((with_reducible apply And.intro); (case' right => try (conv => whnf)); (case' left => try first | rfl | decide | (simp; done) | (simp (disch := omega) only [wrp]; omega) | (simp (disch := omega) [wrp]; (try omega); done)))
 | ((with_reducible apply Side.mk); (try simp (disch := omega) only [wrp]); (try simp); (try simp (disch := omega) only [wrp]); (try omega))
 | (first  | intro g1; try simp at g1))
      ((first | refine w_retO Try.tab [80] (by rfl) (by simp) (by simp) (fun K' hL => ?_) ?_ ?_ ?_ | refine w_retO_end Try.tab [80] (by rfl) (by simp) (by simp) (fun K' hL => ?_) ?_ ?_ ?_); (conv => whnf); (refine hL _ ?_; clear hL); all_goals simp)
    · refine v_cspec Try.func27 rfl Try.ntmps27 Try.results27 (by simp) (k := 0) rfl ?_
      repeat' (first
 | (with_reducible first | apply qz0 | (refine h0 _ _ ?_; clear h0 hw) | (refine hw _ _ _ ?_; clear h0 hw) | apply qz1 | apply qz2 | apply qz5 | apply qz6 | (refine hL _ ?_; clear hL))
 | (with_reducible first | refine w_reg (by decide +kernel) fun K1 hK => ?_ | refine w_reg_end (by decide +kernel) fun K1 hK => ?_)
 | with_reducible refine go_seq ?_
 | ((with_reducible first | apply v_op Try.tab | apply v_op0 Try.tab) <;> first | (intro K' h0 hw; conv => whnf) | (simp only [Nat.reduceAdd, Nat.reduceMul]; rfl))
 | ((with_reducible apply v_nil); (case hm => (simp only [Nat.reduceAdd, Nat.reduceMul]; rfl)); (case' h => with_reducible refine hK _ ?_; clear hK))
 | ((with_reducible apply go_cond); (case hb => rfl))
 | ((with_reducible first | refine w_ret Try.tab fun K' hL => ?_ | refine w_ret_end Try.tab fun K' hL => ?_); (conv => whnf))
 | ((with_reducible apply And.intro); (case' right => try (conv => whnf)); (case' left => try first | rfl | decide | (simp; done) | (simp (disch := omega) only [wrp]; omega) | (simp (disch := omega) [wrp]; (try omega); done)))
 | ((with_reducible apply Side.mk); (try simp (disch := omega) only [wrp]); (try simp); (try simp (disch := omega) only [wrp]); (try omega))
 | (first  | intro g1; try simp at g1))
      ((first | refine w_retO Try.tab [48] (by rfl) (by simp) (by simp) (fun K' hL => ?_) ?_ ?_ ?_ | refine w_retO_end Try.tab [48] (by rfl) (by simp) (by simp) (fun K' hL => ?_) ?_ ?_ ?_); (conv => whnf); (refine hL _ ?_; clear hL); all_goals simp)
  | cons x l =>
    simp at hl
    refine v_cspec Try.func27 rfl Try.ntmps27 Try.results27 (by simp) (k := 0) rfl ?_
    repeat' (first
 | (with_reducible first | apply qz0 | (refine h0 _ _ ?_; clear h0 hw) | (refine hw _ _ _ ?_; clear h0 hw) | apply qz1 | apply qz2 | apply qz5 | apply qz6 | (refine hL _ ?_; clear hL))
 | (with_reducible first | refine w_reg (by decide +kernel) fun K1 hK => ?_ | refine w_reg_end (by decide +kernel) fun K1 hK => ?_)
 | with_reducible refine go_seq ?_
 | ((with_reducible first | apply v_op Try.tab | apply v_op0 Try.tab) <;> first | (intro K' h0 hw; conv => whnf) | (simp only [Nat.reduceAdd, Nat.reduceMul]; rfl))
 | ((with_reducible apply v_nil); (case hm => (simp only [Nat.reduceAdd, Nat.reduceMul]; rfl)); (case' h => with_reducible refine hK _ ?_; clear hK))
 | ((with_reducible apply go_cond); (case hb => rfl))
 | ((with_reducible first | refine w_ret Try.tab fun K' hL => ?_ | refine w_ret_end Try.tab fun K' hL => ?_); (conv => whnf))
 | ((with_reducible apply And.intro); (case' right => try (conv => whnf)); (case' left => try first | rfl | decide | (simp; done) | (simp (disch := omega) only [wrp]; omega) | (simp (disch := omega) [wrp]; (try omega); done)))
 | ((with_reducible apply Side.mk); (try simp (disch := omega) only [wrp]); (try simp); (try simp (disch := omega) only [wrp]); (try omega))
 | (first  | intro g1; try simp at g1))
    ((first | refine w_retO Try.tab [48] (by rfl) (by simp) (by simp) (fun K' hL => ?_) ?_ ?_ ?_ | refine w_retO_end Try.tab [48] (by rfl) (by simp) (by simp) (fun K' hL => ?_) ?_ ?_ ?_); (conv => whnf); (refine hL _ ?_; clear hL); all_goals simp)
set_option maxHeartbeats 400000 in
theorem c_cloneGr (l : List (List Fr)) (hl : l.length ≤ 1000000000000) : CSpec Try.prog 90 [grs l] [] (.osl 0 1 (rowG l)) [.perm 31 1 l.length] := by
  cases l with
  | nil =>
    refine cspec_empty fun v hv => ?_
    rcases hv with rfl | ⟨a, cap, rfl⟩
    · refine v_cspec Try.func90 rfl Try.ntmps90 Try.results90 (by simp) (k := 0) rfl ?_
      repeat' (first
 | ((with_reducible apply w_ownNil 2 31 1); (case hs => rfl); (case hsz => decide); (case hm => (try simp only [Nat.reduceAdd, Nat.reduceMul]); exact rfl))
 | (with_reducible first | apply qz0 | (refine h0 _ _ ?_; clear h0 hw) | (refine hw _ _ _ ?_; clear h0 hw) | apply qz1 | apply qz2 | apply qz5 | apply qz6 | (refine hL _ ?_; clear hL))
 | (with_reducible first | refine w_reg (by decide +kernel) fun K1 hK => ?_ | refine w_reg_end (by decide +kernel) fun K1 hK => ?_)
 | with_reducible refine go_seq ?_
 | ((with_reducible first | apply v_op Try.tab | apply v_op0 Try.tab) <;> first | (intro K' h0 hw; conv => whnf) | (simp only [Nat.reduceAdd, Nat.reduceMul]; rfl))
 | ((with_reducible apply v_nil); (case hm => (simp only [Nat.reduceAdd, Nat.reduceMul]; rfl)); (case' h => with_reducible refine hK _ ?_; clear hK))
 | ((with_reducible apply go_cond); (case hb => rfl))
 | ((with_reducible first | refine w_ret Try.tab fun K' hL => ?_ | refine w_ret_end Try.tab fun K' hL => ?_); (conv => whnf))
 | ((with_reducible apply And.intro); (case' right => try (conv => whnf)); (case' left => try first | rfl | decide | (simp; done) | (simp (disch := omega) only [wrp]; omega) | (simp (disch := omega) [wrp]; (try omega); done)))
 | ((with_reducible apply Side.mk); (try simp (disch := omega) only [wrp]); (try simp); (try simp (disch := omega) only [wrp]); (try omega))
 | (first  | intro g1; try simp at g1))
      ((first | refine w_retO Try.tab [80] (by rfl) (by simp) (by simp) (fun K' hL => ?_) ?_ ?_ ?_ | refine w_retO_end Try.tab [80] (by rfl) (by simp) (by simp) (fun K' hL => ?_) ?_ ?_ ?_); (conv => whnf); (refine hL _ ?_; clear hL); all_goals simp)
    · refine v_cspec Try.func90 rfl Try.ntmps90 Try.results90 (by simp) (k := 0) rfl ?_
      repeat' (first
 | (with_reducible first | apply qz0 | (refine h0 _ _ ?_; clear h0 hw) | (refine hw _ _ _ ?_; clear h0 hw) | apply qz1 | apply qz2 | apply qz5 | apply qz6 | (refine hL _ ?_; clear hL))
 | (with_reducible first | refine w_reg (by decide +kernel) fun K1 hK => ?_ | refine w_reg_end (by decide +kernel) fun K1 hK => ?_)
 | with_reducible refine go_seq ?_
 | ((with_reducible first | apply v_op Try.tab | apply v_op0 Try.tab) <;> first | (intro K' h0 hw; conv => whnf) | (simp only [Nat.reduceAdd, Nat.reduceMul]; rfl))
 | ((with_reducible apply v_nil); (case hm => (simp only [Nat.reduceAdd, Nat.reduceMul]; rfl)); (case' h => with_reducible refine hK _ ?_; clear hK))
 | ((with_reducible apply go_cond); (case hb => rfl))
 | ((with_reducible first | refine w_ret Try.tab fun K' hL => ?_ | refine w_ret_end Try.tab fun K' hL => ?_); (conv => whnf))
 | ((with_reducible apply And.intro); (case' right => try (conv => whnf)); (case' left => try first | rfl | decide | (simp; done) | (simp (disch := omega) only [wrp]; omega) | (simp (disch := omega) [wrp]; (try omega); done)))
 | ((with_reducible apply Side.mk); (try simp (disch := omega) only [wrp]); (try simp); (try simp (disch := omega) only [wrp]); (try omega))
 | (first  | intro g1; try simp at g1))
      ((first | refine w_retO Try.tab [48] (by rfl) (by simp) (by simp) (fun K' hL => ?_) ?_ ?_ ?_ | refine w_retO_end Try.tab [48] (by rfl) (by simp) (by simp) (fun K' hL => ?_) ?_ ?_ ?_); (conv => whnf); (refine hL _ ?_; clear hL); all_goals simp)
  | cons x l =>
    simp at hl
    refine v_cspec Try.func90 rfl Try.ntmps90 Try.results90 (by simp) (k := 0) rfl ?_
    repeat' (first
 | (with_reducible first | apply qz0 | (refine h0 _ _ ?_; clear h0 hw) | (refine hw _ _ _ ?_; clear h0 hw) | apply qz1 | apply qz2 | apply qz5 | apply qz6 | (refine hL _ ?_; clear hL))
 | (with_reducible first | refine w_reg (by decide +kernel) fun K1 hK => ?_ | refine w_reg_end (by decide +kernel) fun K1 hK => ?_)
 | with_reducible refine go_seq ?_
 | ((with_reducible first | apply v_op Try.tab | apply v_op0 Try.tab) <;> first | (intro K' h0 hw; conv => whnf) | (simp only [Nat.reduceAdd, Nat.reduceMul]; rfl))
 | ((with_reducible apply v_nil); (case hm => (simp only [Nat.reduceAdd, Nat.reduceMul]; rfl)); (case' h => with_reducible refine hK _ ?_; clear hK))
 | ((with_reducible apply go_cond); (case hb => rfl))
 | ((with_reducible first | refine w_ret Try.tab fun K' hL => ?_ | refine w_ret_end Try.tab fun K' hL => ?_); (conv => whnf))
 | ((with_reducible apply And.intro); (case' right => try (conv => whnf)); (case' left => try first | rfl | decide | (simp; done) | (simp (disch := omega) only [wrp]; omega) | (simp (disch := omega) [wrp]; (try omega); done)))
 | ((with_reducible apply Side.mk); (try simp (disch := omega) only [wrp]); (try simp); (try simp (disch := omega) only [wrp]); (try omega))
 | (first  | intro g1; try simp at g1))
    ((first | refine w_retO Try.tab [48] (by rfl) (by simp) (by simp) (fun K' hL => ?_) ?_ ?_ ?_ | refine w_retO_end Try.tab [48] (by rfl) (by simp) (by simp) (fun K' hL => ?_) ?_ ?_ ?_); (conv => whnf); (refine hL _ ?_; clear hL); all_goals simp)
end Go.Proofs.Ytdanlpkclkjkcaa
end

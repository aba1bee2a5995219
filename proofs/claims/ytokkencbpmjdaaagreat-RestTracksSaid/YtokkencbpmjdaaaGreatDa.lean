/- The program's plain types, as structures, and how they lie in cells. No condition. -/
import Derived.Test.YtokkencbpmjdaaaGreatTab
import Derived.Test.YtokkencbpmjdaaaGreatOwn
import Derived.Test.YtokkencbpmjdaaaGreatEqs
import Derived.Test.YtokkencbpmjdaaaGreatSim
import Derived.Test.YtokkencbpmjdaaaGreatSy4
import Derived.Test.YtokkencbpmjdaaaGreatSy3
section
namespace Go.Proofs.YtokkencbpmjdaaaGreat
open Go Go.Sy
set_option linter.unusedVariables false
structure Pkt where
  seq : Int
  time : Int
  first : Bool
  fin : Bool
  key : Bool
  text : ByteArray
structure Slt where
  n : Int
  p : Pkt
structure Fr where
  time : Int
  key : Bool
  parts : List ByteArray
structure Ou where
  last : Int
  time : Int
  shift : Int
abbrev pktC (p : Pkt) : List AV := [I p.seq, I p.time, B p.first, B p.fin, B p.key, Tx p.text]
abbrev sltC (s : Slt) : List AV := [I s.n, I s.p.seq, I s.p.time, B s.p.first, B s.p.fin, B s.p.key, Tx s.p.text]
abbrev rowS (l : List ByteArray) : List (List AV) := l.map fun s => [Tx s]
abbrev strs (l : List ByteArray) : AV := .sl 1 (rowS l)
abbrev frC (f : Fr) : List AV := [I f.time, B f.key, strs f.parts]
abbrev ouC (o : Ou) : List AV := [I o.last, I o.time, I o.shift]
abbrev rowP (l : List Pkt) : List (List AV) := l.map pktC
abbrev pkts (l : List Pkt) : AV := .sl 6 (rowP l)
abbrev rowL (l : List Slt) : List (List AV) := l.map sltC
abbrev slts (l : List Slt) : AV := .sl 7 (rowL l)
abbrev rowF (l : List Fr) : List (List AV) := l.map frC
abbrev frs (l : List Fr) : AV := .sl 3 (rowF l)
abbrev grC (g : List Fr) : List AV := [frs g]
abbrev rowG (l : List (List Fr)) : List (List AV) := l.map grC
abbrev grs (l : List (List Fr)) : AV := .sl 1 (rowG l)
theorem Pkt.ext' {p q : Pkt} (h1 : p.seq = q.seq) (h2 : p.time = q.time) (h3 : p.first = q.first) (h4 : p.fin = q.fin) (h5 : p.key = q.key) (h6 : p.text = q.text) : p = q := by cases p; cases q; simp_all
instance : DecidableEq Pkt := fun p q => decidable_of_iff (p.seq = q.seq ∧ p.time = q.time ∧ p.first = q.first ∧ p.fin = q.fin ∧ p.key = q.key ∧ p.text = q.text) ⟨fun ⟨h1, h2, h3, h4, h5, h6⟩ => Pkt.ext' h1 h2 h3 h4 h5 h6, fun h => by subst h; simp⟩
theorem Fr.ext' {p q : Fr} (h1 : p.time = q.time) (h2 : p.key = q.key) (h3 : p.parts = q.parts) : p = q := by cases p; cases q; simp_all
instance : DecidableEq Fr := fun p q => decidable_of_iff (p.time = q.time ∧ p.key = q.key ∧ p.parts = q.parts) ⟨fun ⟨h1, h2, h3⟩ => Fr.ext' h1 h2 h3, fun h => by subst h; simp⟩
theorem Slt.ext' {p q : Slt} (h1 : p.n = q.n) (h2 : p.p = q.p) : p = q := by cases p; cases q; simp_all
instance : DecidableEq Slt := fun p q => decidable_of_iff (p.n = q.n ∧ p.p = q.p) ⟨fun ⟨h1, h2⟩ => Slt.ext' h1 h2, fun h => by subst h; simp⟩
theorem Ou.ext' {p q : Ou} (h1 : p.last = q.last) (h2 : p.time = q.time) (h3 : p.shift = q.shift) : p = q := by cases p; cases q; simp_all
theorem cells_strs {cx : List AV} (h : Reads (.sl 1 16 .str) cx) : ∃ l : List ByteArray, cx = [strs l] ∧ l.length ≤ 8796093022208 ∧ ∀ s ∈ l, s.size ≤ reachBytes := by
  obtain ⟨es, h1, h2, h3⟩ := h
  obtain ⟨l, h4, h5⟩ := map_of (f := fun s => [Tx s]) (Q := fun s => s.size ≤ reachBytes) (es := es) fun x hx => by obtain ⟨s, hs, hq⟩ := h2 x hx; exact ⟨s, hs, hq⟩
  subst h1
  refine ⟨l, by rw [h4], ?_, h5⟩
  rw [h4, List.length_map] at h3
  unfold reachBytes at h3; omega
theorem cells_fr {cx : List AV} (h : ReadsL [.int .i64, .bool, .sl 1 16 .str] cx) : ∃ f : Fr, cx = frC f ∧ f.parts.length ≤ 8796093022208 ∧ ∀ s ∈ f.parts, s.size ≤ reachBytes := by
  obtain ⟨_, _, rfl, ⟨x, rfl, _⟩, _, _, rfl, ⟨y, rfl⟩, c, _, rfl, h3, rfl⟩ := h
  obtain ⟨l, rfl, h4, h5⟩ := cells_strs h3
  exact ⟨⟨x, y, l⟩, rfl, h4, h5⟩
theorem cells_pkt {cx : List AV} (h : ReadsL [.int .i64, .int .i64, .bool, .bool, .bool, .str] cx) : ∃ p : Pkt, cx = pktC p ∧ p.text.size ≤ reachBytes := by
  obtain ⟨_, _, rfl, ⟨x, rfl, _⟩, _, _, rfl, ⟨y, rfl, _⟩, _, _, rfl, ⟨a, rfl⟩, _, _, rfl, ⟨b, rfl⟩, _, _, rfl, ⟨c, rfl⟩, _, _, rfl, ⟨s, rfl, hs⟩, rfl⟩ := h
  exact ⟨⟨x, y, a, b, c, s⟩, rfl, hs⟩
theorem cells_slt {cx : List AV} (h : ReadsL [.int .i64, .agg [.int .i64, .int .i64, .bool, .bool, .bool, .str]] cx) : ∃ s : Slt, cx = sltC s ∧ s.p.text.size ≤ reachBytes := by
  obtain ⟨_, _, rfl, ⟨n, rfl, _⟩, c, _, rfl, h3, rfl⟩ := h
  obtain ⟨p, rfl, hp⟩ := cells_pkt h3
  exact ⟨⟨n, p⟩, rfl, hp⟩
end Go.Proofs.YtokkencbpmjdaaaGreat
end
section
namespace Go.Proofs.YtokkencbpmjdaaaGreat
open Go Go.Sy
set_option maxRecDepth 4000
set_option linter.unusedSimpArgs false
set_option linter.unusedVariables false
attribute [local irreducible] Reg RegD Later Out CallV Tri Side EqV Pause
namespace Outs
set_option maxHeartbeats 400000 in
theorem c_btw (n lo hi : Int) : PSpec Tryz.prog 30 [I n, I lo, I hi] (B (decide (lo ≤ n ∧ n ≤ hi))) := by
  refine p_pspec Tryz.func30 Tryz.ntmps30 Tryz.results30 ?_
  repeat' (first
 | (with_reducible first | apply qz0 | (refine h0 _ _ ?_; clear h0 hw) | apply qz1 | (refine hL _ ?_; clear hL))
 | refine p_reg fun K1 hK => ?_
 | (refine p_op Tryz.tab fun K' h0 hw => ?_; conv => whnf)
 | (refine p_nil (hK _ ?_); clear hK)
 | (first | refine v_grd_yes (by rfl) (by rfl) ?_)
 | ((first | (apply v_grd_no; (case hg => rfl); (case hb => rfl)) | (apply v_grd; (case hg => rfl); (case hb => rfl))); (case hi => (simp only [Nat.reduceAdd, Nat.reduceMul]; rfl)))
 | ((with_reducible first | refine w_ret Tryz.tab fun K' hL => ?_ ); (conv => whnf))
 | (first  | intro g1; try simp at g1))
  all_goals (simp [le_s]; try omega)
end Outs
def big (s : ByteArray) : Bool := decide (8 < s.size)
def frameE (f : Fr) : Int := if ¬ (0 ≤ f.time ∧ f.time ≤ 1000000) then 3 else if f.parts = [] then 5 else if 4 < f.parts.length ∨ f.parts.any big = true then 2 else 0
set_option maxHeartbeats 400000 in
theorem c_big (s : ByteArray) : PSpec Tryz.prog 129 [Tx s] (B (big s)) := by
  refine p_pspec Tryz.func129 Tryz.ntmps129 Tryz.results129 ?_
  repeat' (first
 | (with_reducible first | apply qz0 | (refine h0 _ _ ?_; clear h0 hw) | apply qz1 | (refine hL _ ?_; clear hL))
 | refine p_reg fun K1 hK => ?_
 | (refine p_op Tryz.tab fun K' h0 hw => ?_; conv => whnf)
 | (refine p_nil (hK _ ?_); clear hK)
 | ((with_reducible first | refine w_ret Tryz.tab fun K' hL => ?_ ); (conv => whnf))
 )
  all_goals (refine le_of_eq ?_; simp [big]; omega)
def idxBig : Nat → List ByteArray → Int
  | _, [] => -1
  | k, s :: l => if big s = true then k else idxBig (k + 1) l
theorem idxBig_any : ∀ (l : List ByteArray) (k : Nat), 0 ≤ idxBig k l ↔ l.any big = true
  | [], k => by simp [idxBig]
  | s :: l, k => by
    simp only [idxBig, List.any_cons, Bool.or_eq_true]
    split
    · rename_i h; simp [h]
    · rename_i h; simp [h, idxBig_any l (k + 1)]
set_option maxHeartbeats 400000 in
theorem c_indexBig (l : List ByteArray) (hl : l.length ≤ 17592186043904) : CSpec Tryz.prog 139 [strs l, .fn (.func 129) [] []] [] (I (idxBig 0 l)) [] := by
  refine v_cspec Tryz.func139 rfl Tryz.ntmps139 Tryz.results139 (by simp) (k := 0) rfl ?_
  repeat' (first
 | (with_reducible first | apply qz0 | (refine h0 _ _ ?_; clear h0 hw) | apply qz3 )
 | refine p_reg fun K1 hK => ?_
 | apply go_seq
 | (refine p_op Tryz.tab fun K' h0 hw => ?_; conv => whnf)
 | (refine p_nil (hK _ ?_); clear hK)
 )
  refine w_loop (X := Nat) [4, 5, 8, 9, 10, 11, 12, 13, 14, 15, 16, 17, 18] (fun i => [(8, I i)]) (fun _ => []) (fun i => i ≤ l.length ∧ idxBig i (l.drop i) = idxBig 0 l) (fun i => l.length - i) 0 (by simp) ?_ ?_
  · refine ⟨kt_refl, ko_refl, ?_, ?_, ?_, ?_, Nat.le_refl _⟩ <;> simp
  rintro i ⟨h1, h2⟩
  repeat' (first
 | (with_reducible first | apply qz0 | (refine h0 _ _ ?_; clear h0 hw) | apply qz1 | apply qz2 | apply qz3 | apply qz4 | apply qz5 | apply qz6 | apply qz7 | apply qz8 | apply qz9 | apply qza | apply qzb | apply qzc )
 | refine p_reg fun K1 hK => ?_ | refine p_regE fun K1 hK => ?_
 | apply go_seq
 | (refine p_op Tryz.tab fun K' h0 hw => ?_; conv => whnf)
 | (refine p_nil (hK _ ?_); clear hK)
 | (refine p_call own129 (c_big _) ?_; conv => whnf)
 | ((with_reducible apply go_cond); (case hb => rfl))
 | ((with_reducible apply And.intro); (case' right => try (conv => whnf)); (case' left => try first | decide | (simp; done) ))
 | exact p_side
 | ((with_reducible refine all_row ?_); (first | intro x1 hx1); conv => whnf)
 | (first | (guard_hyp g2; intro g3; try simp at g3) | (guard_hyp g1; intro g2; try simp at g2) | intro g1; try simp at g1))
  · simp at hx1
    rw [drop_at hx1, idxBig, if_pos g2] at h2
    rw [← h2]
    ((first | refine w_retO Tryz.tab [] (by rfl) (by simp) (by simp) (fun K' hL => ?_) ?_ ?_ ?_ | refine w_retO_end Tryz.tab [] (by rfl) (by simp) (by simp) (fun K' hL => ?_) ?_ ?_ ?_); (conv => whnf); (refine hL _ ?_; clear hL); all_goals simp)
  · simp at hx1
    rw [drop_at hx1, idxBig, if_neg (by simp [g2])] at h2
    (refine p_nx ((i + 1)) ?_; (try simp only); (try exact trivial))
    exact ⟨by omega, h2⟩
  · rw [List.drop_eq_nil_of_le (by omega), idxBig] at h2
    rw [← h2]
    ((first | refine w_retO Tryz.tab [] (by rfl) (by simp) (by simp) (fun K' hL => ?_) ?_ ?_ ?_ | refine w_retO_end Tryz.tab [] (by rfl) (by simp) (by simp) (fun K' hL => ?_) ?_ ?_ ?_); (conv => whnf); (refine hL _ ?_; clear hL); all_goals simp)
set_option maxHeartbeats 400000 in
theorem c_containsBig (l : List ByteArray) (hl : l.length ≤ 17592186043904) : CSpec Tryz.prog 128 [strs l, .fn (.func 129) [] []] [] (B (l.any big)) [] := by
  have e : decide (0 ≤ idxBig 0 l) = l.any big := by rw [Bool.eq_iff_iff, decide_eq_true_eq]; exact idxBig_any l 0
  refine v_cspec Tryz.func128 rfl Tryz.ntmps128 Tryz.results128 (by simp) (k := 0) rfl ?_
  repeat' (first
 | (with_reducible first | apply qz0 | (refine h0 _ _ ?_; clear h0 hw) | apply qz1 )
 | refine p_reg fun K1 hK => ?_
 | (refine p_op Tryz.tab fun K' h0 hw => ?_; conv => whnf)
 | (refine p_nil (hK _ ?_); clear hK)
 | ((with_reducible refine callV_id (f := 139) ?_); (with_reducible apply w_callO [] own139 (c_indexBig _ hl)); (case hx => rfl); (case he => rfl); (case hle => first | ((repeat constructor); done) ); (case hm => rfl); (case hnd => decide); (case' hK => conv => whnf); (any_goals (simp; done)))
 )
  ((first | refine w_retO Tryz.tab [] (by rfl) (by simp) (by simp) (fun K' hL => ?_) ?_ ?_ ?_ | refine w_retO_end Tryz.tab [] (by rfl) (by simp) (by simp) (fun K' hL => ?_) ?_ ?_ ?_); (conv => whnf); (refine hL _ ?_; clear hL); all_goals simp [e])
theorem frameE_eq (f : Fr) : frameE f = if f.time < 0 then 3 else if 1000000 < f.time then 3 else if f.parts = [] then 5 else if 4 < f.parts.length then 2 else if f.parts.any big = true then 2 else 0 := by
  unfold frameE; (repeat' split) <;> first | rfl | (exfalso; simp_all; done) | (exfalso; omega) | (exfalso; simp_all; omega)
set_option maxHeartbeats 400000 in
theorem c_frameCheck (f : Fr) (hl : f.parts.length ≤ 17592186043904) : PSpec Tryz.prog 114 [.agg (frC f)] (I (frameE f)) := by
  refine p_pspec Tryz.func114 Tryz.ntmps114 Tryz.results114 ?_
  repeat' (first
 | (with_reducible first | apply qz0 | (refine h0 _ _ ?_; clear h0 hw) | (refine hw _ _ _ ?_; clear h0 hw) | apply qz1 | apply qz2 | apply qz3 | apply qz5 | apply qz6 | apply qz8 | apply qz9 | (refine hL _ ?_; clear hL))
 | refine p_reg fun K1 hK => ?_
 | apply go_seq
 | (refine p_op Tryz.tab fun K' h0 hw => ?_; conv => whnf)
 | (refine p_nil (hK _ ?_); clear hK)
 | (first | refine v_grd_yes (by rfl) (by rfl) ?_)
 | ((first | (apply v_grd_no; (case hg => rfl); (case hb => rfl)) | (apply v_grd; (case hg => rfl); (case hb => rfl))); (case hi => (simp only [Nat.reduceAdd, Nat.reduceMul]; rfl)))
 | ((with_reducible refine callV_id (f := 128) ?_); (with_reducible apply w_callO [] own128 (c_containsBig _ hl)); (case hx => rfl); (case he => rfl); (case hle => first | ((repeat constructor); done) ); (case hm => rfl); (case hnd => decide); (case' hK => conv => whnf); (any_goals (simp; done)))
 | ((with_reducible apply go_cond); (case hb => rfl))
 | ((with_reducible first | refine w_ret Tryz.tab fun K' hL => ?_ ); (conv => whnf))
 | ((with_reducible apply And.intro); (case' right => try (conv => whnf)); (case' left => try first | rfl | decide | (simp; done) ))
 | (first | (guard_hyp g5; intro g6; try simp at g6) | (guard_hyp g4; intro g5; try simp at g5) | (guard_hyp g3; intro g4; try simp at g4) | (guard_hyp g2; intro g3; try simp at g3) | (guard_hyp g1; intro g2; try simp at g2) | intro g1; try simp at g1))
  all_goals (refine le_of_eq ?_; rw [frameE_eq])
  all_goals (repeat' split) <;> first | rfl | (exfalso; omega) | (exfalso; simp_all; done) | (exfalso; rename_i q; simp at q; obtain ⟨x, q1, q2⟩ := q; have := g5 x q1; simp_all; done)
set_option maxHeartbeats 400000 in
theorem c_checkFrame (f : Fr) (hl : f.parts.length ≤ 17592186043904) : PSpec Tryz.prog 85 [.agg (frC f)] (I (frameE f)) := by
  refine p_pspec Tryz.func85 Tryz.ntmps85 Tryz.results85 ?_
  repeat' (first
 | (with_reducible first | apply qz0 | (refine h0 _ _ ?_; clear h0 hw) | (refine hw _ _ _ ?_; clear h0 hw) | apply qz1 | apply qz2 | apply qz3 | apply qz5 | apply qz6 | (refine hL _ ?_; clear hL))
 | refine p_reg fun K1 hK => ?_
 | apply go_seq
 | (refine p_op Tryz.tab fun K' h0 hw => ?_; conv => whnf)
 | (refine p_nil (hK _ ?_); clear hK)
 | (refine p_call own30 (Outs.c_btw _ _ _) ?_; conv => whnf)
 | ((with_reducible apply go_cond); (case hb => rfl))
 | ((with_reducible first | refine w_ret Tryz.tab fun K' hL => ?_ ); (conv => whnf))
 | ((with_reducible apply And.intro); (case' right => try (conv => whnf)); (case' left => try first | rfl | decide | (simp; done) ))
 | (first  | intro g1; try simp at g1))
  · refine le_of_eq ?_; rw [frameE_eq]; (repeat' split) <;> first | rfl | (exfalso; omega)
  · refine le_of_eq ?_; rw [frameE_eq]; (repeat' split) <;> first | rfl | (exfalso; omega) | (exfalso; simp_all; done)
  · refine le_of_eq ?_; rw [frameE_eq]; (repeat' split) <;> first | rfl | (exfalso; omega) | (exfalso; simp_all; done)
  refine w_loop (X := Nat) [2, 3, 16, 17, 18, 19, 20, 21, 22, 23, 24, 25, 26, 27, 28, 29] (fun i => [(3, I i)]) (fun _ => []) (fun i => i ≤ f.parts.length ∧ (f.parts.drop i).any big = f.parts.any big) (fun i => f.parts.length - i) 0 (by simp) ?_ ?_
  · refine ⟨kt_refl, ko_refl, ?_, ?_, ?_, ?_, Nat.le_refl _⟩ <;> simp
  rintro i ⟨h1, h2⟩
  repeat' (first
 | (with_reducible first | apply qz0 | (refine h0 _ _ ?_; clear h0 hw) | apply qz1 | apply qz2 | apply qz3 | apply qz4 | apply qz5 | apply qz6 | apply qz7 | apply qz8 | apply qz9 | apply qza | apply qzb | apply qzc | (refine hL _ ?_; clear hL))
 | refine p_reg fun K1 hK => ?_ | refine p_regE fun K1 hK => ?_
 | apply go_seq
 | (refine p_op Tryz.tab fun K' h0 hw => ?_; conv => whnf)
 | (refine p_nil (hK _ ?_); clear hK)
 | ((with_reducible apply go_cond); (case hb => rfl))
 | ((with_reducible first | refine w_ret Tryz.tab fun K' hL => ?_ ); (conv => whnf))
 | ((with_reducible apply And.intro); (case' right => try (conv => whnf)); (case' left => try first | rfl | decide | (simp; done) ))
 | exact p_side
 | ((with_reducible refine all_row ?_); (first | intro x1 hx1); conv => whnf)
 | (first  | intro g1; try simp at g1))
  · simp at hx1
    rw [drop_at hx1, List.any_cons, show big x1 = true by simp [big]; omega] at h2
    refine le_of_eq ?_; rw [frameE_eq]; (repeat' split) <;> first | rfl | (exfalso; omega) | (exfalso; simp_all; done)
  · simp at hx1
    rw [drop_at hx1, List.any_cons, show big x1 = false by simp [big]; omega, Bool.false_or] at h2
    (refine p_nx ((i + 1)) ?_; (try simp only); (try exact trivial))
    exact ⟨by omega, h2⟩
  · rw [List.drop_eq_nil_of_le (by omega)] at h2
    refine le_of_eq ?_; rw [frameE_eq]; (repeat' split) <;> first | rfl | (exfalso; omega) | (exfalso; simp_all; done)
theorem frameE_ok {f : Fr} (h : frameE f = 0) : 0 ≤ f.time ∧ f.time ≤ 1000000 ∧ f.parts.length ≤ 4 ∧ f.parts ≠ [] ∧ f.parts.any big = false := by
  rw [frameE_eq] at h
  by_cases h1 : f.time < 0
  · rw [if_pos h1] at h; cases h
  rw [if_neg h1] at h
  by_cases h2 : 1000000 < f.time
  · rw [if_pos h2] at h; cases h
  rw [if_neg h2] at h
  by_cases h3 : f.parts = []
  · rw [if_pos h3] at h; cases h
  rw [if_neg h3] at h
  by_cases h4 : 4 < f.parts.length
  · rw [if_pos h4] at h; cases h
  rw [if_neg h4] at h
  by_cases h5 : f.parts.any big = true
  · rw [if_pos h5] at h; cases h
  exact ⟨by omega, by omega, by omega, h3, by simpa using h5⟩
end Go.Proofs.YtokkencbpmjdaaaGreat
end
section
namespace Go.Proofs.YtokkencbpmjdaaaGreat
open Go Go.Sy
set_option maxRecDepth 4000
set_option linter.unusedSimpArgs false
set_option linter.unusedVariables false
attribute [local irreducible] Reg RegD Later Out CallV Tri Side EqV Pause
theorem eq_of_takes {α : Type} {a b : List α} {i : Nat} (hl : a.length = b.length) (h : a.take i = b.take i) (hi : a.length ≤ i) : a = b := by
  rw [← List.take_of_length_le hi, h, List.take_of_length_le (by omega)]
set_option maxHeartbeats 1000000 in
theorem c_sameFrame (a b : Fr) (ha : a.parts.length ≤ 1000000000000000) : PSpec Tryz.prog 101 [.agg (frC a), .agg (frC b)] (B (decide (a = b))) := by
  refine p_pspec Tryz.func101 Tryz.ntmps101 Tryz.results101 ?_
  repeat' (first
 | (with_reducible first | apply qz0 | (refine h0 _ _ ?_; clear h0 hw) | (refine hw _ _ _ ?_; clear h0 hw) | apply qz1 | apply qz2 | apply qz3 | apply qz5 | apply qz6 | (refine hL _ ?_; clear hL))
 | refine p_reg fun K1 hK => ?_
 | apply go_seq
 | (refine p_op Tryz.tab fun K' h0 hw => ?_; conv => whnf)
 | (refine p_nil (hK _ ?_); clear hK)
 | (first | refine v_grd_yes (by rfl) (by rfl) ?_)
 | ((first | (apply v_grd_no; (case hg => rfl); (case hb => rfl)) | (apply v_grd; (case hg => rfl); (case hb => rfl))); (case hi => (simp only [Nat.reduceAdd, Nat.reduceMul]; rfl)))
 | ((with_reducible apply go_cond); (case hb => rfl))
 | ((with_reducible first | refine w_ret Tryz.tab fun K' hL => ?_ ); (conv => whnf))
 | ((with_reducible apply And.intro); (case' right => try (conv => whnf)); (case' left => try first | rfl | decide | (simp; done) ))
 | (first  | intro g1; try simp at g1))
  · refine le_of_eq ?_; simp; intro h; subst h; simp_all
  · refine w_loop (X := Nat) [4, 5, 27, 28, 29, 30, 31, 32, 33, 34, 35, 36, 37, 38, 39, 40, 41, 42, 43, 44] (fun i => [(5, I i)]) (fun _ => []) (fun i => i ≤ a.parts.length ∧ a.parts.take i = b.parts.take i) (fun i => a.parts.length - i) 0 (by simp) ?_ ?_
    · refine ⟨kt_refl, ko_refl, ?_, ?_, ?_, ?_, Nat.le_refl _⟩ <;> simp
    rintro i ⟨h1, h2⟩
    repeat' (first
 | (with_reducible first | apply qz0 | (refine h0 _ _ ?_; clear h0 hw) | apply qz1 | apply qz2 | apply qz3 | apply qz4 | apply qz5 | apply qz6 | apply qz7 | apply qz8 | apply qz9 | apply qza | apply qzb | apply qzc | (refine hL _ ?_; clear hL))
 | refine p_reg fun K1 hK => ?_ | refine p_regE fun K1 hK => ?_
 | refine p_dreg Tryz.mix fun K1 hK => ?_
 | apply go_seq
 | ((first | refine p_op Tryz.tab fun K' h0 hw => ?_ | refine p_dop Tryz.tab fun K' h0 hw => ?_); conv => whnf)
 | (refine p_nil (hK _ ?_); clear hK)
 | (refine d_nil (p_obj ?_ (hK _ _ _ _)); clear hK)
 | ((with_reducible apply go_cond); (case hb => rfl))
 | ((with_reducible first | refine w_ret Tryz.tab fun K' hL => ?_ ); (conv => whnf))
 | ((with_reducible apply And.intro); (case' right => try (conv => whnf)); (case' left => try first | rfl | decide | (simp; done) ))
 | exact p_side
 | ((with_reducible refine all_row ?_); (first | (guard_hyp hx1; intro x2 hx2) | intro x1 hx1); conv => whnf)
 | (first  | intro g1; try simp at g1))
    · simp at hx1 hx2
      refine le_of_eq ?_; simp; intro h; subst h; simp_all
    · simp at hx1 hx2
      (refine p_nx ((i + 1)) ?_; (try simp only); (try exact trivial))
      refine ⟨by omega, ?_⟩
      rw [take_at hx1, take_at hx2, h2]; simp_all
    · refine le_of_eq ?_; simp
      refine Fr.ext' (by simp_all) (by simp_all) (eq_of_takes (by first | omega | (simp_all; done) | (simp_all; omega)) h2 (by omega))
  all_goals (refine le_of_eq ?_; simp; intro h; subst h; simp_all; done)
set_option maxHeartbeats 1000000 in
theorem c_sameFrames (a b : List Fr) (ha : a.length ≤ 4000000000000) (hp : ∀ f ∈ a, f.parts.length ≤ 1000000000000000) : PSpec Tryz.prog 68 [frs a, frs b] (B (decide (a = b))) := by
  refine p_pspec Tryz.func68 Tryz.ntmps68 Tryz.results68 ?_
  repeat' (first
 | (with_reducible first | apply qz0 | (refine h0 _ _ ?_; clear h0 hw) | apply qz1 | apply qz2 | apply qz3 | apply qz5 | apply qz6 | (refine hL _ ?_; clear hL))
 | refine p_reg fun K1 hK => ?_
 | apply go_seq
 | (refine p_op Tryz.tab fun K' h0 hw => ?_; conv => whnf)
 | (refine p_nil (hK _ ?_); clear hK)
 | ((with_reducible apply go_cond); (case hb => rfl))
 | ((with_reducible first | refine w_ret Tryz.tab fun K' hL => ?_ ); (conv => whnf))
 | (first | (guard_hyp g1; intro g2; try simp at g2) | intro g1; try simp at g1))
  · refine le_of_eq ?_; simp; intro h; subst h; exact g1 rfl
  refine w_loop (X := Nat) [4, 5, 11, 12, 13, 14, 15, 16, 17, 18, 19, 20, 21, 22, 23, 24, 25, 26] (fun i => [(5, I i)]) (fun _ => []) (fun i => i ≤ a.length ∧ a.take i = b.take i) (fun i => a.length - i) 0 (by simp) ?_ ?_
  · refine ⟨kt_refl, ko_refl, ?_, ?_, ?_, ?_, Nat.le_refl _⟩ <;> simp
  rintro i ⟨h1, h2⟩
  repeat' (first
 | (with_reducible first | apply qz0 | (refine h0 _ _ ?_; clear h0 hw) | apply qz1 | apply qz2 | apply qz3 | apply qz4 | apply qz5 | apply qz6 | apply qz7 | apply qz8 | apply qz9 | apply qza | apply qzb | apply qzc | (refine hL _ ?_; clear hL))
 | refine p_reg fun K1 hK => ?_ | refine p_regE fun K1 hK => ?_
 | refine p_dreg Tryz.mix fun K1 hK => ?_
 | apply go_seq
 | ((first | refine p_op Tryz.tab fun K' h0 hw => ?_ | refine p_dop Tryz.tab fun K' h0 hw => ?_); conv => whnf)
 | (refine p_nil (hK _ ?_); clear hK)
 | (refine d_nil (p_obj ?_ (hK _ _ _ _)); clear hK)
 | ((with_reducible refine callV_id (f := 101) ?_); have hcs_ := c_sameFrame x1 x2 (hp x1 (List.mem_of_getElem? (by simpa using hx1))); (with_reducible apply callV_f own101 (hcs_)); (case hx => rfl); (case he => rfl); (case hle => first | ((repeat constructor); done) ); (case hpu => repeat constructor); (case' hK => (try clear hcs_); conv => whnf))
 | ((with_reducible apply go_cond); (case hb => rfl))
 | ((with_reducible first | refine w_ret Tryz.tab fun K' hL => ?_ ); (conv => whnf))
 | ((with_reducible apply And.intro); (case' right => try (conv => whnf)); (case' left => try first | decide | (simp; done) ))
 | exact p_side
 | ((with_reducible refine all_row ?_); (first | (guard_hyp hx1; intro x2 hx2) | intro x1 hx1); conv => whnf)
 | (first | (guard_hyp g1; intro g2; try simp at g2) | intro g1; try simp at g1))
  · simp at hx1 hx2
    refine le_of_eq ?_; simp; intro h; subst h; simp_all
  · simp at hx1 hx2
    (refine p_nx ((i + 1)) ?_; (try simp only); (try exact trivial))
    refine ⟨by omega, ?_⟩
    rw [take_at hx1, take_at hx2, h2]; simp_all
  · have : a = b := eq_of_takes (by first | omega | (simp_all; done) | (simp_all; omega)) h2 (by omega)
    exact le_of_eq (by simp [this])
end Go.Proofs.YtokkencbpmjdaaaGreat
end
section
namespace Go.Proofs.YtokkencbpmjdaaaGreat
open Go Go.Sy
set_option maxRecDepth 4000
set_option linter.unusedSimpArgs false
set_option linter.unusedVariables false
attribute [local irreducible] Reg RegD Later Out CallV Tri Side EqV Pause
end Go.Proofs.YtokkencbpmjdaaaGreat
end
section
namespace Go.Proofs.YtokkencbpmjdaaaGreat
open Go Go.Sy
set_option maxRecDepth 4000
set_option linter.unusedSimpArgs false
set_option linter.unusedVariables false
attribute [local irreducible] Reg RegD Later Out CallV Tri Side EqV Pause
set_option maxHeartbeats 400000 in
theorem c_cloneStr (l : List ByteArray) (hl : l.length ≤ 8796093022208) : CSpec Tryz.prog 138 [strs l] [] (.osl 0 1 (rowS l)) [.perm 9 1 l.length] := by
  cases l with
  | nil =>
    refine cspec_empty fun v hv => ?_
    rcases hv with rfl | ⟨a, cap, rfl⟩
    · refine v_cspec Tryz.func138 rfl Tryz.ntmps138 Tryz.results138 (by simp) (k := 0) rfl ?_
      repeat' (first
 | ((with_reducible apply w_ownNil 2 9 1); (case hs => rfl); (case hsz => decide); (case hm => (try simp only [Nat.reduceAdd, Nat.reduceMul]); exact rfl))
 | (with_reducible first | apply qz0 | (refine h0 _ _ ?_; clear h0 hw) | apply qz1 | apply qz5 )
 | refine p_reg fun K1 hK => ?_
 | apply go_seq
 | (refine p_op Tryz.tab fun K' h0 hw => ?_; conv => whnf)
 | (refine p_nil (hK _ ?_); clear hK)
 | ((with_reducible apply go_cond); (case hb => rfl))
 | ((with_reducible apply And.intro); (case' right => try (conv => whnf)); (case' left => try first | decide ))
 | (first  | intro g1; try simp at g1))
      ((first | refine w_retO Tryz.tab [80] (by rfl) (by simp) (by simp) (fun K' hL => ?_) ?_ ?_ ?_ | refine w_retO_end Tryz.tab [80] (by rfl) (by simp) (by simp) (fun K' hL => ?_) ?_ ?_ ?_); (conv => whnf); (refine hL _ ?_; clear hL); all_goals simp)
    · refine v_cspec Tryz.func138 rfl Tryz.ntmps138 Tryz.results138 (by simp) (k := 0) rfl ?_
      repeat' (first
 | (with_reducible first | apply qz0 | (refine h0 _ _ ?_; clear h0 hw) | (refine hw _ _ _ ?_; clear h0 hw) | apply qz1 | apply qz2 | apply qz6 )
 | refine p_reg fun K1 hK => ?_
 | apply go_seq
 | (refine p_op Tryz.tab fun K' h0 hw => ?_; conv => whnf)
 | (refine p_nil (hK _ ?_); clear hK)
 | ((with_reducible apply go_cond); (case hb => rfl))
 | ((with_reducible apply And.intro); (case' right => try (conv => whnf)); (case' left => try first | rfl | decide ))
 | exact p_side
 | (first  | intro g1; try simp at g1))
      ((first | refine w_retO Tryz.tab [48] (by rfl) (by simp) (by simp) (fun K' hL => ?_) ?_ ?_ ?_ | refine w_retO_end Tryz.tab [48] (by rfl) (by simp) (by simp) (fun K' hL => ?_) ?_ ?_ ?_); (conv => whnf); (refine hL _ ?_; clear hL); all_goals simp)
  | cons x l =>
    simp at hl
    refine v_cspec Tryz.func138 rfl Tryz.ntmps138 Tryz.results138 (by simp) (k := 0) rfl ?_
    repeat' (first
 | (with_reducible first | apply qz0 | (refine h0 _ _ ?_; clear h0 hw) | (refine hw _ _ _ ?_; clear h0 hw) | apply qz1 | apply qz2 | apply qz6 )
 | refine p_reg fun K1 hK => ?_
 | apply go_seq
 | (refine p_op Tryz.tab fun K' h0 hw => ?_; conv => whnf)
 | (refine p_nil (hK _ ?_); clear hK)
 | ((with_reducible apply go_cond); (case hb => rfl))
 | ((with_reducible apply And.intro); (case' right => try (conv => whnf)); (case' left => try first | rfl | decide ))
 | exact p_side
 | (first  | intro g1; try simp at g1))
    ((first | refine w_retO Tryz.tab [48] (by rfl) (by simp) (by simp) (fun K' hL => ?_) ?_ ?_ ?_ | refine w_retO_end Tryz.tab [48] (by rfl) (by simp) (by simp) (fun K' hL => ?_) ?_ ?_ ?_); (conv => whnf); (refine hL _ ?_; clear hL); all_goals simp)
set_option maxHeartbeats 400000 in
theorem c_cloneSlt (l : List Slt) (hl : l.length ≤ 1000000000000) : CSpec Tryz.prog 71 [slts l] [] (.osl 0 7 (rowL l)) [.perm 102 7 l.length] := by
  cases l with
  | nil =>
    refine cspec_empty fun v hv => ?_
    rcases hv with rfl | ⟨a, cap, rfl⟩
    · refine v_cspec Tryz.func71 rfl Tryz.ntmps71 Tryz.results71 (by simp) (k := 0) rfl ?_
      repeat' (first
 | ((with_reducible apply w_ownNil 2 102 7); (case hs => rfl); (case hsz => decide); (case hm => (try simp only [Nat.reduceAdd, Nat.reduceMul]); exact rfl))
 | (with_reducible first | apply qz0 | (refine h0 _ _ ?_; clear h0 hw) | apply qz1 | apply qz5 )
 | refine p_reg fun K1 hK => ?_
 | apply go_seq
 | (refine p_op Tryz.tab fun K' h0 hw => ?_; conv => whnf)
 | (refine p_nil (hK _ ?_); clear hK)
 | ((with_reducible apply go_cond); (case hb => rfl))
 | ((with_reducible apply And.intro); (case' right => try (conv => whnf)); (case' left => try first | decide ))
 | (first  | intro g1; try simp at g1))
      ((first | refine w_retO Tryz.tab [80] (by rfl) (by simp) (by simp) (fun K' hL => ?_) ?_ ?_ ?_ | refine w_retO_end Tryz.tab [80] (by rfl) (by simp) (by simp) (fun K' hL => ?_) ?_ ?_ ?_); (conv => whnf); (refine hL _ ?_; clear hL); all_goals simp)
    · refine v_cspec Tryz.func71 rfl Tryz.ntmps71 Tryz.results71 (by simp) (k := 0) rfl ?_
      repeat' (first
 | (with_reducible first | apply qz0 | (refine h0 _ _ ?_; clear h0 hw) | (refine hw _ _ _ ?_; clear h0 hw) | apply qz1 | apply qz2 | apply qz6 )
 | refine p_reg fun K1 hK => ?_
 | apply go_seq
 | (refine p_op Tryz.tab fun K' h0 hw => ?_; conv => whnf)
 | (refine p_nil (hK _ ?_); clear hK)
 | ((with_reducible apply go_cond); (case hb => rfl))
 | ((with_reducible apply And.intro); (case' right => try (conv => whnf)); (case' left => try first | rfl | decide ))
 | exact p_side
 | (first  | intro g1; try simp at g1))
      ((first | refine w_retO Tryz.tab [48] (by rfl) (by simp) (by simp) (fun K' hL => ?_) ?_ ?_ ?_ | refine w_retO_end Tryz.tab [48] (by rfl) (by simp) (by simp) (fun K' hL => ?_) ?_ ?_ ?_); (conv => whnf); (refine hL _ ?_; clear hL); all_goals simp)
  | cons x l =>
    simp at hl
    refine v_cspec Tryz.func71 rfl Tryz.ntmps71 Tryz.results71 (by simp) (k := 0) rfl ?_
    repeat' (first
 | (with_reducible first | apply qz0 | (refine h0 _ _ ?_; clear h0 hw) | (refine hw _ _ _ ?_; clear h0 hw) | apply qz1 | apply qz2 | apply qz6 )
 | refine p_reg fun K1 hK => ?_
 | apply go_seq
 | (refine p_op Tryz.tab fun K' h0 hw => ?_; conv => whnf)
 | (refine p_nil (hK _ ?_); clear hK)
 | ((with_reducible apply go_cond); (case hb => rfl))
 | ((with_reducible apply And.intro); (case' right => try (conv => whnf)); (case' left => try first | rfl | decide ))
 | exact p_side
 | (first  | intro g1; try simp at g1))
    ((first | refine w_retO Tryz.tab [48] (by rfl) (by simp) (by simp) (fun K' hL => ?_) ?_ ?_ ?_ | refine w_retO_end Tryz.tab [48] (by rfl) (by simp) (by simp) (fun K' hL => ?_) ?_ ?_ ?_); (conv => whnf); (refine hL _ ?_; clear hL); all_goals simp)
set_option maxHeartbeats 400000 in
theorem c_cloneGr (l : List (List Fr)) (hl : l.length ≤ 1000000000000) : CSpec Tryz.prog 140 [grs l] [] (.osl 0 1 (rowG l)) [.perm 30 1 l.length] := by
  cases l with
  | nil =>
    refine cspec_empty fun v hv => ?_
    rcases hv with rfl | ⟨a, cap, rfl⟩
    · refine v_cspec Tryz.func140 rfl Tryz.ntmps140 Tryz.results140 (by simp) (k := 0) rfl ?_
      repeat' (first
 | ((with_reducible apply w_ownNil 2 30 1); (case hs => rfl); (case hsz => decide); (case hm => (try simp only [Nat.reduceAdd, Nat.reduceMul]); exact rfl))
 | (with_reducible first | apply qz0 | (refine h0 _ _ ?_; clear h0 hw) | apply qz1 | apply qz5 )
 | refine p_reg fun K1 hK => ?_
 | apply go_seq
 | (refine p_op Tryz.tab fun K' h0 hw => ?_; conv => whnf)
 | (refine p_nil (hK _ ?_); clear hK)
 | ((with_reducible apply go_cond); (case hb => rfl))
 | ((with_reducible apply And.intro); (case' right => try (conv => whnf)); (case' left => try first | decide ))
 | (first  | intro g1; try simp at g1))
      ((first | refine w_retO Tryz.tab [80] (by rfl) (by simp) (by simp) (fun K' hL => ?_) ?_ ?_ ?_ | refine w_retO_end Tryz.tab [80] (by rfl) (by simp) (by simp) (fun K' hL => ?_) ?_ ?_ ?_); (conv => whnf); (refine hL _ ?_; clear hL); all_goals simp)
    · refine v_cspec Tryz.func140 rfl Tryz.ntmps140 Tryz.results140 (by simp) (k := 0) rfl ?_
      repeat' (first
 | (with_reducible first | apply qz0 | (refine h0 _ _ ?_; clear h0 hw) | (refine hw _ _ _ ?_; clear h0 hw) | apply qz1 | apply qz2 | apply qz6 )
 | refine p_reg fun K1 hK => ?_
 | apply go_seq
 | (refine p_op Tryz.tab fun K' h0 hw => ?_; conv => whnf)
 | (refine p_nil (hK _ ?_); clear hK)
 | ((with_reducible apply go_cond); (case hb => rfl))
 | ((with_reducible apply And.intro); (case' right => try (conv => whnf)); (case' left => try first | rfl | decide ))
 | exact p_side
 | (first  | intro g1; try simp at g1))
      ((first | refine w_retO Tryz.tab [48] (by rfl) (by simp) (by simp) (fun K' hL => ?_) ?_ ?_ ?_ | refine w_retO_end Tryz.tab [48] (by rfl) (by simp) (by simp) (fun K' hL => ?_) ?_ ?_ ?_); (conv => whnf); (refine hL _ ?_; clear hL); all_goals simp)
  | cons x l =>
    simp at hl
    refine v_cspec Tryz.func140 rfl Tryz.ntmps140 Tryz.results140 (by simp) (k := 0) rfl ?_
    repeat' (first
 | (with_reducible first | apply qz0 | (refine h0 _ _ ?_; clear h0 hw) | (refine hw _ _ _ ?_; clear h0 hw) | apply qz1 | apply qz2 | apply qz6 )
 | refine p_reg fun K1 hK => ?_
 | apply go_seq
 | (refine p_op Tryz.tab fun K' h0 hw => ?_; conv => whnf)
 | (refine p_nil (hK _ ?_); clear hK)
 | ((with_reducible apply go_cond); (case hb => rfl))
 | ((with_reducible apply And.intro); (case' right => try (conv => whnf)); (case' left => try first | rfl | decide ))
 | exact p_side
 | (first  | intro g1; try simp at g1))
    ((first | refine w_retO Tryz.tab [48] (by rfl) (by simp) (by simp) (fun K' hL => ?_) ?_ ?_ ?_ | refine w_retO_end Tryz.tab [48] (by rfl) (by simp) (by simp) (fun K' hL => ?_) ?_ ?_ ?_); (conv => whnf); (refine hL _ ?_; clear hL); all_goals simp)
end Go.Proofs.YtokkencbpmjdaaaGreat
end

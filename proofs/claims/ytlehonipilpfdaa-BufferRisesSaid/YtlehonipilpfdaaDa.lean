/- The program's plain types, as structures, and how they lie in cells. No condition. -/
import Derived.Test.YtlehonipilpfdaaTab
import Derived.Test.YtlehonipilpfdaaOwn
import Derived.Test.YtlehonipilpfdaaEqs
import Derived.Test.YtlehonipilpfdaaSim
import Derived.Test.YtlehonipilpfdaaSy4
import Derived.Test.YtlehonipilpfdaaSy3
section
namespace Go.Proofs.Ytlehonipilpfdaa
open Go Go.Sy
set_option linter.unusedVariables false
structure Pkt where
  seq : Int
  time : Int
  first : Bool
  fin : Bool
  key : Bool
  text : ByteArray
structure Slt where
  n : Int
  p : Pkt
structure Fr where
  time : Int
  key : Bool
  parts : List ByteArray
structure Ou where
  last : Int
  time : Int
  shift : Int
abbrev pktC (p : Pkt) : List AV := [I p.seq, I p.time, B p.first, B p.fin, B p.key, Tx p.text]
abbrev sltC (s : Slt) : List AV := [I s.n, I s.p.seq, I s.p.time, B s.p.first, B s.p.fin, B s.p.key, Tx s.p.text]
abbrev rowL (l : List Slt) : List (List AV) := l.map sltC
abbrev slts (l : List Slt) : AV := .sl 7 (rowL l)
theorem Pkt.ext' {p q : Pkt} (h1 : p.seq = q.seq) (h2 : p.time = q.time) (h3 : p.first = q.first) (h4 : p.fin = q.fin) (h5 : p.key = q.key) (h6 : p.text = q.text) : p = q := by cases p; cases q; simp_all
instance : DecidableEq Pkt := fun p q => decidable_of_iff (p.seq = q.seq ∧ p.time = q.time ∧ p.first = q.first ∧ p.fin = q.fin ∧ p.key = q.key ∧ p.text = q.text) ⟨fun ⟨h1, h2, h3, h4, h5, h6⟩ => Pkt.ext' h1 h2 h3 h4 h5 h6, fun h => by subst h; simp⟩
theorem Fr.ext' {p q : Fr} (h1 : p.time = q.time) (h2 : p.key = q.key) (h3 : p.parts = q.parts) : p = q := by cases p; cases q; simp_all
instance : DecidableEq Fr := fun p q => decidable_of_iff (p.time = q.time ∧ p.key = q.key ∧ p.parts = q.parts) ⟨fun ⟨h1, h2, h3⟩ => Fr.ext' h1 h2 h3, fun h => by subst h; simp⟩
theorem Slt.ext' {p q : Slt} (h1 : p.n = q.n) (h2 : p.p = q.p) : p = q := by cases p; cases q; simp_all
instance : DecidableEq Slt := fun p q => decidable_of_iff (p.n = q.n ∧ p.p = q.p) ⟨fun ⟨h1, h2⟩ => Slt.ext' h1 h2, fun h => by subst h; simp⟩
theorem Ou.ext' {p q : Ou} (h1 : p.last = q.last) (h2 : p.time = q.time) (h3 : p.shift = q.shift) : p = q := by cases p; cases q; simp_all
theorem cells_pkt {cx : List AV} (h : ReadsL [.int .i64, .int .i64, .bool, .bool, .bool, .str] cx) : ∃ p : Pkt, cx = pktC p ∧ p.text.size ≤ reachBytes := by
  obtain ⟨_, _, rfl, ⟨x, rfl, _⟩, _, _, rfl, ⟨y, rfl, _⟩, _, _, rfl, ⟨a, rfl⟩, _, _, rfl, ⟨b, rfl⟩, _, _, rfl, ⟨c, rfl⟩, _, _, rfl, ⟨s, rfl, hs⟩, rfl⟩ := h
  exact ⟨⟨x, y, a, b, c, s⟩, rfl, hs⟩
theorem cells_slt {cx : List AV} (h : ReadsL [.int .i64, .agg [.int .i64, .int .i64, .bool, .bool, .bool, .str]] cx) : ∃ s : Slt, cx = sltC s ∧ s.p.text.size ≤ reachBytes := by
  obtain ⟨_, _, rfl, ⟨n, rfl, _⟩, c, _, rfl, h3, rfl⟩ := h
  obtain ⟨p, rfl, hp⟩ := cells_pkt h3
  exact ⟨⟨n, p⟩, rfl, hp⟩
theorem cells_slts {cx : List AV} (h : Reads (.sl 7 48 (.agg [.int .i64, .agg [.int .i64, .int .i64, .bool, .bool, .bool, .str]])) cx) : ∃ l : List Slt, cx = [slts l] ∧ l.length ≤ 4000000000000 ∧ ∀ s ∈ l, s.p.text.size ≤ reachBytes := by
  obtain ⟨es, h1, h2, h3⟩ := h
  obtain ⟨l, h4, h5⟩ := map_of (f := sltC) (Q := fun s => s.p.text.size ≤ reachBytes) (es := es) fun x hx => by obtain ⟨f, hf, hq⟩ := cells_slt (h2 x hx); exact ⟨f, hf, hq⟩
  subst h1
  refine ⟨l, by rw [h4], ?_, h5⟩
  rw [h4, List.length_map] at h3
  unfold reachBytes at h3; omega
theorem reads_slts {a : AV} (h : ReadsArg (.sl 7 48 (.agg [.int .i64, .agg [.int .i64, .int .i64, .bool, .bool, .bool, .str]])) a) : ∃ l : List Slt, a = slts l ∧ l.length ≤ 4000000000000 ∧ ∀ s ∈ l, s.p.text.size ≤ reachBytes := by
  obtain ⟨l, h0, h1, h2⟩ := cells_slts h
  cases h0
  exact ⟨l, rfl, h1, h2⟩
end Go.Proofs.Ytlehonipilpfdaa
end
section
namespace Go.Proofs.Ytlehonipilpfdaa
open Go Go.Sy
set_option maxRecDepth 4000
set_option linter.unusedSimpArgs false
set_option linter.unusedVariables false
attribute [local irreducible] Reg RegD Later Out CallV Tri Side EqV
namespace Outs
end Outs
end Go.Proofs.Ytlehonipilpfdaa
end
section
namespace Go.Proofs.Ytlehonipilpfdaa
open Go Go.Sy
set_option maxRecDepth 4000
set_option linter.unusedSimpArgs false
set_option linter.unusedVariables false
attribute [local irreducible] Reg RegD Later Out CallV Tri Side EqV
end Go.Proofs.Ytlehonipilpfdaa
end
section
namespace Go.Proofs.Ytlehonipilpfdaa
open Go Go.Sy
set_option maxRecDepth 4000
set_option linter.unusedSimpArgs false
set_option linter.unusedVariables false
attribute [local irreducible] Reg RegD Later Out CallV Tri Side EqV
end Go.Proofs.Ytlehonipilpfdaa
end
section
namespace Go.Proofs.Ytlehonipilpfdaa
open Go Go.Sy
set_option maxRecDepth 4000
set_option linter.unusedSimpArgs false
set_option linter.unusedVariables false
attribute [local irreducible] Reg RegD Later Out CallV Tri Side EqV
set_option maxHeartbeats 400000 in
theorem c_cloneSlt (l : List Slt) (hl : l.length ≤ 1000000000000) : CSpec Try.prog 103 [slts l] [] (.osl 0 7 (rowL l)) [.perm 48 7 l.length] := by
  cases l with
  | nil =>
    refine cspec_empty fun v hv => ?_
    rcases hv with rfl | ⟨a, cap, rfl⟩
    · refine v_cspec Try.func103 rfl Try.ntmps103 Try.results103 (by simp) (k := 0) rfl ?_
      repeat' (first
 | ((with_reducible apply w_ownNil 2 48 7); (case hs => rfl); (case hsz => decide); (case hm => (try simp only [Nat.reduceAdd, Nat.reduceMul]); exact rfl))
 | (with_reducible first | apply qz0 | (refine h0 _ _ ?_; clear h0 hw) | (refine hw _ _ _ ?_; clear h0 hw) | apply qz1 | apply qz2 | apply qz5 | apply qz6 | (refine hL _ ?_; clear hL))
 | (with_reducible first | refine w_reg (by decide +kernel) fun K1 hK => ?_ | refine w_reg_end (by decide +kernel) fun K1 hK => ?_)
 | with_reducible refine go_seq ?_
 | ((with_reducible first | apply v_op Try.tab | apply v_op0 Try.tab) <;> first | (intro K' h0 hw; conv => whnf) | (simp only [Nat.reduceAdd, Nat.reduceMul]; rfl))
 | ((with_reducible apply v_nil); (case hm => (simp only [Nat.reduceAdd, Nat.reduceMul]; rfl)); (case' h => with_reducible refine hK _ ?_; clear hK))
 | ((with_reducible apply go_cond); (case hb => rfl))
 | ((with_reducible first | refine w_ret Try.tab fun K' hL => ?_ | refine w_ret_end Try.tab fun K' hL => ?_); (conv => whnf))
 | ((with_reducible apply And.intro); (case' right => try (conv => whnf)); (case' left => try first | rfl | decide | (simp; done) | (simp (disch := omega) only [wrp]; omega) | (simp (disch := omega) [wrp]; (try omega); done)))
 | ((with_reducible apply Side.mk); (try simp (disch := omega) only [wrp]); (try simp); (try simp (disch := omega) only [wrp]); (try omega))
 | (first  | intro g1; try simp at g1))
      ((first | refine w_retO Try.tab [80] (by rfl) (by simp) (by simp) (fun K' hL => ?_) ?_ ?_ ?_ | refine w_retO_end Try.tab [80] (by rfl) (by simp) (by simp) (fun K' hL => ?_) ?_ ?_ ?_); (conv => whnf); (refine hL _ ?_; clear hL); all_goals simp)
    · refine v_cspec Try.func103 rfl Try.ntmps103 Try.results103 (by simp) (k := 0) rfl ?_
      repeat' (first
 | (with_reducible first | apply qz0 | (refine h0 _ _ ?_; clear h0 hw) | (refine hw _ _ _ ?_; clear h0 hw) | apply qz1 | apply qz2 | apply qz5 | apply qz6 | (refine hL _ ?_; clear hL))
 | (with_reducible first | refine w_reg (by decide +kernel) fun K1 hK => ?_ | refine w_reg_end (by decide +kernel) fun K1 hK => ?_)
 | with_reducible refine go_seq ?_
 | ((with_reducible first | apply v_op Try.tab | apply v_op0 Try.tab) <;> first | (intro K' h0 hw; conv => whnf) | (simp only [Nat.reduceAdd, Nat.reduceMul]; rfl))
 | ((with_reducible apply v_nil); (case hm => (simp only [Nat.reduceAdd, Nat.reduceMul]; rfl)); (case' h => with_reducible refine hK _ ?_; clear hK))
 | ((with_reducible apply go_cond); (case hb => rfl))
 | ((with_reducible first | refine w_ret Try.tab fun K' hL => ?_ | refine w_ret_end Try.tab fun K' hL => ?_); (conv => whnf))
 | ((with_reducible apply And.intro); (case' right => try (conv => whnf)); (case' left => try first | rfl | decide | (simp; done) | (simp (disch := omega) only [wrp]; omega) | (simp (disch := omega) [wrp]; (try omega); done)))
 | ((with_reducible apply Side.mk); (try simp (disch := omega) only [wrp]); (try simp); (try simp (disch := omega) only [wrp]); (try omega))
 | (first  | intro g1; try simp at g1))
      ((first | refine w_retO Try.tab [48] (by rfl) (by simp) (by simp) (fun K' hL => ?_) ?_ ?_ ?_ | refine w_retO_end Try.tab [48] (by rfl) (by simp) (by simp) (fun K' hL => ?_) ?_ ?_ ?_); (conv => whnf); (refine hL _ ?_; clear hL); all_goals simp)
  | cons x l =>
    simp at hl
    refine v_cspec Try.func103 rfl Try.ntmps103 Try.results103 (by simp) (k := 0) rfl ?_
    repeat' (first
 | (with_reducible first | apply qz0 | (refine h0 _ _ ?_; clear h0 hw) | (refine hw _ _ _ ?_; clear h0 hw) | apply qz1 | apply qz2 | apply qz5 | apply qz6 | (refine hL _ ?_; clear hL))
 | (with_reducible first | refine w_reg (by decide +kernel) fun K1 hK => ?_ | refine w_reg_end (by decide +kernel) fun K1 hK => ?_)
 | with_reducible refine go_seq ?_
 | ((with_reducible first | apply v_op Try.tab | apply v_op0 Try.tab) <;> first | (intro K' h0 hw; conv => whnf) | (simp only [Nat.reduceAdd, Nat.reduceMul]; rfl))
 | ((with_reducible apply v_nil); (case hm => (simp only [Nat.reduceAdd, Nat.reduceMul]; rfl)); (case' h => with_reducible refine hK _ ?_; clear hK))
 | ((with_reducible apply go_cond); (case hb => rfl))
 | ((with_reducible first | refine w_ret Try.tab fun K' hL => ?_ | refine w_ret_end Try.tab fun K' hL => ?_); (conv => whnf))
 | ((with_reducible apply And.intro); (case' right => try (conv => whnf)); (case' left => try first | rfl | decide | (simp; done) | (simp (disch := omega) only [wrp]; omega) | (simp (disch := omega) [wrp]; (try omega); done)))
 | ((with_reducible apply Side.mk); (try simp (disch := omega) only [wrp]); (try simp); (try simp (disch := omega) only [wrp]); (try omega))
 | (first  | intro g1; try simp at g1))
    ((first | refine w_retO Try.tab [48] (by rfl) (by simp) (by simp) (fun K' hL => ?_) ?_ ?_ ?_ | refine w_retO_end Try.tab [48] (by rfl) (by simp) (by simp) (fun K' hL => ?_) ?_ ?_ ?_); (conv => whnf); (refine hL _ ?_; clear hL); all_goals simp)
end Go.Proofs.Ytlehonipilpfdaa
end

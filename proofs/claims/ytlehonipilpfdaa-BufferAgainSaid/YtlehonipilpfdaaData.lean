/- The program's plain types, as structures, and how they lie in cells. No condition. -/
import Derived.Test.YtlehonipilpfdaaTab
import Derived.Test.YtlehonipilpfdaaOwn
import Derived.Test.YtlehonipilpfdaaEqs
import Derived.Test.YtlehonipilpfdaaSim
import Derived.Test.YtlehonipilpfdaaSyX
import Derived.Test.YtlehonipilpfdaaSyZb
namespace Go.Proofs.Ytlehonipilpfdaa
open Go Go.Sy
set_option linter.unusedVariables false
structure Pkt where
  seq : Int
  time : Int
  first : Bool
  fin : Bool
  key : Bool
  text : ByteArray
structure Slt where
  n : Int
  p : Pkt
structure Fr where
  time : Int
  key : Bool
  parts : List ByteArray
structure Ou where
  last : Int
  time : Int
  shift : Int
abbrev pktC (p : Pkt) : List AV := [I p.seq, I p.time, B p.first, B p.fin, B p.key, Tx p.text]
abbrev sltC (s : Slt) : List AV := [I s.n, I s.p.seq, I s.p.time, B s.p.first, B s.p.fin, B s.p.key, Tx s.p.text]
abbrev rowS (l : List ByteArray) : List (List AV) := l.map fun s => [Tx s]
abbrev strs (l : List ByteArray) : AV := .sl 1 (rowS l)
abbrev frC (f : Fr) : List AV := [I f.time, B f.key, strs f.parts]
abbrev ouC (o : Ou) : List AV := [I o.last, I o.time, I o.shift]
abbrev rowP (l : List Pkt) : List (List AV) := l.map pktC
abbrev pkts (l : List Pkt) : AV := .sl 6 (rowP l)
abbrev rowL (l : List Slt) : List (List AV) := l.map sltC
abbrev slts (l : List Slt) : AV := .sl 7 (rowL l)
abbrev rowF (l : List Fr) : List (List AV) := l.map frC
abbrev frs (l : List Fr) : AV := .sl 3 (rowF l)
abbrev grC (g : List Fr) : List AV := [frs g]
abbrev rowG (l : List (List Fr)) : List (List AV) := l.map grC
abbrev grs (l : List (List Fr)) : AV := .sl 1 (rowG l)
theorem Pkt.ext' {p q : Pkt} (h1 : p.seq = q.seq) (h2 : p.time = q.time) (h3 : p.first = q.first) (h4 : p.fin = q.fin) (h5 : p.key = q.key) (h6 : p.text = q.text) : p = q := by cases p; cases q; simp_all
instance : DecidableEq Pkt := fun p q => decidable_of_iff (p.seq = q.seq ∧ p.time = q.time ∧ p.first = q.first ∧ p.fin = q.fin ∧ p.key = q.key ∧ p.text = q.text) ⟨fun ⟨h1, h2, h3, h4, h5, h6⟩ => Pkt.ext' h1 h2 h3 h4 h5 h6, fun h => by subst h; simp⟩
theorem Fr.ext' {p q : Fr} (h1 : p.time = q.time) (h2 : p.key = q.key) (h3 : p.parts = q.parts) : p = q := by cases p; cases q; simp_all
instance : DecidableEq Fr := fun p q => decidable_of_iff (p.time = q.time ∧ p.key = q.key ∧ p.parts = q.parts) ⟨fun ⟨h1, h2, h3⟩ => Fr.ext' h1 h2 h3, fun h => by subst h; simp⟩
theorem Slt.ext' {p q : Slt} (h1 : p.n = q.n) (h2 : p.p = q.p) : p = q := by cases p; cases q; simp_all
instance : DecidableEq Slt := fun p q => decidable_of_iff (p.n = q.n ∧ p.p = q.p) ⟨fun ⟨h1, h2⟩ => Slt.ext' h1 h2, fun h => by subst h; simp⟩
theorem Ou.ext' {p q : Ou} (h1 : p.last = q.last) (h2 : p.time = q.time) (h3 : p.shift = q.shift) : p = q := by cases p; cases q; simp_all
theorem reads_ou {a : AV} (h : ReadsArg (.agg [.int .i64, .int .i64, .int .i64]) a) : ∃ o : Ou, a = .agg (ouC o) := by
  obtain ⟨_, rfl, _, _, rfl, ⟨x, rfl, _⟩, _, _, rfl, ⟨y, rfl, _⟩, _, _, rfl, ⟨z, rfl, _⟩, rfl⟩ := h
  exact ⟨⟨x, y, z⟩, rfl⟩
theorem cells_strs {cx : List AV} (h : Reads (.sl 1 16 .str) cx) : ∃ l : List ByteArray, cx = [strs l] ∧ l.length ≤ 8796093022208 ∧ ∀ s ∈ l, s.size ≤ reachBytes := by
  obtain ⟨es, h1, h2, h3⟩ := h
  obtain ⟨l, h4, h5⟩ := map_of (f := fun s => [Tx s]) (Q := fun s => s.size ≤ reachBytes) (es := es) fun x hx => by obtain ⟨s, hs, hq⟩ := h2 x hx; exact ⟨s, hs, hq⟩
  subst h1
  refine ⟨l, by rw [h4], ?_, h5⟩
  rw [h4, List.length_map] at h3
  unfold reachBytes at h3; omega
theorem cells_fr {cx : List AV} (h : ReadsL [.int .i64, .bool, .sl 1 16 .str] cx) : ∃ f : Fr, cx = frC f ∧ f.parts.length ≤ 8796093022208 ∧ ∀ s ∈ f.parts, s.size ≤ reachBytes := by
  obtain ⟨_, _, rfl, ⟨x, rfl, _⟩, _, _, rfl, ⟨y, rfl⟩, c, _, rfl, h3, rfl⟩ := h
  obtain ⟨l, rfl, h4, h5⟩ := cells_strs h3
  exact ⟨⟨x, y, l⟩, rfl, h4, h5⟩
theorem reads_fr {a : AV} (h : ReadsArg (.agg [.int .i64, .bool, .sl 1 16 .str]) a) : ∃ f : Fr, a = .agg (frC f) ∧ f.parts.length ≤ 17592186043904 ∧ ∀ s ∈ f.parts, s.size ≤ reachBytes := by
  obtain ⟨_, rfl, h⟩ := h
  obtain ⟨f, rfl, h4, h5⟩ := cells_fr h
  exact ⟨f, rfl, by omega, h5⟩
theorem cells_frs {cx : List AV} (h : Reads (.sl 3 40 (.agg [.int .i64, .bool, .sl 1 16 .str])) cx) : ∃ l : List Fr, cx = [frs l] ∧ l.length ≤ 4000000000000 ∧ ∀ f ∈ l, f.parts.length ≤ 8796093022208 ∧ ∀ s ∈ f.parts, s.size ≤ reachBytes := by
  obtain ⟨es, h1, h2, h3⟩ := h
  obtain ⟨l, h4, h5⟩ := map_of (f := frC) (Q := fun f => f.parts.length ≤ 8796093022208 ∧ ∀ s ∈ f.parts, s.size ≤ reachBytes) (es := es) fun x hx => by obtain ⟨f, hf, hq⟩ := cells_fr (h2 x hx); exact ⟨f, hf, hq⟩
  subst h1
  refine ⟨l, by rw [h4], ?_, h5⟩
  rw [h4, List.length_map] at h3
  unfold reachBytes at h3; omega
theorem cells_pkt {cx : List AV} (h : ReadsL [.int .i64, .int .i64, .bool, .bool, .bool, .str] cx) : ∃ p : Pkt, cx = pktC p ∧ p.text.size ≤ reachBytes := by
  obtain ⟨_, _, rfl, ⟨x, rfl, _⟩, _, _, rfl, ⟨y, rfl, _⟩, _, _, rfl, ⟨a, rfl⟩, _, _, rfl, ⟨b, rfl⟩, _, _, rfl, ⟨c, rfl⟩, _, _, rfl, ⟨s, rfl, hs⟩, rfl⟩ := h
  exact ⟨⟨x, y, a, b, c, s⟩, rfl, hs⟩
theorem cells_slt {cx : List AV} (h : ReadsL [.int .i64, .agg [.int .i64, .int .i64, .bool, .bool, .bool, .str]] cx) : ∃ s : Slt, cx = sltC s ∧ s.p.text.size ≤ reachBytes := by
  obtain ⟨_, _, rfl, ⟨n, rfl, _⟩, c, _, rfl, h3, rfl⟩ := h
  obtain ⟨p, rfl, hp⟩ := cells_pkt h3
  exact ⟨⟨n, p⟩, rfl, hp⟩
theorem cells_slts {cx : List AV} (h : Reads (.sl 7 48 (.agg [.int .i64, .agg [.int .i64, .int .i64, .bool, .bool, .bool, .str]])) cx) : ∃ l : List Slt, cx = [slts l] ∧ l.length ≤ 4000000000000 ∧ ∀ s ∈ l, s.p.text.size ≤ reachBytes := by
  obtain ⟨es, h1, h2, h3⟩ := h
  obtain ⟨l, h4, h5⟩ := map_of (f := sltC) (Q := fun s => s.p.text.size ≤ reachBytes) (es := es) fun x hx => by obtain ⟨f, hf, hq⟩ := cells_slt (h2 x hx); exact ⟨f, hf, hq⟩
  subst h1
  refine ⟨l, by rw [h4], ?_, h5⟩
  rw [h4, List.length_map] at h3
  unfold reachBytes at h3; omega
theorem reads_slts {a : AV} (h : ReadsArg (.sl 7 48 (.agg [.int .i64, .agg [.int .i64, .int .i64, .bool, .bool, .bool, .str]])) a) : ∃ l : List Slt, a = slts l ∧ l.length ≤ 4000000000000 ∧ ∀ s ∈ l, s.p.text.size ≤ reachBytes := by
  obtain ⟨l, h0, h1, h2⟩ := cells_slts h
  cases h0
  exact ⟨l, rfl, h1, h2⟩
theorem reads_bld {a : AV} (h : ReadsArg (.agg [.sl 7 48 (.agg [.int .i64, .agg [.int .i64, .int .i64, .bool, .bool, .bool, .str]])]) a) : ∃ l : List Slt, a = .agg [slts l] ∧ l.length ≤ 4000000000000 ∧ ∀ s ∈ l, s.p.text.size ≤ reachBytes := by
  obtain ⟨_, rfl, _, _, rfl, h, rfl⟩ := h
  obtain ⟨l, rfl, h1, h2⟩ := cells_slts h
  exact ⟨l, rfl, h1, h2⟩
end Go.Proofs.Ytlehonipilpfdaa

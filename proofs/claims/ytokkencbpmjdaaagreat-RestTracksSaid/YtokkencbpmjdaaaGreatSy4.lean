/- The symbolic layer, twenty-second part: from a law and its contract to the given statement: what the arguments read to, for every shape of plain data. No condition. -/
import Derived.Test.YtokkencbpmjdaaaGreatSy3
import Derived.Test.YtokkencbpmjdaaaGreatRows
import Derived.ChangeArms
import Derived.ProofKit
import Derived.OpenShut
import Derived.JoinedCond
import Derived.Deep.CondSized
import Derived.Carry
section
set_option linter.unusedVariables false
namespace Go.Sy
open Go.RowKit

inductive Sh where
  | int (k : IntKind)
  | bool
  | str
  | sl (n b : Nat) (e : Sh)
  | agg (fs : List Sh)

mutual
def Sh.size : Sh → Nat
  | .agg fs => sizes fs
  | .int _ => 1
  | .bool => 1
  | .str => 1
  | .sl _ _ _ => 1
def sizes : List Sh → Nat
  | [] => 0
  | s :: l => s.size + sizes l
end

mutual
def shOK (P : Program) : Sh → TypeId → Bool
  | .int k, t => match P.underlying t with | some (.int k') => decide (k' = k) | _ => false
  | .bool, t => match P.underlying t with | some .bool => true | _ => false
  | .str, t => match P.underlying t with | some .string => true | _ => false
  | .sl n b e, t => match P.underlying t with | some (.slice u) => decide (P.cellsOf u = n) && decide (P.bytesOf u = b) && decide (e.size = n) && decide (0 < n) && shOK P e u | _ => false
  | .agg fs, t => match P.underlying t with | some (.struct gs) => decide (P.cellsOf t = sizes fs) && shOKL P fs gs.toList 0 | _ => false
def shOKL (P : Program) : List Sh → List Field → Nat → Bool
  | [], [], _ => true
  | s :: ss, f :: ff, o => decide (f.offset = o) && decide (P.cellsOf f.type = s.size) && shOK P s f.type && shOKL P ss ff (o + s.size)
  | _, _, _ => false
end

mutual
def bulk : AV → Nat
  | .s (.string s) => s.size + 1
  | .s _ => 1
  | .sl _ es => bulkM es + 1
  | .agg cs => bulkL cs
  | .tup _ => 0
  | .osl _ _ _ => 0
  | .ol _ _ => 0
  | .wsl _ _ => 0
  | .wref _ => 0
  | .hole => 0
  | .mark _ => 0
  | .ref _ => 0
  | .ptr _ _ => 0
  | .bsl .. => 0
  | .fn _ _ _ => 0
  | .junk => 0
def bulkL : List AV → Nat
  | [] => 0
  | a :: l => bulk a + bulkL l
def bulkM : List (List AV) → Nat
  | [] => 0
  | l :: m => bulkL l + bulkM m
end

mutual
def Reads : Sh → List AV → Prop
  | .int k, cx => ∃ n, cx = [.s (.int k n)] ∧ k.min ≤ n ∧ n ≤ k.max
  | .bool, cx => ∃ b, cx = [.s (.bool b)]
  | .str, cx => ∃ s : ByteArray, cx = [.s (.string s)] ∧ s.size ≤ reachBytes
  | .sl n b e, cx => ∃ es : List (List AV), cx = [.sl n es] ∧ (∀ x ∈ es, Reads e x) ∧ es.length * b ≤ reachBytes
  | .agg fs, cx => ReadsL fs cx
def ReadsL : List Sh → List AV → Prop
  | [], cx => cx = []
  | s :: ss, cx => ∃ a b, cx = a ++ b ∧ Reads s a ∧ ReadsL ss b
end

def full (w : World) : View := { f := fun b o => w.cell? ⟨b, o, none⟩, lo := 0, lo2 := 0, wr := fun _ _ => False }
theorem full_ok (w : World) : (full w).ok w :=
  ⟨fun _ _ _ h => h, ⟨Nat.zero_le _, Nat.le_refl _⟩, fun b o v h ⟨_, hz⟩ => hz.elim, fun _ _ h => h.elim⟩

theorem bulkL_append (l m : List AV) : bulkL (l ++ m) = bulkL l + bulkL m := by
  induction l with
  | nil => simp [bulkL]
  | cons a l ih => simp only [List.cons_append, bulkL, ih]; omega

theorem DM.join {H : View} {b : Nat} : ∀ {cs ds : List AV} {o : Nat}, DM H b o cs → DM H b (o + cs.length) ds → DM H b o (cs ++ ds)
  | [], ds, o, _, h => by simpa using h
  | c :: cs, ds, o, .cons _ _ v _ _ hv h1 h t, h' => .cons _ _ v _ _ hv h1 h (t.join (by
      have e : o + (c :: cs).length = o + 1 + cs.length := by simp; omega
      rwa [e] at h'))
theorem DM.joinRows {H : View} {b n : Nat} : ∀ {es : List (List AV)} {o : Nat}, (∀ e ∈ es, e.length = n) → (∀ i e, es[i]? = some e → DM H b (o + i * n) e) → DM H b o es.flatten
  | [], o, _, _ => .nil b o
  | e :: es, o, hl, h => by
    have h0 := h 0 e rfl
    simp only [Nat.zero_mul, Nat.add_zero] at h0
    have := hl e (by simp)
    refine h0.join ?_
    rw [this]
    refine DM.joinRows (fun e he => hl e (by simp [he])) fun i e he => ?_
    have := h (i + 1) e (by simpa using he)
    rwa [show o + n + i * n = o + (i + 1) * n by rw [Nat.add_mul]; omega]

section
variable {H : Type} {enc : TypeId × Value → H} {P : Program} {w : World} {held : Bool}

theorem read_cells {a : Addr} {n : Nat} {vs : List Value} (h : w.cells? 0 a n = some vs) : vs.length = n ∧ ∀ j, j < n → w.cell? (a.add j) = vs[j]? := by
  have := World.cells?_some h
  exact ⟨this.2.1, this.2.2⟩

mutual
theorem read : ∀ (sh : Sh) (t : TypeId) (fuel : Nat) (cs : List Value) (d : DataW H) (ps : List MemPlace), shOK P sh t = true → DataW.trod enc P w 0 (fun _ => true) held fuel t cs = some (d, ps) → (∀ n ∈ d.weights P t, n ≤ reachBytes) →
    ∃ cx, DL (full w) cs cx ∧ Reads sh cx ∧ cx.length = sh.size ∧ bulkL cx ≤ Go.Proofs.YtokkencbpmjdaaaGreat.Rows.uptoBulk d ∧ ∀ v ∈ cs, v.oneCell' = true
  | .int k, t, fuel, cs, d, ps, hs, h, hw => by
    simp only [shOK] at hs
    split at hs
    · rename_i k' hu
      have hs := of_decide_eq_true hs
      subst hs
      obtain ⟨n, rfl, hd, hwf⟩ := DataW.trod_int hu h
      cases hd
      have hwf : k'.min ≤ n ∧ n ≤ k'.max := by simpa [Lit.wf] using hwf
      exact ⟨[.s (.int k' n)], .cons _ _ _ _ (.s _ rfl) .nil, ⟨n, rfl, hwf.1, hwf.2⟩, rfl, by simp [bulkL, bulk, Go.Proofs.YtokkencbpmjdaaaGreat.Rows.uptoBulk], by simp [Value.oneCell']⟩
    · cases hs
  | .bool, t, fuel, cs, d, ps, hs, h, hw => by
    simp only [shOK] at hs
    split at hs
    · rename_i hu
      obtain ⟨b, rfl, hd⟩ := DataW.trod_bool hu h
      cases hd
      exact ⟨[.s (.bool b)], .cons _ _ _ _ (.s _ rfl) .nil, ⟨b, rfl⟩, rfl, by simp [bulkL, bulk, Go.Proofs.YtokkencbpmjdaaaGreat.Rows.uptoBulk], by simp [Value.oneCell']⟩
    · cases hs
  | .str, t, fuel, cs, d, ps, hs, h, hw => by
    simp only [shOK] at hs
    split at hs
    · rename_i hu
      obtain ⟨s, rfl, hd, _⟩ := DataW.trod_string hu h
      cases hd
      have := hw s.data.toList.length (by simp [DataW.weights])
      exact ⟨[.s (.string s)], .cons _ _ _ _ (.s _ rfl) .nil, ⟨s, rfl, by simpa using this⟩, rfl, by simp [bulkL, bulk, Go.Proofs.YtokkencbpmjdaaaGreat.Rows.uptoBulk], by simp [Value.oneCell']⟩
    · cases hs
  | .sl n b e, t, fuel, cs, d, ps, hs, h, hw => by
    simp only [shOK] at hs
    split at hs
    · rename_i u hu
      simp only [Bool.and_eq_true, decide_eq_true_eq] at hs
      obtain ⟨⟨⟨⟨hcell, hbytes⟩, hsz⟩, hn0⟩, he⟩ := hs
      rcases DataW.trod_slice hu h with ⟨rfl, hd⟩ | ⟨a, len, cap, elems, rest, m, rfl, rfl, hd, _, hlc, _, hel, hele, hsp, _⟩
      · cases hd
        exact ⟨[.sl n []], .cons _ _ _ _ (.nil n) .nil, ⟨[], rfl, by simp, by simp⟩, rfl, by simp [bulkL, bulk, bulkM, Go.Proofs.YtokkencbpmjdaaaGreat.Rows.uptoBulk], by simp [Value.oneCell']⟩
      · cases hd
        rw [hcell] at hele hsp
        obtain ⟨hrl, hre⟩ := hsp rfl
        -- what each element reads cx
        have hwe : ∀ x ∈ elems, ∀ n ∈ x.1.weights P u, n ≤ reachBytes := by
          intro x hx n hn
          refine hw n ?_
          simp only [DataW.weights, hu]
          refine List.mem_cons_of_mem _ (List.mem_append_left _ ?_)
          have : ∀ (l : List (DataW H)) (y : DataW H), y ∈ l → ∀ n ∈ y.weights P u, n ∈ DataW.weightsAll P u l := by
            intro l y hy n hn
            induction l with
            | nil => cases hy
            | cons z l ih =>
              simp only [DataW.weightsAll, List.mem_append]
              rcases List.mem_cons.1 hy with rfl | hy
              · exact .inl hn
              · exact .inr (ih hy)
          exact this _ x.1 (List.mem_map_of_mem hx) n hn
        have key : ∀ (i : Nat) (x : DataW H × List MemPlace), elems[i]? = some x → ∃ cx vs, w.cells? 0 (a.add (i * n)) n = some vs ∧ DL (full w) vs cx ∧ Reads e cx ∧ cx.length = n ∧ bulkL cx ≤ Go.Proofs.YtokkencbpmjdaaaGreat.Rows.uptoBulk x.1 ∧ ∀ v ∈ vs, v.oneCell' = true := by
          intro i x hx
          have hi : i < len := by rw [← hel]; exact (List.getElem?_eq_some_iff.1 hx).1
          have h1 := hele i hi
          rw [hx] at h1
          cases hq : w.cells? 0 (a.add (i * n)) n with
          | none => rw [hq] at h1; cases h1
          | some vs =>
            rw [hq] at h1
            obtain ⟨cx, g1, g2, g3, g4, g5⟩ := read e u m vs x.1 x.2 he h1 (hwe x (List.mem_of_getElem? hx))
            exact ⟨cx, vs, rfl, g1, g2, by rw [g3, hsz], g4, g5⟩
        -- all together
        have all : ∀ (l : List (DataW H × List MemPlace)) (i : Nat), elems.drop i = l → ∃ es : List (List AV), es.length = l.length ∧ (∀ x ∈ es, Reads e x) ∧ (∀ x ∈ es, x.length = n) ∧ bulkM es ≤ Go.Proofs.YtokkencbpmjdaaaGreat.Rows.uptoBulkAll (l.map (·.1)) ∧
            ∀ j x, es[j]? = some x → ∃ vs, w.cells? 0 (a.add ((i + j) * n)) n = some vs ∧ DL (full w) vs x ∧ ∀ v ∈ vs, v.oneCell' = true := by
          intro l
          induction l with
          | nil => intro i _; exact ⟨[], rfl, by simp, by simp, by simp [bulkM], by simp⟩
          | cons x l ih =>
            intro i hi
            have hx : elems[i]? = some x := by
              have := congrArg List.head? hi
              simpa using this
            obtain ⟨cx, vs, k1, k2, k3, k4, k5, k6⟩ := key i x hx
            obtain ⟨es, g1, g2, g3, g4, g5⟩ := ih (i + 1) (by have := congrArg List.tail hi; simpa using this)
            refine ⟨cx :: es, by simp [g1], ?_, ?_, ?_, ?_⟩
            · intro y hy; rcases List.mem_cons.1 hy with rfl | hy; exact k3; exact g2 y hy
            · intro y hy; rcases List.mem_cons.1 hy with rfl | hy; exact k4; exact g3 y hy
            · simp only [bulkM, List.map_cons, Go.Proofs.YtokkencbpmjdaaaGreat.Rows.uptoBulkAll]; omega
            · intro j y hy
              cases j with
              | zero => simp at hy; subst hy; exact ⟨vs, by simpa using k1, k2, k6⟩
              | succ j =>
                have := g5 j y (by simpa using hy)
                rwa [show i + 1 + j = i + (j + 1) by omega] at this
        obtain ⟨es, g1, g2, g3, g4, g5⟩ := all elems 0 (by simp)
        have hlen : es.length = len := by rw [g1, hel]
        have hwt : es.length * b ≤ reachBytes := by
          have := hw ((elems.length + rest.length) * b) (by
            simp only [DataW.weights, hu, List.length_map, hbytes]
            exact List.mem_cons_self)
          rw [g1]
          refine Nat.le_trans (Nat.mul_le_mul_right b ?_) this
          omega
        have hbulk : bulkL [AV.sl n es] ≤ Go.Proofs.YtokkencbpmjdaaaGreat.Rows.uptoBulk (DataW.slice (elems.map (·.1)) (rest.map (·.1)) : DataW H) := by
          simp only [bulkL, bulk, Go.Proofs.YtokkencbpmjdaaaGreat.Rows.uptoBulk]; omega
        by_cases hcap : cap = 0
        · obtain rfl : len = 0 := by omega
          subst hcap
          have : es = [] := List.eq_nil_of_length_eq_zero hlen
          subst this
          exact ⟨[.sl n []], .cons _ _ _ _ (.emp a _ n) .nil, ⟨[], rfl, by simp, by simp⟩, rfl, hbulk, by simp [Value.oneCell']⟩
        · have hspot : a.spot = none := by
            have hc0 : ∃ vs, w.cells? 0 (a.add (0 * n)) n = some vs := by
              by_cases hl0 : len = 0
              · have := hre 0 (by omega)
                have hr0 : rest[0]? = some rest[0] := by simp [show 0 < rest.length by omega]
                rw [hr0] at this
                cases hq : w.cells? 0 (a.add ((len + 0) * n)) n with
                | none => rw [hq] at this; cases this
                | some vs => exact ⟨vs, by simpa [hl0] using hq⟩
              · have hx : es[0]? = some es[0] := by simp [show 0 < es.length by omega]
                obtain ⟨vs, k, _⟩ := g5 0 es[0] hx
                exact ⟨vs, by simpa using k⟩
            obtain ⟨vs, hvs⟩ := hc0
            obtain ⟨q1, q2⟩ := read_cells hvs
            have := q2 0 hn0
            have hv0 : vs[0]? = some vs[0] := by simp [show 0 < vs.length by omega]
            rw [hv0] at this
            have := World.cell?_spot this
            simpa [Addr.add] using this
          obtain ⟨bk, off, sp⟩ := a
          simp only at hspot
          subst hspot
          have hdm : DM (full w) bk off es.flatten := DM.joinRows g3 fun i x hx => by
            obtain ⟨vs, k1, k2, k3⟩ := g5 i x hx
            obtain ⟨q1, q2⟩ := read_cells k1
            refine DM.of_list k2 (fun j v hj => ?_) k3
            have hjn : j < n := by rw [← q1]; exact (List.getElem?_eq_some_iff.1 hj).1
            have := q2 j hjn
            rw [hj, Nat.zero_add, add_eq, add_eq] at this
            exact this
          refine ⟨[.sl n es], .cons _ _ _ _ ?_ .nil, ⟨es, rfl, g2, hwt⟩, rfl, hbulk, by simp [Value.oneCell']⟩
          rw [← hlen]
          exact .sl bk off cap n es (by omega) g3 (fun _ => Nat.zero_le _) hdm
    · cases hs
  | .agg fs, t, fuel, cs, d, ps, hs, h, hw => by
    simp only [shOK] at hs
    split at hs
    · rename_i gs hu
      simp only [Bool.and_eq_true, decide_eq_true_eq] at hs
      obtain ⟨hc, hf⟩ := hs
      obtain ⟨xs, m, rfl, hd, hlen, hxl, hx⟩ := DataW.trod_struct hu h
      cases hd
      obtain ⟨cx, g1, g2, g3, g4, g5⟩ := readL fs gs.toList 0 m xs cs hf (fun i f hi => hx i f (by simpa using hi)) (by simpa using hxl) (by
        intro n hn
        refine hw n ?_
        simp only [DataW.weights, hu]; exact hn) (by rw [hlen, hc]; simp)
      rw [List.drop_zero] at g1 g5
      exact ⟨cx, g1, g2, g3, by simp only [Go.Proofs.YtokkencbpmjdaaaGreat.Rows.uptoBulk]; omega, g5⟩
    · cases hs
theorem readL : ∀ (fs : List Sh) (gs : List Field) (o m : Nat) (xs : List (DataW H × List MemPlace)) (cs : List Value), shOKL P fs gs o = true →
    (∀ (i : Nat) (f : Field), gs[i]? = some f → DataW.trod enc P w 0 (fun _ => true) held m f.type ((cs.drop f.offset).take (P.cellsOf f.type)) = xs[i]?) → xs.length = gs.length → (∀ n ∈ DataW.weightsEach P (gs.map (·.type)) (xs.map (·.1)), n ≤ reachBytes) → cs.length = o + sizes fs →
    ∃ cx, DL (full w) (cs.drop o) cx ∧ ReadsL fs cx ∧ cx.length = sizes fs ∧ bulkL cx ≤ Go.Proofs.YtokkencbpmjdaaaGreat.Rows.uptoBulkAll (xs.map (·.1)) ∧ ∀ v ∈ cs.drop o, v.oneCell' = true
  | [], gs, o, m, xs, cs, hs, h, hl, hw, hc => by
    cases gs with
    | cons g gs => simp [shOKL] at hs
    | nil =>
      have : cs.drop o = [] := List.drop_eq_nil_of_le (by simp [sizes] at hc; omega)
      rw [this]
      exact ⟨[], .nil, rfl, rfl, by simp [bulkL], by simp⟩
  | s :: ss, gs, o, m, xs, cs, hs, h, hl, hw, hc => by
    cases gs with
    | nil => simp [shOKL] at hs
    | cons g gs =>
      cases xs with
      | nil => simp at hl
      | cons x xs =>
        simp only [shOKL, Bool.and_eq_true, decide_eq_true_eq] at hs
        obtain ⟨⟨⟨ho, hcs⟩, hsh⟩, hrest⟩ := hs
        have h0 := h 0 g rfl
        simp only [List.getElem?_cons_zero] at h0
        simp only [List.map_cons, DataW.weightsEach, List.mem_append] at hw
        obtain ⟨cx, g1, g2, g3, g4, g5⟩ := read s g.type m _ x.1 x.2 hsh h0 (fun n hn => hw n (.inl hn))
        obtain ⟨bs, k1, k2, k3, k4, k5⟩ := readL ss gs (o + s.size) m xs cs hrest (fun i f hi => by have := h (i + 1) f (by simpa using hi); simpa using this) (by simpa using hl) (fun n hn => hw n (.inr hn)) (by simp only [sizes] at hc; omega)
        rw [ho, hcs] at g1 g5
        have e : cs.drop o = (cs.drop o).take s.size ++ cs.drop (o + s.size) := by rw [← List.drop_drop, List.take_append_drop]
        refine ⟨cx ++ bs, ?_, ⟨cx, bs, rfl, g2, k2⟩, by simp [g3, k3, sizes], ?_, ?_⟩
        · rw [e]; exact DL.append g1 k1
        · rw [bulkL_append]; simp only [List.map_cons, Go.Proofs.YtokkencbpmjdaaaGreat.Rows.uptoBulkAll]; omega
        · rw [e]; intro v hv; rcases List.mem_append.1 hv with hv | hv
          · exact g5 v hv
          · exact k5 v hv
end
end
end Go.Sy
end
section
set_option linter.unusedVariables false
namespace Go.Sy
open Go.RowKit Go.ChangeShapes Go.WideShapes Go.ChangeAt

def ReadsArg : Sh → AV → Prop
  | .agg fs, a => ∃ cx, a = .agg cx ∧ ReadsL fs cx
  | .int k, a => Reads (.int k) [a]
  | .bool, a => Reads .bool [a]
  | .str, a => Reads .str [a]
  | .sl n b e, a => Reads (.sl n b e) [a]
def ReadsArgs : List Sh → List AV → Prop
  | [], l => l = []
  | s :: ss, l => ∃ a m, l = a :: m ∧ ReadsArg s a ∧ ReadsArgs ss m
def shsOK (P : Program) : List Sh → List TypeId → Bool
  | [], [] => true
  | s :: ss, t :: ts => shOK P s t && shsOK P ss ts
  | _, _ => false

section
variable {H : Type} {enc : TypeId × Value → H} {P : Program} {w : World}

theorem read_arg {sh : Sh} {t : TypeId} {v : Value} {d : DataW H} {ps : List MemPlace} {r : Reach} {base : Nat} (hs : shOK P sh t = true) (hok : Value.okWide P w r base t v) (h : DataW.Trod enc P w 0 (fun _ => true) true t v d ps) (hw : ∀ n ∈ d.weights P t, n ≤ reachBytes) :
    ∃ a, D (full w) v a ∧ ReadsArg sh a ∧ bulk a ≤ Go.Proofs.YtokkencbpmjdaaaGreat.Rows.uptoBulk d := by
  obtain ⟨fuel, h⟩ := h
  obtain ⟨cx, h1, h2, h3, h4, h5⟩ := read sh t fuel _ d ps hs h hw
  have one : v.cells.toList = [v] → (∀ a, Reads sh [a] → ReadsArg sh a) → cx.length = 1 → ∃ a, D (full w) v a ∧ ReadsArg sh a ∧ bulk a ≤ Go.Proofs.YtokkencbpmjdaaaGreat.Rows.uptoBulk d := by
    intro hc hra hl
    rw [hc] at h1
    match cx, hl with
    | [a], _ =>
      cases h1 with
      | cons _ _ _ _ hd _ =>
        simp only [bulkL] at h4
        exact ⟨a, hd, hra a h2, by omega⟩
  cases sh with
  | int k =>
    simp only [shOK] at hs
    split at hs
    · rename_i k' hu
      obtain ⟨n, rfl⟩ := okWide_int hu hok
      exact one rfl (fun _ h => h) h3
    · cases hs
  | bool =>
    simp only [shOK] at hs
    split at hs
    · rename_i hu
      obtain ⟨n, rfl⟩ := okWide_bool hu hok
      exact one rfl (fun _ h => h) h3
    · cases hs
  | str =>
    simp only [shOK] at hs
    split at hs
    · rename_i hu
      obtain ⟨n, rfl⟩ := okWide_string hu hok
      exact one rfl (fun _ h => h) h3
    · cases hs
  | sl n b e =>
    simp only [shOK] at hs
    split at hs
    · rename_i u hu
      obtain ⟨a, len, cap, rfl⟩ := okWide_slice hu hok
      exact one rfl (fun _ h => h) h3
    · cases hs
  | agg fs =>
    simp only [shOK] at hs
    split at hs
    · rename_i gs hu
      obtain ⟨cs, rfl, _⟩ := okWide_struct hu hok
      have h1' : DL (full w) cs.toList cx := h1
      refine ⟨.agg cx, ?_, ⟨cx, rfl, h2⟩, by simp only [bulk]; exact h4⟩
      have := D.agg (H := full w) cs.toList cx h1'
      simpa using this
    · cases hs

theorem read_args : ∀ {shs : List Sh} {ts : List TypeId} {vs : List Value} {ds : List (DataW H)} {ps : List MemPlace}, shsOK P shs ts = true → (∀ (j : Nat) t v, ts[j]? = some t → vs[j]? = some v → Value.okWide P w .any 0 t v) →
    DataW.TrodAll enc P w 0 (fun _ => true) true ts vs ds ps → (∀ n ∈ DataW.weightsEach P ts ds, n ≤ reachBytes) → ∃ args, DL (full w) vs args ∧ ReadsArgs shs args ∧ bulkL args ≤ Go.Proofs.YtokkencbpmjdaaaGreat.Rows.uptoBulkAll ds
  | [], [], vs, ds, ps, _, _, h, _ => by
    obtain ⟨rfl, rfl, rfl⟩ := trodAll_nil h
    exact ⟨[], .nil, rfl, by simp [bulkL]⟩
  | [], _ :: _, _, _, _, hs, _, _, _ => by simp [shsOK] at hs
  | _ :: _, [], _, _, _, hs, _, _, _ => by simp [shsOK] at hs
  | s :: ss, t :: ts, vs, ds, ps, hs, hok, h, hw => by
    obtain ⟨v, vs', d, ds', p, q, rfl, rfl, rfl, h1, h2⟩ := trodAll_cons h
    simp only [shsOK, Bool.and_eq_true] at hs
    simp only [DataW.weightsEach, List.mem_append] at hw
    obtain ⟨a, g1, g2, g3⟩ := read_arg hs.1 (hok 0 t v rfl rfl) h1 (fun n hn => hw n (.inl hn))
    obtain ⟨args, k1, k2, k3⟩ := read_args hs.2 (fun j t v hj hv => hok (j + 1) t v (by simpa using hj) (by simpa using hv)) h2 (fun n hn => hw n (.inr hn))
    exact ⟨a :: args, .cons _ _ _ _ g1 k1, ⟨a, args, rfl, g2, k2⟩, by simp only [bulkL, Go.Proofs.YtokkencbpmjdaaaGreat.Rows.uptoBulkAll]; omega⟩

theorem below_trodAll (hl : laidOutB P = true) {W W' : World} (hb : Below W.heap.size W W') : ∀ {ts : List TypeId} {vs : List Value} {ds : List (DataW H)} {ps : List MemPlace}, (∀ t ∈ ts, P.readableRec t = true ∧ t < P.types.size) →
    DataW.TrodAll enc P W 0 (fun _ => true) true ts vs ds ps → DataW.TrodAll enc P W' 0 (fun b => decide (b < W.heap.size)) true ts vs ds ps
  | [], vs, ds, ps, _, h => by
    obtain ⟨rfl, rfl, rfl⟩ := trodAll_nil h
    exact trodAll_mk0
  | t :: ts, vs, ds, ps, hr, h => by
    have hlt := h.lt
    obtain ⟨v, vs', d, ds', p, q, rfl, rfl, rfl, h1, h2⟩ := trodAll_cons h
    exact trodAll_cons_mk (Below.trod hl (hr t (by simp)).1 (hr t (by simp)).2 h1 hb fun x hx => hlt x (by simp [hx])) (below_trodAll hl hb (fun t ht => hr t (by simp [ht])) h2)

theorem law_contract {f : FuncId} {fn : Func} {s : ChangeSpec} {tb : TypeId} {shs : List Sh} {Q : List AV → Prop} (hl : laidOutB P = true) (hv : s.vars = []) (hres : fn.resultTypes = #[tb]) (hb : P.underlying tb = some .bool)
    (hspec : ∀ ds : List (DataW H), ds.length = shs.length → s.fn H ds = { results := [.lit (.bool true)], args := ds }) (hsh : shsOK P shs fn.params.toList = true) (hrd : (fn.params.toList.all fun t => P.readableRec t && decide (t < P.types.size)) = true)
    (law : ∀ args, ReadsArgs shs args → Q args → PSpec P f args (.s (.bool true)))
    {W : World} {base : Nat} {args : Array Value} {ds gs : List (DataW H)} {before : List MemPlace} (hval : ∀ (j : Nat) t v, fn.params[j]? = some t → args[j]? = some v → Value.okWide P W .any base t v)
    (hW : DataW.Whole enc P fn.params.toList s.vars false W args.toList ds gs before) {vt : List TypeId} (hwt : (DataW.weightsEach P (fn.params.toList ++ vt) (ds ++ gs)).all (· ≤ reachBytes) = true) (hvt : vt = []) (hq : ∀ a, bulkL a ≤ Go.Proofs.YtokkencbpmjdaaaGreat.Rows.uptoBulkAll (ds ++ gs) → Q a) :
    Calls P f args W fun e W' => ∃ v, e = .returned v ∧ s.post enc P fn false true false false W args v W' := by
  have hW' := hW
  obtain ⟨p, q, hA, hV, rfl, hfz, hnd⟩ := hW
  rw [hv] at hV
  obtain ⟨rfl, rfl⟩ := trodVars_none hV
  subst hvt
  rw [List.append_nil, List.append_nil] at hwt
  obtain ⟨av, h1, h2, h3⟩ := read_args (P := P) (w := W) hsh (fun j t v hj hvv => Value.okWide_any_base (hval j t v (by simpa using hj) (by simpa using hvv))) hA (fun n hn => by simpa using List.all_eq_true.1 hwt n hn)
  have hrd' : ∀ t ∈ fn.params.toList, P.readableRec t = true ∧ t < P.types.size := fun t ht => by
    have := List.all_eq_true.1 hrd t ht
    simpa using this
  have hlen : ds.length = shs.length := by
    have hl1 : ∀ {ts : List TypeId} {vs : List Value} {ds : List (DataW H)} {ps : List MemPlace}, DataW.TrodAll enc P W 0 (fun _ => true) true ts vs ds ps → ds.length = ts.length := by
      intro ts
      induction ts with
      | nil => intro vs ds ps h; obtain ⟨_, rfl, _⟩ := trodAll_nil h; rfl
      | cons t ts ih => intro vs ds ps h; obtain ⟨v, vs', d, ds', p, q, rfl, rfl, rfl, _, h2⟩ := trodAll_cons h; simp [ih h2]
    have hl2 : ∀ {shs : List Sh} {ts : List TypeId}, shsOK P shs ts = true → shs.length = ts.length := by
      intro shs
      induction shs with
      | nil => intro ts h; cases ts; rfl; simp [shsOK] at h
      | cons s ss ih => intro ts h; cases ts; simp [shsOK] at h; simp only [shsOK, Bool.and_eq_true] at h; simp [ih h.2]
    rw [hl1 hA, hl2 hsh]
  have e : args = args.toList.toArray := by simp
  rw [e]
  refine (law av h2 (hq av (by simpa using h3)) W (full W) args.toList (full_ok W) h1).mono fun e W' hpost => ?_
  obtain ⟨v, H', rfl, hD, _, _, _, hBW⟩ := hpost
  have hB : Below W.heap.size W W' := ⟨hBW.os, hBW.tape, hBW.output, hBW.size, fun k hk => hBW.block k hk (fun ⟨_, h⟩ => h)⟩
  obtain rfl : v = .bool true := (R.s_inv (ε := fun _ => none) (.d _ _ hD)).1
  refine ⟨_, rfl, ds, [], p ++ [], [], p, [], ?_, ?_, ?_, ?_, ?_, fun h => by cases h⟩
  · simpa using hW'
  · rw [hres, List.append_nil, hspec ds hlen]
    exact trodAll_cons_mk (shut_bool hb true) trodAll_mk0
  · rw [List.append_nil, hspec ds hlen]
    simpa using below_trodAll hl hB hrd' hA
  · rw [hv, List.append_nil, hspec ds hlen]; rfl
  · exact hB.frame _
end
end Go.Sy
end
section
set_option linter.unusedVariables false
namespace Go.Sy

theorem map_of {α : Type} {f : α → List AV} {Q : α → Prop} : ∀ {es : List (List AV)}, (∀ x ∈ es, ∃ y, x = f y ∧ Q y) → ∃ l : List α, es = l.map f ∧ ∀ y ∈ l, Q y
  | [], _ => ⟨[], rfl, by simp⟩
  | x :: es, h => by
    obtain ⟨y, h1, h2⟩ := h x (by simp)
    obtain ⟨l, h3, h4⟩ := map_of (f := f) (Q := Q) (es := es) fun x hx => h x (by simp [hx])
    exact ⟨y :: l, by simp [h1, h3], fun z hz => by rcases List.mem_cons.1 hz with rfl | hz; exact h2; exact h4 z hz⟩
end Go.Sy
end

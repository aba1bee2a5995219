/- The symbolic layer, twenty-third part: a law's contract gives what its row asks. No condition. -/
import Derived.Test.YtlehonipilpfdaaSyV
import Derived.Carry
set_option linter.unusedVariables false
namespace Go.Sy
open Go.RowKit Go.ChangeShapes Go.WideShapes Go.ChangeAt

def ReadsArg : Sh → AV → Prop
  | .agg fs, a => ∃ cx, a = .agg cx ∧ ReadsL fs cx
  | .int k, a => Reads (.int k) [a]
  | .bool, a => Reads .bool [a]
  | .str, a => Reads .str [a]
  | .sl n b e, a => Reads (.sl n b e) [a]
def ReadsArgs : List Sh → List AV → Prop
  | [], l => l = []
  | s :: ss, l => ∃ a m, l = a :: m ∧ ReadsArg s a ∧ ReadsArgs ss m
def shsOK (P : Program) : List Sh → List TypeId → Bool
  | [], [] => true
  | s :: ss, t :: ts => shOK P s t && shsOK P ss ts
  | _, _ => false

section
variable {H : Type} {enc : TypeId × Value → H} {P : Program} {w : World}

theorem read_arg {sh : Sh} {t : TypeId} {v : Value} {d : DataW H} {ps : List MemPlace} {r : Reach} {base : Nat} (hs : shOK P sh t = true) (hok : Value.okWide P w r base t v) (h : DataW.Trod enc P w 0 (fun _ => true) true t v d ps) (hw : ∀ n ∈ d.weights P t, n ≤ reachBytes) :
    ∃ a, D (full w) v a ∧ ReadsArg sh a ∧ bulk a ≤ Go.Proofs.Ytlehonipilpfdaa.Rows.uptoBulk d := by
  obtain ⟨fuel, h⟩ := h
  obtain ⟨cx, h1, h2, h3, h4, h5⟩ := read sh t fuel _ d ps hs h hw
  have one : v.cells.toList = [v] → (∀ a, Reads sh [a] → ReadsArg sh a) → cx.length = 1 → ∃ a, D (full w) v a ∧ ReadsArg sh a ∧ bulk a ≤ Go.Proofs.Ytlehonipilpfdaa.Rows.uptoBulk d := by
    intro hc hra hl
    rw [hc] at h1
    match cx, hl with
    | [a], _ =>
      cases h1 with
      | cons _ _ _ _ hd _ =>
        simp only [bulkL] at h4
        exact ⟨a, hd, hra a h2, by omega⟩
  cases sh with
  | int k =>
    simp only [shOK] at hs
    split at hs
    · rename_i k' hu
      obtain ⟨n, rfl⟩ := okWide_int hu hok
      exact one rfl (fun _ h => h) h3
    · cases hs
  | bool =>
    simp only [shOK] at hs
    split at hs
    · rename_i hu
      obtain ⟨n, rfl⟩ := okWide_bool hu hok
      exact one rfl (fun _ h => h) h3
    · cases hs
  | str =>
    simp only [shOK] at hs
    split at hs
    · rename_i hu
      obtain ⟨n, rfl⟩ := okWide_string hu hok
      exact one rfl (fun _ h => h) h3
    · cases hs
  | sl n b e =>
    simp only [shOK] at hs
    split at hs
    · rename_i u hu
      obtain ⟨a, len, cap, rfl⟩ := okWide_slice hu hok
      exact one rfl (fun _ h => h) h3
    · cases hs
  | agg fs =>
    simp only [shOK] at hs
    split at hs
    · rename_i gs hu
      obtain ⟨cs, rfl, _⟩ := okWide_struct hu hok
      have h1' : DL (full w) cs.toList cx := h1
      refine ⟨.agg cx, ?_, ⟨cx, rfl, h2⟩, by simp only [bulk]; exact h4⟩
      have := D.agg (H := full w) cs.toList cx h1'
      simpa using this
    · cases hs

theorem read_args : ∀ {shs : List Sh} {ts : List TypeId} {vs : List Value} {ds : List (DataW H)} {ps : List MemPlace}, shsOK P shs ts = true → (∀ (j : Nat) t v, ts[j]? = some t → vs[j]? = some v → Value.okWide P w .any 0 t v) →
    DataW.TrodAll enc P w 0 (fun _ => true) true ts vs ds ps → (∀ n ∈ DataW.weightsEach P ts ds, n ≤ reachBytes) → ∃ args, DL (full w) vs args ∧ ReadsArgs shs args ∧ bulkL args ≤ Go.Proofs.Ytlehonipilpfdaa.Rows.uptoBulkAll ds
  | [], [], vs, ds, ps, _, _, h, _ => by
    obtain ⟨rfl, rfl, rfl⟩ := trodAll_nil h
    exact ⟨[], .nil, rfl, by simp [bulkL]⟩
  | [], _ :: _, _, _, _, hs, _, _, _ => by simp [shsOK] at hs
  | _ :: _, [], _, _, _, hs, _, _, _ => by simp [shsOK] at hs
  | s :: ss, t :: ts, vs, ds, ps, hs, hok, h, hw => by
    obtain ⟨v, vs', d, ds', p, q, rfl, rfl, rfl, h1, h2⟩ := trodAll_cons h
    simp only [shsOK, Bool.and_eq_true] at hs
    simp only [DataW.weightsEach, List.mem_append] at hw
    obtain ⟨a, g1, g2, g3⟩ := read_arg hs.1 (hok 0 t v rfl rfl) h1 (fun n hn => hw n (.inl hn))
    obtain ⟨args, k1, k2, k3⟩ := read_args hs.2 (fun j t v hj hv => hok (j + 1) t v (by simpa using hj) (by simpa using hv)) h2 (fun n hn => hw n (.inr hn))
    exact ⟨a :: args, .cons _ _ _ _ g1 k1, ⟨a, args, rfl, g2, k2⟩, by simp only [bulkL, Go.Proofs.Ytlehonipilpfdaa.Rows.uptoBulkAll]; omega⟩

theorem below_trodAll (hl : laidOutB P = true) {W W' : World} (hb : Below W.heap.size W W') : ∀ {ts : List TypeId} {vs : List Value} {ds : List (DataW H)} {ps : List MemPlace}, (∀ t ∈ ts, P.readableRec t = true ∧ t < P.types.size) →
    DataW.TrodAll enc P W 0 (fun _ => true) true ts vs ds ps → DataW.TrodAll enc P W' 0 (fun b => decide (b < W.heap.size)) true ts vs ds ps
  | [], vs, ds, ps, _, h => by
    obtain ⟨rfl, rfl, rfl⟩ := trodAll_nil h
    exact trodAll_mk0
  | t :: ts, vs, ds, ps, hr, h => by
    have hlt := h.lt
    obtain ⟨v, vs', d, ds', p, q, rfl, rfl, rfl, h1, h2⟩ := trodAll_cons h
    exact trodAll_cons_mk (Below.trod hl (hr t (by simp)).1 (hr t (by simp)).2 h1 hb fun x hx => hlt x (by simp [hx])) (below_trodAll hl hb (fun t ht => hr t (by simp [ht])) h2)

/-- What a law's contract gives. -/
theorem law_contract {f : FuncId} {fn : Func} {s : ChangeSpec} {tb : TypeId} {shs : List Sh} {Q : List AV → Prop} (hl : laidOutB P = true) (hv : s.vars = []) (hres : fn.resultTypes = #[tb]) (hb : P.underlying tb = some .bool)
    (hspec : ∀ ds : List (DataW H), ds.length = shs.length → s.fn H ds = { results := [.lit (.bool true)], args := ds }) (hsh : shsOK P shs fn.params.toList = true) (hrd : (fn.params.toList.all fun t => P.readableRec t && decide (t < P.types.size)) = true)
    (law : ∀ args, ReadsArgs shs args → Q args → PSpec P f args (.s (.bool true)))
    {W : World} {base : Nat} {args : Array Value} {ds gs : List (DataW H)} {before : List MemPlace} (hval : ∀ (j : Nat) t v, fn.params[j]? = some t → args[j]? = some v → Value.okWide P W .any base t v)
    (hW : DataW.Whole enc P fn.params.toList s.vars false W args.toList ds gs before) {vt : List TypeId} (hwt : (DataW.weightsEach P (fn.params.toList ++ vt) (ds ++ gs)).all (· ≤ reachBytes) = true) (hvt : vt = []) (hq : ∀ a, bulkL a ≤ Go.Proofs.Ytlehonipilpfdaa.Rows.uptoBulkAll (ds ++ gs) → Q a) :
    Calls P f args W fun e W' => ∃ v, e = .returned v ∧ s.post enc P fn false true false false W args v W' := by
  have hW' := hW
  obtain ⟨p, q, hA, hV, rfl, hfz, hnd⟩ := hW
  rw [hv] at hV
  obtain ⟨rfl, rfl⟩ := trodVars_none hV
  subst hvt
  rw [List.append_nil, List.append_nil] at hwt
  obtain ⟨av, h1, h2, h3⟩ := read_args (P := P) (w := W) hsh (fun j t v hj hvv => Value.okWide_any_base (hval j t v (by simpa using hj) (by simpa using hvv))) hA (fun n hn => by simpa using List.all_eq_true.1 hwt n hn)
  have hrd' : ∀ t ∈ fn.params.toList, P.readableRec t = true ∧ t < P.types.size := fun t ht => by
    have := List.all_eq_true.1 hrd t ht
    simpa using this
  have hlen : ds.length = shs.length := by
    have hl1 : ∀ {ts : List TypeId} {vs : List Value} {ds : List (DataW H)} {ps : List MemPlace}, DataW.TrodAll enc P W 0 (fun _ => true) true ts vs ds ps → ds.length = ts.length := by
      intro ts
      induction ts with
      | nil => intro vs ds ps h; obtain ⟨_, rfl, _⟩ := trodAll_nil h; rfl
      | cons t ts ih => intro vs ds ps h; obtain ⟨v, vs', d, ds', p, q, rfl, rfl, rfl, _, h2⟩ := trodAll_cons h; simp [ih h2]
    have hl2 : ∀ {shs : List Sh} {ts : List TypeId}, shsOK P shs ts = true → shs.length = ts.length := by
      intro shs
      induction shs with
      | nil => intro ts h; cases ts; rfl; simp [shsOK] at h
      | cons s ss ih => intro ts h; cases ts; simp [shsOK] at h; simp only [shsOK, Bool.and_eq_true] at h; simp [ih h.2]
    rw [hl1 hA, hl2 hsh]
  have e : args = args.toList.toArray := by simp
  rw [e]
  refine (law av h2 (hq av (by simpa using h3)) W (full W) args.toList (fun b o v h => h) h1).mono fun e W' hpost => ?_
  obtain ⟨v, H', rfl, hD, _, _, _, hB⟩ := hpost
  obtain rfl : v = .bool true := (R.s_inv (ε := fun _ => none) (.d _ _ hD)).1
  refine ⟨_, rfl, ds, [], p ++ [], [], p, [], ?_, ?_, ?_, ?_, ?_, fun h => by cases h⟩
  · simpa using hW'
  · rw [hres, List.append_nil, hspec ds hlen]
    exact trodAll_cons_mk (shut_bool hb true) trodAll_mk0
  · rw [List.append_nil, hspec ds hlen]
    simpa using below_trodAll hl hB hrd' hA
  · rw [hv, List.append_nil, hspec ds hlen]; rfl
  · exact hB.frame _
end
end Go.Sy

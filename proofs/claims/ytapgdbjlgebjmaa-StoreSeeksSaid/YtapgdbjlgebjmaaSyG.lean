/- The symbolic layer, seventh part: literals of slices and structs, parts of slices and strings, conversions. No condition. -/
import Derived.Test.YtapgdbjlgebjmaaSyF
set_option linter.unusedVariables false
namespace Go.Sy

theorem foldl_write' (off : Nat) (C : List Value) : ∀ (l : List Value) (k : Nat) (A B : List Value), A.length = off + k → B.length = l.length →
    (l.zipIdx k).foldl (fun cs (x : Value × Nat) => cs.setIfInBounds (off + x.2) x.1) (A ++ (B ++ C)).toArray = (A ++ (l ++ C)).toArray
  | [], k, A, B, _, hB => by
    have : B = [] := List.eq_nil_of_length_eq_zero (by simpa using hB)
    subst this; simp
  | v :: l, k, A, B, hA, hB => by
    match B, hB with
    | b :: B, hB =>
      have h : (A ++ (b :: B ++ C)).toArray.setIfInBounds (off + k) v = ((A ++ [v]) ++ (B ++ C)).toArray := by
        rw [← hA]; simp
      simp only [List.zipIdx_cons, List.foldl_cons]
      rw [h, foldl_write' off C l (k + 1) (A ++ [v]) B (by simp; omega) (by simpa using hB)]
      simp

theorem foldl_write (off : Nat) (l : List Value) (cs : Array Value) (h : off + l.length ≤ cs.size) :
    l.zipIdx.foldl (fun cs (x : Value × Nat) => cs.setIfInBounds (off + x.2) x.1) cs = (cs.toList.take off ++ l ++ cs.toList.drop (off + l.length)).toArray := by
  have h1 := foldl_write' off (cs.toList.drop (off + l.length)) l 0 (cs.toList.take off) ((cs.toList.drop off).take l.length) (by simp; omega) (by simp; omega)
  have h2 : (cs.toList.take off ++ ((cs.toList.drop off).take l.length ++ cs.toList.drop (off + l.length))).toArray = cs := by
    rw [← List.drop_drop, List.take_append_drop, List.take_append_drop]
  rw [h2] at h1
  rw [h1, List.append_assoc]

theorem fill_cons (place : Nat → Option (Nat × Nat)) (cells : Array Value) (i off size : Nat) (v : Value) (rest : List (Nat × Value)) (hp : place i = some (off, size)) (h1 : v.cells.size = size) (h2 : off + size ≤ cells.size) :
    Instr.fill place cells ((i, v) :: rest) = Instr.fill place (cells.toList.take off ++ v.cells.toList ++ cells.toList.drop (off + size)).toArray rest := by
  subst h1
  have hc : ¬ ((v.cells.size ≠ v.cells.size || off + v.cells.size > cells.size) = true) := by simp; omega
  have hw : v.cells.zipIdx.foldl (fun cs (x : Value × Nat) => cs.setIfInBounds (off + x.2) x.1) cells = (cells.toList.take off ++ v.cells.toList ++ cells.toList.drop (off + v.cells.size)).toArray := by
    have := foldl_write off v.cells.toList cells (by simpa using h2)
    rw [← Array.foldl_toList, Array.toList_zipIdx, this]
    simp
  rw [Instr.fill]
  simp only [hp, if_neg hc]
  exact congrArg (fun c => Instr.fill place c rest) hw

/-- The cells of a struct, some of its fields given. -/
def buildAV (fields : List (Option (Nat × Nat × Bool))) : List AV → List (Nat × AV) → Option (List AV)
  | cs, [] => some cs
  | cs, (i, a) :: rest =>
    match fields[i]? with
    | some (some (off, n, _)) => if a.cells.length = n ∧ off + n ≤ cs.length ∧ a.cells.all AV.one = true then buildAV fields (cs.take off ++ a.cells ++ cs.drop (off + n)) rest else none
    | _ => none

theorem one_or_agg {a : AV} (h : a.cells.all AV.one = true) : a.one = true ∨ ∃ cs, a = .agg cs := by
  cases a <;> first | exact .inr ⟨_, rfl⟩ | (left; simpa [AV.cells] using h)

theorem fill_build {H : View} {ε : Env} {fields : List (Option (Nat × Nat × Bool))} {place : Nat → Option (Nat × Nat)} (hpl : ∀ i off n ag, fields[i]? = some (some (off, n, ag)) → place i = some (off, n)) :
    ∀ (parts : List (Nat × AV)) (vs : List (Nat × Value)) (cs : List AV) (cells : Array Value) (r : List AV), RL H ε cells.toList cs → vs.map (·.1) = parts.map (·.1) → (∀ (j : Nat) (x : Nat × Value) (y : Nat × AV), vs[j]? = some x → parts[j]? = some y → R H ε x.2 y.2) →
      buildAV fields cs parts = some r → ∃ out, Instr.fill place cells vs = some out ∧ RL H ε out.toList r
  | [], [], cs, cells, r, hr, _, _, h => by
    simp [buildAV] at h; subst h
    exact ⟨cells, rfl, hr⟩
  | [], _ :: _, _, _, _, _, hm, _, _ => by simp at hm
  | _ :: _, [], _, _, _, _, hm, _, _ => by simp at hm
  | (i, a) :: parts, (i', v) :: vs, cs, cells, r, hr, hm, hx, h => by
    simp at hm
    obtain ⟨rfl, hm⟩ := hm
    unfold buildAV at h
    split at h
    · rename_i off n ag hf
      split at h
      · rename_i hc
        obtain ⟨h1, h2, h3⟩ := hc
        have hv : R H ε v a := hx 0 (i', v) (i', a) rfl rfl
        have hcl := hv.cells (one_or_agg h3)
        have hlen := hr.length_eq
        have hvl := hcl.length_eq
        rw [fill_cons place cells i' off n v vs (hpl _ _ _ _ hf) (by simp at hvl; omega) (by simp at hlen; omega)]
        refine fill_build hpl parts vs _ _ r ?_ hm (fun j x y h4 h5 => hx (j + 1) x y (by simpa using h4) (by simpa using h5)) h
        simpa using ((hr.take off).append hcl).append (hr.drop (off + n))
      · cases h
    · cases h

theorem places_of {P : Program} : ∀ (fs : List Field), (fs.map (tyField P)).all Option.isSome = true → ∃ places, fs.mapM (fun f => (P.info? f.type).map fun i => (f.offset, i.size)) = some places ∧
    ∀ (i off n : Nat) (ag : Bool), (fs.map (tyField P))[i]? = some (some (off, n, ag)) → places[i]? = some (off, n)
  | [], _ => ⟨[], rfl, by simp⟩
  | f :: fs, h => by
    simp only [List.map_cons, List.all_cons, Bool.and_eq_true] at h
    obtain ⟨places, h1, h2⟩ := places_of fs h.2
    obtain ⟨q, hq⟩ := Option.isSome_iff_exists.1 h.1
    have hq' := hq
    unfold tyField at hq'
    split at hq'
    · rename_i fi fd hfi hfd
      cases hq'
      refine ⟨(f.offset, fi.size) :: places, by simp [List.mapM_cons, hfi, h1], ?_⟩
      intro i off n ag hi
      cases i with
      | zero => simp [hq] at hi; obtain ⟨rfl, rfl, _⟩ := hi; rfl
      | succ i => simp at hi; simpa using h2 i off n ag (by simpa using hi)
    · cases hq'

theorem slice_inv {P : Program} {t e : TypeId} {T : TY} (hT : ty P t = some T) (hk : T.kd = .slice e) : P.underlying t = some (.slice e) := by
  obtain ⟨inf, d, z, hi, hd, hz, _, _, hkd, _⟩ := ty_inv hT
  rw [hkd] at hk
  cases d <;> simp [kdOf] at hk
  subst hk; exact hd

section
variable {P : Program} {nb : Nat} {t : TypeId} {σ : St}

theorem opS_build (t' : TypeId) (parts : Array (Nat × Operand)) (T : TY) (r : List AV) (hT : ty P t' = some T) (hk : T.kd = .struct) (hz1 : T.zero.all (·.oneCell') = true) (hf : T.fields.all Option.isSome = true)
    (h : buildAV T.fields (T.zero.map .s) (parts.toList.map fun x => (x.1, σ.ev x.2)) = some r) : OpS P nb (.build t' parts) t σ (.agg r) σ.ob :=
  .pure fun c H ε ρ w o ho _ hm hr => by
    obtain ⟨inf, d, z, hi, hd, hz, _, _, hkd, hzs, hfs⟩ := ty_inv hT
    rw [hkd] at hk
    cases d <;> simp [kdOf] at hk
    rename_i fs
    simp only at hfs
    rw [hfs] at hf h
    obtain ⟨places, hp1, hp2⟩ := places_of fs.toList hf
    have hRz : RL H ε z.cells.toList (T.zero.map .s) := by rw [hzs] at hz1 ⊢; exact .of_DL (DL_consts H _ hz1)
    obtain ⟨out, ho1, ho2⟩ := fill_build (H := H) (ε := ε) (place := (places.toArray[·]?)) (fun i off n ag hi' => by simpa using hp2 i off n ag hi') (parts.toList.map fun x => (x.1, σ.ev x.2)) (parts.toList.map fun x => (x.1, ρ x.2)) _ z.cells r hRz (by simp)
      (fun j x y h1 h2 => by
        simp only [List.getElem?_map, Option.map_eq_some_iff] at h1 h2
        obtain ⟨q, hq, rfl⟩ := h1
        obtain ⟨q', hq', rfl⟩ := h2
        rw [hq] at hq'; cases hq'
        exact hr q.2) h
    refine ⟨.agg out, ?_, ?_⟩
    · have hb : P.built t' (parts.map fun x => (x.1, ρ x.2)).toList = some out := by
        unfold Program.built
        simp only [hi, hd, hz, hp1]
        simpa using ho1
      have := run_build w t' (parts.map fun x => (x.1, ρ x.2)) out hb
      simp only [execOp, ho, Sem.run_bind, this, Result.andThen_ok, Sem.run_pure]
    · have := R.agg (H := H) (ε := ε) _ _ ho2
      simpa using this

/-- What may lie in a row that others read. -/
def AV.dat : AV → Option AV
  | .s v => some (.s v)
  | .sl sz es => some (.sl sz es)
  | .osl _ sz es => some (.sl sz es)
  | .ref cs => some (.ref cs)
  | _ => none

def datL : List AV → Option (List AV)
  | [] => some []
  | a :: l => match a.dat, datL l with
    | some a', some l' => some (a' :: l')
    | _, _ => none

theorem R.dat {H : View} {ε : Env} {v : Value} {a a' : AV} (h : R H ε v a) (ha : a.dat = some a') : D H v a' := by
  cases a <;> simp [AV.dat] at ha <;> subst ha
  · have := h.s_inv; rw [this.1]; exact .s _ this.2
  · exact h.sl_inv
  · exact h.osl_inv.1
  · obtain ⟨b, off, rfl, hd⟩ := h.ref_inv; exact .ref _ _ _ hd
theorem RL.dat {H : View} {ε : Env} : ∀ {vs : List Value} {l l' : List AV}, RL H ε vs l → datL l = some l' → DL H vs l'
  | _, [], l', h, ha => by simp [datL] at ha; subst ha; cases h; exact .nil
  | _, a :: l, l', h, ha => by
    unfold datL at ha
    split at ha
    · rename_i a' l'' h1 h2
      cases ha
      cases h with | cons v _ vs _ h t => exact .cons _ _ _ _ (h.dat h1) (RL.dat t h2)
    · cases ha
theorem datL_one : ∀ {l l' : List AV}, datL l = some l' → l.all AV.one = true ∧ l'.length = l.length
  | [], l', h => by simp [datL] at h; subst h; simp
  | a :: l, l', h => by
    unfold datL at h
    split at h
    · rename_i a' l'' h1 h2
      cases h
      have := datL_one h2
      refine ⟨?_, by simp [this.2]⟩
      simp only [List.all_cons, Bool.and_eq_true]
      exact ⟨by cases a <;> simp [AV.dat] at h1 <;> rfl, this.1⟩
    · cases h

/-- The elements of a literal slice. -/
def litRows (sz : Nat) : List AV → Option (List (List AV))
  | [] => some []
  | a :: l => match datL a.cells, litRows sz l with
    | some cs, some r => if cs.length = sz then some (cs :: r) else none
    | _, _ => none

theorem fill_lit {H : View} {ε : Env} {sz : Nat} {place : Nat → Option (Nat × Nat)} (hpl : ∀ i, place i = some (i * sz, sz)) : ∀ (as : List AV) (vs : List Value) (k : Nat) (done : List Value) (dcs : List AV) (zs : List Value) (es : List (List AV)),
    done.length = k * sz → zs.length = vs.length * sz → RL H ε vs as → litRows sz as = some es → DL H done dcs → (∀ u ∈ done, u.oneCell' = true) →
      ∃ out, Instr.fill place (done ++ zs).toArray ((vs.zipIdx k).map fun x => (x.2, x.1)) = some out ∧ DL H out.toList (dcs ++ es.flatten) ∧ (∀ u ∈ out.toList, u.oneCell' = true) ∧ (∀ e ∈ es, e.length = sz) ∧ es.length = vs.length
  | [], vs, k, done, dcs, zs, es, hd, hz, hr, hl, hdl, h1 => by
    cases hr
    simp [litRows] at hl; subst hl
    have : zs = [] := List.eq_nil_of_length_eq_zero (by simpa using hz)
    subst this
    exact ⟨done.toArray, by simp [Instr.fill], by simpa using hdl, by simpa using h1, by simp, rfl⟩
  | a :: as, vs, k, done, dcs, zs, es, hd, hz, hr, hl, hdl, h1 => by
    cases hr with
    | cons v _ vs _ h t =>
      unfold litRows at hl
      split at hl
      · rename_i cs r hcs hrest
        split at hl
        · rename_i hcl
          cases hl
          have ho := datL_one hcs
          have hc := h.cells (one_or_agg ho.1)
          have hcD := hc.dat hcs
          have hcone := hc.one (by simpa using ho.1)
          have hvl : v.cells.toList.length = sz := by rw [hc.length_eq, ← ho.2, hcl]
          have hzl : sz ≤ zs.length := by rw [hz, List.length_cons, Nat.add_mul]; omega
          obtain ⟨out, q1, q2, q3, q4, q5⟩ := fill_lit hpl as vs (k + 1) (done ++ v.cells.toList) (dcs ++ cs) (zs.drop sz) r (by rw [List.length_append, hd, hvl, Nat.add_mul]; omega) (by rw [List.length_drop, hz, List.length_cons, Nat.add_mul]; omega) t hrest (DL.append hdl hcD)
            (by intro u hu; rcases List.mem_append.1 hu with h' | h'; · exact h1 u h'
                · exact hcone u h')
          refine ⟨out, ?_, by simpa using q2, q3, by simpa [hcl] using q4, by simp [q5]⟩
          rw [List.zipIdx_cons, List.map_cons, fill_cons place _ k (k * sz) sz v _ (hpl k) (by simpa using hvl) (by simp; omega), ← q1]
          congr 1
          simp [← hd, List.drop_append, Nat.add_sub_cancel_left]
        · cases hl
      · cases hl

theorem opS_buildSlice (t' : TypeId) (len : Nat) (xs : List Operand) (parts : Array (Nat × Operand)) (T U : TY) (e : TypeId) (es : List (List AV)) (hT : ty P t' = some T) (hk : T.kd = .slice e) (hU : ty P e = some U)
    (hn0 : 0 < U.n) (hp : parts.toList = xs.zipIdx.map fun x => (x.2, x.1)) (hlen : xs.length = len) (hbig : len * U.n ≤ 16777216)
    (h : litRows U.n (xs.map σ.ev) = some es) : OpS P nb (.buildSlice t' len parts) t σ (.osl nb U.n es) (updOb σ.ob nb (.perm e U.n len)) :=
  .run fun c H ε ρ w o ho _ hm hr hf => by
    have hd := slice_inv hT hk
    obtain ⟨inf2, d2, z2, hi2, hd2, hz2, hn2, hb2, _, hzs2, _⟩ := ty_inv hU
    have hRL : RL H ε (xs.map ρ) (xs.map σ.ev) := by
      clear h hp hlen
      induction xs with
      | nil => exact .nil
      | cons x xs ih => exact .cons _ _ _ _ (hr x) ih
    let zero : Array Value := if len * inf2.size = 0 then #[] else z2.cells
    obtain ⟨zs, hzs⟩ : ∃ zs, zs = (Array.range (len * inf2.size)).map (fun i => zero[i % zero.size]!) := ⟨_, rfl⟩
    have hzl : zs.size = len * U.n := by rw [hzs, Array.size_map, Array.size_range, hn2]
    obtain ⟨out, q1, q2, q3, q4, q5⟩ := fill_lit (H := H) (ε := ε) (place := fun i => some (i * inf2.size, inf2.size)) (sz := U.n) (fun i => by rw [hn2]) (xs.map σ.ev) (xs.map ρ) 0 [] [] zs.toList es (by simp) (by simp [hzl, hlen]) hRL h .nil (by simp)
    have hesl : es.length = len := by rw [q5, List.length_map, hlen]
    have hq1 : Instr.fill (fun i => some (i * inf2.size, inf2.size)) zs (parts.map fun x => (x.1, ρ x.2)).toList = some out := by
      rw [← q1]
      congr 1
      rw [Array.toList_map, hp]
      simp [List.zipIdx_map, Function.comp_def]
    obtain ⟨H', r1, r2, r3⟩ := hm.newRow (fresh_here hf) (n := len) e hesl.symm q4 (by simpa using q2) q3 hn0 (by unfold maxLen; have : len ≤ len * U.n := Nat.le_mul_of_pos_right _ hn0; omega)
    refine ⟨.slice (some ⟨w.heap.size, 0, none⟩) len len, w.alloc (.cells out e), H', _, ?_, r1, Env.le_new (fresh_here hf), keep_new, r2, r3⟩
    have hbig' : ¬ len * inf2.size > 2 ^ 24 := by rw [← hn2]; omega
    have hrun : (Instr.buildSlice t' len (parts.map fun x => (x.1, ρ x.2))).run P w = .ok (.slice (some ⟨w.heap.size, 0, none⟩) len len) (w.alloc (.cells out e)) := by
      by_cases h0 : len * inf2.size = 0
      · have hz0 : zs = #[] := by rw [hzs, h0]; simp
        rw [hz0] at hq1
        have hz1 : ∀ f : Nat → Value, (Array.range 0).map f = #[] := fun f => by simp
        unfold Instr.buildSlice
        simp only [Sem.run_bind, run_underlying' hd, run_sizeOf' hi2, Result.andThen_ok, h0, if_true, hz1, hq1, newRow]
        rfl
      · simp only [zero, h0, if_false] at hzs
        rw [hzs] at hq1
        have hb : ¬ 16777216 < len * inf2.size := by omega
        simp [Instr.buildSlice, run_underlying' hd, run_sizeOf' hi2, h0, hb, run_zeroValue' hi2 hz2, newRow]
        simp at hq1
        simp [hq1]
    simp only [execOp, ho, Sem.run_bind, hrun, Result.andThen_ok, Sem.run_pure]
end
end Go.Sy

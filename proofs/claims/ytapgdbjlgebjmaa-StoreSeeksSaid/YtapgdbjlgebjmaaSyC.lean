/- The symbolic layer, third part: lists of cells in memory, new blocks, loads, stores. No condition. -/
import Derived.Test.YtapgdbjlgebjmaaSyB
import Derived.WalkSpells
namespace Go.Sy

theorem DM.to_list {H : View} {b : Nat} : ∀ {cs : List AV} {o : Nat}, DM H b o cs → ∃ vs : List Value, vs.length = cs.length ∧ (∀ j u, vs[j]? = some u → H b (o + j) = some u) ∧ DL H vs cs ∧ ∀ u ∈ vs, u.oneCell' = true
  | [], o, _ => ⟨[], rfl, by simp, .nil, by simp⟩
  | c :: cs, o, h => by
    cases h with
    | cons _ _ v _ _ hv h1 h t =>
      obtain ⟨vs, hl, hc, hd, ho⟩ := DM.to_list t
      refine ⟨v :: vs, by simp [hl], ?_, .cons _ _ _ _ h hd, by simpa using ⟨h1, ho⟩⟩
      intro j u hj
      cases j with
      | zero => simp at hj; subst hj; simpa using hv
      | succ j => simp at hj; rw [show o + (j + 1) = o + 1 + j by omega]; exact hc j u hj

theorem DM.of_list {H : View} {b : Nat} : ∀ {vs : List Value} {cs : List AV} {o : Nat}, DL H vs cs → (∀ j u, vs[j]? = some u → H b (o + j) = some u) → (∀ u ∈ vs, u.oneCell' = true) → DM H b o cs
  | [], cs, o, h, _, _ => by cases h; exact .nil _ _
  | v :: vs, cs, o, h, hc, h1 => by
    cases h with
    | cons _ c _ cs h t =>
      refine .cons _ _ v _ _ (by simpa using hc 0 v rfl) (h1 v (by simp)) h (DM.of_list t (fun j u hj => ?_) (fun u hu => h1 u (by simp [hu])))
      rw [show o + 1 + j = o + (j + 1) by omega]; exact hc (j + 1) u (by simpa using hj)

theorem DM.append_left {H : View} {b : Nat} : ∀ {cs ds : List AV} {o : Nat}, DM H b o (cs ++ ds) → DM H b o cs
  | [], _, _, _ => .nil _ _
  | c :: cs, ds, o, h => by cases h with | cons _ _ v _ _ hv h1 h t => exact .cons _ _ v _ _ hv h1 h (DM.append_left t)
theorem DM.append_right {H : View} {b : Nat} : ∀ {cs ds : List AV} {o : Nat}, DM H b o (cs ++ ds) → DM H b (o + cs.length) ds
  | [], _, _, h => by simpa using h
  | c :: cs, ds, o, h => by
    cases h with | cons _ _ v _ _ hv h1 h t =>
      have := DM.append_right t
      simpa [Nat.add_assoc, Nat.add_comm 1] using this
theorem DM.drop {H : View} {b : Nat} {cs : List AV} {o : Nat} (h : DM H b o cs) (n : Nat) (hn : n ≤ cs.length) : DM H b (o + n) (cs.drop n) := by
  have h' := h
  rw [← List.take_append_drop n cs] at h'
  have := DM.append_right h'
  rwa [List.length_take, Nat.min_eq_left hn] at this
theorem DM.take {H : View} {b : Nat} {cs : List AV} {o : Nat} (h : DM H b o cs) (n : Nat) : DM H b o (cs.take n) := by
  rw [← List.take_append_drop n cs] at h
  exact DM.append_left h

theorem flatten_length {sz : Nat} : ∀ {es : List (List AV)}, (∀ e ∈ es, e.length = sz) → es.flatten.length = es.length * sz
  | [], _ => by simp
  | e :: es, h => by
    rw [List.flatten_cons, List.length_append, h e (by simp), flatten_length (es := es) (fun x hx => h x (by simp [hx])), List.length_cons, Nat.add_mul]
    omega
/-- An element of a row. -/
theorem DM.elem {H : View} {b : Nat} {sz : Nat} : ∀ {es : List (List AV)} {o i : Nat} {e : List AV}, DM H b o es.flatten → (∀ e ∈ es, e.length = sz) → es[i]? = some e → DM H b (o + i * sz) e
  | [], _, _, _, _, _, hi => by simp at hi
  | e0 :: es, o, i, e, h, hs, hi => by
    rw [List.flatten_cons] at h
    cases i with
    | zero => simp at hi; subst hi; simpa using DM.append_left h
    | succ i =>
      have h2 := DM.append_right h
      rw [hs e0 (by simp)] at h2
      have := DM.elem h2 (fun x hx => hs x (by simp [hx])) (by simpa using hi)
      rw [show o + (i + 1) * sz = o + sz + i * sz by rw [Nat.add_mul]; omega]
      exact this
theorem DM.dropRows {H : View} {b : Nat} {sz : Nat} : ∀ {es : List (List AV)} {o n : Nat}, DM H b o es.flatten → (∀ e ∈ es, e.length = sz) → n ≤ es.length → DM H b (o + n * sz) (es.drop n).flatten
  | es, o, 0, h, _, _ => by simpa using h
  | [], o, n + 1, h, _, hn => by simp at hn
  | e0 :: es, o, n + 1, h, hs, hn => by
    rw [List.flatten_cons] at h
    have h2 := DM.append_right h
    rw [hs e0 (by simp)] at h2
    have := DM.dropRows (n := n) h2 (fun x hx => hs x (by simp [hx])) (by simpa using hn)
    rw [show o + (n + 1) * sz = o + sz + n * sz by rw [Nat.add_mul]; omega]
    simpa using this
theorem DM.takeRows {H : View} {b : Nat} {es : List (List AV)} {o n : Nat} (h : DM H b o es.flatten) : DM H b o (es.take n).flatten := by
  rw [← List.take_append_drop n es, List.flatten_append] at h
  exact DM.append_left h

theorem add_eq (b o j : Nat) : (⟨b, o, none⟩ : Addr).add j = ⟨b, o + j, none⟩ := by
  unfold Addr.add; split <;> simp_all

theorem run_loadCells' {P : Program} {w : World} {b o : Nat} {vs : List Value} (h : ∀ j u, vs[j]? = some u → w.cell? ⟨b, o + j, none⟩ = some u) : (loadCells ⟨b, o, none⟩ vs.length).run P w = .ok vs.toArray w :=
  run_loadCells_list w ⟨b, o, none⟩ vs fun j v hj => by rw [add_eq]; exact h j v hj

/-- What a variable's type makes of cells. -/
def ofCells (agg : Bool) (cs : List AV) : AV := if agg then .agg cs else cs.headD .junk

theorem run_loadVar' {P : Program} {w : World} {t : TypeId} {T : TY} (hT : ty P t = some T) {b o : Nat} {vs : List Value} (hl : vs.length = T.n) (h1 : T.kd.agg = false → T.n = 1)
    (h : ∀ j u, vs[j]? = some u → w.cell? ⟨b, o + j, none⟩ = some u) :
    (loadVar t ⟨b, o, none⟩).run P w = .ok (if T.kd.agg then .agg vs.toArray else vs.headD undef) w := by
  obtain ⟨i, d, z, hi, hd, hz, hn, hb, hk, _⟩ := ty_inv hT
  have ha : isAggD d = T.kd.agg := by rw [hk, kdOf_agg]
  unfold loadVar
  simp only [Sem.run_bind, run_isAgg' hd, Result.andThen_ok, ha]
  cases hagg : T.kd.agg
  · have := h1 hagg
    obtain ⟨v, rfl⟩ : ∃ v, vs = [v] := by
      match vs, hl with
      | [v], _ => exact ⟨v, rfl⟩
      | [], hl => simp at hl; omega
      | _ :: _ :: _, hl => simp at hl; omega
    have hc := h 0 v rfl
    simp at hc
    simp [run_load, hc]
  · simp only [if_true, Sem.run_bind, run_sizeOf' hi, Result.andThen_ok, ← hn, ← hl, run_loadCells' h]
    rfl

theorem R_ofCells {H : View} {ε : Env} {agg : Bool} {vs : List Value} {cs : List AV} (h : RL H ε vs cs) : R H ε (if agg then .agg vs.toArray else vs.headD undef) (ofCells agg cs) := by
  unfold ofCells
  cases agg
  · cases h with
    | nil => exact .junk _
    | cons v c _ _ h _ => exact h
  · exact .agg _ _ h

section
variable {P : Program} {nb : Nat} {t : TypeId} {σ : St}

theorem opS_load_ref (t' : TypeId) (x : Operand) (T : TY) (cs : List AV) (hT : ty P t' = some T) (h1 : T.kd.agg = false → T.n = 1) (hx : σ.ev x = .ref cs) (hn : T.n ≤ cs.length) :
    OpS P nb (.load t' x) t σ (ofCells T.kd.agg (cs.take T.n)) σ.ob :=
  .pure fun c H ε ρ w o ho _ hm hr => by
    have hc := hr x; rw [hx] at hc
    obtain ⟨b, off, hv, hd⟩ := hc.ref_inv
    obtain ⟨vs, hl, hcell, hdl, _⟩ := (hd.take T.n).to_list
    have hl' : vs.length = T.n := by rw [hl, List.length_take]; omega
    refine ⟨_, ?_, R_ofCells (agg := T.kd.agg) (.of_DL hdl)⟩
    simp only [execOp, ho, Instr.loadAt, hv, Instr.sureAddr, Sem.run_bind, Sem.run_pure, Result.andThen_ok, run_loadVar' hT hl' h1 fun j u hj => hm.view _ _ _ (hcell j u hj)]

theorem ObOK.box {H : View} {ε : Env} {w : World} {id : Nat} {cs : List AV} (h : ObOK H ε w id (.box cs)) {b : Nat} (hb : ε id = some (.blk b)) :
    ∃ arr T, w.heap[b]? = some (.cells arr T (0, 0)) ∧ RL H ε arr.toList cs ∧ (∀ v ∈ arr.toList, v.oneCell' = true) ∧ ∀ o, H b o = none := by
  obtain ⟨b', arr, T, hb', h⟩ := h
  rw [hb] at hb'; cases hb'
  exact ⟨arr, T, h⟩

theorem opS_load_ptr (t' : TypeId) (x : Operand) (T : TY) (id off : Nat) (cs : List AV) (hT : ty P t' = some T) (h1 : T.kd.agg = false → T.n = 1) (hx : σ.ev x = .ptr id off) (hb : σ.ob id = some (.box cs)) (hn : off + T.n ≤ cs.length) :
    OpS P nb (.load t' x) t σ (ofCells T.kd.agg ((cs.drop off).take T.n)) σ.ob :=
  .pure fun c H ε ρ w o ho _ hm hr => by
    have hc := hr x; rw [hx] at hc
    obtain ⟨b, hv, hε⟩ := hc.ptr_inv
    obtain ⟨arr, T', hh, hrl, _, _⟩ := (hm.objs id _ hb).box hε
    have hlen := hrl.length_eq
    have hrl' := (hrl.drop off).take T.n
    have hl' : ((arr.toList.drop off).take T.n).length = T.n := by rw [List.length_take, List.length_drop]; omega
    refine ⟨_, ?_, R_ofCells (agg := T.kd.agg) hrl'⟩
    have hcell : ∀ j u, ((arr.toList.drop off).take T.n)[j]? = some u → w.cell? ⟨b, off + j, none⟩ = some u := by
      intro j u hj
      rw [cell_of_row w b (off + j) arr T' (0, 0) hh]
      rw [List.getElem?_take] at hj
      split at hj
      · simpa using hj
      · cases hj
    simp only [execOp, ho, Instr.loadAt, hv, Instr.sureAddr, Sem.run_bind, Sem.run_pure, Result.andThen_ok, run_loadVar' hT hl' h1 hcell]

theorem opS_nilCheck_ref (x : Operand) (cs : List AV) (hx : σ.ev x = .ref cs) : OpS P nb (.nilCheck x) t σ (.ref cs) σ.ob :=
  .pure fun _ _ _ ρ _ o ho _ _ hr => by
    have hc := hr x; rw [hx] at hc
    obtain ⟨b, off, hv, _⟩ := hc.ref_inv
    exact ⟨ρ x, by simp [execOp, ho, hv], hc⟩
theorem opS_nilCheck_ptr (x : Operand) (id off : Nat) (hx : σ.ev x = .ptr id off) : OpS P nb (.nilCheck x) t σ (.ptr id off) σ.ob :=
  .pure fun _ _ _ ρ _ o ho _ _ hr => by
    have hc := hr x; rw [hx] at hc
    obtain ⟨b, hv, _⟩ := hc.ptr_inv
    exact ⟨ρ x, by simp [execOp, ho, hv], hc⟩

theorem run_fieldAt' {w : World} {s : TypeId} {T : TY} (hT : ty P s = some T) (hk : T.kd = .struct) {i off n : Nat} {ag : Bool} (hf : T.fields[i]? = some (some (off, n, ag))) (hn : 0 < n) (b o : Nat) :
    (Instr.fieldAt s (.pointer (some ⟨b, o, none⟩)) i).run P w = .ok (.pointer (some ⟨b, o + off, none⟩)) w := by
  obtain ⟨inf, d, z, hi, hd, hz, _, _, hkd, _, hfs⟩ := ty_inv hT
  rw [hkd] at hk
  cases d <;> simp [kdOf] at hk
  rename_i fs
  simp only at hfs
  rw [hfs, List.getElem?_map] at hf
  cases hq : fs.toList[i]? with
  | none => rw [hq] at hf; cases hf
  | some f =>
    rw [hq] at hf
    simp only [Option.map_some, Option.some.injEq] at hf
    unfold tyField at hf
    split at hf
    · rename_i fi fd hfi hfd
      cases hf
      have hq' : fs[i]? = some f := by simpa using hq
      simp only [Instr.fieldAt, Sem.run_bind, run_underlying' hd, Result.andThen_ok, hq', Instr.sureAddr, Sem.run_pure, fieldPlace, run_sizeOf' hfi, if_neg (show ¬ fi.size = 0 by omega), add_eq]
    · cases hf

theorem opS_fieldAddr_ref (s : TypeId) (x : Operand) (i off n : Nat) (ag : Bool) (T : TY) (cs : List AV) (hT : ty P s = some T) (hk : T.kd = .struct) (hf : T.fields[i]? = some (some (off, n, ag))) (hn : 0 < n)
    (hx : σ.ev x = .ref cs) (ho' : off ≤ cs.length) : OpS P nb (.fieldAddr s x i) t σ (.ref (cs.drop off)) σ.ob :=
  .pure fun _ _ _ ρ _ o ho _ _ hr => by
    have hc := hr x; rw [hx] at hc
    obtain ⟨b, off', hv, hd⟩ := hc.ref_inv
    exact ⟨_, by simp only [execOp, ho, hv, Sem.run_bind, run_fieldAt' hT hk hf hn, Result.andThen_ok, Sem.run_pure], .d _ _ (.ref _ _ _ (hd.drop off ho'))⟩
theorem opS_fieldAddr_ptr (s : TypeId) (x : Operand) (i off n : Nat) (ag : Bool) (T : TY) (id o' : Nat) (hT : ty P s = some T) (hk : T.kd = .struct) (hf : T.fields[i]? = some (some (off, n, ag))) (hn : 0 < n)
    (hx : σ.ev x = .ptr id o') : OpS P nb (.fieldAddr s x i) t σ (.ptr id (o' + off)) σ.ob :=
  .pure fun _ _ _ ρ _ o ho _ _ hr => by
    have hc := hr x; rw [hx] at hc
    obtain ⟨b, hv, hd⟩ := hc.ptr_inv
    exact ⟨_, by simp only [execOp, ho, hv, Sem.run_bind, run_fieldAt' hT hk hf hn, Result.andThen_ok, Sem.run_pure], .ptr _ _ _ hd⟩

/-- The rows of a slice. -/
def AV.rows : AV → Option (Nat × List (List AV))
  | .sl sz es | .osl _ sz es => some (sz, es)
  | .s (.slice none 0 0) => some (0, [])
  | _ => none

theorem R.rows {H : View} {ε : Env} {v : Value} {a : AV} {sz : Nat} {es : List (List AV)} (h : R H ε v a) (ha : a.rows = some (sz, es)) : D H v (.sl sz es) := by
  unfold AV.rows at ha
  split at ha
  · cases ha; exact h.sl_inv
  · cases ha; exact h.osl_inv.1
  · cases ha
    rw [h.s_inv.1]; exact .nil 0
  · cases ha

theorem D.slice {H : View} {v : Value} {sz : Nat} {es : List (List AV)} (h : D H v (.sl sz es)) :
    (v = .slice none 0 0 ∧ es = []) ∨ (∃ a cap, v = .slice (some a) 0 cap ∧ es = []) ∨ ∃ b off cap, v = .slice (some ⟨b, off, none⟩) es.length cap ∧ es.length ≤ cap ∧ (∀ e ∈ es, e.length = sz) ∧ DM H b off es.flatten := by
  cases h with
  | nil => exact .inl ⟨rfl, rfl⟩
  | emp a cap => exact .inr (.inl ⟨a, cap, rfl, rfl⟩)
  | sl b off cap _ _ hc hs h => exact .inr (.inr ⟨b, off, cap, rfl, hc, hs, h⟩)

theorem opS_indexAddr (t' : TypeId) (x y : Operand) (T U : TY) (e : TypeId) (k : IntKind) (i : Int) (sz : Nat) (es : List (List AV)) (el : List AV) (hT : ty P t' = some T) (hk : T.kd = .slice e) (hU : ty P e = some U) (hsz : U.n = sz)
    (hx : (σ.ev x).rows = some (sz, es)) (hy : σ.ev y = .s (.int k i)) (h0 : 0 ≤ i) (he : es[i.toNat]? = some el) : OpS P nb (.indexAddr t' x y) t σ (.ref el) σ.ob :=
  .pure fun _ _ _ ρ w o ho _ _ hr => by
    have hc := (hr x).rows hx
    have hi := hr y; rw [hy] at hi
    obtain ⟨inf, d, z, hi', hd, _, _, _, hkd, _⟩ := ty_inv hT
    obtain ⟨inf2, d2, _, hi2, _, _, hn2, _⟩ := ty_inv hU
    rw [hkd] at hk
    cases d <;> simp [kdOf] at hk
    subst hk
    have hlt : i.toNat < es.length := (List.getElem?_eq_some_iff.1 he).1
    rcases hc.slice with ⟨_, rfl⟩ | ⟨_, _, _, rfl⟩ | ⟨b, off, cap, hv, _, hs, hm⟩
    · simp at he
    · simp at he
    · refine ⟨.pointer (some ⟨b, off + i.toNat * sz, none⟩), ?_, .d _ _ (.ref _ _ _ (hm.elem hs he))⟩
      have hlt' : i < (es.length : Int) := by omega
      simp only [execOp, ho, hv, hi.s_inv.1, Instr.indexAt, asIntOf, Sem.run_bind, Sem.run_pure, Result.andThen_ok, run_underlying' hd, h0, hlt', and_self, if_true, run_sizeOf' hi2, ← hn2, hsz, add_eq]

theorem opS_len_slice (x : Operand) (t' : TypeId) (T : TY) (e : TypeId) (sz : Nat) (es : List (List AV)) (hT : ty P t' = some T) (hk : T.kd = .slice e) (hx : (σ.ev x).rows = some (sz, es)) :
    OpS P nb (.call { callee := .builtin .len, args := #[x], argTypes := #[t'] }) t σ (.s (.int .i64 es.length)) σ.ob :=
  .pure fun _ _ _ ρ w o ho _ _ hr => by
    have hc := (hr x).rows hx
    obtain ⟨inf, d, z, hi', hd, _, _, _, hkd, _⟩ := ty_inv hT
    rw [hkd] at hk
    cases d <;> simp [kdOf] at hk
    refine ⟨_, ?_, .d _ _ (.s _ rfl)⟩
    rcases hc.slice with ⟨hv, rfl⟩ | ⟨a, cap, hv, rfl⟩ | ⟨b, off, cap, hv, _⟩ <;>
      simp [execOp, ho, resolve, invoke, builtin, hv, Builtin.len_, run_underlying' hd, goInt]
theorem opS_len_str (x : Operand) (t' : TypeId) (T : TY) (s : ByteArray) (hT : ty P t' = some T) (hk : T.kd = .str) (hx : σ.ev x = .s (.string s)) :
    OpS P nb (.call { callee := .builtin .len, args := #[x], argTypes := #[t'] }) t σ (.s (.int .i64 s.size)) σ.ob :=
  .pure fun _ _ _ ρ w o ho _ _ hr => by
    have hc := hr x; rw [hx] at hc
    obtain ⟨inf, d, z, hi', hd, _, _, _, hkd, _⟩ := ty_inv hT
    rw [hkd] at hk
    cases d <;> simp [kdOf] at hk
    refine ⟨_, ?_, .d _ _ (.s _ rfl)⟩
    simp [execOp, ho, resolve, invoke, builtin, hc.s_inv.1, Builtin.len_, run_underlying' hd, goInt]
/-- Is a slice nil? -/
def nilIs : AV → Option Bool
  | .s (.slice none 0 0) => some true
  | .s (.slice (some _) _ _) => some false
  | .sl _ (_ :: _) => some false
  | .osl _ _ (_ :: _) => some false
  | _ => none
theorem nilIs_R {H : View} {ε : Env} {v : Value} {a : AV} {b : Bool} (h : R H ε v a) (hb : nilIs a = some b) : ∃ x n c, v = .slice x n c ∧ x.isNone = b := by
  unfold nilIs at hb
  split at hb
  · cases hb; exact ⟨_, _, _, h.s_inv.1, rfl⟩
  · cases hb; exact ⟨_, _, _, h.s_inv.1, rfl⟩
  · cases hb
    rcases h.sl_inv.slice with ⟨_, h⟩ | ⟨_, _, _, h⟩ | ⟨b, off, cap, hv, _⟩
    · cases h
    · cases h
    · exact ⟨_, _, _, hv, rfl⟩
  · cases hb
    rcases h.osl_inv.1.slice with ⟨_, h⟩ | ⟨_, _, _, h⟩ | ⟨b, off, cap, hv, _⟩
    · cases h
    · cases h
    · exact ⟨_, _, _, hv, rfl⟩
  · cases hb
theorem opS_nilEq (op : BinOp) (t' u : TypeId) (x y : Operand) (T : TY) (e : TypeId) (b : Bool) (hT : ty P t' = some T) (hk : T.kd = .slice e) (hx : nilIs (σ.ev x) = some b) (hy : σ.ev y = .s (.slice none 0 0)) (hop : op = .eql ∨ op = .neq) :
    OpS P nb (.binOp op t' x y u) t σ (.s (.bool (if op = .eql then b else !b))) σ.ob :=
  .pure fun _ _ _ ρ w o ho _ _ hr => by
    have h2 := hr y; rw [hy] at h2
    obtain ⟨i, d, z, hi, hd, _, _, _, hkd, _⟩ := ty_inv hT
    rw [hkd] at hk
    cases d <;> simp [kdOf] at hk
    obtain ⟨v, n, c, hv, hb⟩ := nilIs_R (hr x) hx
    refine ⟨_, ?_, .d _ _ (.s _ rfl)⟩
    rcases hop with rfl | rfl
    · simp only [execOp, ho, hv, h2.s_inv.1]
      simp [eqGuard, Lib.run_eql_slice_nil w t' _ v n c 0 0 hd, hb]
    · simp only [execOp, ho, hv, h2.s_inv.1]
      simp [eqGuard, run_neq_slice_nil_any w t' _ v n c 0 0 hd, hb]
end
end Go.Sy

/- The symbolic layer, eighth part: weaker readings, parts of slices and strings, calls of functions that only make new memory. No condition. -/
import Derived.Test.YtapgdbjlgebjmaaSyG
set_option linter.unusedVariables false
namespace Go.Sy

mutual
/-- A weaker reading. -/
inductive Le : AV → AV → Prop
  | refl (a : AV) : Le a a
  | junk (a : AV) : Le a .junk
  | nil (sz : Nat) : Le (.s (.slice none 0 0)) (.sl sz [])
  | osl (p sz : Nat) (es : List (List AV)) : Le (.osl p sz es) (.sl sz es)
  | agg (cs ds : List AV) (h : LeL cs ds) : Le (.agg cs) (.agg ds)
  | tup (cs ds : List AV) (h : LeL cs ds) : Le (.tup cs) (.tup ds)
inductive LeL : List AV → List AV → Prop
  | nil : LeL [] []
  | cons (a b : AV) (l m : List AV) (h : Le a b) (t : LeL l m) : LeL (a :: l) (b :: m)
end

mutual
theorem R.le {H : View} {ε : Env} : ∀ {a b : AV} {v : Value}, Le a b → R H ε v a → R H ε v b
  | _, _, _, .refl _, h => h
  | _, _, _, .junk _, _ => .junk _
  | _, _, _, .nil sz, h => by rw [h.s_inv.1]; exact .d _ _ (.nil sz)
  | _, _, _, .osl p sz es, h => .d _ _ h.osl_inv.1
  | _, _, _, .agg cs ds hl, h => by
    obtain ⟨vs, rfl, hr⟩ := h.agg_inv
    exact .agg _ _ (RL.le hl hr)
  | _, _, _, .tup cs ds hl, h => by
    obtain ⟨vs, rfl, hr⟩ := h.tup_inv
    exact .tup _ _ (RL.le hl hr)
theorem RL.le {H : View} {ε : Env} : ∀ {l m : List AV} {vs : List Value}, LeL l m → RL H ε vs l → RL H ε vs m
  | _, _, _, .nil, h => h
  | _, _, _, .cons a b l m hab hl, h => by
    cases h with | cons v _ vs _ h t => exact .cons _ _ _ _ (R.le hab h) (RL.le hl t)
end

mutual
/-- Nothing of the call's own is in it. -/
inductive Pu : AV → Prop
  | s (v : Value) : Pu (.s v)
  | sl (sz : Nat) (es : List (List AV)) : Pu (.sl sz es)
  | ref (cs : List AV) : Pu (.ref cs)
  | agg (cs : List AV) (h : PuL cs) : Pu (.agg cs)
  | tup (cs : List AV) (h : PuL cs) : Pu (.tup cs)
inductive PuL : List AV → Prop
  | nil : PuL []
  | cons (a : AV) (l : List AV) (h : Pu a) (t : PuL l) : PuL (a :: l)
end

mutual
theorem R.pu {H : View} {ε : Env} : ∀ {a : AV} {v : Value}, Pu a → R H ε v a → D H v a
  | _, _, .s u, h => by have := h.s_inv; rw [this.1]; exact .s _ this.2
  | _, _, .sl sz es, h => h.sl_inv
  | _, _, .ref cs, h => by obtain ⟨b, off, rfl, hd⟩ := h.ref_inv; exact .ref _ _ _ hd
  | _, _, .agg cs hp, h => by obtain ⟨vs, rfl, hr⟩ := h.agg_inv; exact .agg _ _ (RL.pu hp hr)
  | _, _, .tup cs hp, h => by obtain ⟨vs, rfl, hr⟩ := h.tup_inv; exact .tup _ _ (RL.pu hp hr)
theorem RL.pu {H : View} {ε : Env} : ∀ {l : List AV} {vs : List Value}, PuL l → RL H ε vs l → DL H vs l
  | _, _, .nil, h => by cases h; exact .nil
  | _, _, .cons a l ha hl, h => by cases h with | cons v _ vs _ h t => exact .cons _ _ _ _ (R.pu ha h) (RL.pu hl t)
end

/-- THE CONTRACT OF A FUNCTION THAT ONLY MAKES NEW MEMORY: handed what reads as args it returns what reads as r; what was there stays. -/
def PSpec (P : Program) (f : FuncId) (args : List AV) (r : AV) : Prop :=
  ∀ (w : World) (H : View) (vs : List Value), (∀ b o v, H b o = some v → w.cell? ⟨b, o, none⟩ = some v) → DL H vs args →
    Calls P f vs.toArray w fun e w' => ∃ v H', e = .returned v ∧ D H' v r ∧ H.le H' ∧ (∀ b o v, H' b o = some v → w'.cell? ⟨b, o, none⟩ = some v) ∧ (∀ b o, b < w.heap.size → H' b o = H b o) ∧ RowKit.Below w.heap.size w w'

section
variable {P : Program} {nb : Nat} {t : TypeId} {σ : St}

theorem callFunc_enter {f : FuncId} {fn : Func} (hf : P.funcs[f]? = some fn) (hn : (fn.name == "runtime.NumGoroutine") = false) (hb : fn.body.isNone = false) (args : Array Value) (w : World) :
    (callFunc f args).run P w = .ok (.enter f args) w := by
  simp only [callFunc, Sem.run_bind, run_program, Result.andThen_ok, hf, hn, hb, Bool.false_eq_true, if_false, Sem.run_pure]

theorem opS_callPure (f : FuncId) (fn : Func) (x : Operand) (xs : List Operand) (ts : Array TypeId) (first caps args : List AV) (r : AV) (hf : P.funcs[f]? = some fn) (hn : (fn.name == "runtime.NumGoroutine") = false) (hb : fn.body.isNone = false)
    (hx : σ.ev x = .fn (.func f) first caps) (hle : LeL (first ++ xs.map σ.ev ++ caps) args) (hpu : PuL args) (hs : PSpec P f args r) :
    OpS P nb (.call { callee := .value x, args := xs.toArray, argTypes := ts }) t σ r σ.ob := by
  intro c H ε a w o ho _ hm hr hf' next Q hn'
  have hx' := R_ev hr x; rw [hx] at hx'
  obtain ⟨f1, c1, hv, hf1, hc1⟩ := hx'.fn_inv
  have hxs : RL H ε (xs.map a.eval) (xs.map σ.ev) := by
    clear hle hpu hs ho
    induction xs with
    | nil => exact .nil
    | cons y ys ih => exact .cons _ _ _ _ (R_ev hr y) ih
  have hD : DL H (f1 ++ xs.map a.eval ++ c1) args := RL.pu hpu (RL.le hle ((hf1.append hxs).append hc1))
  have hrun : (execOp a.eval o).run P w = .ok (.enter f (f1 ++ xs.map a.eval ++ c1).toArray) w := by
    simp [execOp, ho, resolve, hv, Deferred.ofValue, invoke, callFunc_enter hf hn hb]
  unfold Oper.wp
  rw [hrun, Oper.upon_enter]
  refine (hs w H _ hm.view hD).mono fun e w' ⟨v, H', he, hDv, hH, hview, hold, hbel⟩ => ?_
  subst he
  exact hn' v w' H' ε hH (Env.le_refl ε) (fun _ h _ => h) (.d _ _ hDv) (hm.ext hH hold hview hbel.block hbel.size hbel.os hbel.tape hbel.output)

theorem opS_slice_str (t' : TypeId) (x : Operand) (lo hi : Option Operand) (T : TY) (s : ByteArray) (l h : Nat) (hT : ty P t' = some T) (hk : T.kd = .str) (hx : σ.ev x = .s (.string s))
    (hlo : match lo with | some y => ∃ k, σ.ev y = .s (.int k l) | none => l = 0) (hhi : match hi with | some y => ∃ k, σ.ev y = .s (.int k h) | none => h = s.size) (h1 : l ≤ h) (h2 : h ≤ s.size) :
    OpS P nb (.slice t' x lo hi none) t σ (.s (.string (s.extract l h))) σ.ob :=
  .pure fun c H ε ρ w o ho _ hm hr => by
    have hc := hr x; rw [hx] at hc
    obtain ⟨inf, d, z, hi', hd, _, _, _, hkd, _⟩ := ty_inv hT
    rw [hkd] at hk
    cases d <;> simp [kdOf] at hk
    refine ⟨_, ?_, .d _ _ (.s _ rfl)⟩
    have h3 := Nat.le_trans h1 h2
    cases lo with
    | none =>
      simp only at hlo; subst hlo
      cases hi with
      | none =>
        simp only at hhi; subst hhi
        simp [execOp, ho, hc.s_inv.1, Instr.sliceAt, Instr.slice, run_underlying' hd, Instr.sliceBounds]
      | some y =>
        obtain ⟨k, hy⟩ := hhi
        have hy' := hr y; rw [hy] at hy'
        simp [execOp, ho, hc.s_inv.1, hy'.s_inv.1, Instr.sliceAt, Instr.slice, run_underlying' hd, Instr.sliceBounds, Instr.sliceBound, asIntOf, h2]
    | some x' =>
      obtain ⟨k', hx'⟩ := hlo
      have hx'' := hr x'; rw [hx'] at hx''
      cases hi with
      | none =>
        simp only at hhi; subst hhi
        simp [execOp, ho, hc.s_inv.1, hx''.s_inv.1, Instr.sliceAt, Instr.slice, run_underlying' hd, Instr.sliceBounds, Instr.sliceBound, asIntOf, h3]
      | some y =>
        obtain ⟨k, hy⟩ := hhi
        have hy' := hr y; rw [hy] at hy'
        simp [execOp, ho, hc.s_inv.1, hx''.s_inv.1, hy'.s_inv.1, Instr.sliceAt, Instr.slice, run_underlying' hd, Instr.sliceBounds, Instr.sliceBound, asIntOf, h1, h2]

theorem opS_slice_rows (t' : TypeId) (x : Operand) (lo hi : Option Operand) (T U : TY) (e : TypeId) (sz : Nat) (es : List (List AV)) (l h : Nat) (hT : ty P t' = some T) (hk : T.kd = .slice e) (hU : ty P e = some U) (hsz : U.n = sz)
    (hx : rowsOK sz (σ.ev x) = some es)
    (hlo : match lo with | some y => ∃ k, σ.ev y = .s (.int k l) | none => l = 0) (hhi : match hi with | some y => ∃ k, σ.ev y = .s (.int k h) | none => h = es.length) (h1 : l ≤ h) (h2 : h ≤ es.length) :
    OpS P nb (.slice t' x lo hi none) t σ (.sl sz ((es.take h).drop l)) σ.ob :=
  .pure fun c H ε ρ w o ho _ hm hr => by
    have hD := rowsOK_D (hr x) hx
    have hd := slice_inv hT hk
    obtain ⟨inf2, d2, z2, hi2, hd2, hz2, hn2, hb2, _, hzs2, _⟩ := ty_inv hU
    have hrun : ∀ (base : Option Addr) (cap : Nat), ρ x = .slice base es.length cap → es.length ≤ cap →
        (execOp ρ o).run P w = .ok (.value (.slice (if cap = l then base else base.map (·.add (l * inf2.size))) (h - l) (cap - l))) w := by
      intro base cap hv hcap
      have e2 : h ≤ cap := by omega
      have e3 : l ≤ es.length := by omega
      cases lo with
      | none =>
        simp only at hlo; subst hlo
        cases hi with
        | none =>
          simp only at hhi; subst hhi
          simp [execOp, ho, hv, Instr.sliceAt, Instr.slice, run_underlying' hd, Instr.sliceBounds, run_sizeOf' hi2]
        | some y =>
          obtain ⟨k, hy⟩ := hhi
          have hy' := hr y; rw [hy] at hy'
          simp [execOp, ho, hv, hy'.s_inv.1, Instr.sliceAt, Instr.slice, run_underlying' hd, Instr.sliceBounds, Instr.sliceBound, asIntOf, e2, run_sizeOf' hi2]
      | some x' =>
        obtain ⟨k', hx'⟩ := hlo
        have hx'' := hr x'; rw [hx'] at hx''
        cases hi with
        | none =>
          simp only at hhi; subst hhi
          simp [execOp, ho, hv, hx''.s_inv.1, Instr.sliceAt, Instr.slice, run_underlying' hd, Instr.sliceBounds, Instr.sliceBound, asIntOf, e3, run_sizeOf' hi2]
        | some y =>
          obtain ⟨k, hy⟩ := hhi
          have hy' := hr y; rw [hy] at hy'
          simp [execOp, ho, hv, hx''.s_inv.1, hy'.s_inv.1, Instr.sliceAt, Instr.slice, run_underlying' hd, Instr.sliceBounds, Instr.sliceBound, asIntOf, h1, e2, run_sizeOf' hi2]
    rcases hD.slice with ⟨hv, hes⟩ | ⟨a, cap, hv, hes⟩ | ⟨b, off, cap, hv, hcap, hs, hmem⟩
    · subst hes
      have hl0 : l = 0 := by simp at h2; omega
      have hh0 : h = 0 := by simp at h2; omega
      subst hl0; subst hh0
      refine ⟨_, hrun none 0 (by simpa using hv) (Nat.le_refl _), ?_⟩
      simpa using R.d (H := H) (ε := ε) _ _ (.nil sz)
    · subst hes
      have hl0 : l = 0 := by simp at h2; omega
      have hh0 : h = 0 := by simp at h2; omega
      subst hl0; subst hh0
      refine ⟨_, hrun (some a) cap (by simpa using hv) (Nat.zero_le _), ?_⟩
      by_cases hc0 : cap = 0
      · simp only [hc0, if_true, Nat.sub_self, List.take_zero, List.drop_zero]; exact .d _ _ (.emp _ _ sz)
      · simp only [hc0, if_false, Option.map_some, Nat.sub_self, Nat.sub_zero, List.take_zero, List.drop_zero]; exact .d _ _ (.emp _ _ sz)
    · refine ⟨_, hrun _ cap hv hcap, .d _ _ ?_⟩
      have hlen : ((es.take h).drop l).length = h - l := by simp; omega
      have hs' : ∀ y ∈ (es.take h).drop l, y.length = sz := fun y hy => hs y (List.mem_of_mem_take (List.mem_of_mem_drop hy))
      have hm1 : DM H b off (es.take h).flatten := DM.takeRows hmem
      have hm2 := DM.dropRows (n := l) hm1 (fun y hy => hs y (List.mem_of_mem_take hy)) (by simp; omega)
      by_cases hcl : cap = l
      · have hh : h = l := by omega
        subst hh
        have hnil : (es.take h).drop h = [] := List.drop_eq_nil_of_le (by simp; omega)
        rw [hnil]
        simp only [hcl, if_true, Nat.sub_self]
        exact .sl b off 0 sz [] (Nat.le_refl _) (by simp) (by simpa using DM.nil b off)
      · simp only [hcl, if_false, Option.map_some, add_eq]
        have := D.sl (H := H) b (off + l * sz) (cap - l) sz ((es.take h).drop l) (by rw [hlen]; omega) hs' hm2
        rw [hlen] at this
        rw [← hn2, hsz]
        exact this

theorem opS_indexStr (t' : TypeId) (x y : Operand) (T : TY) (s : ByteArray) (k : IntKind) (i : Int) (b : UInt8) (hT : ty P t' = some T) (hk : T.kd = .str) (hx : σ.ev x = .s (.string s)) (hy : σ.ev y = .s (.int k i)) (h0 : 0 ≤ i) (hb : s[i.toNat]? = some b) :
    OpS P nb (.index t' x y) t σ (.s (.int .u8 b.toNat)) σ.ob :=
  .pure fun c H ε ρ w o ho _ hm hr => by
    have h1 := hr x; have h2 := hr y; rw [hx] at h1; rw [hy] at h2
    obtain ⟨inf, d, z, hi', hd, _, _, _, hkd, _⟩ := ty_inv hT
    rw [hkd] at hk
    cases d <;> simp [kdOf] at hk
    refine ⟨_, ?_, .d _ _ (.s _ rfl)⟩
    simp [execOp, ho, h1.s_inv.1, h2.s_inv.1, Instr.index, asIntOf, run_underlying' hd, h0, hb]

theorem opS_convInt (src dst : TypeId) (x : Operand) (S T : TY) (k k' : IntKind) (n : Int) (hS : ty P src = some S) (hT : ty P dst = some T) (hk : T.kd = .int k') (hx : σ.ev x = .s (.int k n)) :
    OpS P nb (.convert src dst x) t σ (.s (.int k' (k'.wrap n))) σ.ob :=
  .pure fun c H ε ρ w o ho _ hm hr => by
    have h1 := hr x; rw [hx] at h1
    obtain ⟨inf, d, z, hi', hd, _, _, _, hkd, _⟩ := ty_inv hT
    obtain ⟨_, d0, _, _, hd0, _⟩ := ty_inv hS
    rw [hkd] at hk
    cases d <;> simp [kdOf] at hk
    subst hk
    refine ⟨_, ?_, .d _ _ (.s _ rfl)⟩
    simp [execOp, ho, h1.s_inv.1, convert, run_underlying' hd, run_underlying' hd0, Conv.intToInt]

theorem opS_field (t' : TypeId) (x : Operand) (i off n : Nat) (ag : Bool) (T : TY) (cs : List AV) (hT : ty P t' = some T) (hk : T.kd = .struct) (hf : T.fields[i]? = some (some (off, n, ag))) (hx : σ.ev x = .agg cs) (hn : off + n ≤ cs.length) (h1 : ag = false → n = 1) :
    OpS P nb (.field t' x i) t σ (ofCells ag ((cs.drop off).take n)) σ.ob :=
  .pure fun c H ε ρ w o ho _ hm hr => by
    have hc := hr x; rw [hx] at hc
    obtain ⟨vs, hv, hrl⟩ := hc.agg_inv
    obtain ⟨inf, d, z, hi, hd, hz, _, _, hkd, _, hfs⟩ := ty_inv hT
    rw [hkd] at hk
    cases d <;> simp [kdOf] at hk
    rename_i fs
    simp only at hfs
    rw [hfs, List.getElem?_map] at hf
    cases hq : fs.toList[i]? with
    | none => rw [hq] at hf; cases hf
    | some f =>
      rw [hq] at hf
      simp only [Option.map_some, Option.some.injEq] at hf
      unfold tyField at hf
      split at hf
      · rename_i fi fd hfi hfd
        cases hf
        have hq' : fs[i]? = some f := by simpa using hq
        have hl := hrl.length_eq
        refine ⟨_, ?_, R_ofCells (agg := isAggD fd) ((hrl.drop f.offset).take fi.size)⟩
        cases hag : isAggD fd
        · have hn1 := h1 hag
          have hlt : f.offset < vs.length := by omega
          have e1 : (vs.toArray[f.offset]? : Option Value) = some vs[f.offset] := by simp [hlt]
          have e2 : ((vs.drop f.offset).take fi.size).headD undef = vs[f.offset] := by
            rw [hn1, List.drop_eq_getElem_cons hlt]; rfl
          simp only [execOp, ho, hv, Instr.field, Sem.run_bind, run_underlying' hd, Result.andThen_ok, hq', part, run_isAgg' hfd, hag, asAgg, Sem.run_pure, e1, e2, Bool.false_eq_true, if_false]
        · simp only [execOp, ho, hv, Instr.field, Sem.run_bind, run_underlying' hd, Result.andThen_ok, hq', part, run_isAgg' hfd, hag, asAgg, Sem.run_pure, if_true, run_sizeOf' hfi]
          simp
      · cases hf
end
end Go.Sy

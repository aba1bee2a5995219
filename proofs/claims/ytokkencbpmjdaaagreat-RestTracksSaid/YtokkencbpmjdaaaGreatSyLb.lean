/- The symbolic layer: a literal slice taken for one over a new variable, so that its elements may be written. No condition. -/
import Derived.Test.YtokkencbpmjdaaaGreatSy5
import Derived.Test.YtokkencbpmjdaaaGreatSy3
set_option linter.unusedVariables false
namespace Go.Sy
section
variable {P : Program} {nb : Nat} {t : TypeId} {σ : St}
theorem opS_buildSliceB (t' : TypeId) (len : Nat) (xs : List Operand) (parts : Array (Nat × Operand)) (T U : TY) (e : TypeId) (es : List (List AV)) (hT : ty P t' = some T) (hk : T.kd = .slice e) (hU : ty P e = some U)
    (hn0 : 0 < U.n) (hp : parts.toList = xs.zipIdx.map fun x => (x.2, x.1)) (hlen : xs.length = len) (hbig : len * U.n ≤ 16777216)
    (h : litRows U.n (xs.map σ.ev) = some es) : OpS P nb (.buildSlice t' len parts) t σ (.bsl nb 0 U.n len len) (updOb σ.ob nb (.box es.flatten)) :=
  .run fun c H ε ρ w o ho _ hm hr hf => by
    have hd := slice_inv hT hk
    obtain ⟨inf2, d2, z2, hi2, hd2, hz2, hn2, hb2, _, hzs2, _⟩ := ty_inv hU
    have hRL : RL H ε (xs.map ρ) (xs.map σ.ev) := by
      clear h hp hlen
      induction xs with
      | nil => exact .nil
      | cons x xs ih => exact .cons _ _ _ _ (hr x) ih
    let zero : Array Value := if len * inf2.size = 0 then #[] else z2.cells
    obtain ⟨zs, hzs⟩ : ∃ zs, zs = (Array.range (len * inf2.size)).map (fun i => zero[i % zero.size]!) := ⟨_, rfl⟩
    have hzl : zs.size = len * U.n := by rw [hzs, Array.size_map, Array.size_range, hn2]
    obtain ⟨out, q1, q2, q3, q4, q5⟩ := fill_lit (H := H) (ε := ε) (place := fun i => some (i * inf2.size, inf2.size)) (sz := U.n) (fun i => by rw [hn2]) (xs.map σ.ev) (xs.map ρ) 0 [] [] zs.toList es (by simp) (by simp [hzl, hlen]) hRL h .nil (by simp)
    have hq1 : Instr.fill (fun i => some (i * inf2.size, inf2.size)) zs (parts.map fun x => (x.1, ρ x.2)).toList = some out := by
      rw [← q1]
      congr 1
      rw [Array.toList_map, hp]
      simp [List.zipIdx_map, Function.comp_def]
    have hmb := hm.newBox (fresh_here hf) (arr := out) (cs := es.flatten) e (.of_DL (by simpa using q2)) q3
    refine ⟨.slice (some ⟨w.heap.size, 0, none⟩) len len, w.alloc (.cells out e), H, updEnv ε nb (.blk w.heap.size), ?_, View.le_refl H, Env.le_new (fresh_here hf), keep_new, .bsl _ _ _ _ _ w.heap.size (updEnv_same _ _ _) (Nat.le_refl _) hm.lo.1, hmb⟩
    have hbig' : ¬ len * inf2.size > 2 ^ 24 := by rw [← hn2]; omega
    have hrun : (Instr.buildSlice t' len (parts.map fun x => (x.1, ρ x.2))).run P w = .ok (.slice (some ⟨w.heap.size, 0, none⟩) len len) (w.alloc (.cells out e)) := by
      by_cases h0 : len * inf2.size = 0
      · have hz0 : zs = #[] := by rw [hzs, h0]; simp
        rw [hz0] at hq1
        have hz1 : ∀ f : Nat → Value, (Array.range 0).map f = #[] := fun f => by simp
        unfold Instr.buildSlice
        simp only [Sem.run_bind, run_underlying' hd, run_sizeOf' hi2, Result.andThen_ok, h0, if_true, hz1, hq1, newRow]
        rfl
      · simp only [zero, h0, if_false] at hzs
        rw [hzs] at hq1
        have hb : ¬ 16777216 < len * inf2.size := by omega
        simp [Instr.buildSlice, run_underlying' hd, run_sizeOf' hi2, h0, hb, run_zeroValue' hi2 hz2, newRow]
        simp at hq1
        simp [hq1]
    simp only [execOp, ho, Sem.run_bind, hrun, Result.andThen_ok, Sem.run_pure]
end
section
variable {P : Program} {T : TypeId → Option TY} {ops : Array Oper} {base nb nx i i' d : Nat} {l : List Oper} {t t' e : TypeId} {U : TY} {len : Nat} {parts : Array (Nat × Operand)} {pos aft} {tm : Nat → AV} {ob : Nat → Option Ob} {K : St → Prop} {es : List (List AV)} {cs : List AV}
theorem v_litB (hT : TabOK P T) (hnb : base + 16 * i = nb) (hi : i + 1 = i') (he : elemT T (T t') = some (e, U)) (h1 : 0 < U.n) (h2 : len * U.n ≤ 16777216) (h3 : parts.toList.map (·.1) = List.range len)
    (hes : litRows U.n (parts.toList.map fun x => (⟨tm, ob, nx⟩ : St).ev x.2) = some es) (hcs : es.flatten = cs)
    (h : Reg P ops base l i' ⟨wr tm d (.bsl nb 0 U.n len len), wo ob nb (.box cs), nx⟩ K) :
    Reg P ops base (⟨some d, .buildSlice t' len parts, t, pos, aft, none⟩ :: l) i ⟨tm, ob, nx⟩ K := by
  subst hnb hi hcs
  show opVC P (base + 16 * i) (.buildSlice t' len parts) t ⟨tm, ob, nx⟩ fun r _ ws => regVC P ops base l (i + 1) (St.put ⟨tm, ob, nx⟩ (some d) r ws) K
  refine .inr ?_
  obtain ⟨S, hS, hk, hU⟩ := elemTy_inv (elemT_ok' hT he)
  refine ⟨.bsl (base + 16 * i) 0 U.n len len, [], [(base + 16 * i, .box es.flatten)], fun σ' hx' _ => ?_, ?_⟩
  · rw [updOb_applyW _ _ _ rfl]
    refine opS_buildSliceB t' len (parts.toList.map (·.2)) parts S U e es hS hk hU h1 ?_ ?_ h2 ?_
    · apply List.ext_getElem
      · simp
      · intro j q1 q2
        have : (parts.toList.map (·.1))[j]'(by simpa using q1) = j := by simp only [h3, List.getElem_range]
        simp only [List.getElem_map, List.getElem_zipIdx, Nat.zero_add] at this ⊢
        exact Prod.ext this rfl
    · have := congrArg List.length h3
      simpa using this
    · rw [← hes, List.map_map]
      congr 1
      apply List.map_congr_left
      intro q hq
      exact hx' q.2 (by simp [Op.operands]; exact ⟨q.1, by simpa using hq⟩)
  · unfold Reg at h
    rw [← wr_upd, ← wo_box] at h
    show regVC P ops base l (i + 1) ⟨upd tm d _, applyW ob _, nx⟩ K
    rw [updOb_applyW _ _ _ rfl]
    exact h
end
end Go.Sy

/- The walk of wire.Read: a panic goes through the door. No condition. -/
import Derived.Test.YtlehonipilpfdaaWire2
import Derived.Recover
import Derived.Tactics
import Derived.Tactics2
import Derived.Laws.Pointers
import Derived.WalkLawsBesides
namespace Go.Proofs.Ytlehonipilpfdaa
open Go Go.Sy
set_option linter.unusedSimpArgs false
set_option linter.unusedVariables false
theorem catch_idle (p : Addr) (w : World) :
    CallsD Try.prog 81 #[.pointer (some p)] .returning w fun e u' w' => e = .returned (.tuple #[]) ∧ u' = .returning ∧ w' = w := by
  refine callsD_of_wpS Try.func81 rfl fun c₀ cs hu => ?_
  apply wpS_seq
  apply wpS_region
  simp [wpOpsS, go_sem, recoverD, hu, Try.ntmps81, Exit.thenS]
  apply wpS_seq
  apply wpS_region
  simp [wpOpsS, go_sem, recoverD, hu, Try.ntmps81, Exit.thenS]
  refine wpS_cond (t := false) (by simp [Act.eval, Array.replicate]) ?_
  simp only [Bool.false_eq_true, if_false]
  refine wpS_of_wp (wp_skip ?_)
  cases c₀
  simp_all [bodyPostS, results, Try.results81]
theorem catch_pan (p : Addr) (w : World) (x : Value) (hc : w.cell? p = some x) (hz : w.frozen? p = false) :
    CallsD Try.prog 81 #[.pointer (some p)] (.panicking shortP) w fun e u' w' =>
      e = .returned (.tuple #[]) ∧ u' = .panicking [{ v := .iface 118 (.agg #[]), recovered := true }] ∧ w' = (w.alloc (.cells #[] 118)).setCell p (.bool false) := by
  have hb := World.block_lt_of_cell? w p hc
  have hc2 : (w.alloc (.cells #[] 118)).cell? p = some x := by rw [World.cell?_alloc_lt w _ p hb]; exact hc
  have hz2 : (w.alloc (.cells #[] 118)).frozen? p = false := by
    unfold World.frozen? at hz ⊢
    rw [heap_old w _ _ hb]; exact hz
  refine callsD_of_wpS Try.func81 rfl fun c₀ cs hu => ?_
  apply wpS_seq
  apply wpS_region
  simp [wpOpsS, go_sem, recoverD, hu, shortP, Try.ntmps81, Exit.thenS]
  apply wpS_seq
  apply wpS_region
  simp [wpOpsS, go_sem, recoverD, hu, Try.ntmps81, Exit.thenS]
  refine wpS_cond (t := true) (by simp [Act.eval, Array.replicate]) ?_
  simp only [if_true]
  refine wpS_of_wp ?_
  have hta : ∀ (w : World), (Instr.typeAssert (.iface 118 (.agg #[])) 20 118 true).run Try.prog w = .ok (.tuple #[.agg #[], .bool true]) w := fun w => by
    simp [Instr.typeAssert, run_underlying (Try.underlying118)]
  apply wp_seq
  apply wp_seq
  apply wp_region
  simp [wpOps, Oper.wp, go_sem, hta, Try.ntmps81, Exit.then]
  repeat (with_reducible refine Or.inl ?_)
  apply wp_seq
  apply wp_region
  simp [wpOps, Oper.wp, go_sem, Try.ntmps81, Exit.then]
  repeat (with_reducible refine Or.inl ?_)
  refine wp_cond (t := false) (by simp [Act.eval, Array.replicate]) ?_
  simp only [Bool.false_eq_true, if_false]
  refine wp_skip ?_
  apply wp_region
  simp [wpOps, Oper.wp, go_sem, Try.ntmps81, Exit.then, hc2, hz2]
  repeat (with_reducible refine Or.inl ?_)
  cases c₀
  simp_all [bodyPostS, results, Try.results81]
end Go.Proofs.Ytlehonipilpfdaa

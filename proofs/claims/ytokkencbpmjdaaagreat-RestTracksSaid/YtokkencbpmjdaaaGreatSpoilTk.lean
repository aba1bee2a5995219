/- What spoils tracks, and what is known of their rows. CONDITIONS: slices fit into memory. -/
import Derived.Test.YtokkencbpmjdaaaGreatSpoil
import Derived.Test.YtokkencbpmjdaaaGreatOldTk
namespace Go.Proofs.YtokkencbpmjdaaaGreat
open Go Go.Sy
set_option maxRecDepth 4000
set_option linter.unusedSimpArgs false
set_option linter.unusedVariables false
attribute [local irreducible] Reg RegD Later Out CallV Tri Side EqV Pause
abbrev rowLW (l : List Slt) : List (List AV) := l.map fun _ => [.hole, .hole, .hole, .hole, .hole, .hole, .hole]
abbrev rowPW (l : List Pkt) : List (List AV) := l.map fun _ => [.hole, .hole, .hole, .hole, .hole, .hole]
abbrev tkW (t : Tk) : List AV := [I t.last, I t.buf.next, .wsl 7 (rowLW t.buf.held), .wsl 7 (rowLW t.op), I t.st.first, .wsl 1 (rowGW t.st.gs), .wsl 3 (rowFW t.st.op)]
theorem spo_rowL (l : List Slt) : spoM (rowL l) = rowLW l := by
  rw [spoM_map, List.map_map]; exact List.map_congr_left fun s _ => by simp [spcL, AV.spc, scalV]
theorem spo_rowP (l : List Pkt) : spoM (rowP l) = rowPW l := by
  rw [spoM_map, List.map_map]; exact List.map_congr_left fun s _ => by simp [spcL, AV.spc, scalV]
theorem ho_rowL (l : List Slt) : hoM (rowL l) := hoM_iff.2 fun x hx => by
  obtain ⟨s, _, rfl⟩ := List.mem_map.1 hx; exact ⟨trivial, trivial, trivial, trivial, trivial, trivial, trivial, trivial⟩
theorem ho_tkO (t : Tk) : hoL (tkO t) := ⟨trivial, trivial, ho_rowL _, ho_rowL _, trivial, ho_rowGO _, ho_rowFO _, trivial⟩
theorem sk_tkO (t : Tk) : skL (tkO t) := ⟨trivial, trivial, ho_rowL _, ho_rowL _, trivial, ho_rowGO _, ho_rowFO _, trivial⟩
theorem sk_rowL (l : List Slt) : skM (rowL l) := skM_iff.2 fun x hx => by
  obtain ⟨s, _, rfl⟩ := List.mem_map.1 hx; exact ⟨trivial, trivial, trivial, trivial, trivial, trivial, trivial, trivial⟩
theorem sk_rowP (l : List Pkt) : skM (rowP l) := skM_iff.2 fun x hx => by
  obtain ⟨s, _, rfl⟩ := List.mem_map.1 hx; exact ⟨trivial, trivial, trivial, trivial, trivial, trivial, trivial⟩
theorem sk_tkC (t : Tk) : skL (tkC t) := ⟨trivial, trivial, sk_rowL _, sk_rowL _, trivial, sk_rowG _, sk_rowF _, trivial⟩
set_option maxHeartbeats 1000000 in
theorem c_spoilSlots (l : List Slt) (hl : l.length ≤ 1000000000000) : PSpec Tryz.prog 16 [.wsl 7 (rowLW l)] (.tup []) := by
  refine p_pspec Tryz.func16 Tryz.ntmps16 Tryz.results16 ?_
  repeat' (first
 | (with_reducible first | apply qz0 | (refine h0 _ _ ?_; clear h0 hw) | apply qz3 )
 | refine p_reg fun K1 hK => ?_
 | (refine p_op Tryz.tab fun K' h0 hw => ?_; conv => whnf)
 | (refine p_nil (hK _ ?_); clear hK)
 )
  refine w_loop (X := Nat) [2, 3, 4, 5, 6, 7, 8, 9, 10, 11, 12] (fun i => [(2, I i)]) (fun _ => []) (fun i => i ≤ l.length) (fun i => l.length - i) 0 (by simp) ?_ ?_
  · refine ⟨kt_refl, ko_refl, ?_, ?_, ?_, ?_, Nat.le_refl _⟩ <;> simp
  intro i h1
  repeat' (first
 | (with_reducible first | apply qz0 | (refine h0 _ _ ?_; clear h0 hw) | apply qz2 | apply qz3 | apply qz4 | apply qz6 | apply qz7 | apply qz9 | apply qza | apply qzc | (refine hL _ ?_; clear hL))
 | refine p_reg fun K1 hK => ?_ | refine p_regE fun K1 hK => ?_
 | apply go_seq
 | ((first | refine p_op Tryz.tab fun K' h0 hw => ?_ | refine p_op0 Tryz.tab fun K' h0 hw => ?_); conv => whnf)
 | (refine p_nil (hK _ ?_); clear hK)
 | ((with_reducible apply go_cond); (case hb => rfl))
 | ((with_reducible first | refine w_ret_end Tryz.tab fun K' hL => ?_); (conv => whnf))
 | ((with_reducible apply And.intro); (case' right => try (conv => whnf)); (case' left => try first | rfl | decide ))
 | exact p_side
 | ((with_reducible refine all_row ?_); (first  | intro x1 hx1); conv => whnf)
 | (first  | intro g1; try simp at g1))
  · (refine p_nx ((i + 1)) ?_; (try simp only); (try exact trivial))
    omega
  · exact .refl _
end Go.Proofs.YtokkencbpmjdaaaGreat

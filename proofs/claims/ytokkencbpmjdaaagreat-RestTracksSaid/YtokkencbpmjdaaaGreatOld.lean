/- Walks of functions that copy what they are handed, for what is old: what comes back is new. CONDITIONS: slices fit into memory. -/
import Derived.Test.YtokkencbpmjdaaaGreatSy5
import Derived.Test.YtokkencbpmjdaaaGreatCuA
import Derived.Test.YtokkencbpmjdaaaGreatStA
namespace Go.Proofs.YtokkencbpmjdaaaGreat
open Go Go.Sy
set_option maxRecDepth 4000
set_option linter.unusedSimpArgs false
set_option linter.unusedVariables false
attribute [local irreducible] Reg RegD Later Out CallV Tri Side EqV Pause
abbrev strsO (l : List ByteArray) : AV := .ol 1 (rowS l)
abbrev frO (f : Fr) : List AV := [I f.time, B f.key, strsO f.parts]
abbrev rowFO (l : List Fr) : List (List AV) := l.map frO
abbrev frsO (l : List Fr) : AV := .ol 3 (rowFO l)
abbrev grO (g : List Fr) : List AV := [frsO g]
abbrev rowGO (l : List (List Fr)) : List (List AV) := l.map grO
abbrev grsO (l : List (List Fr)) : AV := .ol 1 (rowGO l)
abbrev stO (s : Sto) : List AV := [I s.first, grsO s.gs, frsO s.op]
theorem old_rowS (l : List ByteArray) : oldM (rowS l) = rowS l := by
  rw [oldM_map, List.map_map]; exact List.map_congr_left fun s _ => by simp [oldL, AV.old]
theorem old_frC (f : Fr) : oldL (frC f) = frO f := by simp only [oldL, AV.old, old_rowS]
theorem old_rowF (l : List Fr) : oldM (rowF l) = rowFO l := by
  rw [oldM_map, List.map_map]; exact List.map_congr_left fun f _ => old_frC f
theorem old_grC (g : List Fr) : oldL (grC g) = grO g := by simp only [oldL, AV.old, old_rowF]
theorem old_rowG (l : List (List Fr)) : oldM (rowG l) = rowGO l := by
  rw [oldM_map, List.map_map]; exact List.map_congr_left fun f _ => old_grC f
theorem pl_rowS (l : List ByteArray) : plM (rowS l) := plM_iff.2 fun x hx => by
  obtain ⟨s, _, rfl⟩ := List.mem_map.1 hx; exact ⟨trivial, trivial⟩
theorem pl_frC (f : Fr) : plL (frC f) := ⟨trivial, trivial, pl_rowS f.parts, trivial⟩
theorem pl_rowF (l : List Fr) : plM (rowF l) := plM_iff.2 fun x hx => by
  obtain ⟨f, _, rfl⟩ := List.mem_map.1 hx; exact pl_frC f
theorem pl_grC (g : List Fr) : plL (grC g) := ⟨pl_rowF g, trivial⟩
theorem pl_rowG (l : List (List Fr)) : plM (rowG l) := plM_iff.2 fun x hx => by
  obtain ⟨f, _, rfl⟩ := List.mem_map.1 hx; exact pl_grC f
theorem cspec_emptyO {P : Program} {f : FuncId} {sz : Nat} {rest : List AV} {r : AV} {obs obs' : List Ob} (h : ∀ v, EmptyV v → CSpec P f (.s v :: rest) obs r obs') : CSpec P f (.ol sz [] :: rest) obs r obs' := by
  intro w H ε vs hm hvs hdom
  cases hvs with
  | cons v _ vs _ hv ht =>
    have he : EmptyV v := by
      rcases hv.ol_inv.oslice with ⟨h, _⟩ | ⟨a, cap, h, _⟩ | ⟨b, off, cap, h, _⟩
      · exact .inl h
      · exact .inr ⟨a, cap, h⟩
      · exact .inr ⟨_, cap, h⟩
    exact h v he w H ε (v :: vs) hm (.cons _ _ _ _ (.d _ _ (.s v (by rcases he with rfl | ⟨a, cap, rfl⟩ <;> rfl))) ht) hdom
set_option maxHeartbeats 400000 in
theorem c_cloneStrO (l : List ByteArray) (hl : l.length ≤ 8796093022208) : CSpec Tryz.prog 138 [strsO l] [] (.osl 0 1 (rowS l)) [.perm 9 1 l.length] := by
  cases l with
  | nil =>
    refine cspec_emptyO fun v hv => ?_
    rcases hv with rfl | ⟨a, cap, rfl⟩
    · refine v_cspec Tryz.func138 rfl Tryz.ntmps138 Tryz.results138 (by simp) (k := 0) rfl ?_
      repeat' (first
 | ((with_reducible apply w_ownNil 2 9 1); (case hs => rfl); (case hsz => decide); (case hm => (try simp only [Nat.reduceAdd, Nat.reduceMul]); exact rfl))
 | (with_reducible first | apply qz0 | (refine h0 _ _ ?_; clear h0 hw) | apply qz1 | apply qz5 )
 | refine p_reg fun K1 hK => ?_
 | apply go_seq
 | (refine p_op Tryz.tab fun K' h0 hw => ?_; conv => whnf)
 | (refine p_nil (hK _ ?_); clear hK)
 | ((with_reducible apply go_cond); (case hb => rfl))
 | ((with_reducible apply And.intro); (case' right => try (conv => whnf)); (case' left => try first | decide ))
 | (first  | intro g1; try simp at g1))
      ((first | refine w_retO Tryz.tab [80] (by rfl) (by simp) (by simp) (fun K' hL => ?_) ?_ ?_ ?_ | refine w_retO_end Tryz.tab [80] (by rfl) (by simp) (by simp) (fun K' hL => ?_) ?_ ?_ ?_); (conv => whnf); (refine hL _ ?_; clear hL); all_goals simp)
    · refine v_cspec Tryz.func138 rfl Tryz.ntmps138 Tryz.results138 (by simp) (k := 0) rfl ?_
      repeat' (first
 | (with_reducible first | apply qz0 | (refine h0 _ _ ?_; clear h0 hw) | (refine hw _ _ _ ?_; clear h0 hw) | apply qz1 | apply qz2 | apply qz6 )
 | refine p_reg fun K1 hK => ?_
 | apply go_seq
 | (refine p_op Tryz.tab fun K' h0 hw => ?_; conv => whnf)
 | (refine p_nil (hK _ ?_); clear hK)
 | ((with_reducible apply go_cond); (case hb => rfl))
 | ((with_reducible apply And.intro); (case' right => try (conv => whnf)); (case' left => try first | rfl | decide ))
 | exact p_side
 | (first  | intro g1; try simp at g1))
      ((first | refine w_retO Tryz.tab [48] (by rfl) (by simp) (by simp) (fun K' hL => ?_) ?_ ?_ ?_ | refine w_retO_end Tryz.tab [48] (by rfl) (by simp) (by simp) (fun K' hL => ?_) ?_ ?_ ?_); (conv => whnf); (refine hL _ ?_; clear hL); all_goals simp)
  | cons x l =>
    simp at hl
    refine v_cspec Tryz.func138 rfl Tryz.ntmps138 Tryz.results138 (by simp) (k := 0) rfl ?_
    repeat' (first
 | (with_reducible first | apply qz0 | (refine h0 _ _ ?_; clear h0 hw) | (refine hw _ _ _ ?_; clear h0 hw) | apply qz1 | apply qz2 | apply qz6 )
 | refine p_reg fun K1 hK => ?_
 | apply go_seq
 | (refine p_op Tryz.tab fun K' h0 hw => ?_; conv => whnf)
 | (refine p_nil (hK _ ?_); clear hK)
 | ((with_reducible apply go_cond); (case hb => rfl))
 | ((with_reducible apply And.intro); (case' right => try (conv => whnf)); (case' left => try first | rfl | decide ))
 | exact p_side
 | (first  | intro g1; try simp at g1))
    ((first | refine w_retO Tryz.tab [48] (by rfl) (by simp) (by simp) (fun K' hL => ?_) ?_ ?_ ?_ | refine w_retO_end Tryz.tab [48] (by rfl) (by simp) (by simp) (fun K' hL => ?_) ?_ ?_ ?_); (conv => whnf); (refine hL _ ?_; clear hL); all_goals simp)
theorem p_cloneStrO (l : List ByteArray) (hl : l.length ≤ 8796093022208) : PSpec Tryz.prog 138 [strsO l] (strs l) :=
  pspec_of_cspec (c_cloneStrO l hl) (.osl _ _ _) (.sl _ _)
set_option maxHeartbeats 400000 in
theorem c_frameOwnO (f : Fr) (hl : f.parts.length ≤ 8796093022208) : PSpec Tryz.prog 127 [.agg (frO f)] (.agg (frC f)) := by
  refine p_pspec Tryz.func127 Tryz.ntmps127 Tryz.results127 ?_
  repeat' (first
 | (with_reducible first | apply qz0 | (refine h0 _ _ ?_; clear h0 hw) | (refine hw _ _ _ ?_; clear h0 hw) | apply qz1 | (refine hL _ ?_; clear hL))
 | refine p_reg fun K1 hK => ?_
 | ((first | refine p_op Tryz.tab fun K' h0 hw => ?_ | refine p_op0 Tryz.tab fun K' h0 hw => ?_); conv => whnf)
 | (refine p_nil (hK _ ?_); clear hK)
 | (refine p_call own138 (p_cloneStrO _ hl) ?_; conv => whnf)
 | ((with_reducible first | refine w_ret Tryz.tab fun K' hL => ?_ ); (conv => whnf))
 | ((with_reducible apply And.intro); (case' right => try (conv => whnf)); (case' left => try first | rfl | decide | (simp; done) ))
 )
  all_goals simp
set_option maxHeartbeats 1000000 in
theorem c_groupOwnO (g : List Fr) (hg : g.length ≤ 1000000) (hp : ∀ f ∈ g, f.parts.length ≤ 8796093022208) : CSpec Tryz.prog 108 [.agg (grO g)] [] (.agg [.osl 0 3 (rowF g)]) [.perm 84 3 g.length] := by
  refine v_cspec Tryz.func108 rfl Tryz.ntmps108 Tryz.results108 (by simp) (k := 0) rfl ?_
  repeat' (first
 | ((with_reducible apply w_ownCell 32 0 84 3); (case hb => rfl); (case hj => rfl); (case hsz => decide); (case hm => (try simp only [Nat.reduceAdd, Nat.reduceMul]); exact rfl))
 | (with_reducible first | apply qz0 | (refine h0 _ _ ?_; clear h0 hw) | (refine hw _ _ _ ?_; clear h0 hw) | apply qz3 )
 | refine p_reg fun K1 hK => ?_
 | apply go_seq
 | (refine p_op Tryz.tab fun K' h0 hw => ?_; conv => whnf)
 | (refine p_nil (hK _ ?_); clear hK)
 | ((with_reducible apply And.intro); (case' right => try (conv => whnf)); (case' left => try first | rfl | decide | (simp; done) ))
 )
  refine w_loop (X := Nat) [5, 9, 10, 11, 12, 13, 14, 15, 16, 17, 18, 19, 20] (fun i => [(9, I i)]) (fun i => [(32, .box [.osl 48 3 (rowF (g.take i))]), (48, .perm 84 3 i)]) (fun i => i ≤ g.length) (fun i => g.length - i) 0 (by simp) ?_ ?_
  · refine ⟨kt_refl, ko_refl, ?_, ?_, ?_, ?_, Nat.le_refl _⟩ <;> simp
  intro i h1
  have hlen : min i g.length = i := by omega
  repeat' (first
 | (with_reducible first | apply qz0 | (refine h0 _ _ ?_; clear h0 hw) | (refine hw _ _ _ ?_; clear h0 hw) | apply qz1 | apply qz2 | apply qz3 | apply qz4 | apply qz6 | apply qz7 | apply qz9 | apply qza | apply qzc )
 | refine p_reg fun K1 hK => ?_ | refine p_regE fun K1 hK => ?_
 | refine p_dregE Tryz.mix fun K1 hK => ?_
 | apply go_seq
 | ((first | refine p_op Tryz.tab fun K' h0 hw => ?_ | refine p_op0 Tryz.tab fun K' h0 hw => ?_ | refine p_dop Tryz.tab fun K' h0 hw => ?_ | refine p_dop0 Tryz.tab fun K' h0 hw => ?_); conv => whnf)
 | (refine p_nil (hK _ ?_); clear hK)
 | (refine d_nil (p_obj ?_ (hK _ _ _ _)); clear hK)
 | ((with_reducible refine callV_id (f := 127) ?_); have hcs_ := c_frameOwnO x1 (hp x1 (List.mem_of_getElem? (by simpa using hx1))); (with_reducible apply callV_f own127 (hcs_)); (case hx => rfl); (case he => rfl); (case hle => first | ((repeat constructor); done) ); (case hpu => repeat constructor); (case' hK => (try clear hcs_); conv => whnf))
 | ((with_reducible apply go_cond); (case hb => rfl))
 | ((with_reducible apply And.intro); (case' right => try (conv => whnf)); (case' left => try first | rfl | decide | (simp [hlen]; done) ))
 | exact p_side
 | ((with_reducible refine all_row ?_); (first | intro x1 hx1); conv => whnf)
 | (first  | intro g1; try simp at g1))
  · simp at hx1
    have ht := take_at hx1
    ((refine w_nx ((i + 1)) ?_ ?_ ?_ ?_ ?_ ?_); (case refine_1 => simp [ht, hlen]); (case refine_2 => simp [ht, hlen]); (case refine_3 => simp (disch := omega) [ht, hlen, wrp]); (case refine_4 => simp [ht, hlen]); (case refine_5 => first | (simp; omega) | (simp; done) | omega | (simp only; omega)); (case' refine_6 => (try simp only); (try exact trivial)))
    omega
  · have e : g.take i = g := List.take_of_length_le (by omega)
    have e2 : i = g.length := by omega
    subst e2
    ((first | refine w_retO Tryz.tab [48] (by rfl) (by simp) (by simp) (fun K' hL => ?_) ?_ ?_ ?_ | refine w_retO_end Tryz.tab [48] (by rfl) (by simp) (by simp) (fun K' hL => ?_) ?_ ?_ ?_); (conv => whnf); (refine hL _ ?_; clear hL); all_goals simp [e])
set_option maxHeartbeats 1000000 in
theorem c_storeOwnO (s : Sto) (hs : Small s) : CSpec Tryz.prog 72 [.agg (stO s)] [] (.agg [I s.first, .osl 0 1 (rowG s.gs), .osl 1 3 (rowF s.op)]) [.perm 30 1 s.gs.length, .perm 84 3 s.op.length] := by
  obtain ⟨h1, h2, h3, h4⟩ := hs
  refine v_cspec Tryz.func72 rfl Tryz.ntmps72 Tryz.results72 (by simp) (k := 0) rfl ?_
  repeat' (first
 | ((with_reducible apply w_ownCell 128 1 30 1); (case hb => rfl); (case hj => rfl); (case hsz => decide); (case hm => (try simp only [Nat.reduceAdd, Nat.reduceMul]); exact rfl))
 | (with_reducible first | apply qz0 | (refine h0 _ _ ?_; clear h0 hw) | (refine hw _ _ _ ?_; clear h0 hw) | apply qz3 )
 | refine p_reg fun K1 hK => ?_
 | refine p_dreg Tryz.mix fun K1 hK => ?_
 | apply go_seq
 | ((first | refine p_op Tryz.tab fun K' h0 hw => ?_ | refine p_dop Tryz.tab fun K' h0 hw => ?_ | refine p_dop0 Tryz.tab fun K' h0 hw => ?_); conv => whnf)
 | (refine p_nil (hK _ ?_); clear hK)
 | (refine d_nil (p_obj ?_ (hK _ _ _ _)); clear hK)
 | ((with_reducible refine callV_id (f := 108) ?_); have hcs_ := c_groupOwnO s.op h3 h4; (with_reducible apply w_callO [] own108 (hcs_)); (case hx => rfl); (case he => rfl); (case hle => first | ((repeat constructor); done) ); (case hm => rfl); (case hnd => decide); (case' hK => (try clear hcs_); conv => whnf); (any_goals (simp; done)))
 | ((with_reducible apply And.intro); (case' right => try (conv => whnf)); (case' left => try first | rfl | decide | (simp; done) ))
 )
  refine w_loop (X := Nat) [5, 15, 16, 17, 18, 19, 20, 21, 22, 23, 24, 25, 26] (fun i => [(15, I i)]) (fun i => [(128, .box [I s.first, .osl 160 1 (rowG (s.gs.take i)), .osl 96 3 (rowF s.op)]), (160, .perm 30 1 i)]) (fun i => i ≤ s.gs.length) (fun i => s.gs.length - i) 0 (by simp) ?_ ?_
  · refine ⟨kt_refl, ko_refl, ?_, ?_, ?_, ?_, Nat.le_refl _⟩ <;> simp
  intro i hi
  have hlen : min i s.gs.length = i := by omega
  have hown : ∀ x1, s.gs[i]? = some x1 → PSpec Tryz.prog 108 [.agg (grO x1)] (.agg (grC x1)) := fun x1 hx => by
    have := h2 x1 (List.mem_of_getElem? hx)
    exact pspec_of_cspec (c_groupOwnO x1 this.1 this.2) (.agg _ _ (.cons _ _ _ _ (.osl _ _ _) .nil)) (.agg _ (.cons _ _ (.sl _ _) .nil))
  repeat' (first
 | (with_reducible first | apply qz0 | (refine h0 _ _ ?_; clear h0 hw) | (refine hw _ _ _ ?_; clear h0 hw) | apply qz1 | apply qz2 | apply qz3 | apply qz4 | apply qz6 | apply qz7 | apply qz9 | apply qza | apply qzc )
 | refine p_reg fun K1 hK => ?_ | refine p_regE fun K1 hK => ?_
 | refine p_dregE Tryz.mix fun K1 hK => ?_
 | apply go_seq
 | ((first | refine p_op Tryz.tab fun K' h0 hw => ?_ | refine p_op0 Tryz.tab fun K' h0 hw => ?_ | refine p_dop Tryz.tab fun K' h0 hw => ?_ | refine p_dop0 Tryz.tab fun K' h0 hw => ?_); conv => whnf)
 | (refine p_nil (hK _ ?_); clear hK)
 | (refine d_nil (p_obj ?_ (hK _ _ _ _)); clear hK)
 | ((with_reducible refine callV_id (f := 108) ?_); have hcs_ := hown x1 (by simpa using hx1); (with_reducible apply callV_f own108 (hcs_)); (case hx => rfl); (case he => rfl); (case hle => first | ((repeat constructor); done) ); (case hpu => repeat constructor); (case' hK => (try clear hcs_); conv => whnf))
 | ((with_reducible apply go_cond); (case hb => rfl))
 | ((with_reducible apply And.intro); (case' right => try (conv => whnf)); (case' left => try first | rfl | decide | (simp [hlen]; done) ))
 | exact p_side
 | ((with_reducible refine all_row ?_); (first | intro x1 hx1); conv => whnf)
 | (first  | intro g1; try simp at g1))
  · simp at hx1
    have ht := take_at hx1
    ((refine w_nx ((i + 1)) ?_ ?_ ?_ ?_ ?_ ?_); (case refine_1 => simp [ht, hlen]); (case refine_2 => simp [ht, hlen]); (case refine_3 => simp (disch := omega) [ht, hlen, wrp]); (case refine_4 => simp [ht, hlen]); (case refine_5 => first | (simp; omega) | (simp; done) | omega | (simp only; omega)); (case' refine_6 => (try simp only); (try exact trivial)))
    omega
  · have e : s.gs.take i = s.gs := List.take_of_length_le (by omega)
    have e2 : i = s.gs.length := by omega
    subst e2
    ((first | refine w_retO Tryz.tab [160, 96] (by rfl) (by simp) (by simp) (fun K' hL => ?_) ?_ ?_ ?_ | refine w_retO_end Tryz.tab [160, 96] (by rfl) (by simp) (by simp) (fun K' hL => ?_) ?_ ?_ ?_); (conv => whnf); (refine hL _ ?_; clear hL); all_goals simp [e])
end Go.Proofs.YtokkencbpmjdaaaGreat

/- Walks of what spoils, and of what copies, in the laws of rest. CONDITIONS: slices fit into memory. -/
import Derived.Test.YtokkencbpmjdaaaGreatOldCur
namespace Go.Proofs.YtokkencbpmjdaaaGreat
open Go Go.Sy
set_option maxRecDepth 4000
set_option linter.unusedSimpArgs false
set_option linter.unusedVariables false
attribute [local irreducible] Reg RegD Later Out CallV Tri Side EqV Pause
abbrev strsW (l : List ByteArray) : AV := .wsl 1 (l.map fun _ => [.hole])
abbrev frW (f : Fr) : List AV := [.hole, .hole, strsW f.parts]
abbrev rowFW (l : List Fr) : List (List AV) := l.map frW
abbrev grW (g : List Fr) : List AV := [.wsl 3 (rowFW g)]
abbrev rowGW (l : List (List Fr)) : List (List AV) := l.map grW
abbrev stW (s : Sto) : List AV := [I s.first, .wsl 1 (rowGW s.gs), .wsl 3 (rowFW s.op)]
theorem spoM_map : ∀ m : List (List AV), spoM m = m.map spcL
  | [] => rfl
  | l :: m => by simp [spoM, spoM_map m]
theorem spo_rowS (l : List ByteArray) : spoM (rowS l) = l.map fun _ => [.hole] := by
  rw [spoM_map, List.map_map]; exact List.map_congr_left fun s _ => by simp [spcL, AV.spc, scalV]
theorem spc_frC (f : Fr) : spcL (frC f) = frW f := by simp only [spcL, AV.spc, scalV, cond_true, spo_rowS]
theorem spo_rowF (l : List Fr) : spoM (rowF l) = rowFW l := by
  rw [spoM_map, List.map_map]; exact List.map_congr_left fun f _ => spc_frC f
theorem spc_grC (g : List Fr) : spcL (grC g) = grW g := by simp only [spcL, AV.spc, spo_rowF]
theorem spo_rowG (l : List (List Fr)) : spoM (rowG l) = rowGW l := by
  rw [spoM_map, List.map_map]; exact List.map_congr_left fun g _ => spc_grC g
theorem hoM_iff : ∀ {m : List (List AV)}, hoM m ↔ ∀ l ∈ m, hoL l
  | [] => by simp [hoM]
  | l :: m => by simp [hoM, hoM_iff (m := m)]
theorem skM_iff : ∀ {m : List (List AV)}, skM m ↔ ∀ l ∈ m, skcL l
  | [] => by simp [skM]
  | l :: m => by simp [skM, skM_iff (m := m)]
theorem ho_rowS (l : List ByteArray) : hoM (rowS l) := hoM_iff.2 fun x hx => by
  obtain ⟨s, _, rfl⟩ := List.mem_map.1 hx; exact ⟨trivial, trivial⟩
theorem ho_frO (f : Fr) : hoL (frO f) := ⟨trivial, trivial, ho_rowS f.parts, trivial⟩
theorem ho_rowFO (l : List Fr) : hoM (rowFO l) := hoM_iff.2 fun x hx => by
  obtain ⟨f, _, rfl⟩ := List.mem_map.1 hx; exact ho_frO f
theorem ho_grO (g : List Fr) : hoL (grO g) := ⟨ho_rowFO g, trivial⟩
theorem ho_rowGO (l : List (List Fr)) : hoM (rowGO l) := hoM_iff.2 fun x hx => by
  obtain ⟨f, _, rfl⟩ := List.mem_map.1 hx; exact ho_grO f
theorem sk_rowS (l : List ByteArray) : skM (rowS l) := skM_iff.2 fun x hx => by
  obtain ⟨s, _, rfl⟩ := List.mem_map.1 hx; exact ⟨trivial, trivial⟩
theorem skc_frC (f : Fr) : skcL (frC f) := ⟨trivial, trivial, sk_rowS f.parts, trivial⟩
theorem sk_rowF (l : List Fr) : skM (rowF l) := skM_iff.2 fun x hx => by
  obtain ⟨f, _, rfl⟩ := List.mem_map.1 hx; exact skc_frC f
theorem skc_grC (g : List Fr) : skcL (grC g) := ⟨sk_rowF g, trivial⟩
theorem sk_rowG (l : List (List Fr)) : skM (rowG l) := skM_iff.2 fun x hx => by
  obtain ⟨f, _, rfl⟩ := List.mem_map.1 hx; exact skc_grC f
set_option maxHeartbeats 1000000 in
theorem c_spoilFrames (l : List Fr) (hl : l.length ≤ 1000000000000) (hp : ∀ f ∈ l, f.parts.length ≤ 1000000000000000) : PSpec Tryz.prog 18 [.wsl 3 (rowFW l)] (.tup []) := by
  refine p_pspec Tryz.func18 Tryz.ntmps18 Tryz.results18 ?_
  repeat' (first
 | (with_reducible first | apply qz0 | (refine h0 _ _ ?_; clear h0 hw) | apply qz3 )
 | refine p_reg fun K1 hK => ?_
 | (refine p_op Tryz.tab fun K' h0 hw => ?_; conv => whnf)
 | (refine p_nil (hK _ ?_); clear hK)
 )
  refine w_loop (X := Nat) [2, 3, 4, 5, 6, 7, 8, 9, 10, 11, 12, 13, 14, 15, 16, 17, 18, 19, 20, 21, 22, 23, 24, 25, 26, 27, 28, 29, 30] (fun i => [(2, I i)]) (fun _ => []) (fun i => i ≤ l.length) (fun i => l.length - i) 0 (by simp) ?_ ?_
  · refine ⟨kt_refl, ko_refl, ?_, ?_, ?_, ?_, Nat.le_refl _⟩ <;> simp
  intro i h1
  repeat' (first
 | (with_reducible first | apply qz0 | (refine h0 _ _ ?_; clear h0 hw) | apply qz2 | apply qz3 | apply qz4 | apply qz6 | apply qz7 | apply qza | apply qzc | (refine hL _ ?_; clear hL))
 | refine p_reg fun K1 hK => ?_
 | apply go_seq
 | (refine p_op Tryz.tab fun K' h0 hw => ?_; conv => whnf)
 | (refine p_nil (hK _ ?_); clear hK)
 | ((with_reducible apply go_cond); (case hb => rfl))
 | ((with_reducible first | refine w_ret_end Tryz.tab fun K' hL => ?_); (conv => whnf))
 | (first | (guard_hyp g1; intro g2; try simp at g2) | intro g1; try simp at g1))
  · obtain ⟨f, hf⟩ : ∃ f, l[i]? = some f := ⟨l[i], by simp [g1]⟩
    have hq := hp f (List.mem_of_getElem? hf)
    refine w_loop (X := Nat) [3, 10, 11, 12, 13, 14, 15, 16, 17, 18, 19, 20, 21, 22, 23, 24, 25, 26] (fun k => [(3, I k)]) (fun _ => []) (fun k => k ≤ f.parts.length) (fun k => f.parts.length - k) 0 (by simp) ?_ ?_
    · refine ⟨kt_refl, ko_refl, ?_, ?_, ?_, ?_, Nat.le_refl _⟩ <;> simp
    intro k h2
    repeat' (first
 | (with_reducible first | apply qz0 | (refine h0 _ _ ?_; clear h0 hw) | apply qz2 | apply qz3 | apply qz4 | apply qz6 | apply qz7 | apply qz9 | apply qza | apply qzc )
 | refine p_reg fun K1 hK => ?_ | refine p_regE fun K1 hK => ?_
 | apply go_seq
 | ((first | refine p_op Tryz.tab fun K' h0 hw => ?_ | refine p_op0 Tryz.tab fun K' h0 hw => ?_); conv => whnf)
 | (refine p_nil (hK _ ?_); clear hK)
 | ((with_reducible apply go_cond); (case hb => rfl))
 | ((with_reducible apply And.intro); (case' right => try (conv => whnf)); (case' left => try first | rfl | decide | (simp; done) ))
 | exact p_side
 | ((with_reducible apply all_rk); (case hx => with_reducible assumption); (conv => whnf))
 | ((with_reducible refine all_row ?_); (first | (guard_hyp hx1; intro x2 hx2) | intro x1 hx1); conv => whnf)
 | (first | (guard_hyp g1; intro g2; try simp at g2) | intro g1; try simp at g1))
    · have e : f = x1 := by simpa [hf] using hx1
      subst e
      have h3 := hx2
      (refine p_nx ((k + 1)) ?_; (try simp only); (try exact trivial))
      omega
    · have e : f = x1 := by simpa [hf] using hx1
      subst e
      (refine p_nx ((i + 1)) ?_; (try simp only); (try exact trivial))
      omega
  · exact .refl _
set_option maxHeartbeats 1000000 in
theorem c_spoilStore (s : Sto) (hs : Small s) : PSpec Tryz.prog 17 [.agg (stW s)] (.tup []) := by
  obtain ⟨h1, h2, h3, h4⟩ := hs
  refine p_pspec Tryz.func17 Tryz.ntmps17 Tryz.results17 ?_
  repeat' (first
 | (with_reducible first | apply qz0 | (refine h0 _ _ ?_; clear h0 hw) | (refine hw _ _ _ ?_; clear h0 hw) | apply qz3 )
 | refine p_reg fun K1 hK => ?_
 | apply go_seq
 | (refine p_op Tryz.tab fun K' h0 hw => ?_; conv => whnf)
 | (refine p_nil (hK _ ?_); clear hK)
 | ((with_reducible apply And.intro); (case' right => try (conv => whnf)); (case' left => try first | rfl ))
 )
  refine w_loop (X := Nat) [2, 3, 4, 5, 6, 7, 8, 9, 10, 11, 12, 13, 14, 15, 16] (fun i => [(2, I i)]) (fun _ => []) (fun i => i ≤ s.gs.length) (fun i => s.gs.length - i) 0 (by simp) ?_ ?_
  · refine ⟨kt_refl, ko_refl, ?_, ?_, ?_, ?_, Nat.le_refl _⟩ <;> simp
  intro i hi
  have hsp : ∀ x1, s.gs[i]? = some x1 → PSpec Tryz.prog 18 [.wsl 3 (rowFW x1)] (.tup []) := fun x1 hx => by
    have := h2 x1 (List.mem_of_getElem? hx)
    exact c_spoilFrames x1 (by omega) (fun f hf => by have := this.2 f hf; omega)
  have hop := c_spoilFrames s.op (by omega) (fun f hf => by have := h4 f hf; omega)
  repeat' (first
 | (with_reducible first | apply qz0 | (refine h0 _ _ ?_; clear h0 hw) | apply qz2 | apply qz3 | apply qz4 | apply qz6 | apply qz7 | apply qz9 | apply qza | apply qzc | (refine hL _ ?_; clear hL))
 | refine p_reg fun K1 hK => ?_ | refine p_regE fun K1 hK => ?_
 | apply go_seq
 | (refine p_op Tryz.tab fun K' h0 hw => ?_; conv => whnf)
 | (refine p_nil (hK _ ?_); clear hK)
 | ((with_reducible refine callV_id (f := 18) ?_); have hcs_ := hsp x1 (by simpa using hx1); (with_reducible apply callV_f own18 (hcs_)); (case hx => rfl); (case he => rfl); (case hle => first | ((repeat constructor); done) ); (case hpu => repeat constructor); (case' hK => (try clear hcs_); conv => whnf))
 | (refine p_call own18 (hop) ?_; conv => whnf)
 | ((with_reducible apply go_cond); (case hb => rfl))
 | ((with_reducible first | refine w_ret_end Tryz.tab fun K' hL => ?_); (conv => whnf))
 | ((with_reducible apply And.intro); (case' right => try (conv => whnf)); (case' left => try first | rfl | decide | (simp; done) ))
 | exact p_side
 | ((with_reducible refine all_row ?_); (first | intro x1 hx1); conv => whnf)
 | (first  | intro g1; try simp at g1))
  · (refine p_nx ((i + 1)) ?_; (try simp only); (try exact trivial))
    omega
  · exact .refl _
set_option maxHeartbeats 1000000 in
theorem c_copiedGroup (g : List Fr) (hg : g.length * 40 ≤ 140737488355328) (hp : ∀ f ∈ g, f.parts.length ≤ 8796093022208) : CSpec Tryz.prog 23 [.agg (grC g)] [] (.agg [.osl 0 3 (rowF g)]) [.perm 84 3 g.length] := by
  refine v_cspec Tryz.func23 rfl Tryz.ntmps23 Tryz.results23 (by simp) (k := 0) rfl ?_
  repeat' (first
 | ((with_reducible apply w_ownCell 32 0 84 3); (case hb => rfl); (case hj => rfl); (case hsz => decide); (case hm => (try simp only [Nat.reduceAdd, Nat.reduceMul]); exact rfl))
 | (with_reducible first | apply qz0 | (refine h0 _ _ ?_; clear h0 hw) | (refine hw _ _ _ ?_; clear h0 hw) | apply qz3 )
 | refine p_reg fun K1 hK => ?_
 | apply go_seq
 | (refine p_op Tryz.tab fun K' h0 hw => ?_; conv => whnf)
 | (refine p_nil (hK _ ?_); clear hK)
 | ((with_reducible apply And.intro); (case' right => try (conv => whnf)); (case' left => try first | rfl ))
 )
  refine w_loop (X := Nat) [4, 5, 6, 7, 8, 9, 10, 11, 12, 13, 14, 15, 16, 17, 18, 19, 20, 21, 22, 23, 24, 25, 26, 27, 28] (fun i => [(4, I i)]) (fun i => [(32, .box [.osl 48 3 (rowF (g.take i))]), (48, .perm 84 3 i)]) (fun i => i ≤ g.length) (fun i => g.length - i) 0 (by simp) ?_ ?_
  · refine ⟨kt_refl, ko_refl, ?_, ?_, ?_, ?_, Nat.le_refl _⟩ <;> simp
  intro i h1
  have hlen : min i g.length = i := by omega
  repeat' (first
 | (with_reducible first | apply qz0 | (refine h0 _ _ ?_; clear h0 hw) | (refine hw _ _ _ ?_; clear h0 hw) | apply qz1 | apply qz2 | apply qz3 | apply qz4 | apply qz6 | apply qz7 | apply qz9 | apply qza | apply qzc )
 | refine p_reg fun K1 hK => ?_ | refine p_regE fun K1 hK => ?_
 | apply go_seq
 | ((first | refine p_op Tryz.tab fun K' h0 hw => ?_ | refine p_op0 Tryz.tab fun K' h0 hw => ?_); conv => whnf)
 | (refine p_nil (hK _ ?_); clear hK)
 | ((with_reducible apply go_cond); (case hb => rfl))
 | ((with_reducible apply And.intro); (case' right => try (conv => whnf)); (case' left => try first | rfl | decide | (simp [hlen]; done) ))
 | ((with_reducible apply Side.mk); (try simp (disch := omega) only [wrp]); (try simp); (try simp (disch := omega) only [wrp]); (try omega))
 | ((with_reducible refine all_row ?_); (first | intro x1 hx1); conv => whnf)
 | (first  | intro g1; try simp at g1))
  · have := hp x1 (List.mem_of_getElem? (by simpa using hx1)); omega
  · have := hp x1 (List.mem_of_getElem? (by simpa using hx1)); omega
  · simp at hx1
    have ht := take_at hx1
    ((refine w_nx ((i + 1)) ?_ ?_ ?_ ?_ ?_ ?_); (case refine_1 => simp [ht, hlen]); (case refine_2 => simp [ht, hlen]); (case refine_3 => simp (disch := omega) [ht, hlen, wrp]); (case refine_4 => simp [ht, hlen]); (case refine_5 => first | (simp; omega) | (simp; done) | omega | (simp only; omega)); (case' refine_6 => (try simp only); (try exact trivial)))
    omega
  · have e : g.take i = g := List.take_of_length_le (by omega)
    have e2 : i = g.length := by omega
    subst e2
    ((first | refine w_retO Tryz.tab [48] (by rfl) (by simp) (by simp) (fun K' hL => ?_) ?_ ?_ ?_ | refine w_retO_end Tryz.tab [48] (by rfl) (by simp) (by simp) (fun K' hL => ?_) ?_ ?_ ?_); (conv => whnf); (refine hL _ ?_; clear hL); all_goals simp [e])
theorem p_copiedGroup (g : List Fr) (hg : g.length * 40 ≤ 140737488355328) (hp : ∀ f ∈ g, f.parts.length ≤ 8796093022208) : PSpec Tryz.prog 23 [.agg (grC g)] (.agg (grC g)) :=
  pspec_of_cspec (c_copiedGroup g hg hp) (.agg _ _ (.cons _ _ _ _ (.osl _ _ _) .nil)) (.agg _ (.cons _ _ (.sl _ _) .nil))
def FitsQ (s : Sto) : Prop := s.gs.length * 24 ≤ 140737488355328 ∧ (∀ g ∈ s.gs, g.length * 40 ≤ 140737488355328 ∧ ∀ f ∈ g, f.parts.length ≤ 8796093022208) ∧ s.op.length * 40 ≤ 140737488355328 ∧ ∀ f ∈ s.op, f.parts.length ≤ 8796093022208
theorem FitsQ.fits {s : Sto} (h : FitsQ s) : FitsS s := by
  obtain ⟨h1, h2, h3, h4⟩ := h
  exact ⟨by omega, fun g hg => ⟨by have := (h2 g hg).1; omega, (h2 g hg).2⟩, ⟨by omega, h4⟩⟩
set_option maxHeartbeats 1000000 in
theorem c_sameGroupsT (a b : List (List Fr)) (ha : a.length ≤ 6000000000000) (hp : ∀ g ∈ a, g.length ≤ 4000000000000 ∧ ∀ f ∈ g, f.parts.length ≤ 1000000000000000) : PSpec Tryz.prog 67 [grs a, grs b] (B (decide (a = b))) := by
  refine p_pspec Tryz.func67 Tryz.ntmps67 Tryz.results67 ?_
  repeat' (first
 | (with_reducible first | apply qz0 | (refine h0 _ _ ?_; clear h0 hw) | apply qz1 | apply qz2 | apply qz3 | apply qz5 | apply qz6 | (refine hL _ ?_; clear hL))
 | refine p_reg fun K1 hK => ?_
 | apply go_seq
 | (refine p_op Tryz.tab fun K' h0 hw => ?_; conv => whnf)
 | (refine p_nil (hK _ ?_); clear hK)
 | ((with_reducible apply go_cond); (case hb => rfl))
 | ((with_reducible first | refine w_ret Tryz.tab fun K' hL => ?_ ); (conv => whnf))
 | (first | (guard_hyp g1; intro g2; try simp at g2) | intro g1; try simp at g1))
  · refine le_of_eq ?_; simp; intro h; subst h; exact g1 rfl
  refine w_loop (X := Nat) [4, 5, 11, 12, 13, 14, 15, 16, 17, 18, 19, 20, 21, 22, 23, 24, 25, 26, 27, 28] (fun i => [(5, I i)]) (fun _ => []) (fun i => i ≤ a.length ∧ a.take i = b.take i) (fun i => a.length - i) 0 (by simp) ?_ ?_
  · refine ⟨kt_refl, ko_refl, ?_, ?_, ?_, ?_, Nat.le_refl _⟩ <;> simp
  rintro i ⟨h1, h2⟩
  repeat' (first
 | (with_reducible first | apply qz0 | (refine h0 _ _ ?_; clear h0 hw) | apply qz1 | apply qz2 | apply qz3 | apply qz4 | apply qz5 | apply qz6 | apply qz7 | apply qz8 | apply qz9 | apply qza | apply qzb | apply qzc | (refine hL _ ?_; clear hL))
 | refine p_reg fun K1 hK => ?_ | refine p_regE fun K1 hK => ?_
 | refine p_dreg Tryz.mix fun K1 hK => ?_
 | apply go_seq
 | ((first | refine p_op Tryz.tab fun K' h0 hw => ?_ | refine p_dop Tryz.tab fun K' h0 hw => ?_); conv => whnf)
 | (refine p_nil (hK _ ?_); clear hK)
 | (refine d_nil (p_obj ?_ (hK _ _ _ _)); clear hK)
 | ((with_reducible refine callV_id (f := 68) ?_); have hcs_ := c_sameFrames x1 x2 (hp x1 (List.mem_of_getElem? (by simpa using hx1))).1 (hp x1 (List.mem_of_getElem? (by simpa using hx1))).2; (with_reducible apply callV_f own68 (hcs_)); (case hx => rfl); (case he => rfl); (case hle => first | ((repeat constructor); done) ); (case hpu => repeat constructor); (case' hK => (try clear hcs_); conv => whnf))
 | ((with_reducible apply go_cond); (case hb => rfl))
 | ((with_reducible first | refine w_ret Tryz.tab fun K' hL => ?_ ); (conv => whnf))
 | ((with_reducible apply And.intro); (case' right => try (conv => whnf)); (case' left => try first | rfl | decide | (simp; done) ))
 | exact p_side
 | ((with_reducible refine all_row ?_); (first | (guard_hyp hx1; intro x2 hx2) | intro x1 hx1); conv => whnf)
 | (first | (guard_hyp g1; intro g2; try simp at g2) | intro g1; try simp at g1))
  · simp at hx1 hx2
    refine le_of_eq ?_; simp; intro h; subst h; simp_all
  · simp at hx1 hx2
    (refine p_nx ((i + 1)) ?_; (try simp only); (try exact trivial))
    refine ⟨by omega, ?_⟩
    rw [take_at hx1, take_at hx2, h2]; simp_all
  · have : a = b := eq_of_takes (by first | omega | (simp_all; done) | (simp_all; omega)) h2 (by omega)
    exact le_of_eq (by simp [this])
set_option maxHeartbeats 1000000 in
theorem c_sameStoreT (a b : Sto) (ha : FitsS a) : PSpec Tryz.prog 40 [.agg (stC a), .agg (stC b)] (B (decide (a = b))) := by
  refine p_pspec Tryz.func40 Tryz.ntmps40 Tryz.results40 ?_
  repeat' (first
 | (with_reducible first | apply qz0 | (refine h0 _ _ ?_; clear h0 hw) | (refine hw _ _ _ ?_; clear h0 hw) | apply qz1 | (refine hL _ ?_; clear hL))
 | refine p_reg fun K1 hK => ?_
 | (refine p_op Tryz.tab fun K' h0 hw => ?_; conv => whnf)
 | (refine p_nil (hK _ ?_); clear hK)
 | (first | refine v_grd_yes (by rfl) (by rfl) ?_)
 | ((first | (apply v_grd_no; (case hg => rfl); (case hb => rfl)) | (apply v_grd; (case hg => rfl); (case hb => rfl))); (case hi => (simp only [Nat.reduceAdd, Nat.reduceMul]; rfl)))
 | ((with_reducible refine callV_id (f := 67) ?_); have hcs_ := c_sameGroupsT a.gs b.gs (by have := ha.1; omega) (fun g hg => ⟨by have := (ha.2.1 g hg).1; omega, fun f hf => by have := (ha.2.1 g hg).2 f hf; omega⟩); (with_reducible apply callV_f own67 (hcs_)); (case hx => rfl); (case he => rfl); (case hle => first | ((repeat constructor); done) ); (case hpu => repeat constructor); (case' hK => (try clear hcs_); conv => whnf))
 | ((with_reducible refine callV_id (f := 68) ?_); have hcs_ := c_sameFrames a.op b.op (by have := ha.2.2.1; omega) (fun f hf => by have := ha.2.2.2 f hf; omega); (with_reducible apply callV_f own68 (hcs_)); (case hx => rfl); (case he => rfl); (case hle => first | ((repeat constructor); done) ); (case hpu => repeat constructor); (case' hK => (try clear hcs_); conv => whnf))
 | ((with_reducible first | refine w_ret Tryz.tab fun K' hL => ?_ ); (conv => whnf))
 | ((with_reducible apply And.intro); (case' right => try (conv => whnf)); (case' left => try first | rfl | decide | (simp; done) ))
 | (first | (guard_hyp g2; intro g3; try simp at g3) | (guard_hyp g1; intro g2; try simp at g2) | intro g1; try simp at g1))
  · refine le_of_eq (congrArg B ?_)
    rw [Bool.eq_iff_iff]; simp
    exact ⟨fun h => Sto.ext' g1 g2 h, fun h => by rw [h]⟩
  all_goals
    refine le_of_eq (congrArg B ?_)
    simp; intro h; subst h; simp_all
set_option maxHeartbeats 1000000 in
theorem c_copiedStore (s : Sto) (hs : FitsQ s) : PSpec Tryz.prog 6 [.agg (stC s)] (.agg (stC s)) := by
  obtain ⟨h1, h2, h3, h4⟩ := hs
  refine p_pspec Tryz.func6 Tryz.ntmps6 Tryz.results6 ?_
  repeat' (first
 | ((with_reducible apply w_ownCell 128 1 30 1); (case hb => rfl); (case hj => rfl); (case hsz => decide); (case hm => (try simp only [Nat.reduceAdd, Nat.reduceMul]); exact rfl))
 | (with_reducible first | apply qz0 | (refine h0 _ _ ?_; clear h0 hw) | (refine hw _ _ _ ?_; clear h0 hw) | apply qz3 )
 | refine p_reg fun K1 hK => ?_
 | refine p_dreg Tryz.mix fun K1 hK => ?_
 | apply go_seq
 | ((first | refine p_op Tryz.tab fun K' h0 hw => ?_ | refine p_dop Tryz.tab fun K' h0 hw => ?_ | refine p_dop0 Tryz.tab fun K' h0 hw => ?_); conv => whnf)
 | (refine p_nil (hK _ ?_); clear hK)
 | (refine d_nil (p_obj ?_ (hK _ _ _ _)); clear hK)
 | ((with_reducible refine callV_id (f := 23) ?_); have hcs_ := p_copiedGroup s.op h3 h4; (with_reducible apply callV_f own23 (hcs_)); (case hx => rfl); (case he => rfl); (case hle => first | ((repeat constructor); done) ); (case hpu => repeat constructor); (case' hK => (try clear hcs_); conv => whnf))
 | ((with_reducible apply And.intro); (case' right => try (conv => whnf)); (case' left => try first | rfl | decide | (simp; done) ))
 )
  refine w_loop (X := Nat) [4, 11, 12, 13, 14, 15, 16, 17, 18, 19, 20, 21, 22, 23, 24, 25, 26, 27, 28] (fun i => [(4, I i)]) (fun i => [(128, .box [I s.first, .osl 160 1 (rowG (s.gs.take i)), frs s.op]), (160, .perm 30 1 i)]) (fun i => i ≤ s.gs.length) (fun i => s.gs.length - i) 0 (by simp) ?_ ?_
  · refine ⟨kt_refl, ko_refl, ?_, ?_, ?_, ?_, Nat.le_refl _⟩ <;> simp
  intro i hi
  have hlen : min i s.gs.length = i := by omega
  have hown : ∀ x1, s.gs[i]? = some x1 → PSpec Tryz.prog 23 [.agg (grC x1)] (.agg (grC x1)) := fun x1 hx => by
    have := h2 x1 (List.mem_of_getElem? hx)
    exact p_copiedGroup x1 this.1 this.2
  repeat' (first
 | (with_reducible first | apply qz0 | (refine h0 _ _ ?_; clear h0 hw) | (refine hw _ _ _ ?_; clear h0 hw) | apply qz1 | apply qz2 | apply qz3 | apply qz4 | apply qz6 | apply qz7 | apply qz9 | apply qza | apply qzc | (refine hL _ ?_; clear hL))
 | refine p_reg fun K1 hK => ?_ | refine p_regE fun K1 hK => ?_
 | refine p_dregE Tryz.mix fun K1 hK => ?_
 | apply go_seq
 | ((first | refine p_op Tryz.tab fun K' h0 hw => ?_ | refine p_op0 Tryz.tab fun K' h0 hw => ?_ | refine p_dop Tryz.tab fun K' h0 hw => ?_ | refine p_dop0 Tryz.tab fun K' h0 hw => ?_); conv => whnf)
 | (refine p_nil (hK _ ?_); clear hK)
 | (refine d_nil (p_obj ?_ (hK _ _ _ _)); clear hK)
 | ((with_reducible refine callV_id (f := 23) ?_); have hcs_ := hown x1 (by simpa using hx1); (with_reducible apply callV_f own23 (hcs_)); (case hx => rfl); (case he => rfl); (case hle => first | ((repeat constructor); done) ); (case hpu => repeat constructor); (case' hK => (try clear hcs_); conv => whnf))
 | ((with_reducible apply go_cond); (case hb => rfl))
 | ((with_reducible first | refine w_ret Tryz.tab fun K' hL => ?_ ); (conv => whnf))
 | ((with_reducible apply And.intro); (case' right => try (conv => whnf)); (case' left => try first | rfl | decide | (simp [hlen]; done) ))
 | exact p_side
 | ((with_reducible refine all_row ?_); (first | intro x1 hx1); conv => whnf)
 | (first  | intro g1; try simp at g1))
  · simp at hx1
    have ht := take_at hx1
    ((refine w_nx ((i + 1)) ?_ ?_ ?_ ?_ ?_ ?_); (case refine_1 => simp [ht, hlen]); (case refine_2 => simp [ht, hlen]); (case refine_3 => simp (disch := omega) [ht, hlen, wrp]); (case refine_4 => simp [ht, hlen]); (case refine_5 => first | (simp; omega) | (simp; done) | omega | (simp only; omega)); (case' refine_6 => (try simp only); (try exact trivial)))
    omega
  · have e : s.gs.take i = s.gs := List.take_of_length_le (by omega)
    simp [e]
end Go.Proofs.YtokkencbpmjdaaaGreat

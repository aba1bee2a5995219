/- slices.Insert of one slot into a row of its caller's own. CONDITIONS: the row fits into memory. -/
import Derived.Test.YtokkencbpmjdaaaGreatDa
import Derived.Test.YtokkencbpmjdaaaGreatSy3
import Derived.KernelRfl
import Derived.Test.YtokkencbpmjdaaaGreatSlot
section
namespace Go.Proofs.YtokkencbpmjdaaaGreat
open Go Go.Sy
set_option maxRecDepth 4000
set_option linter.unusedSimpArgs false
set_option linter.unusedVariables false
attribute [local irreducible] Reg RegD Later Out CallV Tri Side EqV Pause OneL AppZ
theorem v_ovl {nb : Nat} {t : TypeId} {σ : St} {K : Kont} {x y z : Operand} {ts : Array TypeId} {avs : List AV} {id off sz' n cap : Nat} {es : List (List AV)} {cs : List AV} (hx : σ.ev x = .fn (.func 136) [] []) (hy : rowsOK 7 (σ.ev y) = some es) (h1 : 0 < es.length)
    (hz : σ.ev z = .bsl id off sz' n cap) (hob : σ.ob id = some (.box cs)) (hK : K (.s (.bool false)) [id] []) : CallV Tryz.prog nb (.call { callee := .value x, args := #[y, z], argTypes := ts }) t 136 avs σ K :=
  callV_overlaps (ps := #[22, 22]) (rs := #[4]) Tryz.func136 (by kernel_rfl) (by kernel_rfl) (by kernel_rfl) (by kernel_rfl) rfl (elemT_ok' Tryz.tab (t := 22) rfl) hx hy (by decide) h1 hz hob hK
theorem oneL_seg {cs : List AV} {n a b : Nat} (h : OneL (cs.take n)) (hab : a + b ≤ n) : OneL ((cs.drop a).take b) := by
  unfold OneL at *
  intro x hx
  refine h x ?_
  obtain ⟨j, hj, rfl⟩ := List.mem_iff_getElem.1 hx
  rw [List.getElem_take, List.getElem_drop]
  rw [List.length_take, List.length_drop] at hj
  exact List.mem_iff_getElem.2 ⟨a + j, by rw [List.length_take]; omega, by rw [List.getElem_take]⟩
theorem seg_ins (cs X : List AV) (n i c : Nat) (hX : X.length = 7) (hi : i < n) (hc : n + 1 ≤ c) (hl : cs.length = c * 7) :
    (List.take ((n + 1) * 7) (List.take (i * 7) (List.take ((i + 1) * 7) cs ++ (List.take ((n - i) * 7) (List.take ((n + 1 - i) * 7) (List.drop (i * 7) cs)) ++ List.drop ((i + 1) * 7 + (n - i) * 7) cs)) ++
      (X ++ List.drop (i * 7 + 7) (List.take ((i + 1) * 7) cs ++ (List.take ((n - i) * 7) (List.take ((n + 1 - i) * 7) (List.drop (i * 7) cs)) ++ List.drop ((i + 1) * 7 + (n - i) * 7) cs))))) = List.take (i * 7) cs ++ (X ++ List.take ((n - i) * 7) (List.drop (i * 7) cs)) := by
  apply List.ext_getElem?
  intro j
  simp only [List.getElem?_append, List.getElem?_take, List.getElem?_drop, List.length_append, List.length_take, List.length_drop, hX, hl]
  repeat' split
  all_goals first
    | rfl
    | omega
    | (congr 1; omega)
    | (rw [List.getElem?_eq_none (by omega)])
    | (symm; rw [List.getElem?_eq_none (by omega)])
set_option maxHeartbeats 1000000 in
theorem c_insIn (cs : List AV) (n i : Nat) (x : Slt) (cap : Nat) (es : List (List AV)) (hi : i < n) (hc : n + 1 ≤ cap) (hm : cap ≤ 9223372036854775807) (hl : cs.length = cap * 7) (ho : OneL (cs.take (n * 7)))
    (hen : es.length = n + 1) (hes : es.flatten = cs.take (i * 7) ++ sltC x ++ (cs.drop (i * 7)).take ((n - i) * 7)) (he7 : ∀ r ∈ es, r.length = 7) (hpu : PuL es.flatten) (ho2 : ∀ a ∈ es.flatten, a.one = true) :
    CSpec Tryz.prog 126 [.bsl 0 0 7 n cap, I i, .osl 1 7 (rowL [x])] [.box cs, .perm 102 7 1] (.sl 7 es) [.gone, .gone] := by
  refine v_cspec Tryz.func126 rfl Tryz.ntmps126 Tryz.results126 (by simp) (k := 2) rfl ?_
  repeat' (first
 | ((with_reducible refine halt_in (code := .seq (.region 7 _ _) _) ?_); exfalso; omega)
 | ((with_reducible refine halt_in (code := .seq (.region 9 _ _) _) ?_); exfalso; omega)
 | (first | ((with_reducible apply w_num (code := .seq (.region 3 _ _) _) 7); (case hv => (conv => lhs; whnf); try exact rfl); (case he => (simp (disch := omega) [wrp]); try exact rfl)))
 | (first | ((with_reducible apply w_num (code := .seq (.region 14 _ _) _) 0); (case hv => (conv => lhs; whnf); try exact rfl); (case he => (simp (disch := omega) [wrp]); try exact rfl)))
 | (with_reducible refine halt_in (code := .seq (.region 17 _ _) _) ?_)
 | (with_reducible first | apply qz0 | (refine h0 _ _ ?_; clear h0 hw) | (refine hw _ _ _ ?_; clear h0 hw) | apply qz2 | apply qz6 )
 | refine p_reg fun K1 hK => ?_
 | refine p_dreg Tryz.mix fun K1 hK => ?_
 | apply go_seq
 | ((first | refine p_op Tryz.tab fun K' h0 hw => ?_ | refine p_dop Tryz.tab fun K' h0 hw => ?_); conv => whnf)
 | (refine p_nil (hK _ ?_); clear hK)
 | (refine d_nil (p_obj ?_ (hK _ _ _ _)); clear hK)
 | ((with_reducible apply go_cond); (case hb => rfl))
 | ((with_reducible apply And.intro); (case' right => try (conv => whnf)); (case' left => try first | rfl | (simp; done) | (simp (disch := omega) only [wrp]; omega) ))
 | exact p_side
 | ((with_reducible apply v_ovl); (case hx => rfl); (case hy => rfl); (case h1 => simp); (case hz => rfl); (case hob => rfl); (case' hK => conv => whnf))
 | ((with_reducible refine nfL_stop ?_); conv => whnf)
 | (first  | intro g1; try simp at g1; try simp (disch := omega) only [wrp] at g1))
  · rw [List.take_take]
    refine oneL_seg ho ?_
    rw [wrp (by omega) (by omega)]
    omega
  · unfold OneL
    intro a ha
    have := List.mem_of_mem_take ha
    simp at this
    rcases this with rfl | rfl | rfl | rfl | rfl | rfl | rfl <;> rfl
  · refine halt_out ?_
    have hsx : (sltC x).length = 7 := rfl
    with_reducible apply w_freeze (code := .seq (.region 17 _ _) _) 0 es
    case hs => rfl
    case hq => rfl
    case hn => exact hen.symm
    case hl => exact he7
    case hpu => exact hpu
    case hone => exact ho2
    case hes =>
      rw [hes, hen]
      simp (disch := omega) [wrp]
      exact seg_ins cs (sltC x) n i cap rfl hi hc hl
    repeat' (first
 | (with_reducible first | apply qz0 | (refine h0 _ _ ?_; clear h0 hw) | apply qz1 | apply qz5 )
 | refine p_reg fun K1 hK => ?_
 | (refine p_op Tryz.tab fun K' h0 hw => ?_; conv => whnf)
 | (refine p_nil (hK _ ?_); clear hK)
 )
    ((first | refine w_retO Tryz.tab [] (by rfl) (by simp) (by simp) (fun K' hL => ?_) ?_ ?_ ?_ | refine w_retO_end Tryz.tab [] (by rfl) (by simp) (by simp) (fun K' hL => ?_) ?_ ?_ ?_); (conv => whnf); (refine hL _ ?_; clear hL); all_goals simp)
theorem seg_gr (cs cs2 X : List AV) (n i c : Nat) (hX : X.length = 7) (hi : i < n) (hc : n + 1 ≤ c) (hl : cs.length = n * 7) (hl2 : cs2.length = c * 7) (hq : ∀ j, j < i * 7 → cs2[j]? = cs[j]?) :
    List.take ((n + 1) * 7) (List.take ((i + 1) * 7) (List.take (i * 7) cs2 ++ (X ++ List.drop (i * 7 + 7) cs2)) ++ (List.take ((n - i) * 7) (List.take ((n - i) * 7) (List.drop (i * 7) cs)) ++
      List.drop ((i + 1) * 7 + (n - i) * 7) (List.take (i * 7) cs2 ++ (X ++ List.drop (i * 7 + 7) cs2)))) = List.take (i * 7) cs ++ (X ++ List.take ((n - i) * 7) (List.drop (i * 7) cs)) := by
  apply List.ext_getElem?
  intro j
  simp only [List.getElem?_append, List.getElem?_take, List.getElem?_drop, List.length_append, List.length_take, List.length_drop, hX, hl, hl2]
  repeat' split
  all_goals first
    | rfl
    | omega
    | exact hq _ (by omega)
    | (congr 1; omega)
    | (rw [List.getElem?_eq_none (by omega)])
    | (symm; rw [List.getElem?_eq_none (by omega)])
set_option maxHeartbeats 1000000 in
theorem c_insGr (cs : List AV) (n i : Nat) (x : Slt) (es0 es : List (List AV)) (hi : i < n) (hm : n ≤ 1000000) (hl : cs.length = n * 7) (hcs : ∀ a ∈ cs, ∃ v, a = .s v)
    (q0 : cs.take (i * 7) = es0.flatten) (q07 : ∀ r ∈ es0, r.length = 7) (q0l : es0.length = i) (q0s : scalR es0)
    (hen : es.length = n + 1) (hes : es.flatten = cs.take (i * 7) ++ sltC x ++ (cs.drop (i * 7)).take ((n - i) * 7)) (he7 : ∀ r ∈ es, r.length = 7) (hpu : PuL es.flatten) (ho2 : ∀ a ∈ es.flatten, a.one = true) :
    CSpec Tryz.prog 126 [.bsl 0 0 7 n n, I i, .osl 1 7 (rowL [x])] [.box cs, .perm 102 7 1] (.sl 7 es) [.gone, .gone] := by
  have hk : (IntKind.i64.wrap (IntKind.i64.wrap (↑n + 1) - ↑i)).toNat = n + 1 - i := by
    rw [wrp (n := (n : Int) + 1) (by omega) (by omega), wrp (by omega) (by omega)]; omega
  refine v_cspec Tryz.func126 rfl Tryz.ntmps126 Tryz.results126 (by simp) (k := 2) rfl ?_
  repeat' (first
 | ((with_reducible refine halt_in (code := .seq (.region 7 _ _) _) ?_); exfalso; omega)
 | ((with_reducible refine halt_in (code := .seq (.region 13 _ _) _) ?_); exfalso; omega)
 | (first | ((with_reducible apply w_num (code := .seq (.region 3 _ _) _) 7); (case hv => (conv => lhs; whnf); try exact rfl); (case he => (simp (disch := omega) [wrp]); try exact rfl)))
 | (with_reducible first | apply qz0 | (refine h0 _ _ ?_; clear h0 hw) | apply qz2 | apply qz6 )
 | refine p_reg fun K1 hK => ?_
 | apply go_seq
 | (refine p_op Tryz.tab fun K' h0 hw => ?_; conv => whnf)
 | (refine p_nil (hK _ ?_); clear hK)
 | ((with_reducible apply go_cond); (case hb => rfl))
 | ((with_reducible apply And.intro); (case' right => try (conv => whnf)); (case' left => try first | rfl | decide | (simp; done) ))
 | exact p_side
 | (first  | intro g1; try simp at g1; try simp (disch := omega) only [wrp] at g1))
  refine appZ_in es0 (by simp [q0]) q07 (by simpa using q0l) q0s ?_
  simp only [hk]
  conv => whnf
  repeat' (first
 | (with_reducible refine halt_in (code := .seq (.region 10 _ _) _) ?_)
 | (with_reducible first | apply qz0 | (refine h0 _ _ ?_; clear h0 hw) | (refine hw _ _ _ ?_; clear h0 hw) )
 | (refine p_op Tryz.tab fun K' h0 hw => ?_; conv => whnf)
 | (refine p_nil (hK _ ?_); clear hK)
 )
  refine halt_out ?_
  with_reducible apply w_thaw (code := .seq (.region 10 _ _) _) 466 7 (es0 ++ List.replicate (n + 1 - i) [I 0, I 0, I 0, B false, B false, B false, Tx ByteArray.empty]) [(0, .bsl 0 0 7 n n), (1, I i), (2, .osl 1 7 (rowL [x])), (7, I 1), (9, .osl 466 7 (es0 ++ List.replicate (n + 1 - i) [I 0, I 0, I 0, B false, B false, B false, Tx ByteArray.empty]))] [(0, .box cs), (1, .perm 102 7 1)]
  case hat => exact .inl ⟨9, rfl⟩
  case hp16 => decide
  case hpe => rfl
  case hn0 => simp [q0l]
  case h0 => simp; omega
  case hsc =>
    intro r hr
    rcases List.mem_append.1 hr with h | h
    · exact q0s r h
    · rw [(List.mem_replicate.1 h).2]; simp
  case hS => simp
  case hB => simp [LeL.rfl']
  case hSk => simp [thokS, thokB, Ob.thok, AV.thok, thokL, permIs, scalR]
  case hBk => simp [thokS, thokB, Ob.thok, AV.thok, thokL, permIs, scalR]; exact thokL_s hcs
  case hm => (try simp only [Nat.reduceAdd, Nat.reduceMul]); exact rfl
  case' h => intro cap hc1 hc2
  have hz : (es0 ++ List.replicate (n + 1 - i) [I 0, I 0, I 0, B false, B false, B false, Tx ByteArray.empty]).length = n + 1 := by simp [q0l]; omega
  rw [hz] at hc1
  with_reducible refine qz0 ?_
  with_reducible refine w_box 0 cs rfl (AV.th_s hcs) ?_
  with_reducible refine qz0 ?_
  with_reducible refine w_num 9 (a := .bsl 498 0 7 (es0 ++ List.replicate (n + 1 - i) [I 0, I 0, I 0, B false, B false, B false, Tx ByteArray.empty]).length cap) (b := .bsl 498 0 7 (n + 1) cap) rfl (by rw [hz]) ?_
  with_reducible refine qz0 ?_
  obtain ⟨cs2, hcs2⟩ : ∃ cs2, cs2 = (es0 ++ List.replicate (n + 1 - i) [I 0, I 0, I 0, B false, B false, B false, Tx ByteArray.empty]).flatten ++ List.replicate ((cap - (es0 ++ List.replicate (n + 1 - i) [I 0, I 0, I 0, B false, B false, B false, Tx ByteArray.empty]).length) * 7) AV.junk := ⟨_, rfl⟩
  with_reducible refine w_box 498 cs2 rfl hcs2.symm ?_
  have hf0 : es0.flatten.length = i * 7 := by rw [flatten_length q07, q0l]
  have hl2 : cs2.length = cap * 7 := by
    rw [hcs2, List.length_append, List.length_replicate, hz, flatten_length (sz := 7), hz]
    · omega
    · intro r hr
      rcases List.mem_append.1 hr with h | h
      · exact q07 r h
      · rw [(List.mem_replicate.1 h).2]; rfl
  have hq : ∀ j, j < i * 7 → cs2[j]? = cs[j]? := fun j hj => by
    have e1 : cs2[j]? = es0.flatten[j]? := by
      rw [hcs2, List.flatten_append, List.append_assoc, List.getElem?_append_left (by omega)]
    rw [e1, ← q0, List.getElem?_take, if_pos hj]
  clear hcs2 hz
  repeat' (first
 | (with_reducible refine halt_in (code := .seq (.region 12 _ _) _) ?_)
 | (with_reducible first | apply qz0 | (refine h0 _ _ ?_; clear h0 hw) | (refine hw _ _ _ ?_; clear h0 hw) )
 | refine p_reg fun K1 hK => ?_
 | refine p_dreg Tryz.mix fun K1 hK => ?_
 | ((first | refine p_op Tryz.tab fun K' h0 hw => ?_ | refine p_dop Tryz.tab fun K' h0 hw => ?_); conv => whnf)
 | (refine p_nil (hK _ ?_); clear hK)
 | (refine d_nil (p_obj ?_ (hK _ _ _ _)); clear hK)
 | ((with_reducible apply And.intro); (case' right => try (conv => whnf)); (case' left => try first | rfl | (simp; done) | (simp (disch := omega) only [wrp]; omega) ))
 | exact p_side
 | ((with_reducible refine nfL_stop ?_); conv => whnf)
 )
  · unfold OneL
    intro a ha
    have := List.mem_of_mem_take ha
    simp at this
    rcases this with rfl | rfl | rfl | rfl | rfl | rfl | rfl <;> rfl
  · unfold OneL
    intro a ha
    obtain ⟨v, rfl⟩ := hcs a (List.mem_of_mem_drop (List.mem_of_mem_take (List.mem_of_mem_take ha)))
    rfl
  · refine halt_out ?_
    with_reducible apply w_freeze (code := .seq (.region 12 _ _) _) 9 es
    case hs => rfl
    case hq => rfl
    case hn => exact hen.symm
    case hl => exact he7
    case hpu => exact hpu
    case hone => exact ho2
    case hes =>
      rw [hes, hen]
      simp (disch := omega) [wrp]
      exact seg_gr cs cs2 (sltC x) n i cap rfl hi hc1 hl hl2 hq
    repeat' (first
 | (with_reducible first | apply qz0 | (refine h0 _ _ ?_; clear h0 hw) | apply qz1 | apply qz5 )
 | refine p_reg fun K1 hK => ?_
 | (refine p_op Tryz.tab fun K' h0 hw => ?_; conv => whnf)
 | (refine p_nil (hK _ ?_); clear hK)
 )
    ((first | refine w_retO Tryz.tab [] (by rfl) (by simp) (by simp) (fun K' hL => ?_) ?_ ?_ ?_ | refine w_retO_end Tryz.tab [] (by rfl) (by simp) (by simp) (fun K' hL => ?_) ?_ ?_ ?_); (conv => whnf); (refine hL _ ?_; clear hL); all_goals simp)
end Go.Proofs.YtokkencbpmjdaaaGreat
end
section
namespace Go.Proofs.YtokkencbpmjdaaaGreat
open Go Go.Sy
set_option maxRecDepth 4000
set_option linter.unusedSimpArgs false
set_option linter.unusedVariables false
attribute [local irreducible] Reg RegD Later Out CallV Tri Side EqV Pause AppZ
theorem rowL_7 {l : List Slt} : ∀ r ∈ rowL l, r.length = 7 := fun r hr => by
  obtain ⟨s, _, rfl⟩ := List.mem_map.1 hr; rfl
theorem rowL_s {l : List Slt} : scalR (rowL l) := fun r hr a ha => by
  obtain ⟨s, _, rfl⟩ := List.mem_map.1 hr
  simp at ha
  rcases ha with rfl | rfl | rfl | rfl | rfl | rfl | rfl <;> exact ⟨_, rfl⟩
theorem rowL_flat (l : List Slt) : (rowL l).flatten.length = l.length * 7 := by
  rw [flatten_length (sz := 7) rowL_7, List.length_map]
theorem rowL_take (l : List Slt) (i : Nat) (hi : i ≤ l.length) (J : List AV) : ((rowL l).flatten ++ J).take (i * 7) = (rowL (l.take i)).flatten := by
  have e : (rowL l).flatten = (rowL (l.take i)).flatten ++ (rowL (l.drop i)).flatten := by
    rw [← List.flatten_append, ← List.map_append, List.take_append_drop]
  have h1 : (rowL (l.take i)).flatten.length = i * 7 := by rw [rowL_flat, List.length_take, Nat.min_eq_left hi]
  rw [e, List.append_assoc, ← h1, List.take_left]
theorem rowL_drop (l : List Slt) (i : Nat) (hi : i ≤ l.length) (J : List AV) : (((rowL l).flatten ++ J).drop (i * 7)).take ((l.length - i) * 7) = (rowL (l.drop i)).flatten := by
  have e : (rowL l).flatten = (rowL (l.take i)).flatten ++ (rowL (l.drop i)).flatten := by
    rw [← List.flatten_append, ← List.map_append, List.take_append_drop]
  have h1 : (rowL (l.take i)).flatten.length = i * 7 := by rw [rowL_flat, List.length_take, Nat.min_eq_left hi]
  have h2 : (rowL (l.drop i)).flatten.length = (l.length - i) * 7 := by rw [rowL_flat, List.length_drop]
  rw [e, List.append_assoc, ← h1, List.drop_left, ← h2, List.take_left]
theorem oneL_scal {l : List AV} (h : ∀ a ∈ l, ∃ v, a = .s v) : ∀ a ∈ l, a.one = true := fun a ha => by
  obtain ⟨v, rfl⟩ := h a ha; rfl
theorem box_ren (φ : Nat → Nat) (l : List Slt) (k : Nat) : renL φ ((rowL l).flatten ++ List.replicate k .junk) = (rowL l).flatten ++ List.replicate k .junk := by
  rw [renL_append, renL_scal (scalR_flat rowL_s), renL_junk]
theorem box_lt (n : Nat) (l : List Slt) (k : Nat) : ltL n ((rowL l).flatten ++ List.replicate k .junk) := ltL_append (ltL_scal (scalR_flat rowL_s)) (ltL_junk k)
def insL (l : List Slt) (i : Nat) (x : Slt) : List Slt := l.take i ++ [x] ++ l.drop i
theorem c_ins (l : List Slt) (i : Nat) (x : Slt) (cap : Nat) (hi : i < l.length) (hl : l.length ≤ 1000000) (hc : (rowL l).length ≤ cap) (hm : cap ≤ 9223372036854775807) :
    CSpec Tryz.prog 126 [.bsl 0 0 7 (rowL l).length cap, I i, .osl 1 7 (rowL [x])] [.box ((rowL l).flatten ++ List.replicate ((cap - (rowL l).length) * 7) .junk), .perm 102 7 1] (slts (insL l i x)) [.gone, .gone] := by
  have hrl : (rowL l).length = l.length := List.length_map _
  rw [hrl] at hc ⊢
  have hen : (rowL (insL l i x)).length = l.length + 1 := by
    rw [List.length_map]; simp [insL]; omega
  have hfl := rowL_flat l
  have hes : ∀ J, (rowL (insL l i x)).flatten = ((rowL l).flatten ++ J).take (i * 7) ++ sltC x ++ (((rowL l).flatten ++ J).drop (i * 7)).take ((l.length - i) * 7) := fun J => by
    rw [rowL_take l i (by omega), rowL_drop l i (by omega)]
    simp [insL, rowL]
  have ht := fun J => rowL_take l l.length (Nat.le_refl _) J
  have hsc := scalR_flat (rowL_s (l := l))
  by_cases h : l.length + 1 ≤ cap
  · refine c_insIn _ l.length i x cap (rowL (insL l i x)) hi h hm (by rw [List.length_append, hfl, List.length_replicate]; omega) ?_ hen (hes _) rowL_7 (PuL_scal (scalR_flat rowL_s)) (oneL_scal (scalR_flat rowL_s))
    rw [ht, List.take_of_length_le (Nat.le_refl _)]
    exact oneL_scal hsc
  · have : cap = l.length := by omega
    subst this
    rw [Nat.sub_self, Nat.zero_mul, List.replicate_zero]
    refine c_insGr _ l.length i x (rowL (l.take i)) (rowL (insL l i x)) hi hl (by rw [List.append_nil, hfl]) (by rw [List.append_nil]; exact hsc) (rowL_take l i (by omega) []) rowL_7 (by rw [List.length_map, List.length_take]; omega) rowL_s hen (hes []) rowL_7 (PuL_scal (scalR_flat rowL_s)) (oneL_scal (scalR_flat rowL_s))
attribute [local irreducible] OneL
set_option maxHeartbeats 1000000 in
theorem c_insEnd (l : List Slt) (x : Slt) (hl : l.length ≤ 1000000) :
    CSpec Tryz.prog 126 [.osl 0 7 (rowL l), I l.length, .osl 1 7 (rowL [x])] [.perm 102 7 l.length, .perm 102 7 1] (.osl 0 7 (rowL (l ++ [x]))) [.perm 102 7 (l ++ [x]).length, .gone] := by
  refine v_cspec Tryz.func126 rfl Tryz.ntmps126 Tryz.results126 (by simp) (k := 2) rfl ?_
  repeat' (first
 | (with_reducible first | apply qz0 | (refine h0 _ _ ?_; clear h0 hw) | (refine hw _ _ _ ?_; clear h0 hw) | apply qz1 | apply qz2 | apply qz5 | apply qz6 )
 | refine p_reg fun K1 hK => ?_
 | apply go_seq
 | (refine p_op Tryz.tab fun K' h0 hw => ?_; conv => whnf)
 | (refine p_nil (hK _ ?_); clear hK)
 | ((with_reducible apply go_cond); (case hb => rfl))
 | ((with_reducible apply And.intro); (case' right => try (conv => whnf)); (case' left => try first | rfl | decide | (simp; done) ))
 | exact p_side
 | (first  | intro g1; try simp at g1; try simp (disch := omega) only [wrp] at g1))
  ((first | refine w_retO Tryz.tab [] (by rfl) (by simp) (by simp) (fun K' hL => ?_) ?_ ?_ ?_ | refine w_retO_end Tryz.tab [] (by rfl) (by simp) (by simp) (fun K' hL => ?_) ?_ ?_ ?_); (conv => whnf); (refine hL _ ?_; clear hL); all_goals simp)
end Go.Proofs.YtokkencbpmjdaaaGreat
end
section
namespace Go.Proofs.YtokkencbpmjdaaaGreat
open Go Go.Sy
set_option maxRecDepth 4000
set_option linter.unusedSimpArgs false
set_option linter.unusedVariables false
attribute [local irreducible] Reg RegD Later Out CallV Tri Side EqV Pause
structure Bf where
  next : Int
  held : List Slt
abbrev bfC (b : Bf) : List AV := [I b.next, slts b.held]
def heldE : Int → List Slt → Int
  | _, [] => 0
  | a, x :: l => if sltE x ≠ 0 then sltE x else if x.n ≤ a then 4 else heldE x.n l
def bufE (b : Bf) : Int := if b.next ≠ 0 ∧ (b.next < 65536 ∨ 1000000001 < b.next) then 3 else if 4 < b.held.length then 2 else if heldE b.next b.held ≠ 0 then heldE b.next b.held else if b.next = 0 ∧ 0 < b.held.length then 4 else 0
theorem heldE_at {a : Int} {l : List Slt} {i : Nat} {x : Slt} (hx : l[i]? = some x) : heldE a (l.drop i) = if sltE x ≠ 0 then sltE x else if x.n ≤ a then 4 else heldE x.n (l.drop (i + 1)) := by
  rw [drop_at hx]; rfl
set_option maxHeartbeats 1000000 in
theorem c_bufCheck (b : Bf) (hl : b.held.length ≤ 4000000000000) : PSpec Tryz.prog 51 [.agg (bfC b)] (I (bufE b)) := by
  refine p_pspec Tryz.func51 Tryz.ntmps51 Tryz.results51 ?_
  by_cases h3 : b.next ≠ 0 ∧ (b.next < 65536 ∨ 1000000001 < b.next)
  · have e : bufE b = 3 := if_pos h3
    repeat' (first
 | (with_reducible first | apply qz0 | (refine h0 _ _ ?_; clear h0 hw) | (refine hw _ _ _ ?_; clear h0 hw) | apply qz1 | apply qz2 | apply qz3 | apply qz5 | apply qz6 | apply qz8 | apply qz9 | (refine hL _ ?_; clear hL))
 | refine p_reg fun K1 hK => ?_
 | apply go_seq
 | (refine p_op Tryz.tab fun K' h0 hw => ?_; conv => whnf)
 | (refine p_nil (hK _ ?_); clear hK)
 | (first | refine v_grd_yes (by rfl) (by rfl) ?_)
 | ((first | (apply v_grd_no; (case hg => rfl); (case hb => rfl)) | (apply v_grd_undef; (case hg => rfl); (case hb => rfl)) | (apply v_grd; (case hg => rfl); (case hb => rfl))); (case hi => (simp only [Nat.reduceAdd, Nat.reduceMul]; rfl)))
 | ((with_reducible apply go_cond); (case hb => rfl))
 | ((with_reducible first | refine w_ret Tryz.tab fun K' hL => ?_ ); (conv => whnf))
 | ((with_reducible apply And.intro); (case' right => try (conv => whnf)); (case' left => try first | rfl | decide | (simp; done) ))
 | (first | (guard_hyp g5; intro g6; try simp at g6) | (guard_hyp g4; intro g5; try simp at g5) | (guard_hyp g3; intro g4; try simp at g4) | (guard_hyp g2; intro g3; try simp at g3) | (guard_hyp g1; intro g2; try simp at g2) | intro g1; try simp at g1))
    all_goals first | (simp [e]; done) | (exfalso; omega)
  by_cases h2 : 4 < b.held.length
  · have e : bufE b = 2 := by unfold bufE; rw [if_neg h3, if_pos h2]
    repeat' (first
 | (with_reducible first | apply qz0 | (refine h0 _ _ ?_; clear h0 hw) | (refine hw _ _ _ ?_; clear h0 hw) | apply qz1 | apply qz2 | apply qz3 | apply qz5 | apply qz6 | apply qz8 | apply qz9 | (refine hL _ ?_; clear hL))
 | refine p_reg fun K1 hK => ?_
 | apply go_seq
 | (refine p_op Tryz.tab fun K' h0 hw => ?_; conv => whnf)
 | (refine p_nil (hK _ ?_); clear hK)
 | (first | refine v_grd_yes (by rfl) (by rfl) ?_)
 | ((first | (apply v_grd_no; (case hg => rfl); (case hb => rfl)) | (apply v_grd_undef; (case hg => rfl); (case hb => rfl)) | (apply v_grd; (case hg => rfl); (case hb => rfl))); (case hi => (simp only [Nat.reduceAdd, Nat.reduceMul]; rfl)))
 | ((with_reducible apply go_cond); (case hb => rfl))
 | ((with_reducible first | refine w_ret Tryz.tab fun K' hL => ?_ ); (conv => whnf))
 | ((with_reducible apply And.intro); (case' right => try (conv => whnf)); (case' left => try first | rfl | decide | (simp; done) ))
 | (first | (guard_hyp g5; intro g6; try simp at g6) | (guard_hyp g4; intro g5; try simp at g5) | (guard_hyp g3; intro g4; try simp at g4) | (guard_hyp g2; intro g3; try simp at g3) | (guard_hyp g1; intro g2; try simp at g2) | intro g1; try simp at g1))
    all_goals first | (simp [e]; done) | (exfalso; omega)
  have e : bufE b = if heldE b.next b.held ≠ 0 then heldE b.next b.held else if b.next = 0 ∧ 0 < b.held.length then 4 else 0 := by unfold bufE; rw [if_neg h3, if_neg h2]
  repeat' (first
 | (with_reducible refine w_cut (x := .block 0 _) (X := Unit) [2, 7, 8, 9, 10, 11, 12, 13, 14, 15, 16, 17, 18, 19, 20, 21, 22, 23, 24, 25] (fun _ => []) (fun _ => []) (fun _ => True) ?_ ?_; (try (rintro z hz; simp only at hz)))
 | (with_reducible first | apply qz0 | (refine h0 _ _ ?_; clear h0 hw) | (refine hw _ _ _ ?_; clear h0 hw) | apply qz1 | apply qz2 | apply qz3 | apply qz8 | apply qz9 | apply qzb | (refine hL _ ?_; clear hL))
 | refine p_reg fun K1 hK => ?_
 | apply go_seq
 | (refine p_op Tryz.tab fun K' h0 hw => ?_; conv => whnf)
 | (refine p_nil (hK _ ?_); clear hK)
 | (first | refine v_grd_yes (by rfl) (by rfl) ?_)
 | ((first | (apply v_grd_no; (case hg => rfl); (case hb => rfl)) | (apply v_grd_undef; (case hg => rfl); (case hb => rfl)) | (apply v_grd; (case hg => rfl); (case hb => rfl))); (case hi => (simp only [Nat.reduceAdd, Nat.reduceMul]; rfl)))
 | ((with_reducible apply go_cond); (case hb => rfl))
 | ((with_reducible first | refine w_ret Tryz.tab fun K' hL => ?_ ); (conv => whnf))
 | ((with_reducible apply And.intro); (case' right => try (conv => whnf)); (case' left => try first | rfl | decide | (simp; done) ))
 | (first | (guard_hyp g5; intro g6; try simp at g6) | (guard_hyp g4; intro g5; try simp at g5) | (guard_hyp g3; intro g4; try simp at g4) | (guard_hyp g2; intro g3; try simp at g3) | (guard_hyp g1; intro g2; try simp at g2) | intro g1; try simp at g1))
  all_goals (try (exfalso; omega))
  · (refine p_nx (()) ?_; (try simp only); (try exact trivial))
  · (refine p_nx (()) ?_; (try simp only); (try exact trivial))
  refine w_loop (X := Nat × Int) [2, 3, 5, 6, 31, 32, 33, 34, 35, 36, 37, 38, 39, 40, 41, 42, 43, 44, 45, 46] (fun x => [(31, I x.1), (3, I x.2)]) (fun _ => []) (fun x => x.1 ≤ b.held.length ∧ heldE x.2 (b.held.drop x.1) = heldE b.next b.held) (fun x => b.held.length - x.1) (0, b.next) (by simp) ?_ ?_
  · refine ⟨kt_refl, ko_refl, ?_, ?_, ?_, ?_, Nat.le_refl _⟩ <;> simp
  rintro ⟨i, a⟩ ⟨h1, h2⟩
  simp only at h1 h2
  repeat' (first
 | (with_reducible first | apply qz0 | (refine h0 _ _ ?_; clear h0 hw) | (refine hw _ _ _ ?_; clear h0 hw) | apply qz1 | apply qz2 | apply qz3 | apply qz4 | apply qz5 | apply qz6 | apply qz7 | apply qz8 | apply qz9 | apply qza | apply qzb | apply qzc | (refine hL _ ?_; clear hL))
 | refine p_reg fun K1 hK => ?_ | refine p_regE fun K1 hK => ?_
 | apply go_seq
 | ((first | refine p_op Tryz.tab fun K' h0 hw => ?_ | refine p_op0 Tryz.tab fun K' h0 hw => ?_); conv => whnf)
 | (refine p_nil (hK _ ?_); clear hK)
 | (first | refine v_grd_yes (by rfl) (by rfl) ?_)
 | ((first | (apply v_grd_no; (case hg => rfl); (case hb => rfl)) | (apply v_grd; (case hg => rfl); (case hb => rfl))); (case hi => (simp only [Nat.reduceAdd, Nat.reduceMul]; rfl)))
 | ((with_reducible refine callV_id (f := 78) ?_); have hcs_ := c_slot x1; (with_reducible apply callV_f own78 (hcs_)); (case hx => rfl); (case he => rfl); (case hle => first | ((repeat constructor); done) ); (case hpu => repeat constructor); (case' hK => (try clear hcs_); conv => whnf))
 | ((with_reducible apply go_cond); (case hb => rfl))
 | ((with_reducible first | refine w_ret Tryz.tab fun K' hL => ?_ ); (conv => whnf))
 | ((with_reducible apply And.intro); (case' right => try (conv => whnf)); (case' left => try first | rfl | decide | (simp; done) ))
 | exact p_side
 | ((with_reducible refine all_row ?_); (first | intro x1 hx1); conv => whnf)
 | (first | (guard_hyp g5; intro g6; try simp at g6) | (guard_hyp g4; intro g5; try simp at g5) | (guard_hyp g3; intro g4; try simp at g4) | (guard_hyp g2; intro g3; try simp at g3) | (guard_hyp g1; intro g2; try simp at g2) | intro g1; try simp at g1))
  all_goals (try (simp at hx1))
  · rw [heldE_at hx1, if_pos g4] at h2; simp [e, ← h2, g4]
  · rw [heldE_at hx1, if_neg (by simp [g4]), if_pos g5] at h2; simp [e, ← h2]
  · (refine p_nx ((i + 1, x1.n)) ?_; (try simp only); (try exact trivial))
    exact ⟨by omega, by rw [← h2, heldE_at hx1, if_neg (by simp [g4]), if_neg (by omega)]⟩
  all_goals (rw [List.drop_eq_nil_of_le g3] at h2; simp only [heldE] at h2; rw [e, ← h2]; simp [g4, g5])
def aheadS (n : Int) (l : List Slt) (i : Nat) : Int := if i = 0 then n else match l[i - 1]? with | some x => x.n | none => n
theorem aheadS_succ {n : Int} {l : List Slt} {i : Nat} {x : Slt} (h : l[i]? = some x) : aheadS n l (i + 1) = x.n := by simp [aheadS, h]
set_option maxHeartbeats 1000000 in
theorem c_checkBuffer (b : Bf) (hl : b.held.length ≤ 4000000000000) : PSpec Tryz.prog 25 [.agg (bfC b)] (I (bufE b)) := by
  refine p_pspec Tryz.func25 Tryz.ntmps25 Tryz.results25 ?_
  by_cases h3 : b.next ≠ 0 ∧ (b.next < 65536 ∨ 1000000001 < b.next)
  · have e : bufE b = 3 := if_pos h3
    repeat' (first
 | (with_reducible first | apply qz0 | (refine h0 _ _ ?_; clear h0 hw) | (refine hw _ _ _ ?_; clear h0 hw) | apply qz1 | apply qz2 | apply qz3 | apply qz5 | apply qz6 | (refine hL _ ?_; clear hL))
 | refine p_reg fun K1 hK => ?_
 | apply go_seq
 | (refine p_op Tryz.tab fun K' h0 hw => ?_; conv => whnf)
 | (refine p_nil (hK _ ?_); clear hK)
 | (first | refine v_grd_yes (by rfl) (by rfl) ?_)
 | ((first | (apply v_grd_no; (case hg => rfl); (case hb => rfl)) | (apply v_grd; (case hg => rfl); (case hb => rfl))); (case hi => (simp only [Nat.reduceAdd, Nat.reduceMul]; rfl)))
 | (refine p_call own30 (c_between _ _ _) ?_; conv => whnf)
 | ((with_reducible apply go_cond); (case hb => rfl))
 | ((with_reducible first | refine w_ret Tryz.tab fun K' hL => ?_ ); (conv => whnf))
 | ((with_reducible apply And.intro); (case' right => try (conv => whnf)); (case' left => try first | rfl | decide | (simp; done) ))
 | (first | (guard_hyp g8; intro g9; try simp at g9) | (guard_hyp g7; intro g8; try simp at g8) | (guard_hyp g6; intro g7; try simp at g7) | (guard_hyp g5; intro g6; try simp at g6) | (guard_hyp g4; intro g5; try simp at g5) | (guard_hyp g3; intro g4; try simp at g4) | (guard_hyp g2; intro g3; try simp at g3) | (guard_hyp g1; intro g2; try simp at g2) | intro g1; try simp at g1))
    all_goals first | (simp [e]; done) | (exfalso; omega) | (exfalso; simp_all; omega)
  by_cases h2 : 4 < b.held.length
  · have e : bufE b = 2 := by unfold bufE; rw [if_neg h3, if_pos h2]
    repeat' (first
 | (with_reducible first | apply qz0 | (refine h0 _ _ ?_; clear h0 hw) | (refine hw _ _ _ ?_; clear h0 hw) | apply qz1 | apply qz2 | apply qz3 | apply qz5 | apply qz6 | (refine hL _ ?_; clear hL))
 | refine p_reg fun K1 hK => ?_
 | apply go_seq
 | (refine p_op Tryz.tab fun K' h0 hw => ?_; conv => whnf)
 | (refine p_nil (hK _ ?_); clear hK)
 | (first | refine v_grd_yes (by rfl) (by rfl) ?_)
 | ((first | (apply v_grd_no; (case hg => rfl); (case hb => rfl)) | (apply v_grd; (case hg => rfl); (case hb => rfl))); (case hi => (simp only [Nat.reduceAdd, Nat.reduceMul]; rfl)))
 | (refine p_call own30 (c_between _ _ _) ?_; conv => whnf)
 | ((with_reducible apply go_cond); (case hb => rfl))
 | ((with_reducible first | refine w_ret Tryz.tab fun K' hL => ?_ ); (conv => whnf))
 | ((with_reducible apply And.intro); (case' right => try (conv => whnf)); (case' left => try first | rfl | decide | (simp; done) ))
 | (first | (guard_hyp g8; intro g9; try simp at g9) | (guard_hyp g7; intro g8; try simp at g8) | (guard_hyp g6; intro g7; try simp at g7) | (guard_hyp g5; intro g6; try simp at g6) | (guard_hyp g4; intro g5; try simp at g5) | (guard_hyp g3; intro g4; try simp at g4) | (guard_hyp g2; intro g3; try simp at g3) | (guard_hyp g1; intro g2; try simp at g2) | intro g1; try simp at g1))
    all_goals first | (simp [e]; done) | (exfalso; omega) | (exfalso; simp_all; omega)
  have e : bufE b = if heldE b.next b.held ≠ 0 then heldE b.next b.held else if b.next = 0 ∧ 0 < b.held.length then 4 else 0 := by unfold bufE; rw [if_neg h3, if_neg h2]
  repeat' (first
 | ((first | with_reducible refine w_cut (x := .seq (.region _ _ _) (.cond (.tmp 13) _ _)) (X := Unit) [2, 5, 6, 7, 8, 9, 10, 11, 12, 13] (fun _ => []) (fun _ => []) (fun _ => True) ?_ ?_); (try (rintro z hz; simp only at hz)))
 | (with_reducible first | apply qz0 | (refine h0 _ _ ?_; clear h0 hw) | (refine hw _ _ _ ?_; clear h0 hw) | apply qz1 | apply qz2 | apply qz3 | apply qz5 | apply qz6 | apply qzb | (refine hL _ ?_; clear hL))
 | refine p_reg fun K1 hK => ?_
 | apply go_seq
 | (refine p_op Tryz.tab fun K' h0 hw => ?_; conv => whnf)
 | (refine p_nil (hK _ ?_); clear hK)
 | (first | refine v_grd_yes (by rfl) (by rfl) ?_)
 | ((first | (apply v_grd_no; (case hg => rfl); (case hb => rfl)) | (apply v_grd; (case hg => rfl); (case hb => rfl))); (case hi => (simp only [Nat.reduceAdd, Nat.reduceMul]; rfl)))
 | (refine p_call own30 (c_between _ _ _) ?_; conv => whnf)
 | ((with_reducible apply go_cond); (case hb => rfl))
 | ((with_reducible first | refine w_ret Tryz.tab fun K' hL => ?_ ); (conv => whnf))
 | ((with_reducible apply And.intro); (case' right => try (conv => whnf)); (case' left => try first | rfl | decide | (simp; done) ))
 | (first | (guard_hyp g8; intro g9; try simp at g9) | (guard_hyp g7; intro g8; try simp at g8) | (guard_hyp g6; intro g7; try simp at g7) | (guard_hyp g5; intro g6; try simp at g6) | (guard_hyp g4; intro g5; try simp at g5) | (guard_hyp g3; intro g4; try simp at g4) | (guard_hyp g2; intro g3; try simp at g3) | (guard_hyp g1; intro g2; try simp at g2) | intro g1; try simp at g1))
  all_goals (try (exfalso; first | omega | (simp_all; done) | (simp_all; omega)))
  · (refine p_nx (()) ?_; (try simp only); (try exact trivial))
  · (refine p_nx (()) ?_; (try simp only); (try exact trivial))
  refine w_loop (X := Nat) [2, 3, 4, 18, 19, 20, 21, 22, 23, 24, 25, 26, 27, 28, 29, 30, 31, 32, 33, 34, 35, 36, 37, 38, 39, 40, 41, 42, 43, 44, 45, 46, 47, 48, 49, 50, 51, 52, 53, 54, 55, 56, 57, 58, 59, 60, 61, 62] (fun i => [(3, I i)]) (fun _ => []) (fun i => i ≤ b.held.length ∧ b.next ≤ aheadS b.next b.held i ∧ heldE (aheadS b.next b.held i) (b.held.drop i) = heldE b.next b.held) (fun i => b.held.length - i) 0 (by simp [aheadS]) ?_ ?_
  · refine ⟨kt_refl, ko_refl, ?_, ?_, ?_, ?_, Nat.le_refl _⟩ <;> simp
  rintro i ⟨h1, h4, h2⟩
  have hb : ∀ {x : Slt}, 0 < i → b.held[(IntKind.i64.wrap ((i : Int) - 1)).toNat]? = some x → aheadS b.next b.held i = x.n := fun h0 hx => by
    rw [wrp (by omega) (by omega), show ((i : Int) - 1).toNat = i - 1 by omega] at hx
    simp [aheadS, hx]; omega
  repeat' (first
 | (with_reducible first | apply qz0 | (refine h0 _ _ ?_; clear h0 hw) | apply qz1 | apply qz2 | apply qz3 | apply qz4 | apply qz5 | apply qz6 | apply qz7 | apply qz8 | apply qz9 | apply qza | apply qzb | apply qzc | (refine hL _ ?_; clear hL))
 | refine p_reg fun K1 hK => ?_ | refine p_regE fun K1 hK => ?_
 | refine p_dreg Tryz.mix fun K1 hK => ?_
 | apply go_seq
 | ((first | refine p_op Tryz.tab fun K' h0 hw => ?_ | refine p_dop Tryz.tab fun K' h0 hw => ?_); conv => whnf)
 | (refine p_nil (hK _ ?_); clear hK)
 | (refine d_nil (p_obj ?_ (hK _ _ _ _)); clear hK)
 | (first | refine d_grd_yes (by rfl) (by rfl) ?_ | refine v_grd_yes (by rfl) (by rfl) ?_)
 | ((first | (apply d_grd_no; (case hg => rfl); (case hb => rfl)) | (apply d_grd_undef; (case hg => rfl); (case hb => rfl)) | (apply d_grd; (case hg => rfl); (case hb => rfl)) | (apply v_grd_no; (case hg => rfl); (case hb => rfl)) | (apply v_grd; (case hg => rfl); (case hb => rfl))); (case hi => (simp only [Nat.reduceAdd, Nat.reduceMul]; rfl)))
 | ((with_reducible refine callV_id (f := 54) ?_); have hcs_ := c_checkSlot x1; (with_reducible apply callV_f own54 (hcs_)); (case hx => rfl); (case he => rfl); (case hle => first | ((repeat constructor); done) ); (case hpu => repeat constructor); (case' hK => (try clear hcs_); conv => whnf))
 | ((with_reducible apply go_cond); (case hb => rfl))
 | ((with_reducible first | refine w_ret Tryz.tab fun K' hL => ?_ ); (conv => whnf))
 | ((with_reducible apply And.intro); (case' right => try (conv => whnf)); (case' left => try first | rfl | decide | (simp; done) ))
 | exact p_side
 | ((with_reducible apply all_rk); (case hx => with_reducible assumption); (conv => whnf))
 | ((with_reducible refine all_row ?_); (first | (guard_hyp hx1; intro x2 hx2) | intro x1 hx1); conv => whnf)
 | (first | (guard_hyp g8; intro g9; try simp at g9) | (guard_hyp g7; intro g8; try simp at g8) | (guard_hyp g6; intro g7; try simp at g7) | (guard_hyp g5; intro g6; try simp at g6) | (guard_hyp g4; intro g5; try simp at g5) | (guard_hyp g3; intro g4; try simp at g4) | (guard_hyp g2; intro g3; try simp at g3) | (guard_hyp g1; intro g2; try simp at g2) | intro g1; try simp at g1))
  all_goals (try (simp at hx1))
  · rw [heldE_at hx1, if_pos g5] at h2; simp [e, ← h2, g5]
  · rw [heldE_at hx1, if_neg (by simp [g5]), if_pos (by rw [hb g7 hx2]; exact g8)] at h2; simp [e, ← h2]
  · (refine p_nx ((i + 1)) ?_; (try simp only); (try exact trivial))
    exact ⟨by omega, by rw [aheadS_succ hx1]; omega, by rw [aheadS_succ hx1, ← h2, heldE_at hx1, if_neg (by simp [g5]), if_neg (by rw [hb g7 hx2]; omega)]⟩
  · (refine p_nx ((i + 1)) ?_; (try simp only); (try exact trivial))
    exact ⟨by omega, by rw [aheadS_succ hx1]; omega, by rw [aheadS_succ hx1, ← h2, heldE_at hx1, if_neg (by simp [g5]), if_neg (by rw [aheadS, if_pos g7]; omega)]⟩
  · rw [heldE_at hx1, if_neg (by simp [g5]), if_pos (by omega)] at h2; simp [e, ← h2]
  all_goals (rw [List.drop_eq_nil_of_le g4] at h2; simp only [heldE] at h2; rw [e, ← h2]; simp [g5, g6])
def turnS : Int → List Slt → List Slt → Int × List Slt × List Slt
  | n, [], o => (n, [], o)
  | n, x :: l, o => if x.n = n then turnS (n + 1) l (o ++ [x]) else (n, x :: l, o)
def relS (most : Nat) : Int → List Slt → List Slt → Int × List Slt × List Slt
  | n, [], o => (n, [], o)
  | n, x :: l, o => if x.n = n then relS most (n + 1) l (o ++ [x]) else if l.length + 1 ≤ most then (n, x :: l, o) else relS most (x.n + 1) l (o ++ [x])
theorem relS_turn (most : Nat) : ∀ (l : List Slt) (n : Int) (o : List Slt), relS most (turnS n l o).1 (turnS n l o).2.1 (turnS n l o).2.2 = relS most n l o
  | [], n, o => rfl
  | x :: l, n, o => by
    by_cases h : x.n = n
    · simp only [turnS, relS, if_pos h]; exact relS_turn most l (n + 1) (o ++ [x])
    · simp only [turnS, if_neg h]
theorem turnS_head : ∀ (l : List Slt) (n : Int) (o : List Slt) (x : Slt) (m : List Slt), (turnS n l o).2.1 = x :: m → x.n ≠ (turnS n l o).1
  | [], n, o, x, m, h => by simp [turnS] at h
  | y :: l, n, o, x, m, h => by
    by_cases c : y.n = n
    · simp only [turnS, if_pos c] at h ⊢; exact turnS_head l (n + 1) (o ++ [y]) x m h
    · simp only [turnS, if_neg c] at h ⊢; cases h; exact c
theorem turnS_len : ∀ (l : List Slt) (n : Int) (o : List Slt), (turnS n l o).2.1.length + (turnS n l o).2.2.length = l.length + o.length ∧ (turnS n l o).2.1.length ≤ l.length ∧ (∀ a ∈ (turnS n l o).2.1, a ∈ l)
  | [], n, o => by simp [turnS]
  | y :: l, n, o => by
    by_cases c : y.n = n
    · simp only [turnS, if_pos c]
      obtain ⟨h1, h2, h3⟩ := turnS_len l (n + 1) (o ++ [y])
      simp at h1 ⊢
      exact ⟨by omega, by omega, fun a ha => .inr (h3 a ha)⟩
    · simp only [turnS, if_neg c]; simp
end Go.Proofs.YtokkencbpmjdaaaGreat
end
section
namespace Go.Proofs.YtokkencbpmjdaaaGreat
open Go Go.Sy
set_option maxRecDepth 4000
set_option linter.unusedSimpArgs false
set_option linter.unusedVariables false
attribute [local irreducible] Reg RegD Later Out CallV Tri Side EqV Pause
abbrev keepB (n : Int) (l o : List Slt) : List Ob := [.box [I n, slts l, .osl 1 7 (rowL o)], .perm 102 7 o.length]
set_option maxHeartbeats 1000000 in
theorem c_turn (n : Int) (l o : List Slt) (hl : l.length + o.length ≤ 1000000) (hn : 0 ≤ n ∧ n ≤ 1000000000000) (hs : ∀ a ∈ l, 0 ≤ a.n ∧ a.n ≤ 1000000000000) :
    CSpec Tryz.prog 109 [.ptr 0 0] (keepB n l o) (.tup []) (keepB (turnS n l o).1 (turnS n l o).2.1 (turnS n l o).2.2) := by
  refine v_cspec Tryz.func109 rfl Tryz.ntmps109 Tryz.results109 (by simp) (k := 2) rfl ?_
  repeat' (first
 | (with_reducible first | apply qz0 | apply qz3 )
 )
  refine w_loop (X := Int × List Slt × List Slt) [2, 3, 4, 5, 6, 7, 8, 9, 10, 11, 12, 13, 14, 15, 16, 17, 18, 19, 20, 21, 22, 23, 24, 25, 26, 27, 28, 29, 30, 31, 32, 33, 34, 35, 36, 37, 38, 39, 40, 41, 42, 43, 44, 45, 46, 47, 48, 49, 50, 51, 52, 53, 54, 55, 56, 57, 58, 59] (fun _ => []) (fun x => [(0, .box [I x.1, slts x.2.1, .osl 1 7 (rowL x.2.2)]), (1, .perm 102 7 x.2.2.length)]) (fun x => turnS x.1 x.2.1 x.2.2 = turnS n l o ∧ x.2.1.length + x.2.2.length = l.length + o.length ∧ 0 ≤ x.1 ∧ x.1 + x.2.1.length ≤ 1000000000000 + l.length ∧ ∀ a ∈ x.2.1, 0 ≤ a.n ∧ a.n ≤ 1000000000000) (fun x => x.2.1.length) (n, l, o) ?_ ?_ ?_
  · exact ⟨rfl, rfl, hn.1, by simp; omega, hs⟩
  · refine ⟨kt_refl, ko_refl, ?_, ?_, ?_, ?_, Nat.le_refl _⟩ <;> simp
  rintro ⟨n', l', o'⟩ ⟨h1, h2, h3, h4, h5⟩
  simp only at h1 h2 h3 h4 h5
  cases l' with
  | nil =>
    repeat' (first
 | (with_reducible first | apply qz0 | (refine h0 _ _ ?_; clear h0 hw) | apply qz4 | apply qz7 | apply qza | apply qzc )
 | refine p_dreg Tryz.mix fun K1 hK => ?_
 | apply go_seq
 | (refine p_dop Tryz.tab fun K' h0 hw => ?_; conv => whnf)
 | (refine d_nil (p_obj ?_ (hK _ _ _ _)); clear hK)
 | ((first | (apply d_grd_no; (case hg => rfl); (case hb => rfl)) ); (case hi => (simp only [Nat.reduceAdd, Nat.reduceMul]; rfl)))
 | ((with_reducible apply go_cond); (case hb => rfl))
 | ((with_reducible apply And.intro); (case' right => try (conv => whnf)); (case' left => try first | rfl | decide | (simp; done) ))
 | (first | (guard_hyp g2; intro g3; try simp at g3; try simp (disch := omega) only [wrp] at g3) | (guard_hyp g1; intro g2; try simp at g2; try simp (disch := omega) only [wrp] at g2) | intro g1; try simp at g1; try simp (disch := omega) only [wrp] at g1))
    all_goals (try (exfalso; simp_all; done))
    rw [← h1]
    ((first | refine w_retO Tryz.tab [] (by rfl) (by simp) (by simp) (fun K' hL => ?_) ?_ ?_ ?_ | refine w_retO_end Tryz.tab [] (by rfl) (by simp) (by simp) (fun K' hL => ?_) ?_ ?_ ?_); (conv => whnf); (refine hL _ ?_; clear hL); all_goals simp [turnS])
  | cons y m =>
    have hy := h5 y (by simp)
    have e2 : List.take m.length (List.map sltC m) = List.map sltC m := List.take_of_length_le (by simp)
    simp at h2 h4
    have e3 := wrp (n := n' + 1) (by omega) (by omega)
    repeat' (first
 | ((with_reducible refine all_row ?_); intro x1 hx1; simp at hx1; subst hx1; conv => whnf)
 | (with_reducible first | apply qz0 | (refine h0 _ _ ?_; clear h0 hw) | (refine hw _ _ _ ?_; clear h0 hw) | apply qz2 | apply qz3 | apply qz4 | apply qz6 | apply qz7 | apply qz9 | apply qza | apply qzc )
 | refine p_reg fun K1 hK => ?_ | refine p_regE fun K1 hK => ?_
 | refine p_dreg Tryz.mix fun K1 hK => ?_
 | apply go_seq
 | ((first | refine p_op Tryz.tab fun K' h0 hw => ?_ | refine p_op0 Tryz.tab fun K' h0 hw => ?_ | refine p_dop Tryz.tab fun K' h0 hw => ?_ | refine p_dop0 Tryz.tab fun K' h0 hw => ?_); conv => whnf)
 | (refine p_nil (hK _ ?_); clear hK)
 | (refine d_nil (p_obj ?_ (hK _ _ _ _)); clear hK)
 | (first | refine d_grd_yes (by rfl) (by rfl) ?_ )
 | ((first | (apply d_grd; (case hg => rfl); (case hb => rfl)) ); (case hi => (simp only [Nat.reduceAdd, Nat.reduceMul]; rfl)))
 | ((with_reducible apply go_cond); (case hb => rfl))
 | ((with_reducible apply And.intro); (case' right => try (conv => whnf)); (case' left => try first | rfl | decide | (simp; done) ))
 | exact p_side
 | (first | (guard_hyp g2; intro g3; try simp at g3) | (guard_hyp g1; intro g2; try simp at g2) | intro g1; try simp at g1))
    · rw [turnS, if_pos g2] at h1
      ((refine w_nx ((n' + 1, m, o' ++ [y])) ?_ ?_ ?_ ?_ ?_ ?_); (case refine_1 => simp [e2, e3]); (case refine_2 => simp [e2, e3]); (case refine_3 => simp (disch := omega) [e2, e3, wrp]); (case refine_4 => simp [e2, e3]); (case refine_5 => first | (simp; omega) | (simp; done) | omega | (simp only; omega)); (case' refine_6 => (try simp only); (try exact trivial)))
      exact ⟨h1, by simp; omega, by omega, by omega, fun a ha => h5 a (by simp [ha])⟩
    · rw [turnS, if_neg g2] at h1
      rw [← h1]
      ((first | refine w_retO Tryz.tab [] (by rfl) (by simp) (by simp) (fun K' hL => ?_) ?_ ?_ ?_ | refine w_retO_end Tryz.tab [] (by rfl) (by simp) (by simp) (fun K' hL => ?_) ?_ ?_ ?_); (conv => whnf); (refine hL _ ?_; clear hL); all_goals simp)
set_option maxHeartbeats 1000000 in
theorem c_skip (most : Nat) (n : Int) (l o : List Slt) (hl : l.length + o.length ≤ 1000000) (hm : most ≤ 1000) (hn : 0 ≤ n ∧ n ≤ 1000000000000) (hs : ∀ a ∈ l, 0 ≤ a.n ∧ a.n ≤ 1000000000000) :
    CSpec Tryz.prog 74 [.ptr 0 0, I most] (keepB n l o) (.tup []) (keepB (relS most n l o).1 (relS most n l o).2.1 (relS most n l o).2.2) := by
  refine v_cspec Tryz.func74 rfl Tryz.ntmps74 Tryz.results74 (by simp) (k := 2) rfl ?_
  have t0 := turnS_len l n o
  have t1 := relS_turn most l n o
  have t2 := turnS_head l n o
  repeat' (first
 | (with_reducible first | apply qz0 | (refine h0 _ _ ?_; clear h0 hw) | (refine hw _ _ _ ?_; clear h0 hw) | apply qz3 )
 | refine p_reg fun K1 hK => ?_
 | (refine p_op Tryz.tab fun K' h0 hw => ?_; conv => whnf)
 | (refine p_nil (hK _ ?_); clear hK)
 | ((with_reducible refine callV_id (f := 109) ?_); have hcs_ := c_turn n l o hl hn hs; (with_reducible apply w_callO [0, 1] own109 (hcs_)); (case hx => rfl); (case he => rfl); (case hle => first | ((repeat constructor); done) ); (case hm => rfl); (case hnd => decide); (case' hK => (try clear hcs_); conv => whnf); (any_goals (simp; done)))
 )
  refine w_loop (X := Int × List Slt × List Slt) [6, 7, 8, 9, 10, 11, 12, 13, 14, 15, 16, 17, 18, 19, 20, 21, 22, 23, 24, 25, 26, 27] (fun _ => []) (fun x => [(0, .box [I x.1, slts x.2.1, .osl 1 7 (rowL x.2.2)]), (1, .perm 102 7 x.2.2.length)]) (fun x => relS most x.1 x.2.1 x.2.2 = relS most n l o ∧ x.2.1.length + x.2.2.length = l.length + o.length ∧ (∀ a ∈ x.2.1, 0 ≤ a.n ∧ a.n ≤ 1000000000000) ∧ ∀ y m, x.2.1 = y :: m → y.n ≠ x.1) (fun x => x.2.1.length) (turnS n l o) ?_ ?_ ?_
  · exact ⟨t1, t0.1, fun a ha => hs a (t0.2.2 a ha), t2⟩
  · refine ⟨kt_refl, ko_refl, ?_, ?_, ?_, ?_, Nat.le_refl _⟩ <;> simp
  rintro ⟨n', l', o'⟩ ⟨h1, h2, h3, h4⟩
  simp only at h1 h2 h3 h4
  by_cases hm' : l'.length ≤ most
  · have e : relS most n' l' o' = (n', l', o') := by
      cases l' with
      | nil => rfl
      | cons y m => rw [relS, if_neg (h4 y m rfl), if_pos (by simpa using hm')]
    rw [e] at h1
    repeat' (first
 | (with_reducible first | apply qz0 | (refine h0 _ _ ?_; clear h0 hw) | (refine hw _ _ _ ?_; clear h0 hw) | apply qz2 | apply qz3 | apply qz4 | apply qz6 | apply qz7 | apply qz9 | apply qza | apply qzc )
 | refine p_reg fun K1 hK => ?_ | refine p_regE fun K1 hK => ?_
 | apply go_seq
 | ((first | refine p_op Tryz.tab fun K' h0 hw => ?_ | refine p_op0 Tryz.tab fun K' h0 hw => ?_); conv => whnf)
 | (refine p_nil (hK _ ?_); clear hK)
 | ((with_reducible apply go_cond); (case hb => rfl))
 | ((with_reducible apply And.intro); (case' right => try (conv => whnf)); (case' left => try first | rfl | decide | (simp; done) | (simp (disch := omega) only [wrp]; omega) ))
 | ((with_reducible refine all_row ?_); (first | intro x1 hx1); conv => whnf)
 | (exfalso; omega)
 | (first  | intro g1; try simp at g1))
    rw [← h1]
    ((first | refine w_retO Tryz.tab [] (by rfl) (by simp) (by simp) (fun K' hL => ?_) ?_ ?_ ?_ | refine w_retO_end Tryz.tab [] (by rfl) (by simp) (by simp) (fun K' hL => ?_) ?_ ?_ ?_); (conv => whnf); (refine hL _ ?_; clear hL); all_goals simp)
  · cases l' with
    | nil => simp at hm'
    | cons y m =>
      have hy := h3 y (by simp)
      have u0 := turnS_len (y :: m) y.n o'
      have u1 := relS_turn most (y :: m) y.n o'
      have u2 := turnS_head (y :: m) y.n o'
      have u3 : (turnS y.n (y :: m) o').2.1.length < (y :: m).length := by
        simp only [turnS, if_true]
        have := (turnS_len m (y.n + 1) (o' ++ [y])).2.1
        simp; omega
      have u4 : relS most y.n (y :: m) o' = relS most n' (y :: m) o' := by
        rw [relS, if_pos rfl]
        conv => rhs; rw [relS]
        rw [if_neg (h4 y m rfl), if_neg (by simpa using hm')]
      simp at hm'
      repeat' (first
 | ((with_reducible refine all_row ?_); intro x1 hx1; simp at hx1; subst hx1; conv => whnf)
 | (with_reducible first | apply qz0 | (refine h0 _ _ ?_; clear h0 hw) | (refine hw _ _ _ ?_; clear h0 hw) | apply qz2 | apply qz3 | apply qz4 | apply qz6 | apply qz7 | apply qz9 | apply qza | apply qzc )
 | refine p_reg fun K1 hK => ?_ | refine p_regE fun K1 hK => ?_
 | apply go_seq
 | ((first | refine p_op Tryz.tab fun K' h0 hw => ?_ | refine p_op0 Tryz.tab fun K' h0 hw => ?_); conv => whnf)
 | (refine p_nil (hK _ ?_); clear hK)
 | ((with_reducible refine callV_id (f := 109) ?_); have hcs_ := c_turn y.n (y :: m) o' (by omega) hy h3; (with_reducible apply w_callO [0, 1] own109 (hcs_)); (case hx => rfl); (case he => rfl); (case hle => first | ((repeat constructor); done) ); (case hm => rfl); (case hnd => decide); (case' hK => (try clear hcs_); conv => whnf); (any_goals (simp; done)))
 | ((with_reducible apply go_cond); (case hb => rfl))
 | ((with_reducible apply And.intro); (case' right => try (conv => whnf)); (case' left => try first | rfl | decide | (simp; done) ))
 | exact p_side
 | (first  | intro g1; try simp at g1))
      · (refine p_nx ((turnS y.n (y :: m) o')) ?_; (try simp only); (try exact trivial))
        exact ⟨by rw [u1, u4, h1], by rw [u0.1]; exact h2, fun a ha => h3 a (u0.2.2 a ha), u2⟩
      all_goals (exfalso; omega)
end Go.Proofs.YtokkencbpmjdaaaGreat
end
section
namespace Go.Proofs.YtokkencbpmjdaaaGreat
open Go Go.Sy
set_option maxRecDepth 4000
set_option linter.unusedSimpArgs false
set_option linter.unusedVariables false
attribute [local irreducible] Reg RegD Later Out CallV Tri Side EqV Pause
abbrev relT (x : Int × List Slt × List Slt) : AV := .tup [.agg [I x.1, slts x.2.1], slts x.2.2]
set_option maxHeartbeats 1000000 in
theorem c_released (most : Nat) (n : Int) (l : List Slt) (hl : l.length ≤ 1000000) (hm : most ≤ 1000) (hn : 0 ≤ n ∧ n ≤ 1000000000000) (hs : ∀ a ∈ l, 0 ≤ a.n ∧ a.n ≤ 1000000000000) :
    PSpec Tryz.prog 88 [.agg [I n, slts l], I most] (relT (relS most n l [])) := by
  refine p_pspec Tryz.func88 Tryz.ntmps88 Tryz.results88 ?_
  repeat' (first
 | ((with_reducible apply w_ownNil 6 102 7); (case hs => rfl); (case hsz => decide); (case hm => (try simp only [Nat.reduceAdd, Nat.reduceMul]); exact rfl))
 | (with_reducible first | apply qz0 | (refine h0 _ _ ?_; clear h0 hw) | (refine hw _ _ _ ?_; clear h0 hw) | apply qz3 )
 | refine p_reg fun K1 hK => ?_
 | apply go_seq
 | (refine p_op Tryz.tab fun K' h0 hw => ?_; conv => whnf)
 | (refine p_nil (hK _ ?_); clear hK)
 | ((with_reducible apply And.intro); (case' right => try (conv => whnf)); (case' left => try first | rfl ))
 )
  refine w_loop (X := Int × List Slt × List Slt) [6, 7, 8, 9, 10, 11, 12, 13, 14, 15, 16, 17, 18, 19, 20, 21, 22, 23, 24, 25, 26, 27, 28, 29, 30, 31, 32, 33, 34, 35, 36, 37, 38, 39, 40, 41, 42, 43, 44, 45] (fun x => [(6, .osl 64 7 (rowL x.2.2))]) (fun x => [(0, .box [I x.1, slts x.2.1]), (64, .perm 102 7 x.2.2.length)]) (fun x => relS most x.1 x.2.1 x.2.2 = relS most n l [] ∧ x.2.1.length + x.2.2.length = l.length ∧ (∀ a ∈ x.2.1, 0 ≤ a.n ∧ a.n ≤ 1000000000000) ∧ 0 ≤ x.1 ∧ x.1 + x.2.1.length ≤ 1000000000000 + l.length + 1) (fun x => x.2.1.length) (n, l, []) ?_ ?_ ?_
  · exact ⟨rfl, by simp, hs, hn.1, by simp; omega⟩
  · refine ⟨kt_refl, ko_refl, ?_, ?_, ?_, ?_, Nat.le_refl _⟩ <;> simp
  rintro ⟨n', l', o'⟩ ⟨h1, h2, h3, h4, h5⟩
  simp only at h1 h2 h3 h4 h5
  cases l' with
  | nil =>
    repeat' (first
 | (with_reducible first | apply qz0 | (refine h0 _ _ ?_; clear h0 hw) | (refine hw _ _ _ ?_; clear h0 hw) | apply qz1 | apply qz4 | apply qz6 | apply qz7 | apply qza | apply qzc | (refine hL _ ?_; clear hL))
 | refine p_reg fun K1 hK => ?_
 | apply go_seq
 | ((first | refine p_op Tryz.tab fun K' h0 hw => ?_ | refine p_op0 Tryz.tab fun K' h0 hw => ?_); conv => whnf)
 | (refine p_nil (hK _ ?_); clear hK)
 | ((with_reducible apply go_cond); (case hb => rfl))
 | ((with_reducible first | refine w_ret Tryz.tab fun K' hL => ?_ ); (conv => whnf))
 | ((with_reducible apply And.intro); (case' right => try (conv => whnf)); (case' left => try first | rfl | decide | (simp; done) ))
 | (first | (guard_hyp g2; intro g3; try simp at g3; try simp (disch := omega) only [wrp] at g3) | (guard_hyp g1; intro g2; try simp at g2; try simp (disch := omega) only [wrp] at g2) | intro g1; try simp at g1; try simp (disch := omega) only [wrp] at g1))
    rw [← h1]
    repeat constructor
  | cons y m =>
    have hy := h3 y (by simp)
    have e2 : List.take m.length (List.map sltC m) = List.map sltC m := List.take_of_length_le (by simp)
    simp at h2 h5
    have e3 := wrp (n := n' + 1) (by omega) (by omega)
    have e4 := wrp (n := y.n + 1) (by omega) (by omega)
    repeat' (first
 | ((with_reducible refine all_row ?_); intro x1 hx1; simp at hx1; subst hx1; conv => whnf)
 | (with_reducible first | apply qz0 | (refine h0 _ _ ?_; clear h0 hw) | (refine hw _ _ _ ?_; clear h0 hw) | apply qz1 | apply qz2 | apply qz3 | apply qz4 | apply qz6 | apply qz7 | apply qz9 | apply qza | apply qzc | (refine hL _ ?_; clear hL))
 | refine p_reg fun K1 hK => ?_ | refine p_regE fun K1 hK => ?_
 | refine p_dreg Tryz.mix fun K1 hK => ?_ | refine p_dregE Tryz.mix fun K1 hK => ?_
 | apply go_seq
 | ((first | refine p_op Tryz.tab fun K' h0 hw => ?_ | refine p_op0 Tryz.tab fun K' h0 hw => ?_ | refine p_dop Tryz.tab fun K' h0 hw => ?_ | refine p_dop0 Tryz.tab fun K' h0 hw => ?_); conv => whnf)
 | (refine p_nil (hK _ ?_); clear hK)
 | (refine d_nil (p_obj ?_ (hK _ _ _ _)); clear hK)
 | ((with_reducible apply go_cond); (case hb => rfl))
 | ((with_reducible apply out_block_there); (case hne => rfl))
 | ((with_reducible first | refine w_ret Tryz.tab fun K' hL => ?_ ); (conv => whnf))
 | ((with_reducible apply And.intro); (case' right => try (conv => whnf)); (case' left => try first | rfl | decide | (simp; done) ))
 | exact p_side
 | (first | (guard_hyp g2; intro g3; try simp at g3; try simp (disch := omega) only [wrp] at g3) | (guard_hyp g1; intro g2; try simp at g2; try simp (disch := omega) only [wrp] at g2) | intro g1; try simp at g1; try simp (disch := omega) only [wrp] at g1))
    · rw [relS, if_neg g2, if_pos (by omega)] at h1
      rw [← h1]
      repeat constructor
    · rw [relS, if_neg g2, if_neg (by omega)] at h1
      ((refine w_nx ((y.n + 1, m, o' ++ [y])) ?_ ?_ ?_ ?_ ?_ ?_); (case refine_1 => simp [e2, e4]); (case refine_2 => simp [e2, e4]); (case refine_3 => simp (disch := omega) [e2, e4, wrp]); (case refine_4 => simp [e2, e4]); (case refine_5 => first | (simp; omega) | (simp; done) | omega | (simp only; omega)); (case' refine_6 => (try simp only); (try exact trivial)))
      exact ⟨h1, by simp; omega, fun a ha => h3 a (by simp [ha]), by omega, by omega⟩
    · rw [relS, if_pos g2] at h1
      ((refine w_nx ((n' + 1, m, o' ++ [y])) ?_ ?_ ?_ ?_ ?_ ?_); (case refine_1 => simp [e2, e3]); (case refine_2 => simp [e2, e3]); (case refine_3 => simp (disch := omega) [e2, e3, wrp]); (case refine_4 => simp [e2, e3]); (case refine_5 => first | (simp; omega) | (simp; done) | omega | (simp only; omega)); (case' refine_6 => (try simp only); (try exact trivial)))
      exact ⟨h1, by simp; omega, fun a ha => h3 a (by simp [ha]), by omega, by omega⟩
set_option maxHeartbeats 1000000 in
theorem c_own (b : Bf) (hl : b.held.length ≤ 1000000) : CSpec Tryz.prog 73 [.agg (bfC b)] [] (.ptr 0 0) [.box [I b.next, .osl 1 7 (rowL b.held), .s (.slice none 0 0)], .perm 102 7 b.held.length] := by
  refine v_cspec Tryz.func73 rfl Tryz.ntmps73 Tryz.results73 (by simp) (k := 0) rfl ?_
  repeat' (first
 | (with_reducible first | apply qz0 | (refine h0 _ _ ?_; clear h0 hw) | (refine hw _ _ _ ?_; clear h0 hw) | apply qz1 )
 | refine p_reg fun K1 hK => ?_
 | ((first | refine p_op Tryz.tab fun K' h0 hw => ?_ | refine p_op0 Tryz.tab fun K' h0 hw => ?_); conv => whnf)
 | (refine p_nil (hK _ ?_); clear hK)
 | ((with_reducible refine callV_id (f := 71) ?_); have hcs_ := c_cloneSlt b.held (by omega); (with_reducible apply w_callO [] own71 (hcs_)); (case hx => rfl); (case he => rfl); (case hle => first | ((repeat constructor); done) ); (case hm => rfl); (case hnd => decide); (case' hK => (try clear hcs_); conv => whnf); (any_goals (simp; done)))
 | ((with_reducible apply And.intro); (case' right => try (conv => whnf)); (case' left => try first | rfl | decide | (simp; done) ))
 )
  ((first | refine w_retO Tryz.tab [144, 64] (by rfl) (by simp) (by simp) (fun K' hL => ?_) ?_ ?_ ?_ | refine w_retO_end Tryz.tab [144, 64] (by rfl) (by simp) (by simp) (fun K' hL => ?_) ?_ ?_ ?_); (conv => whnf); (refine hL _ ?_; clear hL); all_goals simp)
def cmpA (n m : Int) : Int := IntKind.i64.wrap (n - m)
theorem c_raw1 (y : Slt) (n : Int) : PSpec Tryz.prog 125 [.agg (sltC y), I n] (I (cmpA y.n n)) := by
  refine p_pspec Tryz.func125 Tryz.ntmps125 Tryz.results125 ?_
  repeat' (first
 | (with_reducible first | apply qz0 | (refine h0 _ _ ?_; clear h0 hw) | (refine hw _ _ _ ?_; clear h0 hw) | apply qz1 | (refine hL _ ?_; clear hL))
 | refine p_reg fun K1 hK => ?_
 | (refine p_op Tryz.tab fun K' h0 hw => ?_; conv => whnf)
 | (refine p_nil (hK _ ?_); clear hK)
 | ((with_reducible first | refine w_ret Tryz.tab fun K' hL => ?_ ); (conv => whnf))
 | ((with_reducible apply And.intro); (case' right => try (conv => whnf)); (case' left => try first | rfl | decide | (simp; done) ))
 )
  all_goals exact .refl _
def posS (l : List Slt) (n : Int) : Nat := (l.takeWhile fun y => decide (y.n < n)).length
theorem posS_le (l : List Slt) (n : Int) : posS l n ≤ l.length := by
  unfold posS; exact (List.takeWhile_prefix _).length_le
theorem posS_cons (y : Slt) (l : List Slt) (n : Int) : posS (y :: l) n = if y.n < n then posS l n + 1 else 0 := by
  unfold posS; rw [List.takeWhile_cons]; by_cases h : y.n < n <;> simp [h]
theorem pos_lt : ∀ {l : List Slt} {n : Int} {k : Nat} {x : Slt}, k < posS l n → l[k]? = some x → x.n < n
  | [], n, k, x, h, hx => by simp at hx
  | y :: l, n, k, x, h, hx => by
    rw [posS_cons] at h
    by_cases c : y.n < n
    · rw [if_pos c] at h
      cases k with
      | zero => simp at hx; subst hx; exact c
      | succ k => exact pos_lt (l := l) (k := k) (by omega) (by simpa using hx)
    · rw [if_neg c] at h; omega
theorem pos_ge : ∀ {l : List Slt} {n : Int} {k : Nat} {x : Slt}, l.Pairwise (fun a b => a.n < b.n) → posS l n ≤ k → l[k]? = some x → n ≤ x.n
  | [], n, k, x, _, h, hx => by simp at hx
  | y :: l, n, k, x, hp, h, hx => by
    rw [posS_cons] at h
    rw [List.pairwise_cons] at hp
    by_cases c : y.n < n
    · rw [if_pos c] at h
      cases k with
      | zero => omega
      | succ k => exact pos_ge (k := k) hp.2 (by omega) (by simpa using hx)
    · cases k with
      | zero => simp at hx; subst hx; omega
      | succ k =>
        have := hp.1 x (List.mem_of_getElem? (by simpa using hx))
        omega
theorem wru {n : Int} (h1 : 0 ≤ n) (h2 : n ≤ 18446744073709551615) : IntKind.u64.wrap n = n := by
  unfold IntKind.wrap
  simp [IntKind.bits, IntKind.signed]
  omega
theorem two_pow1 : (2 : Int) ^ min 1 IntKind.u64.bits = 2 := by decide
set_option maxHeartbeats 1000000 in
theorem c_binary (l : List Slt) (n : Int) (hl : l.length ≤ 1000000) (hn : 0 ≤ n ∧ n ≤ 1000000000000) (hs : ∀ a ∈ l, 0 ≤ a.n ∧ a.n ≤ 1000000000000) (hr : l.Pairwise fun a b => a.n < b.n) :
    CSpec Tryz.prog 124 [slts l, I n, .fn (.func 125) [] []] [] (.tup [I (posS l n), B (decide (∃ y ∈ l, y.n = n))]) [] := by
  refine v_cspec Tryz.func124 rfl Tryz.ntmps124 Tryz.results124 (by simp) (k := 0) rfl ?_
  repeat' (first
 | (with_reducible first | apply qz0 | (refine h0 _ _ ?_; clear h0 hw) | apply qz3 )
 | refine p_reg fun K1 hK => ?_
 | apply go_seq
 | (refine p_op Tryz.tab fun K' h0 hw => ?_; conv => whnf)
 | (refine p_nil (hK _ ?_); clear hK)
 )
  refine w_loop (X := Nat × Nat) [9, 10, 11, 15, 16, 17, 18, 19, 20, 21, 22, 23, 24, 25, 26, 27, 28, 29, 30, 31, 32, 33, 34] (fun x => [(9, I x.1), (10, I x.2)]) (fun _ => []) (fun x => x.1 ≤ posS l n ∧ posS l n ≤ x.2 ∧ x.2 ≤ l.length) (fun x => x.2 - x.1) (0, l.length) ?_ ?_ ?_
  · exact ⟨Nat.zero_le _, posS_le l n, Nat.le_refl _⟩
  · refine ⟨kt_refl, ko_refl, ?_, ?_, ?_, ?_, Nat.le_refl _⟩ <;> simp
  rintro ⟨i, j⟩ ⟨h1, h2, h3⟩
  simp only at h1 h2 h3
  obtain ⟨h, hh⟩ : ∃ h, h = (i + j) / 2 := ⟨_, rfl⟩
  have e7 : ((i : Int) + (j : Int)).fdiv 2 = (h : Int) := by
    rw [Int.fdiv_eq_ediv_of_nonneg _ (by omega)]; omega
  have hcm : ∀ x : Slt, (∃ k : Nat, l[k]? = some x) → cmpA x.n n = x.n - n := fun x ⟨k, hk⟩ => by
    have := hs x (List.mem_of_getElem? hk)
    unfold cmpA; rw [wrp (by omega) (by omega)]
  repeat' (first
 | (first | ((with_reducible apply w_num (code := .seq (.region 5 _ _) _) 11); (case hv => (conv => lhs; whnf); try exact rfl); (case he => (simp (disch := omega) [wrp, wru, two_pow1, e7]); try exact rfl)))
 | (with_reducible first | apply qz0 | (refine h0 _ _ ?_; clear h0 hw) | apply qz1 | apply qz2 | apply qz3 | apply qz4 | apply qz6 | apply qz7 | apply qz9 | apply qza | apply qzc )
 | refine p_reg fun K1 hK => ?_ | refine p_regE fun K1 hK => ?_
 | apply go_seq
 | (refine p_op Tryz.tab fun K' h0 hw => ?_; conv => whnf)
 | (refine p_nil (hK _ ?_); clear hK)
 | (first | refine v_grd_yes (by rfl) (by rfl) ?_)
 | ((first | (apply v_grd_no; (case hg => rfl); (case hb => rfl)) | (apply v_grd; (case hg => rfl); (case hb => rfl))); (case hi => (simp only [Nat.reduceAdd, Nat.reduceMul]; rfl)))
 | ((with_reducible refine callV_id (f := 125) ?_); have hcs_ := c_raw1 x1 n; (with_reducible apply callV_f own125 (hcs_)); (case hx => rfl); (case he => rfl); (case hle => first | ((repeat constructor); done) ); (case hpu => repeat constructor); (case' hK => (try clear hcs_); conv => whnf))
 | ((with_reducible apply go_cond); (case hb => rfl))
 | ((with_reducible apply And.intro); (case' right => try (conv => whnf)); (case' left => try first | decide | (simp; done) ))
 | exact p_side
 | ((with_reducible refine all_row ?_); (first | intro x1 hx1); conv => whnf)
 | (first | (guard_hyp g2; intro g3; try simp at g3) | (guard_hyp g1; intro g2; try simp at g2) | intro g1; try simp at g1))
  · simp at hx1
    rw [hcm x1 ⟨_, hx1⟩] at g2
    have e8 := wrp (n := (h : Int) + 1) (by omega) (by omega)
    ((refine w_nx ((h + 1, j)) ?_ ?_ ?_ ?_ ?_ ?_); (case refine_1 => simp [e8]); (case refine_2 => simp [e8]); (case refine_3 => simp (disch := omega) [e8, wrp]); (case refine_4 => simp [e8]); (case refine_5 => first | (simp; omega) | (simp; done) | omega | (simp only; omega)); (case' refine_6 => (try simp only); (try exact trivial)))
    refine ⟨?_, h2, h3⟩
    rcases Nat.lt_or_ge h (posS l n) with c | c
    · exact c
    · have := pos_ge hr c hx1; omega
  · simp at hx1
    rw [hcm x1 ⟨_, hx1⟩] at g2
    (refine p_nx ((i, h)) ?_; (try simp only); (try exact trivial))
    refine ⟨h1, ?_, by omega⟩
    rcases Nat.lt_or_ge h (posS l n) with c | c
    · have := pos_lt c hx1; omega
    · exact c
  · simp at hx1
    have hi : i = posS l n := by omega
    subst hi
    have hx := pos_ge hr (Nat.le_refl _) hx1
    have hcx := hcm x1 ⟨_, hx1⟩
    have : (x1.n - n = 0) ↔ (∃ y, y ∈ l ∧ y.n = n) := by
      constructor
      · intro h0; exact ⟨x1, List.mem_of_getElem? hx1, by omega⟩
      · rintro ⟨y, hy, rfl⟩
        obtain ⟨k, hk⟩ := List.mem_iff_getElem?.1 hy
        rcases Nat.lt_or_ge k (posS l y.n) with c | c
        · have := pos_lt c hk; omega
        · rcases Nat.lt_or_ge (posS l y.n) k with c2 | c2
          · have h9 := List.pairwise_iff_getElem.1 hr (posS l y.n) k (by omega) (List.getElem?_eq_some_iff.1 hk).1 c2
            rw [(List.getElem?_eq_some_iff.1 hk).2, (List.getElem?_eq_some_iff.1 hx1).2] at h9
            omega
          · have e9 : k = posS l y.n := by omega
            rw [e9, hx1] at hk; cases hk; omega
    ((first | refine w_retO Tryz.tab [] (by rfl) (by simp) (by simp) (fun K' hL => ?_) ?_ ?_ ?_ | refine w_retO_end Tryz.tab [] (by rfl) (by simp) (by simp) (fun K' hL => ?_) ?_ ?_ ?_); (conv => whnf); (refine hL _ ?_; clear hL); all_goals simp [hcx, this])
  · have hi : i = posS l n := by omega
    subst hi
    have : ¬ (∃ y, y ∈ l ∧ y.n = n) := by
      rintro ⟨y, hy, rfl⟩
      obtain ⟨k, hk⟩ := List.mem_iff_getElem?.1 hy
      have := pos_lt (l := l) (n := y.n) (k := k) (by have := (List.getElem?_eq_some_iff.1 hk).1; omega) hk
      omega
    ((first | refine w_retO Tryz.tab [] (by rfl) (by simp) (by simp) (fun K' hL => ?_) ?_ ?_ ?_ | refine w_retO_end Tryz.tab [] (by rfl) (by simp) (by simp) (fun K' hL => ?_) ?_ ?_ ?_); (conv => whnf); (refine hL _ ?_; clear hL); all_goals simp [this])
end Go.Proofs.YtokkencbpmjdaaaGreat
end

/- The symbolic layer, fifth part: stores into variables, rows that grow. No condition. -/
import Derived.Test.YtapgdbjlgebjmaaSyD
namespace Go.Sy

theorem setRow_cell_other {w : World} {g b o : Nat} {cs : Array Value} (h : b ≠ g) : (w.setRow g cs).cell? ⟨b, o, none⟩ = w.cell? ⟨b, o, none⟩ := cell_setRow_other w g cs ⟨b, o, none⟩ h

/-- A variable is written. -/
theorem Mem.setBox {c : Ctx} {H : View} {ε : Env} {ob : Nat → Option Ob} {w : World} (hm : Mem c H ε ob w) {id b : Nat} {cs0 cs : List AV} {arr0 arr : Array Value} {T : TypeId} (hid : ob id = some (.box cs0)) (hε : ε id = some (.blk b))
    (hh : w.heap[b]? = some (.cells arr0 T (0, 0))) (hr : RL H ε arr.toList cs) (h1 : ∀ v ∈ arr.toList, v.oneCell' = true) : Mem c H ε (updOb ob id (.box cs)) (w.setRow b arr) := by
  have hne : ob id ≠ none := by rw [hid]; simp
  have hbk : blkOf (ε id) = some b := by rw [hε]; rfl
  obtain ⟨_, _, _, _, _, hnone⟩ := (hm.objs id _ hid).box hε
  have hup : ∀ i, updOb ob id (.box cs) i ≠ none → ob i ≠ none := fun i hi => by
    unfold updOb at hi; split at hi
    · rename_i h; subst h; exact hne
    · exact hi
  exact {
    view := fun b' o v h => by
      have hb : b' ≠ b := fun e => by subst e; rw [hnone o] at h; cases h
      rw [setRow_cell_other hb]; exact hm.view b' o v h
    objs := fun i y hy => by
      unfold updOb at hy
      split at hy
      · rename_i hi; subst hi; cases hy
        exact ⟨b, arr, T, hε, setRow_heap w b arr0 arr T (0, 0) hh, hr, h1, hnone⟩
      · rename_i hi
        refine (hm.objs i y hy).ext (View.le_refl H) (Env.le_refl ε) rfl (fun b' hb' => setRow_other w b b' arr ?_) (fun _ _ _ => rfl)
        intro e; subst e
        exact hm.dj i id (by rw [hy]; simp) hne hi b' hb' hbk
    dj := fun i j hi hj => hm.dj i j (hup i hi) (hup j hj)
    own := fun i hi => hm.own i (hup i hi)
    os := hm.os
    tape := hm.tape
    output := hm.output
    size := by rw [setRow_size]; exact hm.size
    block := fun k hk hS => by
      rw [setRow_other w b k arr]
      · exact hm.block k hk hS
      · intro e; subst e
        rcases hm.own id hne k hbk with h | h
        · omega
        · exact hS h
    hle := hm.hle
    hold := hm.hold
    ele := hm.ele }

section
variable {P : Program} {nb : Nat} {t : TypeId} {σ : St}

theorem opS_store (t' : TypeId) (x y : Operand) (T : TY) (id off : Nat) (cs : List AV) (hT : ty P t' = some T) (hx : σ.ev x = .ptr id off) (hb : σ.ob id = some (.box cs)) (hy : (σ.ev y).one = true ∨ ∃ ds, σ.ev y = .agg ds)
    (h1 : (σ.ev y).cells.all AV.one = true) (hl : (σ.ev y).cells.length = T.n) (hn : off + T.n ≤ cs.length) :
    OpS P nb (.store t' x y) t σ .junk (updOb σ.ob id (.box (cs.take off ++ (σ.ev y).cells ++ cs.drop (off + T.n)))) := by
  intro c H ε a w o ho _ hm hr hf next Q hnx
  have hx' := R_ev hr x; rw [hx] at hx'
  obtain ⟨b, hv, hε⟩ := hx'.ptr_inv
  have hc := (R_ev hr y).cells hy
  have hone := hc.one (by simpa using h1)
  obtain ⟨arr, T', hh, hrl, ho1, hnone⟩ := (hm.objs id _ hb).box hε
  obtain ⟨inf, d, z, hi, hd, hz, hTn, _⟩ := ty_inv hT
  have hlen := hrl.length_eq
  have hlc : (a.eval y).cells.toList.length = T.n := by rw [hc.length_eq, hl]
  have hst := run_storeCells_at P b off T' (a.eval y).cells.toList 0 arr w hh (by simp at hlc hlen ⊢; omega) hone
  have hrun : (execOp a.eval o).run P w = .ok .skip (w.setRow b (arr.toList.take off ++ (a.eval y).cells.toList ++ arr.toList.drop (off + T.n)).toArray) := by
    simp only [Nat.add_zero, hlc] at hst
    have hsz : ¬ ((a.eval y).cells.size ≠ inf.size) := by rw [← hTn]; simp at hlc; omega
    simp only [execOp, ho, Instr.storeAt, hv, Instr.sureAddr, Sem.run_bind, Sem.run_pure, Result.andThen_ok, storeVar, run_sizeOf' hi, if_neg hsz, hst]
  unfold Oper.wp
  rw [hrun]
  refine hnx undef _ H ε (View.le_refl H) (Env.le_refl ε) (fun _ h _ => h) (.junk _) (hm.setBox hb hε hh ?_ ?_)
  · simpa using ((hrl.take off).append hc).append (hrl.drop (off + T.n))
  · intro v hv'
    simp only [List.mem_append] at hv'
    rcases hv' with (h | h) | h
    · exact ho1 v (List.mem_of_mem_take h)
    · exact hone v h
    · exact ho1 v (List.mem_of_mem_drop h)
end

/-- What an append to an owned row does, with what it leaves as it was. -/
theorem append_cases {P : Program} (w : World) (t ty' e : TypeId) (i : TypeInfo) (z : Value) (ht : P.underlying t = some (.slice e)) (hi : P.info? e = some i) (hz : i.zero = some z) (hzs : z.cells.size = i.size)
    (v : Value) (n : Nat) (xs : List Value) (hown : w.ownsRow 0 e i.size v n xs)
    (a : Addr) (m c : Nat) (hm : 0 < m) (news : List Value) (hl : news.length = m * i.size) (hnews : ∀ j u, news[j]? = some u → w.cell? (a.add j) = some u) (h1 : ∀ u ∈ news, u.oneCell' = true)
    (h63 : n + m ≤ maxLen) (hbytes : (n + m) * i.bytes ≤ 140737488355328) :
    ∃ v' w', (Builtin.append_ #[t, t] ty' #[v, .slice (some a) m c]).run P w = .ok v' w' ∧ w'.ownsRow 0 e i.size v' (n + m) (xs ++ news) ∧ w.grownBy w' v.ownBlock ∧
      (∀ b o u, w.cell? ⟨b, o, none⟩ = some u → (v.ownBlock = some b → o < n * i.size) → w'.cell? ⟨b, o, none⟩ = some u) ∧ (v'.ownBlock = v.ownBlock ∨ v'.ownBlock = some w.heap.size) := by
  have hsmall : n + m ≤ 9223372036854775807 := by simp only [maxLen] at h63; omega
  have hlen : (xs ++ news).length = (n + m) * i.size := by rw [List.length_append, hown.1, hl, Nat.add_mul]
  have grown : ∀ (old : Nat), old < n + m → ∀ (row : Option Nat),
      (w.drew.alloc (.cells (xs.toArray ++ news.toArray ++ Builtin.zeroCells z.cells (grownCap w (n + m) old e - (n + m))) e)).ownsRow 0 e i.size
        (.slice (some ⟨w.heap.size, 0, none⟩) (n + m) (grownCap w (n + m) old e)) (n + m) (xs ++ news) ∧
      w.grownBy (w.drew.alloc (.cells (xs.toArray ++ news.toArray ++ Builtin.zeroCells z.cells (grownCap w (n + m) old e - (n + m))) e)) row := by
    intro old ho row
    have hge := grownCap_ge w (n + m) old e
    have hcm : grownCap w (n + m) old e ≤ maxLen := grownCap_le_maxLen w (n + m) old e h63
    refine ⟨⟨hlen, .inr ⟨w.heap.size, _, _, rfl, Nat.zero_le _, heap_alloc_new w.drew _, hge, hcm, ?_, ?_⟩⟩, ⟨rfl, rfl, rfl, by simp, fun k hk _ => heap_old w.drew _ k hk⟩⟩
    · simp only [Array.size_append, List.size_toArray, size_zeroCells, hzs, hown.1, hl, ← Nat.add_mul]
      congr 1
      omega
    · simp only [Array.toList_append, List.append_assoc]
      rw [← List.append_assoc, ← hlen]
      exact List.take_left
  have keep : ∀ (ob : Obj) b o u, w.cell? ⟨b, o, none⟩ = some u → (w.drew.alloc ob).cell? ⟨b, o, none⟩ = some u := fun ob b o u h => cell_alloc_lt (w := w.drew) (by simpa using h)
  rcases hown.2 with ⟨rfl, rfl⟩ | ⟨g, cap, cur, rfl, hbg, hg, hnc, hcm, hcs, htake⟩
  · have hx : xs = [] := List.eq_nil_of_length_eq_zero (by simpa using hown.1)
    subst hx
    have hr := run_append_nil (P := P) w t ty' e i z ht hi hz a m c news hl hnews (by omega) (by omega) (by have hb := hbytes; simp only [Nat.zero_add] at hb; omega)
    have hgr := grown 0 (by omega) (Value.ownBlock (.slice none 0 0))
    simp only [Nat.zero_add, List.nil_append, Array.empty_append] at hgr ⊢
    exact ⟨_, _, hr, hgr.1, hgr.2, fun b o u h _ => keep _ b o u h, .inr rfl⟩
  · by_cases hroom : n + m ≤ cap
    · have hfit : n * i.size + news.length ≤ cur.size := by rw [hl, hcs, ← Nat.add_mul]; exact Nat.mul_le_mul_right _ hroom
      have hr := run_append_room (P := P) w t ty' e i ht hi g n cap cur hg a m c news hl hnews h1 hroom hfit
      refine ⟨_, _, hr, ⟨hlen, .inr ⟨g, cap, _, rfl, hbg, setRow_heap w g cur _ e _ hg, hroom, hcm, ?_, ?_⟩⟩, ⟨rfl, rfl, rfl, by simp, fun k _ hk => setRow_other w g k _ (fun e => hk (by simp [Value.ownBlock, e]))⟩, ?_, .inl rfl⟩
      · simp only [List.size_toArray, List.length_append, List.length_take, List.length_drop, Array.length_toList]
        omega
      · rw [htake, ← hlen]
        exact List.take_left
      · intro b o u h hb
        by_cases hbg' : b = g
        · subst hbg'
          have ho := hb rfl
          rw [cell_setRow_same w b o cur _ e (0, 0) hg]
          rw [cell_of_row w b o cur e (0, 0) hg] at h
          have hol : o < (cur.toList.take (n * i.size)).length := by
            have := (Array.getElem?_eq_some_iff.1 h).1
            simp only [List.length_take, Array.length_toList]; omega
          simp only [List.getElem?_toArray, List.append_assoc]
          rw [List.getElem?_append_left hol, List.getElem?_take, if_pos ho]
          simpa using h
        · rw [setRow_cell_other hbg']; exact h
    · have holds : ∀ j u, xs[j]? = some u → w.cell? ((⟨g, 0, none⟩ : Addr).add j) = some u := World.ownsRow.cells hown (g := g) rfl
      have hr := run_append_grow (P := P) w t ty' e i z ht hi hz ⟨g, 0, none⟩ n cap xs hown.1 holds a m c news hl hnews (by omega) (by omega) (growslice_fits (by omega) hbytes)
      have hgr := grown cap (by omega) (Value.ownBlock (.slice (some ⟨g, 0, none⟩) n cap))
      exact ⟨_, _, hr, hgr.1, hgr.2, fun b o u h _ => keep _ b o u h, .inr rfl⟩

/-- A row has grown. -/
theorem Mem.growRow {c : Ctx} {H : View} {ε : Env} {ob : Nat → Option Ob} {w w' : World} (hm : Mem c H ε ob w) {p : Nat} {e : TypeId} {v v' : Value} {n n' sz : Nat} {xs' : List Value} {es' : List (List AV)}
    (hp : ob p = some (.perm e sz n)) (hε : ε p = some (.row v n)) (hsz : 0 < sz) (hnn : n < n')
    (hHn : ∀ g, v.ownBlock = some g → ∀ o, n * sz ≤ o → H g o = none)
    (hown : w'.ownsRow 0 e sz v' n' xs') (hg : w.grownBy w' v.ownBlock)
    (hkeep : ∀ b o u, w.cell? ⟨b, o, none⟩ = some u → (v.ownBlock = some b → o < n * sz) → w'.cell? ⟨b, o, none⟩ = some u) (hblk : v'.ownBlock = v.ownBlock ∨ v'.ownBlock = some w.heap.size)
    (hr : DL H xs' es'.flatten) (hs : ∀ x ∈ es', x.length = sz) (hn' : n' = es'.length) (h1 : ∀ u ∈ xs', u.oneCell' = true) :
    ∃ H', H.le H' ∧ ε.le (updEnv ε p (.row v' n')) ∧ R H' (updEnv ε p (.row v' n')) v' (.osl p sz es') ∧ Mem c H' (updEnv ε p (.row v' n')) (updOb ob p (.perm e sz n')) w' := by
  have hne : ob p ≠ none := by rw [hp]; simp
  have hbkp : blkOf (ε p) = v.ownBlock := by rw [hε]; rfl
  obtain ⟨g', hg'⟩ : ∃ g', v'.ownBlock = some g' := by
    rcases hown.2 with ⟨_, h0⟩ | ⟨g, cap, cur, rfl, _⟩
    · omega
    · exact ⟨g, rfl⟩
  have hv' : ∃ cap, v' = .slice (some ⟨g', 0, none⟩) n' cap ∧ n' ≤ cap := by
    rcases hown.2 with ⟨_, h0⟩ | ⟨g, cap, cur, hv, _, _, hc, _⟩
    · omega
    · subst hv; simp [Value.ownBlock] at hg'; subst hg'; exact ⟨cap, rfl, hc⟩
  have hcells : ∀ o u, xs'[o]? = some u → w'.cell? ⟨g', o, none⟩ = some u := fun o u h => by
    have := World.ownsRow.cells hown hg' o u h
    rwa [add_eq, Nat.zero_add] at this
  have hold : ∀ b o u, H b o = some u → w'.cell? ⟨b, o, none⟩ = some u := fun b o u h => hkeep b o u (hm.view b o u h) fun hb => by
    rcases Nat.lt_or_ge o (n * sz) with h' | h'
    · exact h'
    · rw [hHn b hb o h'] at h; cases h
  have hlx : xs'.length = n' * sz := hown.1
  have hH : H.le (H.put g' (n' * sz) xs') := View.le_put fun o u ho h => by
    have hlt : o < xs'.length := by rw [hlx]; exact ho
    have h2 := hcells o xs'[o] (by simp [hlt])
    rw [hold g' o u h] at h2
    simp [hlt, Option.some.inj h2]
  have hg'lt : g' < w'.heap.size := (World.ownsRow.lt hown g' hg').2
  have hle : ε.le (updEnv ε p (.row v' n')) := by
    intro id l hl
    by_cases hid : id = p
    · subst hid
      rw [hε] at hl; cases hl
      exact ⟨v', n', updEnv_same _ _ _, by omega, fun h => by omega⟩
    · cases l with
      | blk b => show updEnv ε p _ id = _; unfold updEnv; rw [if_neg hid]; exact hl
      | row v0 n0 => exact ⟨v0, n0, by unfold updEnv; rw [if_neg hid]; exact hl, Nat.le_refl _, fun _ => rfl⟩
  have hdm : DM (H.put g' (n' * sz) xs') g' 0 es'.flatten := DM.of_list (hr.mono hH) (fun j u hj => by
    have hlt : j < xs'.length := (List.getElem?_eq_some_iff.1 hj).1
    have : j < n' * sz := by rw [← hlx]; exact hlt
    simp only [View.put, Nat.zero_add, this, and_self, if_true]; exact hj) h1
  obtain ⟨cap, hv'e, hcap⟩ := hv'
  have hD : D (H.put g' (n' * sz) xs') v' (.sl sz es') := by
    have h := D.sl (H := H.put g' (n' * sz) xs') g' 0 cap sz es' (by omega) hs hdm
    rw [← hn'] at h
    rw [hv'e]; exact h
  -- the row's block is no other object's
  have hoth : ∀ i, i ≠ p → ob i ≠ none → ∀ b, blkOf (ε i) = some b → b ≠ g' ∧ some b ≠ v.ownBlock ∧ b < w.heap.size := by
    intro i hi hoi b hb
    have hlt := hm.blk_lt hoi hb
    have h2 : some b ≠ v.ownBlock := fun e => hm.dj i p hoi hne hi b hb (by rw [hbkp]; exact e.symm)
    refine ⟨fun e => ?_, h2, hlt⟩
    subst e
    rcases hblk with h | h
    · exact h2 (hg'.symm.trans h)
    · rw [hg'] at h; cases h; omega
  have hputo : ∀ b o, b ≠ g' → (H.put g' (n' * sz) xs') b o = H b o := fun b o hb => by unfold View.put; rw [if_neg (by simp [hb])]
  have hup : ∀ i, updOb ob p (.perm e sz n') i ≠ none → ob i ≠ none := fun i hi => by
    unfold updOb at hi; split at hi
    · rename_i h; subst h; exact hne
    · exact hi
  have hue : ∀ i, i ≠ p → updEnv ε p (.row v' n') i = ε i := fun i hi => by unfold updEnv; rw [if_neg hi]
  have hownp : ∀ b, v.ownBlock = some b → c.w0.heap.size ≤ b ∨ c.S b := fun b hb => hm.own p hne b (by rw [hbkp]; exact hb)
  have hg'own : c.w0.heap.size ≤ g' ∨ c.S g' := by
    rcases hblk with h | h
    · exact hownp g' (by rw [← h]; exact hg')
    · rw [hg'] at h; cases h; exact .inl hm.size
  refine ⟨_, hH, hle, .osl _ _ _ _ _ _ hD (updEnv_same _ _ _) (by omega) (fun _ => rfl), ?_⟩
  exact {
    view := fun b o u h => by
      unfold View.put at h
      split at h
      · rename_i hb; obtain ⟨rfl, _⟩ := hb; exact hcells o u h
      · exact hold b o u h
    objs := fun i y hy => by
      by_cases hi : i = p
      · subst hi
        simp only [updOb, if_true] at hy
        cases hy
        refine ⟨v', xs', updEnv_same _ _ _, hown, hsz, fun g hgg o ho => ?_⟩
        rw [hg'] at hgg; cases hgg
        unfold View.put
        rw [if_neg (by omega)]
        rcases hblk with h | h
        · have : n * sz ≤ n' * sz := Nat.mul_le_mul_right _ (by omega)
          exact hHn g' (by rw [← h]; exact hg') o (by omega)
        · rw [hg'] at h; cases h
          cases hq : H w.heap.size o with
          | none => rfl
          | some u => exact absurd (View.lt hm.view hq) (Nat.lt_irrefl _)
      · have hy' : ob i = some y := by simpa [updOb, hi] using hy
        have hoi : ob i ≠ none := by rw [hy']; simp
        exact (hm.objs i y hy').ext hH hle (hue i hi) (fun b hb => hg.block b (hoth i hi hoi b hb).2.2 (hoth i hi hoi b hb).2.1) (fun b hb o => hputo b o (hoth i hi hoi b hb).1)
    dj := fun i j hi hj hij b hb hb' => by
      have h1 := hup i hi
      have h2 := hup j hj
      by_cases hip : i = p
      · subst hip
        rw [updEnv_same] at hb
        rw [hue j (fun e => hij e.symm)] at hb'
        have : b = g' := by have := (show v'.ownBlock = some b from hb); rw [hg'] at this; exact (Option.some.inj this).symm
        exact (hoth j (fun e => hij e.symm) h2 b hb').1 this
      · rw [hue i hip] at hb
        by_cases hjp : j = p
        · subst hjp
          rw [updEnv_same] at hb'
          have : b = g' := by have := (show v'.ownBlock = some b from hb'); rw [hg'] at this; exact (Option.some.inj this).symm
          exact (hoth i hip h1 b hb).1 this
        · rw [hue j hjp] at hb'
          exact hm.dj i j h1 h2 hij b hb hb'
    own := fun i hi b hb => by
      have h1 := hup i hi
      by_cases hip : i = p
      · subst hip
        rw [updEnv_same] at hb
        have : b = g' := by have := (show v'.ownBlock = some b from hb); rw [hg'] at this; exact (Option.some.inj this).symm
        rw [this]; exact hg'own
      · rw [hue i hip] at hb; exact hm.own i h1 b hb
    os := hg.os.trans hm.os
    tape := hg.tape.trans hm.tape
    output := hg.output.trans hm.output
    size := Nat.le_trans hm.size hg.size
    block := fun k hk hS => by
      rw [hg.block k (Nat.lt_of_lt_of_le hk hm.size) (fun e => by
        rcases hownp k e.symm with h | h
        · omega
        · exact hS h)]
      exact hm.block k hk hS
    hle := View.le_trans hm.hle hH
    hold := fun b o hb hS => by
      have hbg : b ≠ g' := by
        intro e; subst e
        rcases hg'own with h | h
        · omega
        · exact hS h
      rw [hputo b o hbg]
      exact hm.hold b o hb hS
    ele := Env.le_trans hm.ele hle }
end Go.Sy

/- The symbolic layer, fourth part: new blocks, stores, aggregates, appends. No condition. -/
import Derived.Test.YtapgdbjlgebjmaaSyC
namespace Go.Sy

def updOb (ob : Nat → Option Ob) (id : Nat) (x : Ob) : Nat → Option Ob := fun i => if i = id then some x else ob i
def updEnv (ε : Env) (id : Nat) (l : Loc) : Env := fun i => if i = id then some l else ε i
theorem updEnv_same (ε : Env) (id : Nat) (l : Loc) : updEnv ε id l id = some l := if_pos rfl

theorem ownsRow_heap {w w' : World} {base : Nat} {e : TypeId} {size : Nat} {v : Value} {n : Nat} {xs : List Value} (h : w.ownsRow base e size v n xs) (hw : ∀ g, v.ownBlock = some g → w'.heap[g]? = w.heap[g]?) :
    w'.ownsRow base e size v n xs := by
  refine ⟨h.1, ?_⟩
  rcases h.2 with h2 | ⟨g, cap, cur, rfl, hb, hg, r⟩
  · exact .inl h2
  · exact .inr ⟨g, cap, cur, rfl, hb, by rw [hw g rfl]; exact hg, r⟩

theorem ObOK.lt {H : View} {ε : Env} {w : World} {id : Nat} {x : Ob} (h : ObOK H ε w id x) {b : Nat} (hb : blkOf (ε id) = some b) : b < w.heap.size := by
  cases x with
  | box cs =>
    obtain ⟨b', arr, T, hε, hh, _⟩ := h
    rw [hε] at hb; cases hb
    exact (Array.getElem?_eq_some_iff.1 hh).1
  | perm e sz n =>
    obtain ⟨v, xs, hε, ho, _⟩ := h
    rw [hε] at hb
    exact (World.ownsRow.lt ho b hb).2
  | gone => exact h.elim

/-- An object stays what it is while its own block stays and nothing of it comes to be seen. -/
theorem ObOK.ext {H H' : View} {ε ε' : Env} {w w' : World} {id : Nat} {x : Ob} (h : ObOK H ε w id x) (hH : H.le H') (hε : ε.le ε') (hid : ε' id = ε id)
    (hw : ∀ b, blkOf (ε id) = some b → w'.heap[b]? = w.heap[b]?) (hn : ∀ b, blkOf (ε id) = some b → ∀ o, H' b o = H b o) : ObOK H' ε' w' id x := by
  cases x with
  | box cs =>
    obtain ⟨b, arr, T, h1, h2, h3, h4, h5⟩ := h
    have hb : blkOf (ε id) = some b := by rw [h1]; rfl
    exact ⟨b, arr, T, hid.trans h1, (hw b hb).trans h2, h3.mono hH hε, h4, fun o => (hn b hb o).trans (h5 o)⟩
  | perm e sz n =>
    obtain ⟨v, xs, h1, h2, h3, h4⟩ := h
    exact ⟨v, xs, hid.trans h1, ownsRow_heap h2 (fun g hg => hw g (by rw [h1]; exact hg)), h3, fun g hg o ho => (hn g (by rw [h1]; exact hg) o).trans (h4 g hg o ho)⟩
  | gone => exact h.elim

theorem View.lt {H : View} {w : World} (hv : ∀ b o v, H b o = some v → w.cell? ⟨b, o, none⟩ = some v) {b o : Nat} {v : Value} (h : H b o = some v) : b < w.heap.size :=
  World.block_lt_of_cell? w ⟨b, o, none⟩ (hv b o v h)

/-- Memory grows: what was there stays. -/
theorem Mem.ext {c : Ctx} {H H' : View} {ε : Env} {ob : Nat → Option Ob} {w w' : World} (hm : Mem c H ε ob w) (hH : H.le H') (hold : ∀ b o, b < w.heap.size → H' b o = H b o)
    (hview : ∀ b o v, H' b o = some v → w'.cell? ⟨b, o, none⟩ = some v) (hw : ∀ k, k < w.heap.size → w'.heap[k]? = w.heap[k]?) (hs : w.heap.size ≤ w'.heap.size)
    (ho : w'.os = w.os) (ht : w'.tape = w.tape) (hu : w'.output = w.output) : Mem c H' ε ob w' where
  view := hview
  objs := fun id x hx => (hm.objs id x hx).ext hH (Env.le_refl ε) rfl (fun b hb => hw b ((hm.objs id x hx).lt hb)) (fun b hb o => hold b o ((hm.objs id x hx).lt hb))
  dj := hm.dj
  own := hm.own
  os := ho.trans hm.os
  tape := ht.trans hm.tape
  output := hu.trans hm.output
  size := Nat.le_trans hm.size hs
  block := fun k hk hS => (hw k (Nat.lt_of_lt_of_le hk hm.size)).trans (hm.block k hk hS)
  hle := View.le_trans hm.hle hH
  hold := fun b o hb hS => (hold b o (Nat.lt_of_lt_of_le hb hm.size)).trans (hm.hold b o hb hS)
  ele := hm.ele

/-- A new object. -/
theorem Mem.add {c : Ctx} {H : View} {ε : Env} {ob : Nat → Option Ob} {w : World} (hm : Mem c H ε ob w) {id : Nat} {l : Loc} {x : Ob} (hid : ε id = none) (hx : ObOK H (updEnv ε id l) w id x)
    (hnew : ∀ b, blkOf (some l) = some b → ∀ j, ob j ≠ none → blkOf (ε j) ≠ some b) (hown : ∀ b, blkOf (some l) = some b → c.w0.heap.size ≤ b ∨ c.S b) : Mem c H (updEnv ε id l) (updOb ob id x) w := by
  have hobid : ob id = none := by
    cases hq : ob id with
    | none => rfl
    | some y =>
      have := hm.objs id y hq
      cases y with
      | box cs => obtain ⟨b, _, _, h1, _⟩ := this; rw [hid] at h1; cases h1
      | perm e sz n => obtain ⟨v, _, h1, _⟩ := this; rw [hid] at h1; cases h1
      | gone => exact this.elim
  exact { hm with
    ele := Env.le_trans hm.ele (Env.le_new hid)
    objs := fun i y hy => by
      unfold updOb at hy
      split at hy
      · rename_i hi; subst hi; cases hy; exact hx
      · rename_i hi
        exact (hm.objs i y hy).ext (View.le_refl H) (Env.le_new hid) (by simp [updEnv, hi]) (fun _ _ => rfl) (fun _ _ _ => rfl)
    dj := fun i j hi hj hij b hb => by
      unfold updOb at hi hj
      unfold updEnv at hb ⊢
      by_cases h1 : i = id
      · subst h1
        simp only [if_true] at hb
        have h2 : j ≠ i := fun e => hij e.symm
        simp only [h2, if_false] at hj ⊢
        exact hnew b hb j hj
      · simp only [h1, if_false] at hi hb
        by_cases h2 : j = id
        · subst h2
          simp only [if_true]
          intro hb'
          exact hnew b hb' i hi hb
        · simp only [h2, if_false] at hj ⊢
          exact hm.dj i j hi hj hij b hb
    own := fun i hi b hb => by
      unfold updOb at hi
      unfold updEnv at hb
      by_cases h1 : i = id
      · simp only [h1, if_true] at hb; exact hown b hb
      · simp only [h1, if_false] at hi hb; exact hm.own i hi b hb }

theorem Mem.blk_lt {c : Ctx} {H : View} {ε : Env} {ob : Nat → Option Ob} {w : World} (hm : Mem c H ε ob w) {j : Nat} (hj : ob j ≠ none) {b : Nat} (hb : blkOf (ε j) = some b) : b < w.heap.size := by
  cases hq : ob j with
  | none => exact absurd hq hj
  | some x => exact (hm.objs j x hq).lt hb

theorem cell_alloc_lt {w : World} {o : Obj} {b k : Nat} {v : Value} (h : w.cell? ⟨b, k, none⟩ = some v) : (w.alloc o).cell? ⟨b, k, none⟩ = some v := by
  rw [World.cell?_alloc_lt w o ⟨b, k, none⟩ (World.block_lt_of_cell? w ⟨b, k, none⟩ h)]; exact h

theorem heap_old (w : World) (o : Obj) (k : Nat) (h : k < w.heap.size) : (w.alloc o).heap[k]? = w.heap[k]? := Go.RowKit.Below.heap_alloc w o k h

/-- A new variable. -/
theorem Mem.newBox {c : Ctx} {H : View} {ε : Env} {ob : Nat → Option Ob} {w : World} (hm : Mem c H ε ob w) {id : Nat} (hid : ε id = none) {arr : Array Value} {cs : List AV} (T : TypeId) (hr : RL H ε arr.toList cs) (h1 : ∀ v ∈ arr.toList, v.oneCell' = true) :
    Mem c H (updEnv ε id (.blk w.heap.size)) (updOb ob id (.box cs)) (w.alloc (.cells arr T)) := by
  have hm' : Mem c H ε ob (w.alloc (.cells arr T)) := hm.ext (View.le_refl H) (fun _ _ _ => rfl) (fun b o v h => cell_alloc_lt (hm.view b o v h)) (fun k hk => heap_old w _ k hk) (by simp) rfl rfl rfl
  refine hm'.add hid ⟨w.heap.size, arr, T, by simp [updEnv], heap_alloc_new w _, hr.mono (View.le_refl H) (Env.le_new hid), h1, fun o => ?_⟩ ?_ ?_
  · cases hq : H w.heap.size o with
    | none => rfl
    | some v => exact absurd (View.lt hm.view hq) (Nat.lt_irrefl _)
  · intro b hb j hj hb'
    cases hb
    exact absurd (hm.blk_lt hj hb') (Nat.lt_irrefl _)
  · intro b hb; cases hb; exact .inl hm.size

/-- What is seen, and a new row of cells besides. -/
def View.put (H : View) (g n : Nat) (vs : List Value) : View := fun b o => if b = g ∧ o < n then vs[o]? else H b o

theorem View.le_put {H : View} {g n : Nat} {vs : List Value} (h : ∀ o v, o < n → H g o = some v → vs[o]? = some v) : H.le (H.put g n vs) := by
  intro b o v hv
  unfold View.put
  split
  · rename_i hb; obtain ⟨rfl, ho⟩ := hb; exact h o v ho hv
  · exact hv

/-- A new row that a slice owns. -/
theorem Mem.newRow {c : Ctx} {H : View} {ε : Env} {ob : Nat → Option Ob} {w : World} (hm : Mem c H ε ob w) {id : Nat} (hid : ε id = none) {vs : List Value} {es : List (List AV)} {sz n : Nat} (e : TypeId)
    (hn : n = es.length) (hs : ∀ x ∈ es, x.length = sz) (hr : DL H vs es.flatten) (h1 : ∀ v ∈ vs, v.oneCell' = true) (hsz : 0 < sz) (hlen : n ≤ maxLen) :
    ∃ H', H.le H' ∧ R H' (updEnv ε id (.row (.slice (some ⟨w.heap.size, 0, none⟩) n n) n)) (.slice (some ⟨w.heap.size, 0, none⟩) n n) (.osl id sz es) ∧
      Mem c H' (updEnv ε id (.row (.slice (some ⟨w.heap.size, 0, none⟩) n n) n)) (updOb ob id (.perm e sz n)) (w.alloc (.cells vs.toArray e)) := by
  subst hn
  have hvl : vs.length = es.length * sz := by rw [hr.length_eq, flatten_length hs]
  have hno : ∀ o, H w.heap.size o = none := fun o => by
    cases hq : H w.heap.size o with
    | none => rfl
    | some v => exact absurd (View.lt hm.view hq) (Nat.lt_irrefl _)
  have hH : H.le (H.put w.heap.size vs.length vs) := View.le_put fun o v _ h => by rw [hno] at h; cases h
  have hview : ∀ b o v, (H.put w.heap.size vs.length vs) b o = some v → (w.alloc (.cells vs.toArray e)).cell? ⟨b, o, none⟩ = some v := by
    intro b o v h
    unfold View.put at h
    split at h
    · rename_i hb; obtain ⟨rfl, ho⟩ := hb
      rw [cell_of_row _ _ _ vs.toArray e (0, 0) (heap_alloc_new w _)]
      simpa using h
    · exact cell_alloc_lt (hm.view b o v h)
  have hm' : Mem c (H.put w.heap.size vs.length vs) ε ob (w.alloc (.cells vs.toArray e)) :=
    hm.ext hH (fun b o hb => by unfold View.put; rw [if_neg (by omega)]) hview (fun k hk => heap_old w _ k hk) (by simp) rfl rfl rfl
  have hdm : DM (H.put w.heap.size vs.length vs) w.heap.size 0 es.flatten :=
    DM.of_list (hr.mono hH) (fun j u hj => by
      have : j < vs.length := (List.getElem?_eq_some_iff.1 hj).1
      simp only [View.put, Nat.zero_add, this, and_self, if_true]; exact hj) h1
  have hD : D (H.put w.heap.size vs.length vs) (.slice (some ⟨w.heap.size, 0, none⟩) es.length es.length) (.sl sz es) := .sl _ _ _ _ _ (Nat.le_refl _) hs hdm
  refine ⟨_, hH, .osl _ _ _ _ _ _ hD (updEnv_same _ _ _) (Nat.le_refl _) (fun _ => rfl), hm'.add hid ⟨_, vs, updEnv_same _ _ _, ?_, hsz, ?_⟩ ?_ ?_⟩
  · exact ⟨hvl, .inr ⟨w.heap.size, es.length, vs.toArray, rfl, Nat.zero_le _, heap_alloc_new w _, Nat.le_refl _, hlen, by simp [hvl], by simp [List.take_of_length_le, hvl]⟩⟩
  · intro g hg o ho
    simp [Value.ownBlock] at hg
    subst hg
    unfold View.put
    rw [if_neg (by omega)]
    exact hno o
  · intro b hb j hj hb'
    simp [blkOf, Value.ownBlock] at hb
    subst hb
    exact absurd (hm.blk_lt hj hb') (Nat.lt_irrefl _)
  · intro b hb; simp [blkOf, Value.ownBlock] at hb; subst hb; exact .inl hm.size

section
variable {P : Program} {nb : Nat} {t : TypeId} {σ : St}

theorem fresh_here {ε : Env} (hf : Fresh ε nb) : ε nb = none := hf nb (Nat.le_refl _) (by omega)
theorem keep_new {ε : Env} {l : Loc} : ∀ id, ε id = none → ¬ (nb ≤ id ∧ id < nb + 16) → updEnv ε nb l id = none := by
  intro id h hn
  unfold updEnv
  split
  · rename_i he; subst he; exact absurd ⟨Nat.le_refl _, by omega⟩ hn
  · exact h

theorem opS_alloc (t' : TypeId) (T : TY) (hT : ty P t' = some T) (h1 : T.zero.all (·.oneCell') = true) : OpS P nb (.alloc t') t σ (.ptr nb 0) (updOb σ.ob nb (.box (T.zero.map .s))) :=
  .run fun c H ε ρ w o ho _ hm hr hf => by
    obtain ⟨inf, d, z, hi, hd, hz, _, _, _, hzs, _⟩ := ty_inv hT
    refine ⟨.pointer (some ⟨w.heap.size, 0, none⟩), w.alloc (.cells z.cells t'), H, updEnv ε nb (.blk w.heap.size), ?_, View.le_refl H, Env.le_new (fresh_here hf), keep_new, .ptr _ _ _ (by simp [updEnv]), ?_⟩
    · simp [execOp, ho, Instr.alloc, run_zeroValue' hi hz, newVar, newRow]
    · refine hm.newBox (fresh_here hf) t' ?_ ?_
      · rw [hzs] at h1 ⊢; exact .of_DL (DL_consts H _ h1)
      · rw [hzs] at h1; exact fun v hv => List.all_eq_true.1 h1 v hv

theorem opS_box (t' : TypeId) (x : Operand) (h1 : (σ.ev x).one = true ∨ ∃ cs, σ.ev x = .agg cs) (h2 : (σ.ev x).cells.all AV.one = true) : OpS P nb (.box t' x) t σ (.ptr nb 0) (updOb σ.ob nb (.box (σ.ev x).cells)) :=
  .run fun c H ε ρ w o ho _ hm hr hf => by
    have hc := (hr x).cells h1
    refine ⟨.pointer (some ⟨w.heap.size, 0, none⟩), w.alloc (.cells (ρ x).cells t'), H, updEnv ε nb (.blk w.heap.size), ?_, View.le_refl H, Env.le_new (fresh_here hf), keep_new, .ptr _ _ _ (by simp [updEnv]), ?_⟩
    · simp [execOp, ho, Instr.box, newVar, newRow]
    · exact hm.newBox (fresh_here hf) t' hc (hc.one (by simpa using h2))
end
end Go.Sy

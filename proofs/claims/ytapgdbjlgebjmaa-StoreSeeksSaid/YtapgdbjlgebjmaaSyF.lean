/- The symbolic layer, sixth part: append, literals of slices and structs, parts of slices and strings. No condition. -/
import Derived.Test.YtapgdbjlgebjmaaSyE
set_option linter.unusedVariables false
namespace Go.Sy

theorem DL.append {H : View} : ∀ {vs vs' : List Value} {cs cs' : List AV}, DL H vs cs → DL H vs' cs' → DL H (vs ++ vs') (cs ++ cs')
  | [], _, cs, _, h, h' => by cases h; simpa using h'
  | v :: vs, _, cs, _, h, h' => by cases h with | cons _ c _ cs h t => exact .cons _ _ _ _ h (DL.append t h')

/-- Nothing is appended. -/
theorem run_append_zero {P : Program} (w : World) (t ty' e : TypeId) (i : TypeInfo) (ht : P.underlying t = some (.slice e)) (hi : P.info? e = some i) (base : Option Addr) (n cap : Nat) (hc : n ≤ cap) (x : Value)
    (hx : x = .slice none 0 0 ∨ ∃ b c, x = .slice (some b) 0 c) : (Builtin.append_ #[t, t] ty' #[.slice base n cap, x]).run P w = .ok (.slice base n cap) w := by
  have hf : (Builtin.firstCells i.size 0 x).run P w = .ok #[] w := by
    rcases hx with rfl | ⟨b, c, rfl⟩
    · simp [Builtin.firstCells]
    · simp [Builtin.firstCells, loadCells, loadCellsFrom]
  have hl : (Builtin.lenOf x).run P w = .ok 0 w := by rcases hx with rfl | ⟨b, c, rfl⟩ <;> simp [Builtin.lenOf]
  cases base with
  | none => simp [Builtin.append_, run_underlying' ht, run_sizeOf' hi, hl, hc, hf]
  | some a => simp [Builtin.append_, run_underlying' ht, run_sizeOf' hi, hl, hc, hf, storeCells]

theorem ownsRow_slice {w : World} {base : Nat} {e : TypeId} {size : Nat} {v : Value} {n : Nat} {xs : List Value} (h : w.ownsRow base e size v n xs) : ∃ b cap, v = .slice b n cap ∧ n ≤ cap := by
  rcases h.2 with ⟨rfl, rfl⟩ | ⟨g, cap, cur, rfl, _, _, hc, _⟩
  · exact ⟨none, 0, rfl, Nat.le_refl _⟩
  · exact ⟨some ⟨g, 0, none⟩, cap, rfl, hc⟩

theorem Env.le.trans' {ε ε' ε'' : Env} (h : ε.le ε') (h' : ε'.le ε'') : ε.le ε'' := Env.le_trans h h'

theorem updOb_same {ob : Nat → Option Ob} {id : Nat} {x : Ob} (h : ob id = some x) : updOb ob id x = ob := by
  funext i; unfold updOb; split
  · rename_i hi; rw [hi, h]
  · rfl

/-- The values of an owned row's cells are those that its slice reads. -/
theorem row_values {H : View} {w : World} {e : TypeId} {sz : Nat} {v : Value} {es : List (List AV)} {xs : List Value} (hview : ∀ b o v, H b o = some v → w.cell? ⟨b, o, none⟩ = some v) (hown : w.ownsRow 0 e sz v es.length xs)
    (hd : D H v (.sl sz es)) (hs : ∀ x ∈ es, x.length = sz) : DL H xs es.flatten ∧ ∀ u ∈ xs, u.oneCell' = true := by
  have hxl : xs.length = es.length * sz := hown.1
  rcases hd.slice with ⟨_, rfl⟩ | ⟨_, _, _, rfl⟩ | ⟨b, off, cap, hv, hc, _, hm⟩
  · have : xs = [] := List.eq_nil_of_length_eq_zero (by simpa using hxl)
    subst this; exact ⟨.nil, by simp⟩
  · have : xs = [] := List.eq_nil_of_length_eq_zero (by simpa using hxl)
    subst this; exact ⟨.nil, by simp⟩
  · rcases hown.2 with ⟨hv', _⟩ | ⟨g, cap', cur, hv', _, _⟩
    · rw [hv] at hv'; cases hv'
    · rw [hv] at hv'
      cases hv'
      obtain ⟨vs, hl, hcell, hdl, h1⟩ := hm.to_list
      have hcs := World.ownsRow.cells hown (g := b) (by rw [hv]; rfl)
      have : xs = vs := by
        apply List.ext_getElem?
        intro j
        have hle : vs.length = es.length * sz := by rw [hl, flatten_length hs]
        rcases Nat.lt_or_ge j xs.length with hj | hj
        · have h2 := hcs j xs[j] (by simp [hj])
          have hj' : j < vs.length := by omega
          have h3 := hview _ _ _ (hcell j vs[j] (by simp [hj']))
          rw [add_eq] at h2
          rw [h2] at h3
          simp [hj, hj', Option.some.inj h3]
        · rw [List.getElem?_eq_none hj, List.getElem?_eq_none (by omega)]
      subst this; exact ⟨hdl, h1⟩

section
variable {P : Program} {nb : Nat} {t : TypeId} {σ : St}

theorem run_append_call {o : Oper} {ρ : Operand → Value} {w w' : World} {s x : Operand} {t' : TypeId} {v' : Value} (ho : o.op = .call { callee := .builtin .append, args := #[s, x], argTypes := #[t', t'] })
    (h : (Builtin.append_ #[t', t'] o.type #[ρ s, ρ x]).run P w = .ok v' w') : (execOp ρ o).run P w = .ok (.value v') w' := by
  simp only [execOp, ho, resolve, invoke, builtin, Sem.run_bind, Sem.run_pure, Result.andThen_ok, List.map_toArray, List.map_cons, List.map_nil, h]

/-- Rows of the right width. -/
def rowsOK (sz : Nat) (a : AV) : Option (List (List AV)) :=
  match a with
  | .sl sz' es | .osl _ sz' es => if sz' = sz then some es else none
  | .s (.slice none 0 0) => some []
  | .s (.slice (some _) 0 _) => some []
  | _ => none

theorem rowsOK_D {H : View} {ε : Env} {v : Value} {a : AV} {sz : Nat} {es : List (List AV)} (h : R H ε v a) (ha : rowsOK sz a = some es) : D H v (.sl sz es) := by
  unfold rowsOK at ha
  split at ha
  · split at ha
    · rename_i hz; cases ha; subst hz; exact h.sl_inv
    · cases ha
  · split at ha
    · rename_i hz; cases ha; subst hz; exact h.osl_inv.1
    · cases ha
  · cases ha; rw [h.s_inv.1]; exact .nil sz
  · cases ha; rw [h.s_inv.1]; exact .emp _ _ sz
  · cases ha

/-- The state of memory behind an append. -/
theorem append_mem {c : Ctx} {H : View} {ε : Env} {ob : Nat → Option Ob} {w : World} (hm : Mem c H ε ob w) {t' : TypeId} {T U : TY} {e : TypeId} {p : Nat} {es fs : List (List AV)} {v x : Value}
    (hT : ty P t' = some T) (hk : T.kd = .slice e) (hU : ty P e = some U) (hzl : U.zero.length = U.n) (hp : ob p = some (.perm e U.n es.length)) (hR : R H ε v (.osl p U.n es)) (hD : D H x (.sl U.n fs))
    (h63 : es.length + fs.length ≤ 9223372036854775807) (hb : (es.length + fs.length) * U.bytes ≤ 140737488355328) (ty' : TypeId) :
    ∃ v' w' H' ε', (Builtin.append_ #[t', t'] ty' #[v, x]).run P w = .ok v' w' ∧ H.le H' ∧ ε.le ε' ∧ (∀ id, ε id = none → ε' id = none) ∧ R H' ε' v' (.osl p U.n (es ++ fs)) ∧
      Mem c H' ε' (updOb ob p (.perm e U.n (es.length + fs.length))) w' := by
  obtain ⟨inf, d, z, hi, hd, hz, _, _, hkd, _⟩ := ty_inv hT
  obtain ⟨inf2, d2, z2, hi2, hd2, hz2, hn2, hb2, _, hzs2, _⟩ := ty_inv hU
  rw [hkd] at hk
  cases d <;> simp [kdOf] at hk
  subst hk
  obtain ⟨hDv, v0, n, hε, hle, he⟩ := hR.osl_inv
  obtain ⟨vp, xs, hε', hown, hsz, hHn⟩ := hm.objs p _ hp
  rw [hε] at hε'
  cases hε'
  have hve := he rfl
  subst hve
  obtain ⟨base, cap, hvs, hcap⟩ := ownsRow_slice hown
  by_cases hf : fs = []
  · subst hf
    refine ⟨v, w, H, ε, ?_, View.le_refl H, Env.le_refl ε, fun _ h => h, by simpa using hR, by rw [List.length_nil, Nat.add_zero, updOb_same hp]; exact hm⟩
    rw [hvs]
    refine run_append_zero w _ ty' _ inf2 hd hi2 base _ cap hcap x ?_
    rcases hD.slice with ⟨h, _⟩ | ⟨a, cap2, h, _⟩ | ⟨b, off, cap', h, _⟩
    · exact .inl h
    · exact .inr ⟨_, _, h⟩
    · exact .inr ⟨_, _, h⟩
  · rcases hD.slice with ⟨_, h⟩ | ⟨_, _, _, h⟩ | ⟨b, off, cap', hx, hc', hs', hmem⟩
    · exact absurd h hf
    · exact absurd h hf
    · have hs : ∀ y ∈ es, y.length = U.n := by
        rcases hDv.slice with ⟨_, h⟩ | ⟨_, _, _, h⟩ | ⟨_, _, _, _, _, h, _⟩
        · subst h; simp
        · subst h; simp
        · exact h
      obtain ⟨hdx, hx1⟩ := row_values hm.view hown hDv hs
      obtain ⟨news, hnl, hncell, hnd, hn1⟩ := hmem.to_list
      have hnl' : news.length = fs.length * inf2.size := by rw [hnl, flatten_length hs', hn2]
      have hfp : 0 < fs.length := List.length_pos_iff.2 hf
      rw [hn2] at hown hsz
      have hzs : z2.cells.size = inf2.size := by
        have : z2.cells.toList.length = inf2.size := by rw [← hzs2, hzl, hn2]
        simpa using this
      obtain ⟨v', w', hrun, hown', hgr, hkeep, hblk⟩ := append_cases (P := P) w t' ty' _ inf2 z2 hd hi2 hz2 hzs v es.length xs hown ⟨b, off, none⟩ fs.length cap' hfp news hnl'
        (fun j u hj => by rw [add_eq]; exact hm.view _ _ _ (hncell j u hj)) hn1 (by unfold maxLen; omega) (by rw [hb2] at hb; exact hb)
      have hflat : (es ++ fs).flatten = es.flatten ++ fs.flatten := List.flatten_append
      rw [hn2] at hHn hs hs'
      rw [hn2] at hp
      obtain ⟨H', q1, q2, q3, q4⟩ := hm.growRow (es' := es ++ fs) hp hε hsz (by omega) hHn hown' hgr hkeep hblk (by rw [hflat]; exact DL.append hdx hnd) (by
        intro y hy
        rcases List.mem_append.1 hy with h | h
        · exact hs y h
        · exact hs' y h) (by simp) (by
        intro u hu
        rcases List.mem_append.1 hu with h | h
        · exact hx1 u h
        · exact hn1 u h)
      refine ⟨v', w', H', _, ?_, q1, q2, ?_, by rw [hn2]; exact q3, by rw [hn2]; exact q4⟩
      · rw [hx]; exact hrun
      · intro id hid
        unfold updEnv
        split
        · rename_i h; subst h; rw [hε] at hid; cases hid
        · exact hid

theorem opS_append (s x : Operand) (t' : TypeId) (T U : TY) (e : TypeId) (p : Nat) (es fs : List (List AV)) (hT : ty P t' = some T) (hk : T.kd = .slice e) (hU : ty P e = some U) (hzl : U.zero.length = U.n)
    (hs : σ.ev s = .osl p U.n es) (hp : σ.ob p = some (.perm e U.n es.length)) (hx : rowsOK U.n (σ.ev x) = some fs) (h63 : es.length + fs.length ≤ 9223372036854775807) (hb : (es.length + fs.length) * U.bytes ≤ 140737488355328) :
    OpS P nb (.call { callee := .builtin .append, args := #[s, x], argTypes := #[t', t'] }) t σ (.osl p U.n (es ++ fs)) (updOb σ.ob p (.perm e U.n (es.length + fs.length))) :=
  .run fun c H ε ρ w o ho ht hm hr hf => by
    have h1 := hr s; rw [hs] at h1
    obtain ⟨v', w', H', ε', q1, q2, q3, q4, q5, q6⟩ := append_mem hm hT hk hU hzl hp h1 (rowsOK_D (hr x) hx) h63 hb o.type
    exact ⟨v', w', H', ε', run_append_call ho q1, q2, q3, fun id h _ => q4 id h, q5, q6⟩

/-- An append to nil. -/
theorem opS_append_nil (s x : Operand) (t' : TypeId) (T U : TY) (e : TypeId) (fs : List (List AV)) (hT : ty P t' = some T) (hk : T.kd = .slice e) (hU : ty P e = some U) (hn0 : 0 < U.n) (hzl : U.zero.length = U.n)
    (hs : σ.ev s = .s (.slice none 0 0)) (hx : rowsOK U.n (σ.ev x) = some fs) (h63 : fs.length ≤ 9223372036854775807) (hb : fs.length * U.bytes ≤ 140737488355328) :
    OpS P nb (.call { callee := .builtin .append, args := #[s, x], argTypes := #[t', t'] }) t σ (.osl nb U.n fs) (updOb σ.ob nb (.perm e U.n fs.length)) :=
  .run fun c H ε ρ w o ho ht hm hr hf => by
    have h1 := hr s; rw [hs] at h1
    have hnew : Mem c H (updEnv ε nb (.row (.slice none 0 0) 0)) (updOb σ.ob nb (.perm e U.n 0)) w :=
      hm.add (fresh_here hf) ⟨.slice none 0 0, [], updEnv_same _ _ _, World.ownsRow_nil w 0 e U.n, hn0, fun g hg => by cases hg⟩ (fun b hb => by cases hb) (fun b hb => by cases hb)
    have hR : R H (updEnv ε nb (.row (.slice none 0 0) 0)) (ρ s) (.osl nb U.n []) := .osl _ _ _ _ _ 0 (by rw [h1.s_inv.1]; exact .nil _) (updEnv_same _ _ _) (Nat.le_refl _) (fun _ => h1.s_inv.1)
    obtain ⟨v', w', H', ε', q1, q2, q3, q4, q5, q6⟩ := append_mem hnew hT hk hU hzl (es := []) (by simp [updOb]) hR (rowsOK_D (hr x) hx) (by simpa using h63) (by simpa using hb) o.type
    refine ⟨v', w', H', ε', run_append_call ho q1, q2, (Env.le_new (fresh_here hf)).trans' q3, fun id h hn => q4 id (keep_new id h hn), by simpa using q5, ?_⟩
    have he : updOb (updOb σ.ob nb (.perm e U.n 0)) nb (.perm e U.n (([] : List (List AV)).length + fs.length)) = updOb σ.ob nb (.perm e U.n fs.length) := by
      funext i; unfold updOb; split <;> simp
    rw [← he]; exact q6
end
end Go.Sy

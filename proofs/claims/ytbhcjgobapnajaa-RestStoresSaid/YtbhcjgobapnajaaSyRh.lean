/- The symbolic layer: a function that ranges over a function. No condition. -/
import Derived.Test.YtbhcjgobapnajaaSy3
set_option linter.unusedVariables false
namespace Go.Sy
theorem Mem.dropRaw {c : Ctx} {H : View} {ε : Env} {ob : Nat → Option Ob} {w : World} (hm : Mem c H ε ob w) {id b : Nat} {q : RawO} {cs : List AV} (x : Obj) (hid : ob id = some (.raw b q cs)) :
    Mem c H ε (wo ob id .gone) (w.putObj b x) := by
  obtain ⟨vs, d, hε, hh, hr, hnone⟩ := hm.objs id _ hid
  have hne : ob id ≠ none := by rw [hid]; simp
  have hbk : blkOf (ε id) = some b := by rw [hε]; rfl
  have hg : ∀ i, wo ob id .gone i = if i = id then none else ob i := fun i => by simp [wo, beq_dec, Bool.cond_decide, Ob.opt]
  have hup : ∀ i, wo ob id .gone i ≠ none → i ≠ id ∧ ob i ≠ none := fun i hi => by
    rw [hg] at hi; split at hi
    · exact absurd rfl hi
    · rename_i h; exact ⟨h, hi⟩
  exact {
    view := fun b' o v h => by
      have hb : b' ≠ b := fun e => by subst e; rw [hnone o] at h; cases h
      rw [cell_other hb]; exact hm.view b' o v h
    objs := fun i y hy => by
      rw [hg] at hy
      split at hy
      · cases hy
      · rename_i hi
        refine (hm.objs i y hy).ext (View.le_refl H) (Env.le_refl ε) rfl (fun b' hb' => World.putObj_heap_other ?_) (fun _ _ _ => rfl)
        intro e; subst e
        exact hm.dj i id (by rw [hy]; simp) hne hi b' hb' hbk
    dj := fun i j hi hj => hm.dj i j (hup i hi).2 (hup j hj).2
    own := fun i hi => hm.own i (hup i hi).2
    os := hm.os
    tape := hm.tape
    output := hm.output
    size := by rw [World.putObj_size]; exact hm.size
    block := fun k hk hS hz => by
      rw [World.putObj_heap_other]
      · exact hm.block k hk hS hz
      · intro e; subst e
        rcases hm.own id hne k hbk with h | h
        · omega
        · exact hS h.1
    hle := hm.hle
    hold := hm.hold
    ele := hm.ele
    low := hm.low
    top := hm.top
    lo := by rw [World.putObj_size]; exact hm.lo
    fz := fun b' o v h hz => by
      have hb : b' ≠ b := fun e => by subst e; rw [hnone o] at h; cases h
      rw [frozen_same (World.putObj_heap_other hb)]; exact hm.fz b' o v h hz
    wr := hm.wr_keep (View.le_refl H) (fun _ _ _ h => h) (fun b' o h => World.putObj_heap_other fun e => (hm.wr b' o h).2.2 id hne (by rw [hbk, e])) (fun b' o h i hi' => (hm.wr b' o h).2.2 i (hup i hi').2) }
theorem resL_gone {P : Program} {σ : St} {id b : Nat} {q : RawO} {cs : List AV} (hid : σ.ob id = some (.raw b q cs)) : ∀ {rs : List ResultVar} {l : List AV}, resL P σ rs = some l → resL P ⟨σ.tm, wo σ.ob id .gone, σ.nx⟩ rs = some l := by
  have h1 : ∀ (r : ResultVar) (a : AV), resAV P σ r = some a → resAV P ⟨σ.tm, wo σ.ob id .gone, σ.nx⟩ r = some a := by
    intro r a h
    cases r with
    | tmp t => exact h
    | cell s t =>
      simp only [resAV] at h ⊢
      cases hT : ty P t with
      | none => rw [hT] at h; cases h
      | some U =>
        rw [hT] at h
        cases hb : σ.tm s <;> rw [hb] at h <;> simp only at h ⊢ <;> try cases h
        rename_i i off
        by_cases hi : i = id
        · subst hi; rw [hid] at h; cases h
        · have e : wo σ.ob id .gone i = σ.ob i := by simp [wo, beq_dec, hi]
          rw [e]; exact h
  intro rs
  induction rs with
  | nil => intro l h; exact h
  | cons r rs ih =>
    intro l h
    simp only [resL] at h ⊢
    split at h
    · rename_i a m ha hm; rw [h1 r a ha, ih hm]; exact h
    · cases h
theorem pspec_marks {P : Program} {f : FuncId} {fn : Func} {code : Code} {args : List AV} {r : AV} {N : Nat} (hf : P.funcs[f]? = some fn) (hb : fn.body = some code) (hN : fn.ntmps = N) {rs : Array ResultVar} (hrs : fn.results = rs) (hn : args.length ≤ N) (hpu : Pu r)
    (h : ∀ (c : Ctx) (H : View) (ε : Env) (a : Act) (w : World), c.ro = none → c.N = N → c.D = [] → Inv c H ε ⟨slots args, fun _ => none, 0⟩ a w → ∀ Q : Exit → Act → World → Prop,
      (∀ D id H' ε' σ' a' w', Inv { c with D := markD D :: c.D } H' ε' σ' a' w' → σ'.ob id = some (.raw D .df []) → Out (retK P rs.toList r) .ret σ' → Q .ret a' w') → code.wpIn (wf c.ro) 0 P Q a w) : PSpec P f args r := by
  subst hrs
  intro w H vs hok hD
  have hview := hok.view
  let c : Ctx := { N := N, w0 := w, H0 := H, E0 := fun _ => none, S := fun _ => False }
  refine (callsIn_wide (n := 0)).1 (callsIn_of_wp_marks hf hb trivial ?_)
  have hlen : vs.length = args.length := hD.length_eq
  have hinv : Inv c H (fun _ => none) ⟨slots args, fun _ => none, 0⟩ { tmps := vs.toArray ++ Array.replicate (fn.ntmps - vs.toArray.size) undef, defers := [] } w := by
    refine ⟨by simp [c, hN, hlen]; omega, rfl, fun i => ?_, ?_, fun _ _ => rfl⟩
    · have := R_start (ε := fun _ => none) (RL.of_DL hD) i
      have e : (vs.toArray ++ Array.replicate (fn.ntmps - vs.toArray.size) undef).getD i undef = vs.getD i undef := by
        rw [Array.getD_eq_getD_getElem?, Array.getElem?_append]
        simp only [List.size_toArray, List.getElem?_toArray, List.getD_eq_getElem?_getD]
        split
        · rfl
        · rename_i hi
          rw [List.getElem?_eq_none (by omega), Array.getElem?_replicate]
          split <;> rfl
      rw [e]; rw [slots_get] at this; exact this
    · exact { view := hview, objs := fun id x hx => (by cases hx), dj := fun i j hi => absurd rfl hi, own := fun i hi => absurd rfl hi, os := rfl, tape := rfl, output := rfl, size := Nat.le_refl _, block := fun _ _ _ _ => rfl, hle := View.le_refl H, hold := fun _ _ _ _ _ => rfl, ele := Env.le_refl _, low := fun _ _ => rfl, top := fun b o hb => View.unseen hview hb, lo := hok.lo, fz := fun b o v h hz => by { rcases hz with hz | hz | hz; { exact absurd (View.lt hview h) (Nat.not_lt.2 hz) }; { exact hz.elim }; { exact hok.fz b o v h hz } }, wr := fun b o h => ⟨(hok.wr b o h).1, (hok.wr b o h).2, fun i hi => absurd rfl hi⟩ }
  refine h c H _ _ w rfl rfl rfl hinv _ ?_
  intro D id H' ε' σ0 a' w0 hi0 hid hout
  obtain ⟨vt, d, hε, hh, _, _⟩ := hi0.mem.objs id _ hid
  have hdf : a'.defers = [markD D] := hi0.df
  show LeavesInM _ _ _ _ _ _ a'.defers _ _
  rw [hdf]
  refine ⟨by simp, .inl ⟨D, _, rfl, run_takeDeferred hh, ?_⟩⟩
  have hm1 := hi0.mem.dropRaw (.deferred none) hid
  generalize hw' : w0.putObj D (.deferred none) = w' at hm1
  show ∃ v, (results fn a'.tmps).run P w' = .ok v w' ∧ _
  have hi : Inv { c with D := markD D :: c.D } H' ε' ⟨σ0.tm, wo σ0.ob id .gone, σ0.nx⟩ a' w' := ⟨hi0.sz, hi0.df, hi0.tm, ⟨hm1.view, hm1.objs, hm1.dj, hm1.own, hm1.os, hm1.tape, hm1.output, hm1.size, hm1.block, hm1.hle, hm1.hold, hm1.ele, hm1.low, hm1.top, hm1.lo, hm1.fz, hm1.wr⟩, hi0.dom⟩
  have hr : retVC P fn.results.toList ⟨σ0.tm, wo σ0.ob id .gone, σ0.nx⟩ r := by
    have hr : retVC P fn.results.toList σ0 r := hout
    unfold retVC at hr ⊢
    cases hl : resL P σ0 fn.results.toList with
    | none => rw [hl] at hr; exact hr.elim
    | some l => rw [resL_gone hid hl]; rw [hl] at hr; exact hr
  unfold retVC at hr
  have hrest : H.le H' ∧ (H'.ok w' ∧ ∀ b o v, H' b o = some v → w.heap.size ≤ b → w'.frozen? ⟨b, o, none⟩ = false) ∧ (∀ b o, b < w.heap.size → ¬ H.wb b → H' b o = H b o) ∧ BelowW H.wb w w' :=
    ⟨hi.mem.hle, ⟨hi.mem.ok, fun b o v h hz => hi.mem.fz b o v h (.inl hz)⟩, fun b o hb' hz => hi.mem.hold b o hb' (fun h => h) (fun h => hz (hi.mem.hle.wb.1 h)), ⟨hi.mem.os, hi.mem.tape, hi.mem.output, hi.mem.size, fun k hk hz => hi.mem.block k hk (fun h => h) (fun h => hz (hi.mem.hle.wb.1 h))⟩⟩
  split at hr
  · rename_i b hb'
    obtain ⟨vs', h1, h2⟩ := res_run hi hb'
    cases h2 with
    | cons v _ vs'' _ h3 h4 =>
      cases h4
      exact ⟨v, by rw [results_eq]; simp only [Sem.run_bind, h1, Result.andThen_ok, Sem.run_pure], v, H', rfl, (R.le hr h3).pu hpu, hrest⟩
  · rename_i l hne hb'
    obtain ⟨vs', h1, h2⟩ := res_run hi hb'
    refine ⟨.tuple vs'.toArray, ?_, _, H', rfl, (R.le hr (.tup _ _ h2)).pu hpu, hrest⟩
    rw [results_eq]
    simp only [Sem.run_bind, h1, Result.andThen_ok, Sem.run_pure]
    match vs', h2 with
    | [], _ => rfl
    | [v], h2 =>
      cases h2 with
      | cons _ b _ _ _ h4 => cases h4; exact absurd rfl (hne b)
    | _ :: _ :: _, _ => rfl
  · exact hr.elim

theorem v_yspec {P : Program} {l : Nat} {k : LpS} {tms args : List AV} {obs obs' : List Ob} {r : AV} (p N m : Nat) {ps : Array Tmp} {code : Code} (h1 : k.ps = ps) (h2 : k.assign = code) (hp : obs[p]? = some (.raw l (.lp .ready none k) tms)) (hN : tms.length = N) (hm : obs.length = m) (hps : ps.size = args.length) (hlt : ∀ q ∈ ps.toList, q < N)
    (h : Later P N code (AssK P N l k p tms m r obs') ⟨roundTm tms ps.toList args, obF obs, m⟩) : YSpec P l args obs r obs' := by
  subst h1; subst h2; subst hm
  exact yspec_of_tri hp hN hps hlt h
theorem ass_next {P : Program} {N l : Nat} {k : LpS} {p : Nat} {tms : List AV} {m : Nat} {r : AV} {obs' : List Ob} {code : Code} {tm : Nat → AV} {ob : Nat → Option Ob} {nx : Nat} (h1 : ob p = some (.raw l (.lp .ready none k) tms)) (h2 : k.body = code)
    (h : Later P N code (RouK l k p tms m r obs') ⟨tm, wo ob p (.raw l (.lp .busy none k) tms), nx⟩) : Out (AssK P N l k p tms m r obs') .normal ⟨tm, ob, nx⟩ := by
  subst h2; exact ⟨rfl, h1, h⟩
theorem rou_next {l : Nat} {k : LpS} {p : Nat} {tms : List AV} {m : Nat} {obs' : List Ob} {tm : Nat → AV} {ob : Nat → Option Ob} {nx : Nat} (h1 : ob p = some (.raw l (.lp .busy none k) tms)) (h2 : m = obs'.length) (h3 : obsRet ⟨tm, wo ob p (.raw l (.lp .ready none k) tms), nx⟩ (backN m []) obs' 0) (h4 : ltO obs'.length obs') :
    Out (RouK l k p tms m (.s (.bool true)) obs') .normal ⟨tm, ob, nx⟩ := ⟨rfl, h1, h2, h3, h4⟩
theorem rou_ret {l : Nat} {k : LpS} {p : Nat} {tms : List AV} {m : Nat} {obs' : List Ob} {tm : Nat → AV} {ob : Nat → Option Ob} {nx : Nat} (h1 : ob p = some (.raw l (.lp .busy none k) tms)) (h2 : m = obs'.length) (h3 : obsRet ⟨tm, wo ob p (.raw l (.lp .done (some .ret) k) tms), nx⟩ (backN m []) obs' 0) (h4 : ltO obs'.length obs') :
    Out (RouK l k p tms m (.s (.bool false)) obs') .ret ⟨tm, ob, nx⟩ := ⟨rfl, h1, h2, h3, h4⟩

def PreK (P : Program) (N : Nat) (y : Code) (K : Exit → St → Prop) : Exit → St → Prop := fun e σ => e = .normal ∧ Tri P N y σ K
def seqs : List Code → Code → Code
  | [], X => X
  | x :: l, X => .seq x (seqs l X)
def preK (P : Program) (N : Nat) : List Code → (Exit → St → Prop) → Exit → St → Prop
  | [], K => K
  | y :: l, K => PreK P N y (preK P N l K)
def IsK (G : St → Prop) : Exit → St → Prop := fun e σ => e = .normal ∧ G σ
theorem pre_use {P : Program} {N : Nat} {Q : Exit → Act → World → Prop} {X : Code} (G : St → Prop) {c : Ctx} (hc : c.N = N) (hX : ∀ σ' H' ε' a' w', G σ' → Inv c H' ε' σ' a' w' → X.wpIn (wf c.ro) 0 P Q a' w') :
    ∀ (l : List Code) (x : Code) {σ : St} {H : View} {ε : Env} {a : Act} {w : World}, Later P N x (preK P N l (IsK G)) σ → Inv c H ε σ a w → (Code.seq x (seqs l X)).wpIn (wf c.ro) 0 P Q a w
  | [], x, σ, H, ε, a, w, h, hi => wpIn_seq (h c H ε a w hc hi _ fun e σ' H' ε' a' w' hK hi' => by
      obtain ⟨rfl, hG⟩ := hK
      exact hX σ' H' ε' a' w' hG hi')
  | y :: l, x, σ, H, ε, a, w, h, hi => wpIn_seq (h c H ε a w hc hi _ fun e σ' H' ε' a' w' hK hi' => by
      obtain ⟨rfl, hT⟩ := hK
      exact pre_use G hc hX l y hT hi')
theorem pre_next {P : Program} {N : Nat} {y : Code} {l : List Code} {K : Exit → St → Prop} {σ : St} (h : Later P N y (preK P N l K) σ) : Out (preK P N (y :: l) K) .normal σ := ⟨rfl, h⟩
theorem pre_last {P : Program} {N : Nat} {G : St → Prop} {σ : St} (h : G σ) : Out (preK P N [] (IsK G)) .normal σ := ⟨rfl, h⟩
theorem tri_useIn {P : Program} {N : Nat} {code : Code} {σ : St} (K : Exit → St → Prop) {c : Ctx} {H : View} {ε : Env} {a : Act} {w : World} {Q : Exit → Act → World → Prop} (h : Later P N code K σ) (hc : c.N = N) (hi : Inv c H ε σ a w)
    (hQ : ∀ e σ' H' ε' a' w', K e σ' → Inv c H' ε' σ' a' w' → Q e a' w') : code.wpIn (wf c.ro) 0 P Q a w := h c H ε a w hc hi Q hQ
def MarkK (id D : Nat) (K : Exit → St → Prop) : Exit → St → Prop := fun e σ => e = .ret ∧ K e σ ∧ σ.ob id = some (.raw D .df [])
theorem ret_mark {id D : Nat} {K : Exit → St → Prop} {σ : St} (h1 : Out K .ret σ) (h2 : σ.ob id = some (.raw D .df [])) : Out (MarkK id D K) .ret σ := ⟨rfl, h1, h2⟩
end Go.Sy

/- The symbolic layer, nineteenth part: a nil slice in a slot or in a box may be taken for a row of its own; the rules in the walk's form. No condition. -/
import Derived.Test.YtlehonipilpfdaaSyR
set_option linter.unusedVariables false
namespace Go.Sy

theorem Mem.reread {c : Ctx} {H : View} {ε : Env} {ob : Nat → Option Ob} {w : World} {b : Nat} {x y : Ob} (hm : Mem c H ε ob w) (hb : ob b = some x) (hok : ObOK H ε w b y) : Mem c H ε (updOb ob b y) w := by
  have hne : ∀ i, updOb ob b y i ≠ none → ob i ≠ none := fun i hi => by
    unfold updOb at hi
    by_cases h : i = b
    · subst h; rw [hb]; simp
    · rwa [if_neg h] at hi
  refine ⟨hm.view, fun id z hz => ?_, fun i j hi hj => hm.dj i j (hne i hi) (hne j hj), fun id hid => hm.own id (hne id hid), hm.os, hm.tape, hm.output, hm.size, hm.block, hm.hle, hm.hold, hm.ele, hm.low, hm.top⟩
  unfold updOb at hz
  by_cases h : id = b
  · subst h; rw [if_pos rfl] at hz; cases hz; exact hok
  · rw [if_neg h] at hz; exact hm.objs id z hz

theorem RL.set {H : View} {ε : Env} : ∀ {vs : List Value} {cs : List AV} {j : Nat} {a : AV}, RL H ε vs cs → (∀ v, vs[j]? = some v → R H ε v a) → RL H ε vs (cs.set j a)
  | _, _, _, _, .nil, _ => .nil
  | _, _, 0, _, .cons v c vs cs h t, hv => .cons _ _ _ _ (hv v rfl) t
  | _, _, j + 1, _, .cons v c vs cs h t, hv => .cons _ _ _ _ h (RL.set t fun u hu => hv u (by simpa using hu))
theorem RL.at {H : View} {ε : Env} : ∀ {vs : List Value} {cs : List AV} {j : Nat} {v : Value} {a : AV}, RL H ε vs cs → vs[j]? = some v → cs[j]? = some a → R H ε v a
  | _, _, _, _, _, .nil, h, _ => by cases h
  | _, _, 0, _, _, .cons v c vs cs h t, hv, ha => by cases hv; cases ha; exact h
  | _, _, j + 1, _, _, .cons v c vs cs h t, hv, ha => RL.at t (by simpa using hv) (by simpa using ha)

theorem w_ownCell {P : Program} {N : Nat} {tm : Nat → AV} {ob : Nat → Option Ob} {nx m : Nat} {K : Exit → St → Prop} {code : Code} (b j : Nat) (e : TypeId) (sz : Nat) {cs : List AV} (hb : ob b = some (.box cs)) (hj : cs[j]? = some (.s (.slice none 0 0))) (hsz : 0 < sz) (hm : nx + 16 = m)
    (h : Later P N code K ⟨tm, wo (wo ob nx (.perm e sz 0)) b (.box (cs.set j (.osl nx sz []))), m⟩) : Later P N code K ⟨tm, ob, nx⟩ := by
  subst hm
  intro c H ε a w hc hi Q hQ
  have hf : ε nx = none := hi.dom _ (Nat.le_refl _)
  have hm := hi.mem.add (l := .row (.slice none 0 0) 0) (x := .perm e sz 0) hf ⟨.slice none 0 0, [], updEnv_same _ _ _, World.ownsRow_nil w 0 e sz, hsz, fun g hg => by cases hg⟩ (fun b hb => by cases hb) (fun b hb => by cases hb)
  have hbn : b ≠ nx := fun he => by
    subst he
    obtain ⟨g, arr, U, q1, _⟩ := hi.mem.objs _ _ hb
    rw [hf] at q1; cases q1
  have hb' : updOb ob nx (.perm e sz 0) b = some (.box cs) := by unfold updOb; rw [if_neg hbn]; exact hb
  have hm2 := hm.reread hb' (y := .box (cs.set j (.osl nx sz []))) (by
    obtain ⟨g, arr, U, q1, q2, q3, q4, q5⟩ := hm.objs _ _ hb'
    refine ⟨g, arr, U, q1, q2, q3.set fun v hv => ?_, q4, q5⟩
    have := q3.at hv hj
    rw [this.s_inv.1]
    exact .osl _ _ _ _ _ 0 (.nil _) (updEnv_same _ _ _) (Nat.le_refl _) (fun _ => rfl))
  rw [wo_perm, wo_box] at hm2
  refine h c H (updEnv ε nx (.row (.slice none 0 0) 0)) a w hc ⟨hi.sz, hi.df, fun i => (hi.tm i).mono (View.le_refl H) (Env.le_new hf), hm2, fun id hid => ?_⟩ Q hQ
  have hid' : nx + 16 ≤ id := hid
  unfold updEnv
  rw [if_neg (by omega)]
  exact hi.dom id (show nx ≤ id by omega)
theorem w_ownNil {P : Program} {N : Nat} {tm : Nat → AV} {ob : Nat → Option Ob} {nx m : Nat} {K : Exit → St → Prop} {code : Code} (s : Nat) (e : TypeId) (sz : Nat) (hs : tm s = .s (.slice none 0 0)) (hsz : 0 < sz) (hm : nx + 16 = m)
    (h : Later P N code K ⟨wr tm s (.osl nx sz []), wo ob nx (.perm e sz 0), m⟩) : Later P N code K ⟨tm, ob, nx⟩ := by
  subst hm
  refine tri_ownNil s e sz hs hsz ?_
  rw [← wr_upd, ← wo_perm] at h
  exact h
/-! ### The end of a function that is handed objects -/
theorem w_retO {P : Program} {T : TypeId → Option TY} (hT : TabOK P T) {σ : St} {rs : List ResultVar} {m : Nat} {r : AV} {obs' : List Ob} (new : List Nat) (h1 : m + new.length = obs'.length) (h2 : ∀ k ∈ new, m ≤ k) (h3 : new.Nodup)
    (h4 : ∀ K' : AV → Prop, (∀ a, Le a (r.ren (backN m new)) → K' a) → retN T σ rs K') (h5 : obsRet σ (backN m new) obs' 0) (h6 : r.lt obs'.length) (h7 : ltO obs'.length obs') : Out (retO P rs m r obs') .ret σ := by
  refine ⟨new, h1, h2, h3, ?_, h5, h6, h7⟩
  have h := h4 (fun a => Le a (r.ren (backN m new))) fun _ h => h
  unfold retN at h
  split at h
  · rename_i a ha; rw [resTL_ok hT ha]; simp only [nf_eq] at h; exact h
  · rename_i l hn ha
    rw [resTL_ok hT ha]
    rw [nfL_eq] at h
    show Le (oneAV l) _
    have : oneAV l = .tup l := by
      unfold oneAV; split
      · rename_i b; exact (hn b rfl).elim
      · rfl
    rw [this]; exact h
  · exact h.elim

/-! ### Weaker readings, looked at -/
theorem LeL.rfl' : ∀ (l : List AV), LeL l l
  | [] => .nil
  | a :: l => .cons _ _ _ _ (.refl a) (LeL.rfl' l)
theorem leL_nil : LeL [] [] ↔ True := ⟨fun _ => trivial, fun _ => .nil⟩
theorem leL_cons {a b : AV} {l m : List AV} : LeL (a :: l) (b :: m) ↔ Le a b ∧ LeL l m := ⟨fun h => by cases h with | cons _ _ _ _ h t => exact ⟨h, t⟩, fun h => .cons _ _ _ _ h.1 h.2⟩
theorem le_tup {l m : List AV} : Le (.tup l) (.tup m) ↔ LeL l m := ⟨fun h => by cases h with | refl => exact LeL.rfl' _ | tup _ _ h => exact h, .tup _ _⟩
theorem le_agg {l m : List AV} : Le (.agg l) (.agg m) ↔ LeL l m := ⟨fun h => by cases h with | refl => exact LeL.rfl' _ | agg _ _ h => exact h, .agg _ _⟩
theorem le_osl {p q n k : Nat} {es fs : List (List AV)} : Le (.osl p n es) (.osl q k fs) ↔ p = q ∧ n = k ∧ es = fs := ⟨fun h => by cases h; exact ⟨rfl, rfl, rfl⟩, fun ⟨h1, h2, h3⟩ => by subst h1 h2 h3; exact .refl _⟩
theorem le_sl {n k : Nat} {es fs : List (List AV)} : Le (.sl n es) (.sl k fs) ↔ n = k ∧ es = fs := ⟨fun h => by cases h; exact ⟨rfl, rfl⟩, fun ⟨h1, h2⟩ => by subst h1 h2; exact .refl _⟩
theorem le_osl_sl {p n k : Nat} {es fs : List (List AV)} : Le (.osl p n es) (.sl k fs) ↔ n = k ∧ es = fs := ⟨fun h => by cases h; exact ⟨rfl, rfl⟩, fun ⟨h1, h2⟩ => by subst h1 h2; exact .osl _ _ _⟩
theorem le_nil_sl {k : Nat} {fs : List (List AV)} : Le (.s (.slice none 0 0)) (.sl k fs) ↔ fs = [] := ⟨fun h => by cases h; rfl, fun h => by subst h; exact .nil _⟩
theorem le_junk {a : AV} : Le a .junk ↔ True := ⟨fun _ => trivial, fun _ => .junk _⟩
theorem le_self {a : AV} : Le a a ↔ True := ⟨fun _ => trivial, fun _ => .refl _⟩
theorem le_ptr {a b c d : Nat} : Le (.ptr a b) (.ptr c d) ↔ a = c ∧ b = d := ⟨fun h => by cases h; exact ⟨rfl, rfl⟩, fun ⟨h1, h2⟩ => by subst h1 h2; exact .refl _⟩
theorem wr_get (tm : Nat → AV) (d : Nat) (r : AV) (j : Nat) : wr tm d r j = if j = d then r else tm j := by rw [← wr_upd]; rfl
theorem wo_get (ob : Nat → Option Ob) (d : Nat) (x : Ob) (j : Nat) : wo ob d x j = if j = d then x.opt else ob j := by rw [← wo_updG]; rfl
end Go.Sy

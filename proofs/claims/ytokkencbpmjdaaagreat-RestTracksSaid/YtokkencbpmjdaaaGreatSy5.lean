/- The symbolic layer: what was there taken for old, so that what comes then is new; back again; what is new made so that it may be written. No condition. -/
import Derived.Test.YtokkencbpmjdaaaGreatSy3
section
set_option linter.unusedVariables false
set_option linter.unusedSectionVars false
namespace Go.Sy

mutual
def AV.old : AV → AV
  | .sl sz es => .ol sz (oldM es)
  | .agg cs => .agg (oldL cs)
  | .tup cs => .tup (oldL cs)
  | .s v => .s v
  | .ol sz es => .ol sz es
  | .wsl sz es => .wsl sz es
  | .wref cs => .wref cs
  | .hole => .hole
  | .mark id => .mark id
  | .osl p sz es => .osl p sz es
  | .ref cs => .ref cs
  | .ptr id off => .ptr id off
  | .bsl id off sz n cap => .bsl id off sz n cap
  | .fn f a b => .fn f a b
  | .junk => .junk
def oldL : List AV → List AV
  | [] => []
  | a :: l => a.old :: oldL l
def oldM : List (List AV) → List (List AV)
  | [] => []
  | l :: m => oldL l :: oldM m
end
mutual
def AV.pl : AV → Prop
  | .s _ => True
  | .sl _ es => plM es
  | .agg cs => plL cs
  | .tup cs => plL cs
  | .ptr _ _ => True
  | .ol _ _ => False
  | .wsl _ _ => False
  | .wref _ => False
  | .hole => False
  | .mark _ => False
  | .osl _ _ _ => False
  | .ref _ => False
  | .bsl _ _ _ _ _ => False
  | .fn _ _ _ => False
  | .junk => False
def plL : List AV → Prop
  | [] => True
  | a :: l => a.pl ∧ plL l
def plM : List (List AV) → Prop
  | [] => True
  | l :: m => plL l ∧ plM m
end
theorem oldL_map : ∀ l : List AV, oldL l = l.map AV.old
  | [] => rfl
  | a :: l => by simp [oldL, oldL_map l]
theorem oldM_map : ∀ m : List (List AV), oldM m = m.map oldL
  | [] => rfl
  | l :: m => by simp [oldM, oldM_map m]
theorem plL_iff : ∀ {l : List AV}, plL l ↔ ∀ a ∈ l, a.pl
  | [] => by simp [plL]
  | a :: l => by simp [plL, plL_iff (l := l)]
theorem plM_iff : ∀ {m : List (List AV)}, plM m ↔ ∀ l ∈ m, plL l
  | [] => by simp [plM]
  | l :: m => by simp [plM, plM_iff (m := m)]
theorem oldL_flat (m : List (List AV)) : (oldM m).flatten = oldL m.flatten := by
  rw [oldM_map, oldL_map, List.map_flatten]
  congr 1
  apply List.map_congr_left
  intro l _; exact oldL_map l
theorem plL_flat {m : List (List AV)} (h : plM m) : plL m.flatten := plL_iff.2 fun a ha => by
  obtain ⟨l, hl, ha⟩ := List.mem_flatten.1 ha
  exact plL_iff.1 (plM_iff.1 h l hl) a ha
theorem oldL_len (l : List AV) : (oldL l).length = l.length := by rw [oldL_map, List.length_map]
theorem oldM_len (m : List (List AV)) : (oldM m).length = m.length := by rw [oldM_map, List.length_map]
theorem oldM_sz {m : List (List AV)} {sz : Nat} (h : ∀ e ∈ m, e.length = sz) : ∀ e ∈ oldM m, e.length = sz := fun e he => by
  rw [oldM_map] at he
  obtain ⟨l, hl, rfl⟩ := List.mem_map.1 he
  rw [oldL_len]; exact h l hl

def View.up (H : View) (n : Nat) : View := { H with lo := n, lo2 := H.lo }

theorem DM.first {H : View} {b o : Nat} {cs : List AV} (h : DM H b o cs) (hne : cs ≠ []) : ∃ v, H b o = some v := by
  cases h with
  | nil => exact absurd rfl hne
  | cons _ _ v _ _ hv => exact ⟨v, hv⟩

section
variable {H : View} {n : Nat} (hn : ∀ b o v, H b o = some v → b < n)
include hn
mutual
theorem D.old : ∀ {v : Value} {a : AV}, D H v a → a.pl → D (H.up n) v a.old
  | _, _, .s v h, _ => by simp only [AV.old]; exact .s v h
  | _, _, .agg vs cs h, hp => by simp only [AV.old]; simp only [AV.pl] at hp; exact .agg _ _ (DL.old h hp)
  | _, _, .tup vs cs h, hp => by simp only [AV.old]; simp only [AV.pl] at hp; exact .tup _ _ (DL.old h hp)
  | _, _, .nil sz, _ => by simp only [AV.old, oldM]; exact .onil sz
  | _, _, .emp a cap sz, _ => by simp only [AV.old, oldM]; exact .oemp a cap sz
  | _, _, .sl b off cap sz es hcap hsz hlo h, hp => by
    simp only [AV.old]
    simp only [AV.pl] at hp
    have hd : DM (H.up n) b off (oldM es).flatten := by rw [oldL_flat]; exact DM.old h (plL_flat hp)
    have := D.ol (H := H.up n) b off cap sz (oldM es) (by rw [oldM_len]; exact hcap) (oldM_sz hsz) (fun hne => by
      have hne' : es.flatten ≠ [] := fun e => hne (by rw [oldL_flat, e]; rfl)
      obtain ⟨v, hv⟩ := h.first hne'
      exact ⟨hlo hne', hn b off v hv⟩) hd
    rw [oldM_len] at this
    exact this
  | _, _, .onil _, hp => by simp only [AV.pl] at hp
  | _, _, .oemp _ _ _, hp => by simp only [AV.pl] at hp
  | _, _, .ol _ _ _ _ _ _ _ _ _, hp => by simp only [AV.pl] at hp
  | _, _, .wnil _, hp => by simp only [AV.pl] at hp
  | _, _, .wemp _ _ _, hp => by simp only [AV.pl] at hp
  | _, _, .wsl _ _ _ _ _ _ _ _, hp => by simp only [AV.pl] at hp
  | _, _, .wref _ _ _ _, hp => by simp only [AV.pl] at hp
  | _, _, .ref _ _ _ _, hp => by simp only [AV.pl] at hp
theorem DL.old : ∀ {vs : List Value} {cs : List AV}, DL H vs cs → plL cs → DL (H.up n) vs (oldL cs)
  | _, _, .nil, _ => by simp only [oldL]; exact .nil
  | _, _, .cons v c vs cs h t, hp => by simp only [oldL]; simp only [plL] at hp; exact .cons _ _ _ _ (D.old h hp.1) (DL.old t hp.2)
theorem DM.old : ∀ {b o : Nat} {cs : List AV}, DM H b o cs → plL cs → DM (H.up n) b o (oldL cs)
  | _, _, _, .nil b o, _ => by simp only [oldL]; exact .nil b o
  | _, _, _, .cons b o v c cs hv h1 h t, hp => by simp only [oldL]; simp only [plL] at hp; exact .cons _ _ v _ _ hv h1 (D.old h hp.1) (DM.old t hp.2)
end
mutual
theorem R.old {ε : Env} : ∀ {a : AV} {v : Value}, R H ε v a → a.pl → R (H.up n) ε v a.old
  | .s u, v, h, _ => by simp only [AV.old]; rw [h.s_inv.1]; exact .d _ _ (.s u h.s_inv.2)
  | .sl sz es, v, h, hp => .d _ _ (D.old hn h.sl_inv hp)
  | .agg cs, v, h, hp => by
    simp only [AV.old]; simp only [AV.pl] at hp
    obtain ⟨vs, rfl, hr⟩ := h.agg_inv
    exact .agg _ _ (RL.old hr hp)
  | .tup cs, v, h, hp => by
    simp only [AV.old]; simp only [AV.pl] at hp
    obtain ⟨vs, rfl, hr⟩ := h.tup_inv
    exact .tup _ _ (RL.old hr hp)
  | .ptr id off, v, h, _ => by
    simp only [AV.old]
    obtain ⟨b, rfl, hb⟩ := h.ptr_inv
    exact .ptr _ _ _ hb
  | .ol _ _, _, _, hp => by simp only [AV.pl] at hp
  | .wsl _ _, _, _, hp => by simp only [AV.pl] at hp
  | .wref _, _, _, hp => by simp only [AV.pl] at hp
  | .hole, _, _, hp => by simp only [AV.pl] at hp
  | .mark _, _, _, hp => by simp only [AV.pl] at hp
  | .osl _ _ _, _, _, hp => by simp only [AV.pl] at hp
  | .ref _, _, _, hp => by simp only [AV.pl] at hp
  | .bsl _ _ _ _ _, _, _, hp => by simp only [AV.pl] at hp
  | .fn _ _ _, _, _, hp => by simp only [AV.pl] at hp
  | .junk, _, _, hp => by simp only [AV.pl] at hp
theorem RL.old {ε : Env} : ∀ {cs : List AV} {vs : List Value}, RL H ε vs cs → plL cs → RL (H.up n) ε vs (oldL cs)
  | [], vs, h, _ => by simp only [oldL]; cases h; exact .nil
  | a :: l, vs, h, hp => by
    simp only [oldL]; simp only [plL] at hp
    cases h with | cons v _ vs _ h t => exact .cons _ _ _ _ (R.old h hp.1) (RL.old t hp.2)
end
end

theorem DM.glue {H : View} {b : Nat} : ∀ {cs ds : List AV} {o : Nat}, DM H b o cs → DM H b (o + cs.length) ds → DM H b o (cs ++ ds)
  | [], ds, o, _, h => by simpa using h
  | c :: cs, ds, o, .cons _ _ v _ _ hv h1 h t, h' => .cons _ _ v _ _ hv h1 h (t.glue (by
      have e : o + (c :: cs).length = o + 1 + cs.length := by simp; omega
      rwa [e] at h'))
section
variable {H H' : View} (hc : ∀ b o v, H b o = some v → H' b o = some v) (hl : H'.lo ≤ H.lo2)
include hc hl
mutual
theorem D.unold : ∀ {a : AV} {v : Value}, D H v a.old → a.pl → D H' v a
  | .s u, v, h, _ => by simp only [AV.old] at h; cases h with | s _ h => exact .s _ h
  | .sl sz es, v, h, hp => by
    simp only [AV.old] at h; simp only [AV.pl] at hp
    have e0 : oldM es = [] → es = [] := fun e => List.eq_nil_of_length_eq_zero (by rw [← oldM_len, e]; rfl)
    rcases h.oslice2 with ⟨rfl, e⟩ | ⟨x, cap, rfl, e⟩ | ⟨b, off, cap, hv, hcap, hsz, hlo, hd⟩
    · rw [e0 e]; exact .nil sz
    · rw [e0 e]; exact .emp _ _ sz
    · rw [hv, oldM_len]
      rw [oldM_len] at hcap
      refine .sl b off cap sz es hcap (fun e he => ?_) (fun hne => ?_) (DMM.unold hd hp)
      rotate_left
      rw [oldL_flat] at hlo
      · exact Nat.le_trans hl (hlo (fun e => hne (List.eq_nil_of_length_eq_zero (by rw [← oldL_len, e]; rfl)))).1
      · rw [← oldL_len]; exact hsz _ (by rw [oldM_map]; exact List.mem_map_of_mem he)
  | .agg cs, v, h, hp => by
    simp only [AV.old] at h; simp only [AV.pl] at hp
    cases h with | agg vs _ h => exact .agg _ _ (DL.unold h hp)
  | .tup cs, v, h, hp => by
    simp only [AV.old] at h; simp only [AV.pl] at hp
    cases h with | tup vs _ h => exact .tup _ _ (DL.unold h hp)
  | .ptr _ _, _, h, _ => by simp only [AV.old] at h; cases h
  | .ol _ _, _, _, hp => by simp only [AV.pl] at hp
  | .wsl _ _, _, _, hp => by simp only [AV.pl] at hp
  | .wref _, _, _, hp => by simp only [AV.pl] at hp
  | .hole, _, _, hp => by simp only [AV.pl] at hp
  | .mark _, _, _, hp => by simp only [AV.pl] at hp
  | .osl _ _ _, _, _, hp => by simp only [AV.pl] at hp
  | .ref _, _, _, hp => by simp only [AV.pl] at hp
  | .bsl _ _ _ _ _, _, _, hp => by simp only [AV.pl] at hp
  | .fn _ _ _, _, _, hp => by simp only [AV.pl] at hp
  | .junk, _, _, hp => by simp only [AV.pl] at hp
theorem DL.unold : ∀ {cs : List AV} {vs : List Value}, DL H vs (oldL cs) → plL cs → DL H' vs cs
  | [], vs, h, _ => by simp only [oldL] at h; cases h; exact .nil
  | a :: l, vs, h, hp => by
    simp only [oldL] at h; simp only [plL] at hp
    cases h with | cons v _ vs _ h t => exact .cons _ _ _ _ (D.unold h hp.1) (DL.unold t hp.2)
theorem DM.unold : ∀ {cs : List AV} {b o : Nat}, DM H b o (oldL cs) → plL cs → DM H' b o cs
  | [], b, o, h, _ => .nil b o
  | a :: l, b, o, h, hp => by
    simp only [oldL] at h; simp only [plL] at hp
    cases h with | cons _ _ v _ _ hv h1 h t => exact .cons _ _ v _ _ (hc _ _ _ hv) h1 (D.unold h hp.1) (DM.unold t hp.2)
theorem DMM.unold : ∀ {es : List (List AV)} {b o : Nat}, DM H b o (oldM es).flatten → plM es → DM H' b o es.flatten
  | [], b, o, h, _ => .nil b o
  | l :: m, b, o, h, hp => by
    simp only [oldM, List.flatten_cons] at h ⊢
    simp only [plM] at hp
    have h2 := DM.append_right h
    rw [oldL_len] at h2
    exact (DM.unold (DM.append_left h) hp.1).glue (DMM.unold h2 hp.2)
end
mutual
theorem R.unold {ε : Env} : ∀ {a : AV} {v : Value}, R H ε v a.old → a.pl → R H' ε v a
  | .s u, v, h, _ => by simp only [AV.old] at h; rw [h.s_inv.1]; exact .d _ _ (.s u h.s_inv.2)
  | .sl sz es, v, h, hp => by
    have h' : R H ε v (.ol sz (oldM es)) := by simpa only [AV.old] using h
    refine .d _ _ (D.unold hc hl (a := .sl sz es) ?_ hp)
    simp only [AV.old]; exact h'.ol_inv
  | .agg cs, v, h, hp => by
    simp only [AV.old] at h; simp only [AV.pl] at hp
    obtain ⟨vs, rfl, hr⟩ := h.agg_inv
    exact .agg _ _ (RL.unold hr hp)
  | .tup cs, v, h, hp => by
    simp only [AV.old] at h; simp only [AV.pl] at hp
    obtain ⟨vs, rfl, hr⟩ := h.tup_inv
    exact .tup _ _ (RL.unold hr hp)
  | .ptr id off, v, h, _ => by
    simp only [AV.old] at h
    obtain ⟨b, rfl, hb⟩ := h.ptr_inv
    exact .ptr _ _ _ hb
  | .ol _ _, _, _, hp => by simp only [AV.pl] at hp
  | .wsl _ _, _, _, hp => by simp only [AV.pl] at hp
  | .wref _, _, _, hp => by simp only [AV.pl] at hp
  | .hole, _, _, hp => by simp only [AV.pl] at hp
  | .mark _, _, _, hp => by simp only [AV.pl] at hp
  | .osl _ _ _, _, _, hp => by simp only [AV.pl] at hp
  | .ref _, _, _, hp => by simp only [AV.pl] at hp
  | .bsl _ _ _ _ _, _, _, hp => by simp only [AV.pl] at hp
  | .fn _ _ _, _, _, hp => by simp only [AV.pl] at hp
  | .junk, _, _, hp => by simp only [AV.pl] at hp
theorem RL.unold {ε : Env} : ∀ {cs : List AV} {vs : List Value}, RL H ε vs (oldL cs) → plL cs → RL H' ε vs cs
  | [], vs, h, _ => by simp only [oldL] at h; cases h; exact .nil
  | a :: l, vs, h, hp => by
    simp only [oldL] at h; simp only [plL] at hp
    cases h with | cons v _ vs _ h t => exact .cons _ _ _ _ (R.unold h hp.1) (RL.unold t hp.2)
end
end

mutual
def AV.sc : AV → Prop
  | .s _ => True
  | .agg cs => scL cs
  | .tup cs => scL cs
  | .sl _ _ => False
  | .ptr _ _ => False
  | .ol _ _ => False
  | .wsl _ _ => False
  | .wref _ => False
  | .hole => False
  | .mark _ => False
  | .osl _ _ _ => False
  | .ref _ => False
  | .bsl _ _ _ _ _ => False
  | .fn _ _ _ => False
  | .junk => False
def scL : List AV → Prop
  | [] => True
  | a :: l => a.sc ∧ scL l
end
mutual
theorem D.scd {H H' : View} : ∀ {a : AV} {v : Value}, D H v a → a.sc → D H' v a
  | .s u, v, h, _ => by cases h with | s _ h => exact .s _ h
  | .agg cs, v, h, hp => by simp only [AV.sc] at hp; cases h with | agg vs _ h => exact .agg _ _ (DL.scd h hp)
  | .tup cs, v, h, hp => by simp only [AV.sc] at hp; cases h with | tup vs _ h => exact .tup _ _ (DL.scd h hp)
  | .sl _ _, _, _, hp => by simp only [AV.sc] at hp
  | .ptr _ _, _, _, hp => by simp only [AV.sc] at hp
  | .ol _ _, _, _, hp => by simp only [AV.sc] at hp
  | .wsl _ _, _, _, hp => by simp only [AV.sc] at hp
  | .wref _, _, _, hp => by simp only [AV.sc] at hp
  | .hole, _, _, hp => by simp only [AV.sc] at hp
  | .mark _, _, _, hp => by simp only [AV.sc] at hp
  | .osl _ _ _, _, _, hp => by simp only [AV.sc] at hp
  | .ref _, _, _, hp => by simp only [AV.sc] at hp
  | .bsl _ _ _ _ _, _, _, hp => by simp only [AV.sc] at hp
  | .fn _ _ _, _, _, hp => by simp only [AV.sc] at hp
  | .junk, _, _, hp => by simp only [AV.sc] at hp
theorem DL.scd {H H' : View} : ∀ {cs : List AV} {vs : List Value}, DL H vs cs → scL cs → DL H' vs cs
  | [], vs, h, _ => by cases h; exact .nil
  | a :: l, vs, h, hp => by
    simp only [scL] at hp
    cases h with | cons v _ vs _ h t => exact .cons _ _ _ _ (D.scd h hp.1) (DL.scd t hp.2)
end
section
variable {H H' : View} (hc : ∀ b o v, H b o = some v → H' b o = some v) (hl : H'.lo ≤ H.lo)
include hc hl
mutual
theorem D.lowd : ∀ {a : AV} {v : Value}, D H v a → a.pl → D H' v a
  | .s u, v, h, _ => by cases h with | s _ h => exact .s _ h
  | .sl sz es, v, h, hp => by
    simp only [AV.pl] at hp
    rcases h.slice2 with ⟨rfl, rfl⟩ | ⟨x, cap, rfl, rfl⟩ | ⟨b, off, cap, hv, hcap, hsz, hlo, hd⟩
    · exact .nil sz
    · exact .emp _ _ sz
    · rw [hv]; exact .sl b off cap sz es hcap hsz (fun hne => Nat.le_trans hl (hlo hne)) (DMM.lowd hd hp)
  | .agg cs, v, h, hp => by simp only [AV.pl] at hp; cases h with | agg vs _ h => exact .agg _ _ (DL.lowd h hp)
  | .tup cs, v, h, hp => by simp only [AV.pl] at hp; cases h with | tup vs _ h => exact .tup _ _ (DL.lowd h hp)
  | .ptr _ _, _, h, _ => by cases h
  | .ol _ _, _, _, hp => by simp only [AV.pl] at hp
  | .wsl _ _, _, _, hp => by simp only [AV.pl] at hp
  | .wref _, _, _, hp => by simp only [AV.pl] at hp
  | .hole, _, _, hp => by simp only [AV.pl] at hp
  | .mark _, _, _, hp => by simp only [AV.pl] at hp
  | .osl _ _ _, _, _, hp => by simp only [AV.pl] at hp
  | .ref _, _, _, hp => by simp only [AV.pl] at hp
  | .bsl _ _ _ _ _, _, _, hp => by simp only [AV.pl] at hp
  | .fn _ _ _, _, _, hp => by simp only [AV.pl] at hp
  | .junk, _, _, hp => by simp only [AV.pl] at hp
theorem DL.lowd : ∀ {cs : List AV} {vs : List Value}, DL H vs cs → plL cs → DL H' vs cs
  | [], vs, h, _ => by cases h; exact .nil
  | a :: l, vs, h, hp => by
    simp only [plL] at hp
    cases h with | cons v _ vs _ h t => exact .cons _ _ _ _ (D.lowd h hp.1) (DL.lowd t hp.2)
theorem DM.lowd : ∀ {cs : List AV} {b o : Nat}, DM H b o cs → plL cs → DM H' b o cs
  | [], b, o, h, _ => .nil b o
  | a :: l, b, o, h, hp => by
    simp only [plL] at hp
    cases h with | cons _ _ v _ _ hv h1 h t => exact .cons _ _ v _ _ (hc _ _ _ hv) h1 (D.lowd h hp.1) (DM.lowd t hp.2)
theorem DMM.lowd : ∀ {es : List (List AV)} {b o : Nat}, DM H b o es.flatten → plM es → DM H' b o es.flatten
  | [], b, o, h, _ => .nil b o
  | l :: m, b, o, h, hp => by
    simp only [List.flatten_cons] at h ⊢
    simp only [plM] at hp
    exact (DM.lowd (DM.append_left h) hp.1).glue (DMM.lowd (DM.append_right h) hp.2)
end
end
def MixL : List AV → List AV → Prop
  | [], [] => True
  | a :: l, b :: m => (b = a ∨ b = a.old) ∧ MixL l m
  | _, _ => False
theorem DL.mix {H H' : View} (hc : ∀ b o v, H b o = some v → H' b o = some v) (h2 : H'.lo ≤ H.lo2) (h1 : H.lo2 ≤ H.lo) : ∀ {args args' : List AV} {vs : List Value}, MixL args args' → plL args → DL H vs args' → DL H' vs args
  | [], [], _, _, _, h => by cases h; exact .nil
  | a :: l, b :: m, _, hm, hp, h => by
    simp only [plL] at hp
    cases h with
    | cons v _ vs _ h t =>
      refine .cons _ _ _ _ ?_ (DL.mix hc h2 h1 hm.2 hp.2 t)
      rcases hm.1 with rfl | rfl
      · exact D.lowd hc (Nat.le_trans h2 h1) h hp.1
      · exact D.unold hc h2 h hp.1
  | [], _ :: _, _, hm, _, _ => hm.elim
  | _ :: _, [], _, hm, _, _ => hm.elim
theorem PSpec.mix {P : Program} {f : FuncId} {args args' : List AV} {r : AV} (h : PSpec P f args r) (hm : MixL args args') (hp : plL args) (hr : r.sc) : PSpec P f args' r := by
  intro w H vs hok hD
  have hok1 : View.ok { H with lo := H.lo2, lo2 := 0 } w := ⟨hok.view, ⟨Nat.le_trans hok.lo.2 hok.lo.1, Nat.zero_le _⟩, hok.fz, hok.wr⟩
  refine (h w { H with lo := H.lo2, lo2 := 0 } vs hok1 (DL.mix (H := H) (H' := { H with lo := H.lo2, lo2 := 0 }) (fun _ _ _ h => h) (Nat.le_refl _) hok.lo.2 hm hp hD)).mono fun e w' ⟨v, H', he, hDv, hH, ⟨hok', hfz⟩, hold, hbel⟩ => ?_
  refine ⟨v, { H' with lo := H.lo, lo2 := H.lo2 }, he, hDv.scd hr, ⟨hH.cells, rfl, rfl, hH.wr⟩, ⟨⟨hok'.view, ⟨Nat.le_trans hok.lo.1 hbel.size, hok.lo.2⟩, hok'.fz, hok'.wr⟩, hfz⟩, hold, hbel⟩
theorem PSpec.olds {P : Program} {f : FuncId} {args : List AV} {r : AV} (h : PSpec P f args r) (hp : plL args) (hr : r.sc) : PSpec P f (oldL args) r := by
  intro w H vs hok hD
  have hok1 : View.ok { H with lo := H.lo2, lo2 := 0 } w := ⟨hok.view, ⟨Nat.le_trans hok.lo.2 hok.lo.1, Nat.zero_le _⟩, hok.fz, hok.wr⟩
  refine (h w { H with lo := H.lo2, lo2 := 0 } vs hok1 (DL.unold (H := H) (H' := { H with lo := H.lo2, lo2 := 0 }) (fun _ _ _ h => h) (Nat.le_refl _) hD hp)).mono fun e w' ⟨v, H', he, hDv, hH, ⟨hok', hfz⟩, hold, hbel⟩ => ?_
  refine ⟨v, { H' with lo := H.lo, lo2 := H.lo2 }, he, hDv.scd hr, ⟨hH.cells, rfl, rfl, hH.wr⟩, ⟨⟨hok'.view, ⟨Nat.le_trans hok.lo.1 hbel.size, hok.lo.2⟩, hok'.fz, hok'.wr⟩, hfz⟩, hold, hbel⟩

def plS : List (Nat × AV) → Prop
  | [] => True
  | (_, a) :: l => a.pl ∧ plS l
def plB : List (Nat × List AV) → Prop
  | [] => True
  | (_, a) :: l => plL a ∧ plB l
def oldS : List (Nat × AV) → List (Nat × AV)
  | [] => []
  | (s, a) :: l => (s, a.old) :: oldS l
def boxB : List (Nat × List AV) → List (Nat × Ob)
  | [] => []
  | (s, a) :: l => (s, .box a) :: boxB l
def oldB : List (Nat × List AV) → List (Nat × Ob)
  | [] => []
  | (s, a) :: l => (s, .box (oldL a)) :: oldB l
theorem oldS_lookup : ∀ {S : List (Nat × AV)} {i : Nat}, (oldS S).lookup i = (S.lookup i).map AV.old
  | [], i => rfl
  | (s, a) :: l, i => by
    by_cases h : i = s
    · subst h; simp [oldS]
    · have hb : (i == s) = false := by simpa using h
      simp only [oldS, List.lookup_cons, hb]; exact oldS_lookup
theorem oldB_lookup : ∀ {S : List (Nat × List AV)} {i : Nat}, (oldB S).lookup i = (S.lookup i).map fun cs => .box (oldL cs)
  | [], i => rfl
  | (s, a) :: l, i => by
    by_cases h : i = s
    · subst h; simp [oldB]
    · have hb : (i == s) = false := by simpa using h
      simp only [oldB, List.lookup_cons, hb]; exact oldB_lookup
theorem boxB_lookup : ∀ {S : List (Nat × List AV)} {i : Nat}, (boxB S).lookup i = (S.lookup i).map Ob.box
  | [], i => rfl
  | (s, a) :: l, i => by
    by_cases h : i = s
    · subst h; simp [boxB]
    · have hb : (i == s) = false := by simpa using h
      simp only [boxB, List.lookup_cons, hb]; exact boxB_lookup
theorem plS_lookup : ∀ {S : List (Nat × AV)} {i : Nat} {a : AV}, plS S → S.lookup i = some a → a.pl
  | (s, u) :: l, i, a, h, hl => by
    simp only [plS] at h
    by_cases hi : i = s
    · subst hi; simp at hl; subst hl; exact h.1
    · have : (i == s) = false := by simpa using hi
      rw [List.lookup_cons, this] at hl
      exact plS_lookup h.2 hl
theorem plB_lookup : ∀ {S : List (Nat × List AV)} {i : Nat} {a : List AV}, plB S → S.lookup i = some a → plL a
  | (s, u) :: l, i, a, h, hl => by
    simp only [plB] at h
    by_cases hi : i = s
    · subst hi; simp at hl; subst hl; exact h.1
    · have : (i == s) = false := by simpa using hi
      rw [List.lookup_cons, this] at hl
      exact plB_lookup h.2 hl

def RoundK (K : Exit → St → Prop) : Exit → St → Prop := fun e σ =>
  ∃ (S : List (Nat × AV)) (B : List (Nat × List AV)), plS S ∧ plB B ∧ leS σ (oldS S) ∧ leB σ (oldB B) ∧ K e ⟨wrs (fun _ => .junk) S, wor (fun _ => none) (boxB B), σ.nx⟩

theorem w_raise {P : Program} {N : Nat} {tm : Nat → AV} {ob : Nat → Option Ob} {nx : Nat} {K : Exit → St → Prop} {code : Code} (S : List (Nat × AV)) (B : List (Nat × List AV)) (id : Nat) {cs0 : List AV} (hid : ob id = some (.box cs0))
    (hS : leS ⟨tm, ob, nx⟩ S) (hB : leB ⟨tm, ob, nx⟩ (boxB B)) (hSp : plS S) (hBp : plB B)
    (h : Later P N code (RoundK K) ⟨wrs (fun _ => .junk) ((1000000, .mark id) :: oldS S), wor (fun _ => none) (oldB B), nx⟩) : Tri P N code ⟨tm, ob, nx⟩ K := by
  intro c H ε a w hc hi Q hQ
  have hm := hi.mem
  have hn : ∀ b o v, H b o = some v → b < w.heap.size := fun b o v h => View.lt hm.view h
  obtain ⟨bi, _, _, hεi, _⟩ := hm.objs id _ hid
  have hbi : bi < w.heap.size := (hm.objs id _ hid).lt (by rw [hεi]; rfl)
  have hob : ∀ i x, wor (fun _ => none) (oldB B) i = some x → ∃ cs, x = .box (oldL cs) ∧ B.lookup i = some cs ∧ ObLe (ob i) (.box cs) := fun i x hx => by
    rw [wor_lookup, oldB_lookup] at hx
    cases hl : B.lookup i with
    | none => rw [hl] at hx; cases hx
    | some cs =>
      rw [hl] at hx; cases hx
      exact ⟨cs, rfl, rfl, leB_lookup hB (by rw [boxB_lookup, hl]; rfl)⟩
  have hne : ∀ i, wor (fun _ => none) (oldB B) i ≠ none → ob i ≠ none := fun i hi' e => by
    cases hx : wor (fun _ => none) (oldB B) i with
    | none => exact hi' hx
    | some x => obtain ⟨cs, _, _, h3⟩ := hob i x hx; rw [e] at h3; exact h3
  have hwb : ∀ b, (H.up w.heap.size).wb b ↔ H.wb b := fun b => Iff.rfl
  have hi2 : Inv { c with H0 := { c.H0 with lo := w.heap.size, lo2 := c.H0.lo } } (H.up w.heap.size) ε ⟨wrs (fun _ => .junk) ((1000000, .mark id) :: oldS S), wor (fun _ => none) (oldB B), nx⟩ a w := by
    refine ⟨hi.sz, hi.df, fun i => ?_, ?_, hi.dom⟩
    · show R _ _ _ (wrs (fun _ => .junk) ((1000000, .mark id) :: oldS S) i)
      rw [wrs, wr_get]
      split
      · exact .mark _ _ bi hεi (Nat.le_of_lt hbi)
      · rw [wrs_lookup, oldS_lookup]
        cases hl : S.lookup i with
        | none => exact .junk _
        | some x => exact R.old hn (R.le (leS_lookup hS hl) (hi.tm i)) (plS_lookup hSp hl)
    · exact {
        view := hm.view
        objs := fun i x hx => by
          obtain ⟨cs, rfl, hl, hle⟩ := hob i x hx
          obtain ⟨b, arr, T, h1, h2, h3, h4, h5⟩ := hle.ok fun z hz => hm.objs i z hz
          exact ⟨b, arr, T, h1, h2, RL.old hn h3 (plB_lookup hBp hl), h4, h5⟩
        dj := fun i j h1 h2 => hm.dj i j (hne i h1) (hne j h2)
        own := fun i h1 => hm.own i (hne i h1)
        os := hm.os
        tape := hm.tape
        output := hm.output
        size := hm.size
        block := hm.block
        hle := ⟨hm.hle.cells, rfl, hm.hle.lo, hm.hle.wr⟩
        hold := hm.hold
        ele := hm.ele
        low := hm.low
        top := hm.top
        lo := ⟨Nat.le_refl _, hm.lo.1⟩
        fz := hm.fz
        wr := fun b o h => ⟨(hm.wr b o h).1, (hm.wr b o h).2.1, fun i h1 => (hm.wr b o h).2.2 i (hne i h1)⟩ }
  refine h { c with H0 := { c.H0 with lo := w.heap.size, lo2 := c.H0.lo } } (H.up w.heap.size) ε a w hc hi2 Q fun e σ' H' ε' a' w' hK hi' => ?_
  obtain ⟨S', B', hS1, hB1, hS2, hB2, hK⟩ := hK
  have hm' := hi'.mem
  have hl2 : H'.lo2 = c.H0.lo := hm'.hle.lo2
  have hl1 : H'.lo = w.heap.size := hm'.hle.lo
  have hob' : ∀ i x, wor (fun _ => none) (boxB B') i = some x → ∃ cs, x = .box cs ∧ B'.lookup i = some cs ∧ ObLe (σ'.ob i) (.box (oldL cs)) := fun i x hx => by
    rw [wor_lookup, boxB_lookup] at hx
    cases hl : B'.lookup i with
    | none => rw [hl] at hx; cases hx
    | some cs =>
      rw [hl] at hx; cases hx
      exact ⟨cs, rfl, rfl, leB_lookup hB2 (by rw [oldB_lookup, hl]; rfl)⟩
  have hne' : ∀ i, wor (fun _ => none) (boxB B') i ≠ none → σ'.ob i ≠ none := fun i hi' e => by
    cases hx : wor (fun _ => none) (boxB B') i with
    | none => exact hi' hx
    | some x => obtain ⟨cs, _, _, h3⟩ := hob' i x hx; rw [e] at h3; exact h3
  refine hQ e _ { H' with lo := c.H0.lo, lo2 := c.H0.lo2 } ε' a' w' hK ⟨hi'.sz, hi'.df, fun i => ?_, ?_, hi'.dom⟩
  · show R _ _ _ (wrs (fun _ => .junk) S' i)
    rw [wrs_lookup]
    cases hl : S'.lookup i with
    | none => exact .junk _
    | some x =>
      have := R.le (leS_lookup hS2 (by rw [oldS_lookup, hl]; rfl)) (hi'.tm i)
      exact R.unold (H := H') (H' := { H' with lo := c.H0.lo, lo2 := c.H0.lo2 }) (fun _ _ _ h => h) (by rw [hl2]; exact Nat.le_refl _) this (plS_lookup hS1 hl)
  · exact {
      view := hm'.view
      objs := fun i x hx => by
        obtain ⟨cs, rfl, hl, hle⟩ := hob' i x hx
        obtain ⟨b, arr, T, h1, h2, h3, h4, h5⟩ := hle.ok fun z hz => hm'.objs i z hz
        exact ⟨b, arr, T, h1, h2, RL.unold (H := H') (H' := { H' with lo := c.H0.lo, lo2 := c.H0.lo2 }) (fun _ _ _ h => h) (by rw [hl2]; exact Nat.le_refl _) h3 (plB_lookup hB1 hl), h4, h5⟩
      dj := fun i j h1 h2 => hm'.dj i j (hne' i h1) (hne' j h2)
      own := fun i h1 => hm'.own i (hne' i h1)
      os := hm'.os
      tape := hm'.tape
      output := hm'.output
      size := hm'.size
      block := hm'.block
      hle := ⟨hm'.hle.cells, rfl, rfl, hm'.hle.wr⟩
      hold := hm'.hold
      ele := hm'.ele
      low := hm'.low
      top := hm'.top
      lo := ⟨by
        show c.H0.lo ≤ w'.heap.size
        have h1 := hm'.lo.2; have h2 := hm'.lo.1; omega, by
        show c.H0.lo2 ≤ c.H0.lo
        have h1 := hm.lo.2; rw [hm.hle.lo, hm.hle.lo2] at h1; exact h1⟩
      fz := hm'.fz
      wr := fun b o h => ⟨(hm'.wr b o h).1, (hm'.wr b o h).2.1, fun i h1 => (hm'.wr b o h).2.2 i (hne' i h1)⟩ }
end Go.Sy
end
section
set_option linter.unusedVariables false
set_option linter.unusedSectionVars false
namespace Go.Sy

def scalV : Value → Bool
  | .int _ _ => true
  | .bool _ => true
  | .string _ => true
  | _ => false
def scalO : Option Value → Bool
  | some v => scalV v
  | none => false
mutual
def AV.spo : AV → AV
  | .sl sz es => .wsl sz (spoM es)
  | .agg cs => .agg (spoL cs)
  | .tup cs => .tup (spoL cs)
  | .s v => .s v
  | .ol sz es => .ol sz es
  | .wsl sz es => .wsl sz es
  | .wref cs => .wref cs
  | .hole => .hole
  | .mark id => .mark id
  | .osl p sz es => .osl p sz es
  | .ref cs => .ref cs
  | .ptr id off => .ptr id off
  | .bsl id off sz n cap => .bsl id off sz n cap
  | .fn f a b => .fn f a b
  | .junk => .junk
def spoL : List AV → List AV
  | [] => []
  | a :: l => a.spo :: spoL l
def AV.spc : AV → AV
  | .s v => bif scalV v then .hole else .s v
  | .sl sz es => .wsl sz (spoM es)
  | .agg cs => .agg cs
  | .tup cs => .tup cs
  | .ol sz es => .ol sz es
  | .wsl sz es => .wsl sz es
  | .wref cs => .wref cs
  | .hole => .hole
  | .mark id => .mark id
  | .osl p sz es => .osl p sz es
  | .ref cs => .ref cs
  | .ptr id off => .ptr id off
  | .bsl id off sz n cap => .bsl id off sz n cap
  | .fn f a b => .fn f a b
  | .junk => .junk
def spcL : List AV → List AV
  | [] => []
  | a :: l => a.spc :: spcL l
def spoM : List (List AV) → List (List AV)
  | [] => []
  | l :: m => spcL l :: spoM m
end
mutual
def AV.ho : AV → Prop
  | .s _ => True
  | .ol _ es => hoM es
  | .agg cs => hoL cs
  | .tup cs => hoL cs
  | .ptr _ _ => True
  | .sl _ _ => False
  | .wsl _ _ => False
  | .wref _ => False
  | .hole => False
  | .mark _ => False
  | .osl _ _ _ => False
  | .ref _ => False
  | .bsl _ _ _ _ _ => False
  | .fn _ _ _ => False
  | .junk => False
def hoL : List AV → Prop
  | [] => True
  | a :: l => a.ho ∧ hoL l
def hoM : List (List AV) → Prop
  | [] => True
  | l :: m => hoL l ∧ hoM m
end
mutual
def AV.sk : AV → Prop
  | .s _ => True
  | .sl _ es => skM es
  | .ol _ es => hoM es
  | .agg cs => skL cs
  | .tup cs => skL cs
  | .ptr _ _ => True
  | .wsl _ _ => False
  | .wref _ => False
  | .hole => False
  | .mark _ => False
  | .osl _ _ _ => False
  | .ref _ => False
  | .bsl _ _ _ _ _ => False
  | .fn _ _ _ => False
  | .junk => False
def skL : List AV → Prop
  | [] => True
  | a :: l => a.sk ∧ skL l
def AV.skc : AV → Prop
  | .s _ => True
  | .sl _ es => skM es
  | .ol _ es => hoM es
  | .agg _ => False
  | .tup _ => False
  | .ptr _ _ => False
  | .wsl _ _ => False
  | .wref _ => False
  | .hole => False
  | .mark _ => False
  | .osl _ _ _ => False
  | .ref _ => False
  | .bsl _ _ _ _ _ => False
  | .fn _ _ _ => False
  | .junk => False
def skcL : List AV → Prop
  | [] => True
  | a :: l => a.skc ∧ skcL l
def skM : List (List AV) → Prop
  | [] => True
  | l :: m => skcL l ∧ skM m
end
theorem spcL_len : ∀ l : List AV, (spcL l).length = l.length
  | [] => rfl
  | a :: l => by simp [spcL, spcL_len l]
theorem spoM_len : ∀ m : List (List AV), (spoM m).length = m.length
  | [] => rfl
  | l :: m => by simp [spoM, spoM_len m]
theorem spoM_sz {sz : Nat} : ∀ {m : List (List AV)}, (∀ e ∈ m, e.length = sz) → ∀ e ∈ spoM m, e.length = sz
  | [], h, e, he => by cases he
  | l :: m, h, e, he => by
    simp only [spoM] at he
    rcases List.mem_cons.1 he with rfl | he
    · rw [spcL_len]; exact h l (by simp)
    · exact spoM_sz (m := m) (fun x hx => h x (by simp [hx])) e he

def View.sp (H : View) : View := { H with f := fun b o => if H.lo ≤ b ∧ scalO (H b o) = true then none else H b o, wr := fun b o => H.wr b o ∨ (H.lo ≤ b ∧ scalO (H b o) = true) }
theorem View.sp_f (H : View) (b o : Nat) : H.sp b o = if H.lo ≤ b ∧ scalO (H b o) = true then none else H b o := rfl
theorem View.sp_lo {H : View} {b : Nat} (o : Nat) (h : b < H.lo) : H.sp b o = H b o := by rw [View.sp_f, if_neg (fun e => by omega)]
theorem View.sp_le {H : View} {b o : Nat} {v : Value} (h : H.sp b o = some v) : H b o = some v := by
  rw [View.sp_f] at h; split at h
  · cases h
  · exact h

theorem WM.glue {H : View} {b : Nat} : ∀ {cs ds : List AV} {o : Nat}, WM H b o cs → WM H b (o + cs.length) ds → WM H b o (cs ++ ds)
  | [], ds, o, _, h => by simpa using h
  | c :: cs, ds, o, h, h' => by
    have e : o + (c :: cs).length = o + 1 + cs.length := by simp; omega
    rw [e] at h'
    cases h with
    | cons _ _ v _ _ hv h1 h t => exact .cons _ _ v _ _ hv h1 h (WM.glue t h')
    | hole _ _ _ hw t => exact .hole _ _ _ hw (WM.glue t h')
theorem WM.of_nil {H : View} {b o : Nat} {cs : List AV} (h : cs = []) : WM H b o cs := by subst h; exact .nil _ _

mutual
theorem D.hosp {H : View} : ∀ {a : AV} {v : Value}, D H v a → a.ho → D H.sp v a
  | .s u, v, h, _ => by cases h with | s _ h => exact .s _ h
  | .ol sz es, v, h, hp => by
    simp only [AV.ho] at hp
    rcases h.oslice2 with ⟨rfl, rfl⟩ | ⟨x, cap, rfl, rfl⟩ | ⟨b, off, cap, hv, hcap, hsz, hlo, hd⟩
    · exact .onil _
    · exact .oemp _ _ _
    · rw [hv]
      refine .ol b off cap sz es hcap hsz hlo ?_
      by_cases he : es.flatten = []
      · rw [he]; exact .nil _ _
      · exact DMM.hosp hd hp (hlo he).2
  | .agg cs, v, h, hp => by simp only [AV.ho] at hp; cases h with | agg vs _ h => exact .agg _ _ (DL.hosp h hp)
  | .tup cs, v, h, hp => by simp only [AV.ho] at hp; cases h with | tup vs _ h => exact .tup _ _ (DL.hosp h hp)
  | .ptr _ _, _, h, _ => by cases h
  | .sl _ _, _, _, hp => by simp only [AV.ho] at hp
  | .wsl _ _, _, _, hp => by simp only [AV.ho] at hp
  | .wref _, _, _, hp => by simp only [AV.ho] at hp
  | .hole, _, _, hp => by simp only [AV.ho] at hp
  | .mark _, _, _, hp => by simp only [AV.ho] at hp
  | .osl _ _ _, _, _, hp => by simp only [AV.ho] at hp
  | .ref _, _, _, hp => by simp only [AV.ho] at hp
  | .bsl _ _ _ _ _, _, _, hp => by simp only [AV.ho] at hp
  | .fn _ _ _, _, _, hp => by simp only [AV.ho] at hp
  | .junk, _, _, hp => by simp only [AV.ho] at hp
theorem DL.hosp {H : View} : ∀ {cs : List AV} {vs : List Value}, DL H vs cs → hoL cs → DL H.sp vs cs
  | [], vs, h, _ => by cases h; exact .nil
  | a :: l, vs, h, hp => by
    simp only [hoL] at hp
    cases h with | cons v _ vs _ h t => exact .cons _ _ _ _ (D.hosp h hp.1) (DL.hosp t hp.2)
theorem DM.hosp {H : View} : ∀ {cs : List AV} {b o : Nat}, DM H b o cs → hoL cs → b < H.lo → DM H.sp b o cs
  | [], b, o, h, _, _ => .nil b o
  | a :: l, b, o, h, hp, hb => by
    simp only [hoL] at hp
    cases h with | cons _ _ v _ _ hv h1 h t => exact .cons _ _ v _ _ (by rw [View.sp_lo _ hb]; exact hv) h1 (D.hosp h hp.1) (DM.hosp t hp.2 hb)
theorem DMM.hosp {H : View} : ∀ {es : List (List AV)} {b o : Nat}, DM H b o es.flatten → hoM es → b < H.lo → DM H.sp b o es.flatten
  | [], b, o, h, _, _ => .nil b o
  | l :: m, b, o, h, hp, hb => by
    simp only [List.flatten_cons] at h ⊢
    simp only [hoM] at hp
    exact (DM.hosp (DM.append_left h) hp.1 hb).glue (DMM.hosp (DM.append_right h) hp.2 hb)
end
theorem D.not_scal {H : View} {v : Value} {sz : Nat} {es : List (List AV)} (h : D H v (.sl sz es)) : scalV v = false := by cases h <;> rfl
theorem D.not_scalO {H : View} {v : Value} {sz : Nat} {es : List (List AV)} (h : D H v (.ol sz es)) : scalV v = false := by cases h <;> rfl
mutual
theorem D.spo {H : View} : ∀ {a : AV} {v : Value}, D H v a → a.sk → D H.sp v a.spo
  | .s u, v, h, _ => by simp only [AV.spo]; cases h with | s _ h => exact .s _ h
  | .sl sz es, v, h, hp => by
    simp only [AV.spo]; simp only [AV.sk] at hp
    exact D.spoSl h hp
  | .ol sz es, v, h, hp => by simp only [AV.spo]; exact D.hosp h (by simpa only [AV.sk, AV.ho] using hp)
  | .agg cs, v, h, hp => by simp only [AV.spo]; simp only [AV.sk] at hp; cases h with | agg vs _ h => exact .agg _ _ (DL.spo h hp)
  | .tup cs, v, h, hp => by simp only [AV.spo]; simp only [AV.sk] at hp; cases h with | tup vs _ h => exact .tup _ _ (DL.spo h hp)
  | .ptr _ _, _, h, _ => by cases h
  | .wsl _ _, _, _, hp => by simp only [AV.sk] at hp
  | .wref _, _, _, hp => by simp only [AV.sk] at hp
  | .hole, _, _, hp => by simp only [AV.sk] at hp
  | .mark _, _, _, hp => by simp only [AV.sk] at hp
  | .osl _ _ _, _, _, hp => by simp only [AV.sk] at hp
  | .ref _, _, _, hp => by simp only [AV.sk] at hp
  | .bsl _ _ _ _ _, _, _, hp => by simp only [AV.sk] at hp
  | .fn _ _ _, _, _, hp => by simp only [AV.sk] at hp
  | .junk, _, _, hp => by simp only [AV.sk] at hp
theorem DL.spo {H : View} : ∀ {cs : List AV} {vs : List Value}, DL H vs cs → skL cs → DL H.sp vs (spoL cs)
  | [], vs, h, _ => by simp only [spoL]; cases h; exact .nil
  | a :: l, vs, h, hp => by
    simp only [spoL]; simp only [skL] at hp
    cases h with | cons v _ vs _ h t => exact .cons _ _ _ _ (D.spo h hp.1) (DL.spo t hp.2)
theorem D.spoSl {H : View} : ∀ {es : List (List AV)} {sz : Nat} {v : Value}, D H v (.sl sz es) → skM es → D H.sp v (.wsl sz (spoM es))
  | [], sz, v, h, _ => by
    simp only [spoM]
    rcases h.slice2 with ⟨rfl, _⟩ | ⟨x, cap, rfl, _⟩ | ⟨b, off, cap, hv, _⟩
    · exact .wnil _
    · exact .wemp _ _ _
    · rw [hv]; exact .wemp _ _ _
  | l :: m, sz, v, h, hp => by
    rcases h.slice2 with ⟨_, e⟩ | ⟨_, _, _, e⟩ | ⟨b, off, cap, hv, hcap, hsz, hlo, hd⟩
    · cases e
    · cases e
    · rw [hv]
      have hw : WM H.sp b off (spoM (l :: m)).flatten := by
        simp only [skM] at hp
        simp only [spoM, List.flatten_cons] at hd hlo ⊢
        by_cases he : l ++ m.flatten = []
        · have e1 : l = [] := (List.append_eq_nil_iff.1 he).1
          have e2 : m.flatten = [] := (List.append_eq_nil_iff.1 he).2
          have e3 : (spoM m).flatten = [] := by
            rw [List.flatten_eq_nil_iff] at e2 ⊢
            intro x hx
            have hl0 : ∀ e ∈ m, e.length = 0 := fun e he' => by rw [e2 e he']; rfl
            exact List.eq_nil_of_length_eq_zero (spoM_sz hl0 x hx)
          refine WM.of_nil ?_
          rw [e1, e3]; rfl
        · have hb := hlo he
          have h2 := DM.append_right hd
          have h3 := DMM.spc h2 hp.2 hb
          rw [← spcL_len] at h3
          exact (DM.spc (DM.append_left hd) hp.1 hb).glue h3
      have := D.wsl (H := H.sp) b off cap sz (spoM (l :: m)) (by rw [spoM_len]; exact hcap) (spoM_sz hsz) hw
      rw [spoM_len] at this
      exact this
theorem DM.spc {H : View} : ∀ {cs : List AV} {b o : Nat}, DM H b o cs → skcL cs → H.lo ≤ b → WM H.sp b o (spcL cs)
  | [], b, o, h, _, _ => by simp only [spcL]; exact .nil b o
  | a :: l, b, o, h, hp, hb => by
    simp only [spcL]; simp only [skcL] at hp
    cases h with
    | cons _ _ v _ _ hv h1 h t =>
      exact D.spc hv h1 h hp.1 hb (DM.spc t hp.2 hb)
theorem D.spc {H : View} : ∀ {a : AV} {v : Value} {b o : Nat} {l : List AV}, H b o = some v → v.oneCell' = true → D H v a → a.skc → H.lo ≤ b → WM H.sp b (o + 1) l → WM H.sp b o (a.spc :: l)
  | .s u, v, b, o, l, hv, h1, h, _, hb, t => by
    have hu : v = u := by cases h with | s _ _ => rfl
    subst hu
    simp only [AV.spc]
    cases hsc : scalV v with
    | true => simp only [cond_true]; exact .hole _ _ _ (.inr ⟨hb, by rw [hv]; exact hsc⟩) t
    | false =>
      simp only [cond_false]
      exact .cons _ _ v _ _ (by rw [View.sp_f, if_neg (fun e => by rw [hv] at e; have := e.2; rw [show scalO (some v) = scalV v from rfl, hsc] at this; cases this)]; exact hv) h1 (.s v h1) t
  | .sl sz es, v, b, o, l, hv, h1, h, hp, hb, t => by
    simp only [AV.spc]; simp only [AV.skc] at hp
    exact .cons _ _ v _ _ (by rw [View.sp_f, if_neg (fun e => by rw [hv] at e; have := e.2; rw [show scalO (some v) = scalV v from rfl, h.not_scal] at this; cases this)]; exact hv) h1 (D.spoSl h hp) t
  | .ol sz es, v, b, o, l, hv, h1, h, hp, hb, t => by
    simp only [AV.spc]
    exact .cons _ _ v _ _ (by rw [View.sp_f, if_neg (fun e => by rw [hv] at e; have := e.2; rw [show scalO (some v) = scalV v from rfl, h.not_scalO] at this; cases this)]; exact hv) h1 (D.hosp h (by simpa only [AV.skc, AV.ho] using hp)) t
  | .agg _, _, _, _, _, _, _, _, hp, _, _ => by simp only [AV.skc] at hp
  | .tup _, _, _, _, _, _, _, _, hp, _, _ => by simp only [AV.skc] at hp
  | .ptr _ _, _, _, _, _, _, _, _, hp, _, _ => by simp only [AV.skc] at hp
  | .wsl _ _, _, _, _, _, _, _, _, hp, _, _ => by simp only [AV.skc] at hp
  | .wref _, _, _, _, _, _, _, _, hp, _, _ => by simp only [AV.skc] at hp
  | .hole, _, _, _, _, _, _, _, hp, _, _ => by simp only [AV.skc] at hp
  | .mark _, _, _, _, _, _, _, _, hp, _, _ => by simp only [AV.skc] at hp
  | .osl _ _ _, _, _, _, _, _, _, _, hp, _, _ => by simp only [AV.skc] at hp
  | .ref _, _, _, _, _, _, _, _, hp, _, _ => by simp only [AV.skc] at hp
  | .bsl _ _ _ _ _, _, _, _, _, _, _, _, hp, _, _ => by simp only [AV.skc] at hp
  | .fn _ _ _, _, _, _, _, _, _, _, hp, _, _ => by simp only [AV.skc] at hp
  | .junk, _, _, _, _, _, _, _, hp, _, _ => by simp only [AV.skc] at hp
theorem DMM.spc {H : View} : ∀ {es : List (List AV)} {b o : Nat}, DM H b o es.flatten → skM es → H.lo ≤ b → WM H.sp b o (spoM es).flatten
  | [], b, o, h, _, _ => by simp only [spoM]; exact .nil b o
  | l :: m, b, o, h, hp, hb => by
    simp only [spoM, List.flatten_cons] at h ⊢
    simp only [skM] at hp
    have h2 := DMM.spc (DM.append_right h) hp.2 hb
    rw [← spcL_len] at h2
    exact (DM.spc (DM.append_left h) hp.1 hb).glue h2
end
mutual
theorem R.spo {H : View} {ε : Env} : ∀ {a : AV} {v : Value}, R H ε v a → a.sk → R H.sp ε v a.spo
  | .s u, v, h, _ => by simp only [AV.spo]; rw [h.s_inv.1]; exact .d _ _ (.s u h.s_inv.2)
  | .sl sz es, v, h, hp => by simp only [AV.spo]; simp only [AV.sk] at hp; exact .d _ _ (D.spoSl h.sl_inv hp)
  | .ol sz es, v, h, hp => by simp only [AV.spo]; exact .d _ _ (D.hosp h.ol_inv (by simpa only [AV.sk, AV.ho] using hp))
  | .agg cs, v, h, hp => by
    simp only [AV.spo]; simp only [AV.sk] at hp
    obtain ⟨vs, rfl, hr⟩ := h.agg_inv
    exact .agg _ _ (RL.spo hr hp)
  | .tup cs, v, h, hp => by
    simp only [AV.spo]; simp only [AV.sk] at hp
    obtain ⟨vs, rfl, hr⟩ := h.tup_inv
    exact .tup _ _ (RL.spo hr hp)
  | .ptr id off, v, h, _ => by
    simp only [AV.spo]
    obtain ⟨b, rfl, hb⟩ := h.ptr_inv
    exact .ptr _ _ _ hb
  | .wsl _ _, _, _, hp => by simp only [AV.sk] at hp
  | .wref _, _, _, hp => by simp only [AV.sk] at hp
  | .hole, _, _, hp => by simp only [AV.sk] at hp
  | .mark _, _, _, hp => by simp only [AV.sk] at hp
  | .osl _ _ _, _, _, hp => by simp only [AV.sk] at hp
  | .ref _, _, _, hp => by simp only [AV.sk] at hp
  | .bsl _ _ _ _ _, _, _, hp => by simp only [AV.sk] at hp
  | .fn _ _ _, _, _, hp => by simp only [AV.sk] at hp
  | .junk, _, _, hp => by simp only [AV.sk] at hp
theorem RL.spo {H : View} {ε : Env} : ∀ {cs : List AV} {vs : List Value}, RL H ε vs cs → skL cs → RL H.sp ε vs (spoL cs)
  | [], vs, h, _ => by simp only [spoL]; cases h; exact .nil
  | a :: l, vs, h, hp => by
    simp only [spoL]; simp only [skL] at hp
    cases h with | cons v _ vs _ h t => exact .cons _ _ _ _ (R.spo h hp.1) (RL.spo t hp.2)
end
section
variable {H H' : View} (hc : ∀ b o v, H b o = some v → H' b o = some v) (hl : H'.lo = H.lo) (hl2 : H'.lo2 = H.lo2)
include hc hl hl2
mutual
theorem D.hod : ∀ {a : AV} {v : Value}, D H v a → a.ho → D H' v a
  | .s u, v, h, _ => by cases h with | s _ h => exact .s _ h
  | .ol sz es, v, h, hp => by
    simp only [AV.ho] at hp
    rcases h.oslice2 with ⟨rfl, rfl⟩ | ⟨x, cap, rfl, rfl⟩ | ⟨b, off, cap, hv, hcap, hsz, hlo, hd⟩
    · exact .onil _
    · exact .oemp _ _ _
    · rw [hv]; exact .ol b off cap sz es hcap hsz (by rw [hl, hl2]; exact hlo) (DMM.hod hd hp)
  | .agg cs, v, h, hp => by simp only [AV.ho] at hp; cases h with | agg vs _ h => exact .agg _ _ (DL.hod h hp)
  | .tup cs, v, h, hp => by simp only [AV.ho] at hp; cases h with | tup vs _ h => exact .tup _ _ (DL.hod h hp)
  | .ptr _ _, _, h, _ => by cases h
  | .sl _ _, _, _, hp => by simp only [AV.ho] at hp
  | .wsl _ _, _, _, hp => by simp only [AV.ho] at hp
  | .wref _, _, _, hp => by simp only [AV.ho] at hp
  | .hole, _, _, hp => by simp only [AV.ho] at hp
  | .mark _, _, _, hp => by simp only [AV.ho] at hp
  | .osl _ _ _, _, _, hp => by simp only [AV.ho] at hp
  | .ref _, _, _, hp => by simp only [AV.ho] at hp
  | .bsl _ _ _ _ _, _, _, hp => by simp only [AV.ho] at hp
  | .fn _ _ _, _, _, hp => by simp only [AV.ho] at hp
  | .junk, _, _, hp => by simp only [AV.ho] at hp
theorem DL.hod : ∀ {cs : List AV} {vs : List Value}, DL H vs cs → hoL cs → DL H' vs cs
  | [], vs, h, _ => by cases h; exact .nil
  | a :: l, vs, h, hp => by
    simp only [hoL] at hp
    cases h with | cons v _ vs _ h t => exact .cons _ _ _ _ (D.hod h hp.1) (DL.hod t hp.2)
theorem DM.hod : ∀ {cs : List AV} {b o : Nat}, DM H b o cs → hoL cs → DM H' b o cs
  | [], b, o, h, _ => .nil b o
  | a :: l, b, o, h, hp => by
    simp only [hoL] at hp
    cases h with | cons _ _ v _ _ hv h1 h t => exact .cons _ _ v _ _ (hc _ _ _ hv) h1 (D.hod h hp.1) (DM.hod t hp.2)
theorem DMM.hod : ∀ {es : List (List AV)} {b o : Nat}, DM H b o es.flatten → hoM es → DM H' b o es.flatten
  | [], b, o, h, _ => .nil b o
  | l :: m, b, o, h, hp => by
    simp only [List.flatten_cons] at h ⊢
    simp only [hoM] at hp
    exact (DM.hod (DM.append_left h) hp.1).glue (DMM.hod (DM.append_right h) hp.2)
end
mutual
theorem R.hod {ε : Env} : ∀ {a : AV} {v : Value}, R H ε v a → a.ho → R H' ε v a
  | .s u, v, h, _ => by rw [h.s_inv.1]; exact .d _ _ (.s u h.s_inv.2)
  | .ol sz es, v, h, hp => .d _ _ (D.hod hc hl hl2 h.ol_inv hp)
  | .agg cs, v, h, hp => by
    simp only [AV.ho] at hp
    obtain ⟨vs, rfl, hr⟩ := h.agg_inv
    exact .agg _ _ (RL.hod hr hp)
  | .tup cs, v, h, hp => by
    simp only [AV.ho] at hp
    obtain ⟨vs, rfl, hr⟩ := h.tup_inv
    exact .tup _ _ (RL.hod hr hp)
  | .ptr id off, v, h, _ => by
    obtain ⟨b, rfl, hb⟩ := h.ptr_inv
    exact .ptr _ _ _ hb
  | .sl _ _, _, _, hp => by simp only [AV.ho] at hp
  | .wsl _ _, _, _, hp => by simp only [AV.ho] at hp
  | .wref _, _, _, hp => by simp only [AV.ho] at hp
  | .hole, _, _, hp => by simp only [AV.ho] at hp
  | .mark _, _, _, hp => by simp only [AV.ho] at hp
  | .osl _ _ _, _, _, hp => by simp only [AV.ho] at hp
  | .ref _, _, _, hp => by simp only [AV.ho] at hp
  | .bsl _ _ _ _ _, _, _, hp => by simp only [AV.ho] at hp
  | .fn _ _ _, _, _, hp => by simp only [AV.ho] at hp
  | .junk, _, _, hp => by simp only [AV.ho] at hp
theorem RL.hod {ε : Env} : ∀ {cs : List AV} {vs : List Value}, RL H ε vs cs → hoL cs → RL H' ε vs cs
  | [], vs, h, _ => by cases h; exact .nil
  | a :: l, vs, h, hp => by
    simp only [hoL] at hp
    cases h with | cons v _ vs _ h t => exact .cons _ _ _ _ (R.hod h hp.1) (RL.hod t hp.2)
end
end

def skS : List (Nat × AV) → Prop
  | [] => True
  | (_, a) :: l => a.sk ∧ skS l
def skB : List (Nat × List AV) → Prop
  | [] => True
  | (_, a) :: l => skL a ∧ skB l
def hoS : List (Nat × AV) → Prop
  | [] => True
  | (_, a) :: l => a.ho ∧ hoS l
def hoB : List (Nat × List AV) → Prop
  | [] => True
  | (_, a) :: l => hoL a ∧ hoB l
def spoS : List (Nat × AV) → List (Nat × AV)
  | [] => []
  | (s, a) :: l => (s, a.spo) :: spoS l
def spoB : List (Nat × List AV) → List (Nat × Ob)
  | [] => []
  | (s, a) :: l => (s, .box (spoL a)) :: spoB l
theorem spoS_lookup : ∀ {S : List (Nat × AV)} {i : Nat}, (spoS S).lookup i = (S.lookup i).map AV.spo
  | [], i => rfl
  | (s, a) :: l, i => by
    by_cases h : i = s
    · subst h; simp [spoS]
    · have hb : (i == s) = false := by simpa using h
      simp only [spoS, List.lookup_cons, hb]; exact spoS_lookup
theorem spoB_lookup : ∀ {S : List (Nat × List AV)} {i : Nat}, (spoB S).lookup i = (S.lookup i).map fun cs => .box (spoL cs)
  | [], i => rfl
  | (s, a) :: l, i => by
    by_cases h : i = s
    · subst h; simp [spoB]
    · have hb : (i == s) = false := by simpa using h
      simp only [spoB, List.lookup_cons, hb]; exact spoB_lookup
theorem skS_lookup : ∀ {S : List (Nat × AV)} {i : Nat} {a : AV}, skS S → S.lookup i = some a → a.sk
  | (s, u) :: l, i, a, h, hl => by
    simp only [skS] at h
    by_cases hi : i = s
    · subst hi; simp at hl; subst hl; exact h.1
    · have : (i == s) = false := by simpa using hi
      rw [List.lookup_cons, this] at hl
      exact skS_lookup h.2 hl
theorem skB_lookup : ∀ {S : List (Nat × List AV)} {i : Nat} {a : List AV}, skB S → S.lookup i = some a → skL a
  | (s, u) :: l, i, a, h, hl => by
    simp only [skB] at h
    by_cases hi : i = s
    · subst hi; simp at hl; subst hl; exact h.1
    · have : (i == s) = false := by simpa using hi
      rw [List.lookup_cons, this] at hl
      exact skB_lookup h.2 hl
theorem hoS_lookup : ∀ {S : List (Nat × AV)} {i : Nat} {a : AV}, hoS S → S.lookup i = some a → a.ho
  | (s, u) :: l, i, a, h, hl => by
    simp only [hoS] at h
    by_cases hi : i = s
    · subst hi; simp at hl; subst hl; exact h.1
    · have : (i == s) = false := by simpa using hi
      rw [List.lookup_cons, this] at hl
      exact hoS_lookup h.2 hl
theorem hoB_lookup : ∀ {S : List (Nat × List AV)} {i : Nat} {a : List AV}, hoB S → S.lookup i = some a → hoL a
  | (s, u) :: l, i, a, h, hl => by
    simp only [hoB] at h
    by_cases hi : i = s
    · subst hi; simp at hl; subst hl; exact h.1
    · have : (i == s) = false := by simpa using hi
      rw [List.lookup_cons, this] at hl
      exact hoB_lookup h.2 hl

def SpoilK (K : Exit → St → Prop) : Exit → St → Prop := fun e σ =>
  ∃ (S : List (Nat × AV)) (B : List (Nat × List AV)), hoS S ∧ hoB B ∧ leS σ S ∧ leB σ (boxB B) ∧ K e ⟨wrs (fun _ => .junk) S, wor (fun _ => none) (boxB B), σ.nx⟩

theorem w_spoil {P : Program} {N : Nat} {tm : Nat → AV} {ob : Nat → Option Ob} {nx : Nat} {K : Exit → St → Prop} {code : Code} (S : List (Nat × AV)) (B : List (Nat × List AV)) (id : Nat) {cs0 : List AV} (hmk : tm 1000000 = .mark id) (h16 : 16 ≤ id) (hid : ob id = some (.box cs0))
    (hS : leS ⟨tm, ob, nx⟩ S) (hB : leB ⟨tm, ob, nx⟩ (boxB B)) (hSp : skS S) (hBp : skB B)
    (h : Later P N code (SpoilK K) ⟨wrs (fun _ => .junk) (spoS S), wor (fun _ => none) (spoB B), nx⟩) : Tri P N code ⟨tm, ob, nx⟩ K := by
  intro c H ε a w hc hi Q hQ
  have hm := hi.mem
  -- what is new was made in this frame
  have hlo : c.w0.heap.size ≤ H.lo := by
    have h1 := hi.tm 1000000
    rw [show (⟨tm, ob, nx⟩ : St).tm 1000000 = .mark id from hmk] at h1
    obtain ⟨b, hε, hb⟩ := h1.mark_inv
    rcases hm.own id (show ob id ≠ none by rw [hid]; simp) b (by rw [hε]; rfl) with h2 | ⟨_, h2⟩
    · omega
    · rw [hm.low id h16] at h2; cases h2
  have hob : ∀ i x, wor (fun _ => none) (spoB B) i = some x → ∃ cs, x = .box (spoL cs) ∧ B.lookup i = some cs ∧ ObLe (ob i) (.box cs) := fun i x hx => by
    rw [wor_lookup, spoB_lookup] at hx
    cases hl : B.lookup i with
    | none => rw [hl] at hx; cases hx
    | some cs =>
      rw [hl] at hx; cases hx
      exact ⟨cs, rfl, rfl, leB_lookup hB (by rw [boxB_lookup, hl]; rfl)⟩
  have hne : ∀ i, wor (fun _ => none) (spoB B) i ≠ none → ob i ≠ none := fun i hi' e => by
    cases hx : wor (fun _ => none) (spoB B) i with
    | none => exact hi' hx
    | some x => obtain ⟨cs, _, _, h3⟩ := hob i x hx; rw [e] at h3; exact h3
  have hnbox : ∀ i, wor (fun _ => none) (spoB B) i ≠ none → ∀ b, blkOf (ε i) = some b → ∀ o, H b o = none := fun i hi' b hb o => by
    cases hx : wor (fun _ => none) (spoB B) i with
    | none => exact absurd hx hi'
    | some x =>
      obtain ⟨cs, _, _, h3⟩ := hob i x hx
      obtain ⟨b', arr, T, h1, _, _, _, h5⟩ := h3.ok fun z hz => hm.objs i z hz
      rw [h1] at hb; cases hb
      exact h5 o
  have hwb : ∀ k, k < c.w0.heap.size → H.sp.wb k → H.wb k := fun k hk ⟨o, ho⟩ => by
    rcases ho with ho | ⟨ho, _⟩
    · exact ⟨o, ho⟩
    · omega
  have hwb2 : ∀ k, H.wb k → H.sp.wb k := fun k ⟨o, ho⟩ => ⟨o, .inl ho⟩
  have hscal : ∀ v, scalV v = true → v.oneCell' = true := fun v hv => by cases v <;> first | rfl | cases hv
  have hi2 : Inv { c with H0 := { c.H0 with wr := H.sp.wr } } H.sp ε ⟨wrs (fun _ => .junk) (spoS S), wor (fun _ => none) (spoB B), nx⟩ a w := by
    refine ⟨hi.sz, hi.df, fun i => ?_, ?_, hi.dom⟩
    · show R _ _ _ (wrs (fun _ => .junk) (spoS S) i)
      rw [wrs_lookup, spoS_lookup]
      cases hl : S.lookup i with
      | none => exact .junk _
      | some x => exact R.spo (R.le (leS_lookup hS hl) (hi.tm i)) (skS_lookup hSp hl)
    · exact {
        view := fun b o v h => hm.view b o v (View.sp_le h)
        objs := fun i x hx => by
          obtain ⟨cs, rfl, hl, hle⟩ := hob i x hx
          obtain ⟨b, arr, T, h1, h2, h3, h4, h5⟩ := hle.ok fun z hz => hm.objs i z hz
          exact ⟨b, arr, T, h1, h2, RL.spo h3 (skB_lookup hBp hl), h4, fun o => by rw [View.sp_f, h5 o, if_neg (fun e => by cases e.2)]⟩
        dj := fun i j h1 h2 => hm.dj i j (hne i h1) (hne j h2)
        own := fun i h1 => hm.own i (hne i h1)
        os := hm.os
        tape := hm.tape
        output := hm.output
        size := hm.size
        block := fun k hk hS hz => hm.block k hk hS (fun h => hz (hwb2 k h))
        hle := ⟨fun b o v h => by
          have hb : b < c.w0.heap.size := by
            rcases Nat.lt_or_ge b c.w0.heap.size with h' | h'
            · exact h'
            · have := hm.top b o h'; rw [show c.H0 b o = some v from h] at this; cases this
          rw [View.sp_lo o (by omega)]; exact hm.hle.cells b o v h, hm.hle.lo, hm.hle.lo2, rfl⟩
        hold := fun b o hb hS hz => by
          have hb' : b < c.w0.heap.size := hb
          rw [View.sp_lo o (by omega)]; exact hm.hold b o hb hS (fun h => hz (hwb2 b h))
        ele := hm.ele
        low := hm.low
        top := hm.top
        lo := hm.lo
        fz := fun b o v h hz => by
          refine hm.fz b o v (View.sp_le h) ?_
          rcases hz with hz | hz | ⟨o', hz | ⟨hz, _⟩⟩
          · exact .inl hz
          · exact .inr (.inl hz)
          · exact .inr (.inr ⟨o', hz⟩)
          · exact .inl (by omega)
        wr := fun b o h => by
          rcases h with h | ⟨h, hs⟩
          · obtain ⟨q1, q2, q3⟩ := hm.wr b o h
            exact ⟨by rw [View.sp_f, q1, if_neg (fun e => by cases e.2)], q2, fun i h1 => q3 i (hne i h1)⟩
          · refine ⟨by rw [View.sp_f, if_pos ⟨h, hs⟩], ?_, fun i h1 hb => ?_⟩
            · cases hv : H b o with
              | none => rw [hv] at hs; cases hs
              | some v => rw [hv] at hs; exact ⟨v, hm.view b o v hv, hscal v hs, hm.fz b o v hv (.inl (by omega))⟩
            · have := hnbox i h1 b hb o
              rw [this] at hs; cases hs }
  refine h { c with H0 := { c.H0 with wr := H.sp.wr } } H.sp ε a w hc hi2 Q fun e σ' H' ε' a' w' hK hi' => ?_
  obtain ⟨S', B', hS1, hB1, hS2, hB2, hK⟩ := hK
  have hm' := hi'.mem
  have hwr : H'.wr = H.sp.wr := hm'.hle.wr
  have hwb3 : ∀ k, k < c.w0.heap.size → H'.wb k → H.wb k := fun k hk ⟨o, ho⟩ => hwb k hk ⟨o, by rw [← hwr]; exact ho⟩
  have hwr2 : ∀ b o, H.wr b o → H'.wr b o := fun b o h => by rw [hwr]; exact .inl h
  have hob' : ∀ i x, wor (fun _ => none) (boxB B') i = some x → ∃ cs, x = .box cs ∧ B'.lookup i = some cs ∧ ObLe (σ'.ob i) (.box cs) := fun i x hx => by
    rw [wor_lookup, boxB_lookup] at hx
    cases hl : B'.lookup i with
    | none => rw [hl] at hx; cases hx
    | some cs =>
      rw [hl] at hx; cases hx
      exact ⟨cs, rfl, rfl, leB_lookup hB2 (by rw [boxB_lookup, hl]; rfl)⟩
  have hne' : ∀ i, wor (fun _ => none) (boxB B') i ≠ none → σ'.ob i ≠ none := fun i hi' e => by
    cases hx : wor (fun _ => none) (boxB B') i with
    | none => exact hi' hx
    | some x => obtain ⟨cs, _, _, h3⟩ := hob' i x hx; rw [e] at h3; exact h3
  refine hQ e _ { H' with wr := c.H0.wr } ε' a' w' hK ⟨hi'.sz, hi'.df, fun i => ?_, ?_, hi'.dom⟩
  · show R _ _ _ (wrs (fun _ => .junk) S' i)
    rw [wrs_lookup]
    cases hl : S'.lookup i with
    | none => exact .junk _
    | some x => exact R.hod (H := H') (H' := { H' with wr := c.H0.wr }) (fun _ _ _ h => h) rfl rfl (R.le (leS_lookup hS2 hl) (hi'.tm i)) (hoS_lookup hS1 hl)
  · have hcw : c.H0.wr = H.wr := hm.hle.wr.symm
    have hback : ∀ b o, c.H0.wr b o → H'.wr b o := fun b o h => hwr2 b o (by rw [← hcw]; exact h)
    exact {
      view := hm'.view
      objs := fun i x hx => by
        obtain ⟨cs, rfl, hl, hle⟩ := hob' i x hx
        obtain ⟨b, arr, T, h1, h2, h3, h4, h5⟩ := hle.ok fun z hz => hm'.objs i z hz
        exact ⟨b, arr, T, h1, h2, RL.hod (H := H') (H' := { H' with wr := c.H0.wr }) (fun _ _ _ h => h) rfl rfl h3 (hoB_lookup hB1 hl), h4, h5⟩
      dj := fun i j h1 h2 => hm'.dj i j (hne' i h1) (hne' j h2)
      own := fun i h1 => hm'.own i (hne' i h1)
      os := hm'.os
      tape := hm'.tape
      output := hm'.output
      size := hm'.size
      block := fun k hk hS hz => hm'.block k hk hS (fun h => hz (by
        obtain ⟨o, ho⟩ := hwb3 k hk h
        exact ⟨o, by show c.H0.wr k o; rw [hcw]; exact ho⟩))
      hle := ⟨hm'.hle.cells, hm'.hle.lo, hm'.hle.lo2, rfl⟩
      hold := fun b o hb hS hz => hm'.hold b o hb hS (fun h => hz (by
        obtain ⟨o, ho⟩ := hwb3 b hb h
        exact ⟨o, by show c.H0.wr b o; rw [hcw]; exact ho⟩))
      ele := hm'.ele
      low := hm'.low
      top := hm'.top
      lo := hm'.lo
      fz := fun b o v h hz => hm'.fz b o v h (hz.imp_right (Or.imp_right fun ⟨o', ho'⟩ => ⟨o', hback b o' ho'⟩))
      wr := fun b o h => by
        obtain ⟨q1, q2, q3⟩ := hm'.wr b o (hback b o h)
        exact ⟨q1, q2, fun i h1 => q3 i (hne' i h1)⟩ }
theorem round_out {K : Exit → St → Prop} {e : Exit} {tm : Nat → AV} {ob : Nat → Option Ob} {nx : Nat} (S : List (Nat × AV)) (B : List (Nat × List AV)) (hS : leS ⟨tm, ob, nx⟩ (oldS S)) (hB : leB ⟨tm, ob, nx⟩ (oldB B)) (hSp : plS S) (hBp : plB B)
    (h : Out K e ⟨wrs (fun _ => .junk) S, wor (fun _ => none) (boxB B), nx⟩) : Out (RoundK K) e ⟨tm, ob, nx⟩ := ⟨S, B, hSp, hBp, hS, hB, h⟩
theorem spoil_out {K : Exit → St → Prop} {e : Exit} {tm : Nat → AV} {ob : Nat → Option Ob} {nx : Nat} (S : List (Nat × AV)) (B : List (Nat × List AV)) (hS : leS ⟨tm, ob, nx⟩ S) (hB : leB ⟨tm, ob, nx⟩ (boxB B)) (hSp : hoS S) (hBp : hoB B)
    (h : Out K e ⟨wrs (fun _ => .junk) S, wor (fun _ => none) (boxB B), nx⟩) : Out (SpoilK K) e ⟨tm, ob, nx⟩ := ⟨S, B, hSp, hBp, hS, hB, h⟩
end Go.Sy
end

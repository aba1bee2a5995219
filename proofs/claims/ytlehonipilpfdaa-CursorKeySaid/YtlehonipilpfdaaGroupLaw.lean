/- What groups of frames are: right ones, that cover what came. No condition. -/
import Derived.Test.YtlehonipilpfdaaGroupTells
namespace Go.Proofs.Ytlehonipilpfdaa
open Go Go.Sy
set_option linter.unusedSimpArgs false
set_option linter.unusedVariables false
theorem goE_app : ∀ (l : List Fr) (p : Option Fr) (f : Fr), goE p l = 0 → frameE f = 0 → badG (match l.getLast? with | some x => some x | none => p) f = false → goE p (l ++ [f]) = 0
  | [], p, f, _, hf, hb => by
    simp only [List.getLast?_nil] at hb
    simp [goE, hf, hb]
  | x :: l, p, f, h, hf, hb => by
    simp only [goE] at h
    by_cases h1 : frameE x = 0
    · rw [if_neg (by simp [h1])] at h
      by_cases h2 : badG p x = true
      · rw [if_pos h2] at h; cases h
      · rw [if_neg h2] at h
        simp only [List.cons_append, goE]
        rw [if_neg (by simp [h1]), if_neg h2]
        refine goE_app l (some x) f h hf ?_
        cases hl : l.getLast? with
        | none =>
          have : l = [] := by simpa using hl
          subst this
          simpa using hb
        | some y =>
          have : (x :: l).getLast? = some y := by rw [List.getLast?_cons]; simp [hl]
          rw [this] at hb; exact hb
    · rw [if_pos h1] at h; exact absurd h h1
theorem lastT_get {g : List Fr} (h : g ≠ []) : ∃ x, g.getLast? = some x ∧ lastT g = x.time := by
  have hl := List.length_pos_iff.2 h
  refine ⟨g[g.length - 1]'(by omega), ?_, ?_⟩
  · rw [List.getLast?_eq_getElem?]; simp
  · unfold lastT; simp [show g.length - 1 < g.length by omega]
/-- A group is open, or right. -/
def OkG (g : List Fr) : Prop := g = [] ∨ groupE g = 0
theorem okG_one {f : Fr} (hf : frameE f = 0) (hk : f.key = true) : groupE [f] = 0 := by
  simp [groupE, goE, hf, badG, hk]
theorem okG_grow {g : List Fr} {f : Fr} (h : OkG g) (hf : frameE f = 0) : OkG (growS g f) := by
  unfold growS
  split
  · rename_i hk; exact .inr (okG_one hf hk)
  · rename_i hk
    split
    · rename_i hc
      right
      have hg : g ≠ [] := fun e => by subst e; simp at hc
      have h1 : groupE g = 0 := by rcases h with h | h; exact absurd h hg; exact h
      obtain ⟨_, h2, h3, _⟩ := groupE_ok h1
      rw [groupE_go (by simp) (by simp; omega)]
      obtain ⟨x, hx, hlx⟩ := lastT_get hg
      refine goE_app g none f h3 hf ?_
      rw [hx]
      have hk' : f.key = false := by simpa using hk
      simp [badG, hk']; omega
    · exact h
theorem okG_done {g : List Fr} {done : List (List Fr)} {f : Fr} (h : OkG g) (hd : ∀ x ∈ done, groupE x = 0) : ∀ x ∈ doneS g done f, groupE x = 0 := by
  unfold doneS
  split
  · rename_i hc
    intro x hx
    rcases List.mem_append.1 hx with hx | hx
    · exact hd x hx
    · simp at hx; subst hx
      rcases h with h | h
      · subst h; simp at hc
      · exact h
  · exact hd
theorem eachG_ok : ∀ (l : List Fr) (g : List Fr) (done : List (List Fr)), OkG g → (∀ x ∈ done, groupE x = 0) → OkG (eachG g done l).1 ∧ ∀ x ∈ (eachG g done l).2.1, groupE x = 0
  | [], _, _, h, hd => ⟨h, hd⟩
  | f :: l, g, done, h, hd => by
    rw [eachG]
    split
    · rename_i hf; exact eachG_ok l _ _ (okG_grow h hf) (okG_done h hd)
    · exact ⟨h, hd⟩
theorem allG_ok (l : List Fr) : OkG (allG l).2.1 ∧ ∀ x ∈ (allG l).1, groupE x = 0 := by
  have h := eachG_ok l [] [] (.inl rfl) (by simp)
  unfold allG
  split
  · exact ⟨.inl rfl, by simp⟩
  · split
    · exact h
    · exact ⟨.inl rfl, by simp⟩
theorem allG_err {l : List Fr} (h : ¬ (allG l).2.2 = 0) : (allG l).1 = [] ∧ (allG l).2.1 = [] := by
  unfold allG at h ⊢
  split
  · simp
  · rename_i h1
    rw [if_neg h1] at h
    split
    · rename_i h2; rw [if_pos h2] at h; simp at h
    · simp
/-- Groups, the open one, too. -/
def withOpen (done : List (List Fr)) (g : List Fr) : List (List Fr) := if 0 < g.length then done ++ [g] else done
def NoKey (l : List Fr) : Prop := ∀ x ∈ l, x.key = false
/-- The groups cover a row: each begins with a whole one, its others are of those up to the next whole one. -/
inductive Cov : List Fr → List (List Fr) → Prop
  | nil (s : List Fr) (h : NoKey s) : Cov s []
  | cons (pre : List Fr) (f : Fr) (r q tail : List Fr) (gs : List (List Fr)) (h1 : NoKey pre) (h2 : f.key = true) (h3 : NoKey r) (h4 : q.Sublist r) (h5 : Cov tail gs) : Cov (pre ++ f :: (r ++ tail)) ((f :: q) :: gs)
theorem Cov.skip {s : List Fr} {gs : List (List Fr)} {x : Fr} (h : Cov s gs) (hx : x.key = false) : Cov (x :: s) gs := by
  cases h with
  | nil s h => exact .nil _ (by intro y hy; rcases List.mem_cons.1 hy with rfl | hy; exact hx; exact h y hy)
  | cons pre f r q tail gs h1 h2 h3 h4 h5 =>
    have := Cov.cons (x :: pre) f r q tail gs (by intro y hy; rcases List.mem_cons.1 hy with rfl | hy; exact hx; exact h1 y hy) h2 h3 h4 h5
    simpa using this
theorem Cov.skips {r s : List Fr} {gs : List (List Fr)} (h : Cov s gs) (hr : NoKey r) : Cov (r ++ s) gs := by
  induction r with
  | nil => exact h
  | cons x r ih => exact (ih fun y hy => hr y (by simp [hy])).skip (hr x (by simp))
theorem eachG_cov : ∀ (l : List Fr) (g : List Fr) (done : List (List Fr)), (eachG g done l).2.2 = 0 → match g with
    | [] => ∃ gs, Cov l gs ∧ withOpen (eachG g done l).2.1 (eachG g done l).1 = done ++ gs
    | f :: q0 => ∃ q r tail gs, l = r ++ tail ∧ NoKey r ∧ q.Sublist r ∧ Cov tail gs ∧ withOpen (eachG g done l).2.1 (eachG g done l).1 = done ++ ((f :: (q0 ++ q)) :: gs)
  | [], g, done, _ => by
    cases g with
    | nil => exact ⟨[], .nil _ (by intro x hx; cases hx), by simp [eachG, withOpen]⟩
    | cons f q0 => exact ⟨[], [], [], [], rfl, (fun _ h => by cases h), .slnil, .nil _ (fun _ h => by cases h), by simp [eachG, withOpen]⟩
  | x :: l, g, done, h => by
    have hx : frameE x = 0 := by
      by_cases hx : frameE x = 0
      · exact hx
      · rw [eachG, if_neg hx] at h; exact absurd h hx
    have he : eachG g done (x :: l) = eachG (growS g x) (doneS g done x) l := by rw [eachG, if_pos hx]
    rw [he] at h ⊢
    have ih := eachG_cov l (growS g x) (doneS g done x) h
    by_cases hk : x.key = true
    · have e1 : growS g x = [x] := if_pos hk
      rw [e1] at ih ⊢
      obtain ⟨q, r, tail, gs, rfl, h1, h2, h3, h4⟩ := ih
      have hc : Cov (x :: (r ++ tail)) ((x :: q) :: gs) := Cov.cons [] x r q tail gs (by intro y hy; cases hy) hk h1 h2 h3
      cases g with
      | nil =>
        have e2 : doneS [] done x = done := if_neg (by simp)
        rw [e2] at h4 ⊢
        exact ⟨(x :: q) :: gs, hc, by simpa using h4⟩
      | cons f q0 =>
        have e2 : doneS (f :: q0) done x = done ++ [f :: q0] := if_pos ⟨hk, by simp⟩
        rw [e2] at h4 ⊢
        exact ⟨[], [], x :: (r ++ tail), (x :: q) :: gs, rfl, (fun _ h => by cases h), .slnil, hc, by simpa using h4⟩
    · have hk' : x.key = false := by simpa using hk
      have e2 : doneS g done x = done := if_neg (by simp [hk'])
      rw [e2] at ih ⊢
      cases g with
      | nil =>
        have e1 : growS [] x = [] := by unfold growS; rw [if_neg hk, if_neg (by simp)]
        rw [e1] at ih ⊢
        obtain ⟨gs, h1, h2⟩ := ih
        exact ⟨gs, h1.skip hk', h2⟩
      | cons f q0 =>
        by_cases hc : 0 < (f :: q0).length ∧ (f :: q0).length < 6 ∧ lastT (f :: q0) ≤ x.time
        · have e1 : growS (f :: q0) x = f :: (q0 ++ [x]) := by unfold growS; rw [if_neg hk, if_pos hc]; rfl
          rw [e1] at ih ⊢
          obtain ⟨q, r, tail, gs, rfl, h1, h2, h3, h4⟩ := ih
          exact ⟨x :: q, x :: r, tail, gs, rfl, (by intro y hy; rcases List.mem_cons.1 hy with rfl | hy; exact hk'; exact h1 y hy), h2.cons_cons x, h3, by simpa using h4⟩
        · have e1 : growS (f :: q0) x = f :: q0 := by unfold growS; rw [if_neg hk, if_neg hc]
          rw [e1] at ih ⊢
          obtain ⟨q, r, tail, gs, rfl, h1, h2, h3, h4⟩ := ih
          exact ⟨q, x :: r, tail, gs, rfl, (by intro y hy; rcases List.mem_cons.1 hy with rfl | hy; exact hk'; exact h1 y hy), h2.cons x, h3, h4⟩
theorem allG_cov {l : List Fr} (h : (allG l).2.2 = 0) : Cov l (withOpen (allG l).1 (allG l).2.1) := by
  unfold allG at h ⊢
  by_cases h1 : 100 < l.length
  · rw [if_pos h1] at h; cases h
  · rw [if_neg h1] at h ⊢
    by_cases h2 : (eachG [] [] l).2.2 = 0
    · rw [if_pos h2]
      obtain ⟨gs, h3, h4⟩ := eachG_cov l [] [] h2
      simp only
      rw [h4]; simpa using h3
    · rw [if_neg h2] at h; exact absurd h h2
/-- In the middle of a group. -/
def Mid (s x : List Fr) (k : Nat) (gs : List (List Fr)) : Prop := if k = 0 then Cov s (x :: gs) else ∃ r tail, s = r ++ tail ∧ NoKey r ∧ (x.drop k).Sublist r ∧ Cov tail gs
theorem mid_step {s x : List Fr} {k : Nat} {gs : List (List Fr)} {f : Fr} (h : Mid s x k gs) (hf : x[k]? = some f) : ∃ y s', s = y :: s' ∧ ((y = f ∧ y.key = decide (k = 0)) → Mid s' x (k + 1) gs) ∧ (¬ (y = f ∧ y.key = decide (k = 0)) → y.key = false ∧ Mid s' x k gs) := by
  unfold Mid at h
  split at h
  · rename_i hk
    subst hk
    cases h with
    | cons pre f' r q tail gs h1 h2 h3 h4 h5 =>
      simp at hf; subst hf
      cases pre with
      | nil =>
        refine ⟨f', r ++ tail, rfl, fun _ => ?_, fun hn => absurd ⟨rfl, by simp [h2]⟩ hn⟩
        unfold Mid
        rw [if_neg (by omega)]
        exact ⟨r, tail, rfl, h3, by simpa using h4, h5⟩
      | cons y pre =>
        have hy := h1 y (by simp)
        refine ⟨y, pre ++ f' :: (r ++ tail), rfl, fun hc => ?_, fun _ => ⟨hy, ?_⟩⟩
        · have := hc.2; rw [hy] at this; simp at this
        · unfold Mid
          rw [if_pos rfl]
          exact .cons pre f' r q tail gs (fun z hz => h1 z (by simp [hz])) h2 h3 h4 h5
  · rename_i hk
    obtain ⟨r, tail, rfl, h1, h2, h3⟩ := h
    have hd := drop_at hf
    rw [hd] at h2
    cases r with
    | nil => cases h2
    | cons y r =>
      have hy := h1 y (by simp)
      have h1' : NoKey r := fun z hz => h1 z (by simp [hz])
      refine ⟨y, r ++ tail, rfl, fun hc => ?_, fun hn => ⟨hy, ?_⟩⟩
      · unfold Mid
        rw [if_neg (by omega)]
        refine ⟨r, tail, rfl, h1', ?_, h3⟩
        cases h2 with
        | cons _ h => exact (List.sublist_cons_self _ _).trans h
        | cons_cons _ h => exact h
      · unfold Mid
        rw [if_neg hk]
        refine ⟨r, tail, rfl, h1', ?_, h3⟩
        rw [hd]
        cases h2 with
        | cons _ h => exact h
        | cons_cons _ h => exact absurd ⟨rfl, by rw [hy]; simp [hk]⟩ hn
theorem mid_at {l x : List Fr} {a k : Nat} {gs : List (List Fr)} {f : Fr} (h : Mid (l.drop a) x k gs) (hf : x[k]? = some f) : ∃ y, l[a]? = some y ∧ ((y = f ∧ y.key = decide (k = 0)) → Mid (l.drop (a + 1)) x (k + 1) gs) ∧ (¬ (y = f ∧ y.key = decide (k = 0)) → y.key = false ∧ Mid (l.drop (a + 1)) x k gs) := by
  obtain ⟨y, s', h1, h2, h3⟩ := mid_step h hf
  have hy : l[a]? = some y := by rw [← List.head?_drop, h1]; rfl
  have hs : l.drop (a + 1) = s' := by rw [← List.tail_drop, h1]; rfl
  rw [hs]
  exact ⟨y, hy, h2, h3⟩
theorem mid_end {s x : List Fr} {k : Nat} {gs : List (List Fr)} (h : Mid s x k gs) (h0 : x ≠ []) (hk : x.length ≤ k) : Cov s gs := by
  have : k ≠ 0 := fun e => by subst e; exact h0 (List.eq_nil_of_length_eq_zero (by omega))
  unfold Mid at h
  rw [if_neg this] at h
  obtain ⟨r, tail, rfl, h1, _, h3⟩ := h
  exact h3.skips h1
theorem cov_nil {s : List Fr} (h : Cov s []) : NoKey s := by cases h with | nil _ h => exact h
theorem withOpen_ok (l : List Fr) : ∀ x ∈ withOpen (allG l).1 (allG l).2.1, groupE x = 0 := by
  have h := allG_ok l
  intro x hx
  unfold withOpen at hx
  split at hx
  · rename_i hp
    rcases List.mem_append.1 hx with hx | hx
    · exact h.2 x hx
    · simp at hx; subst hx
      rcases h.1 with h | h
      · rw [h] at hp; simp at hp
      · exact h
  · exact h.2 x hx
end Go.Proofs.Ytlehonipilpfdaa

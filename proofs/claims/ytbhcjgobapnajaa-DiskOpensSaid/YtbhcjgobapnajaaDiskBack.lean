/- Records come back as they were written; beginnings of disks; what is appended is there; plain. No condition. -/
import Derived.Test.YtbhcjgobapnajaaDiskRight
namespace Go.Proofs.Ytbhcjgobapnajaa
open Go Go.Sy
set_option maxRecDepth 4000
set_option linter.unusedSimpArgs false
set_option linter.unusedVariables false
theorem dk_midL (s : ByteArray) (o k : Nat) : (mid s o k).data.toList = (s.data.toList.drop o).take k := by
  unfold mid
  rw [ByteArray.data_extract, Array.toList_extract, List.extract_eq_take_drop]
  congr 1; omega
theorem dk_ext {a b : ByteArray} (h : a.data.toList = b.data.toList) : a = b := by
  apply ByteArray.ext
  rw [← Array.toArray_toList (xs := a.data), ← Array.toArray_toList (xs := b.data), h]
theorem dk_len (a : ByteArray) : a.data.toList.length = a.size := by rw [Array.length_toList]; rfl
def Has (s : ByteArray) (o : Nat) (b : ByteArray) : Prop := o + b.size ≤ s.size ∧ mid s o b.size = b
theorem has_left {s a b : ByteArray} {o : Nat} (h : Has s o (a ++ b)) : Has s o a := by
  obtain ⟨h1, h2⟩ := h
  rw [ByteArray.size_append] at h1 h2
  refine ⟨by omega, dk_ext ?_⟩
  have h3 := congrArg (fun x : ByteArray => x.data.toList.take a.size) h2
  simp only [dk_midL, ByteArray.data_append, Array.toList_append] at h3
  rw [dk_midL]
  rw [List.take_take, show min a.size (a.size + b.size) = a.size by omega, List.take_append_of_le_length (by rw [dk_len]; exact Nat.le_refl _), List.take_of_length_le (l := a.data.toList) (by rw [dk_len]; exact Nat.le_refl _)] at h3
  exact h3
theorem has_right {s a b : ByteArray} {o : Nat} (h : Has s o (a ++ b)) : Has s (o + a.size) b := by
  obtain ⟨h1, h2⟩ := h
  rw [ByteArray.size_append] at h1 h2
  refine ⟨by omega, dk_ext ?_⟩
  have h3 := congrArg (fun x : ByteArray => x.data.toList.drop a.size) h2
  simp only [dk_midL, ByteArray.data_append, Array.toList_append] at h3
  rw [dk_midL]
  rw [List.drop_take, List.drop_drop, show a.size + b.size - a.size = b.size by omega, List.drop_append_of_le_length (l₁ := a.data.toList) (by rw [dk_len]; exact Nat.le_refl _), List.drop_of_length_le (l := a.data.toList) (by rw [dk_len]; exact Nat.le_refl _), List.nil_append] at h3
  exact h3
theorem has_self (b : ByteArray) : Has b 0 b := ⟨by omega, dk_ext (by rw [dk_midL, List.drop_zero, List.take_of_length_le (by rw [dk_len]; exact Nat.le_refl _)])⟩
theorem has_app (a b : ByteArray) : Has (a ++ b) a.size b := by
  have := has_right (has_self (a ++ b))
  rwa [Nat.zero_add] at this
theorem numTo_beN : ∀ (k : Nat) (n : Int), 0 ≤ n → n < 256 ^ k → (numTo (beN n k).data.toList : Int) = n
  | 0, n, h0, h1 => by simp at h1; simp [beN, numTo]; omega
  | k + 1, n, h0, h1 => by
    have ih := numTo_beN k (n / 256) (by omega) (by rw [Int.pow_succ] at h1; omega)
    have e : (beN n (k + 1)).data.toList = (beN (n / 256) k).data.toList ++ [uN (n % 256)] := by
      rw [beN, ByteArray.data_append, Array.toList_append]
      simp [strOfNums]
    have e2 : (uN (n % 256)).toNat = (n % 256).toNat := by rw [UInt8.toNat_ofNat']; omega
    rw [e, numTo_snoc, e2]
    push_cast
    rw [ih]
    omega
theorem num_has {s : ByteArray} {o k : Nat} {n : Int} (h : Has s o (beN n k)) (h0 : 0 ≤ n) (h1 : n < 256 ^ k) : (num s o k : Int) = n := by
  obtain ⟨_, h3⟩ := h
  rw [beN_size] at h3
  rw [num, h3, numTo_beN k n h0 h1]
theorem at1_has {s : ByteArray} {o : Nat} {n : Int} (h : Has s o (beN n 1)) (h0 : 0 ≤ n) (h1 : n < 256) : (at1 s o : Int) = n := num_has (k := 1) h h0 (by simpa using h1)
theorem rdParts_cat {s : ByteArray} : ∀ (ps : List ByteArray) (o : Nat), (∀ p ∈ ps, p.size ≤ 8) → Has s o (cat (ps.flatMap partC)) → rdParts s ps.length o = some (ps, o + (cat (ps.flatMap partC)).size)
  | [], o, _, _ => rfl
  | p :: ps, o, h8, h => by
    have e : cat ((p :: ps).flatMap partC) = (beN p.size 1 ++ p) ++ cat (ps.flatMap partC) := by
      rw [List.flatMap_cons, cat_append, partC, cat_two]
    rw [e] at h ⊢
    have hp := h8 p List.mem_cons_self
    have h1 := has_left h
    have h2 := at1_has (has_left h1) (by omega) (by omega)
    have h3 := has_right h1
    rw [beN_size] at h3
    have h4 := has_right h
    rw [ByteArray.size_append, beN_size] at h4
    have h2 : at1 s o = p.size := by omega
    have ih := rdParts_cat ps (o + (1 + p.size)) (fun q hq => h8 q (List.mem_cons_of_mem _ hq)) h4
    rw [List.length_cons, rdParts, if_pos (by rw [h2]; exact ⟨by have := h3.1; omega, h3.1⟩), h2, show o + 1 + p.size = o + (1 + p.size) by omega, ih, h3.2]
    simp only [ByteArray.size_append, beN_size]
    rw [Nat.add_assoc]
def keyed : Bool → List Fr → Prop
  | _, [] => True
  | k, f :: l => f.key = k ∧ keyed false l
theorem goE_keyed : ∀ (l : List Fr) (p : Option Fr), goE p l = 0 → keyed p.isNone l
  | [], _, _ => trivial
  | f :: l, p, h => by
    unfold goE at h
    split at h
    · rename_i q; exact absurd h q
    split at h
    · cases h
    · rename_i hb
      refine ⟨?_, by simpa using goE_keyed l (some f) h⟩
      cases p with
      | none => simpa [badG] using hb
      | some q => simp [badG] at hb; simp [hb.1]
theorem rdFrames_cat {s : ByteArray} : ∀ (fs : List Fr) (o : Nat) (k : Bool), (∀ f ∈ fs, frameE f = 0) → keyed k fs → Has s o (cat (fs.flatMap frameCk)) → rdFrames s fs.length o k = (fs, some (o + (cat (fs.flatMap frameCk)).size))
  | [], o, _, _, _, _ => rfl
  | f :: fs, o, k, h0, hk, h => by
    have e : cat ((f :: fs).flatMap frameCk) = (beN f.time 4 ++ beN f.parts.length 1 ++ cat (f.parts.flatMap partC)) ++ cat (fs.flatMap frameCk) := by
      rw [List.flatMap_cons, cat_append, frameCk, cat_append, cat_two]
    rw [e] at h ⊢
    obtain ⟨q1, q2, q3, q4, q5⟩ := frameE_ok (h0 f List.mem_cons_self)
    have h1 := has_left (has_left h)
    have h2 := num_has (has_left h1) q1 (by omega)
    have h3 := has_right h1
    rw [beN_size] at h3
    have h4 := at1_has h3 (by omega) (by omega)
    have h5 := has_right (has_left h)
    have h6 := has_right h
    rw [ByteArray.size_append, beN_size, beN_size] at h5
    have h4 : at1 s (o + 4) = f.parts.length := by omega
    have hp := rdParts_cat f.parts (o + (4 + 1)) (big_no q5) h5
    have ih := rdFrames_cat fs _ false (fun x hx => h0 x (List.mem_cons_of_mem _ hx)) hk.2 h6
    rw [List.length_cons, rdFrames, if_pos (by have := h5.1; omega), h4, show o + 5 = o + (4 + 1) by omega, hp]
    simp only
    rw [show o + (4 + 1) + (cat (f.parts.flatMap partC)).size = o + (beN f.time 4 ++ beN (↑f.parts.length) 1 ++ cat (f.parts.flatMap partC)).size by simp only [ByteArray.size_append, beN_size]; omega, ih]
    rw [show ∀ x : ByteArray, (x ++ cat (fs.flatMap frameCk)).size = x.size + (cat (fs.flatMap frameCk)).size from fun _ => ByteArray.size_append, ← Nat.add_assoc]
    refine Prod.ext ?_ rfl
    simp only
    congr 1
    have hk1 : f.key = k := hk.1
    subst hk1
    rw [h2]
theorem oneX_body {n : Int} {g : List Fr} (hn : 0 ≤ n ∧ n ≤ 100000) (hg : groupE g = 0) : oneX (cat (bodyCk n g)) = (⟨n, (cat (bodyCk n g)).size + 2, g⟩, true) := by
  obtain ⟨g1, g2, g3, g4⟩ := groupE_ok hg
  have hk := goE_keyed g none g3
  obtain ⟨b, hb⟩ : ∃ b, cat (bodyCk n g) = b := ⟨_, rfl⟩
  have e : b = beN n 4 ++ beN g.length 1 ++ cat (g.flatMap frameCk) := by
    rw [← hb, bodyCk, cat_append, cat_two]
  have h := has_self b
  rw [e] at h
  rw [← e] at h
  have h : Has b 0 (beN n 4 ++ beN g.length 1 ++ cat (g.flatMap frameCk)) := by rw [← e]; exact has_self b
  have h1 := has_left h
  have h2 := num_has (has_left h1) hn.1 (by omega)
  have h3 := has_right h1
  rw [beN_size] at h3
  have h4 := at1_has h3 (by omega) (by omega)
  have h4 : at1 b 4 = g.length := by rw [Nat.zero_add] at h4; omega
  have h5 := has_right h
  rw [ByteArray.size_append, beN_size, beN_size] at h5
  have h6 := rdFrames_cat g _ true g4 hk h5
  have h7 : 5 ≤ b.size := by have := h5.1; omega
  have h8 : 0 + (4 + 1) + (cat (g.flatMap frameCk)).size = b.size := by
    rw [e]; simp only [ByteArray.size_append, beN_size]; try omega
  rw [h8] at h6
  rw [hb, oneX, if_neg (by omega), if_neg (by omega), h4, show (5 : Nat) = 0 + (4 + 1) from rfl, h6]
  have h9 : num b 0 4 ≤ 100000 := by omega
  simp [hg, h9, h2]
theorem diskL_fuel (s : ByteArray) : ∀ (f f' o : Nat) (last : Option Int), s.size ≤ o + f → s.size ≤ o + f' → diskL s f o last = diskL s f' o last
  | 0, 0, _, _, _, _ => rfl
  | 0, f' + 1, o, last, h, _ => by rw [diskL, diskL, if_pos (by omega)]
  | f + 1, 0, o, last, _, h => by rw [diskL, diskL, if_pos (by omega)]
  | f + 1, f' + 1, o, last, h, h' => by
    rw [diskL, diskL]
    by_cases c : s.size < o + 2
    · rw [if_pos c, if_pos c]
    · rw [if_neg c, if_neg c]
      rw [diskL_fuel s f f' (o + 2 + num s o 2) _ (by omega) (by omega)]
theorem mid_pre {s : ByteArray} {n o k : Nat} (h : o + k ≤ n) : mid (s.extract 0 n) o k = mid s o k := by
  unfold mid
  apply ByteArray.ext
  simp only [ByteArray.data_extract, Array.extract_extract]
  congr 1 <;> omega
theorem num_pre {s : ByteArray} {n o k : Nat} (h : o + k ≤ n) : num (s.extract 0 n) o k = num s o k := by rw [num, num, mid_pre h]
theorem pre_size {s : ByteArray} {n : Nat} (h : n ≤ s.size) : (s.extract 0 n).size = n := by simp; omega
theorem diskL_bytes (s : ByteArray) : ∀ (f o : Nat) (last : Option Int) (l : List Rc), diskL s f o last = some l → ∀ r ∈ l, 0 ≤ r.bytes
  | 0, o, last, l, h => by simp [diskL] at h; subst h; simp
  | f + 1, o, last, l, h => by
    unfold diskL at h
    split at h
    · cases h; simp
    split at h
    · cases h; simp
    split at h
    · split at h
      · rename_i l' h2
        cases h
        intro r hr
        rcases List.mem_cons.1 hr with rfl | hr
        · rw [oneX_bytes]; omega
        · exact diskL_bytes s f _ _ _ h2 r hr
      · cases h
    · cases h
theorem endR_ge : ∀ (l : List Rc) (o : Int), (∀ r ∈ l, 0 ≤ r.bytes) → o ≤ endR o l
  | [], o, _ => by rw [endR]; omega
  | r :: l, o, h => by
    have h1 := h r List.mem_cons_self
    have h2 := endR_ge l (o + r.bytes) fun x hx => h x (List.mem_cons_of_mem _ hx)
    rw [endR]; omega
theorem diskL_pre (s : ByteArray) (n : Nat) (hn : n ≤ s.size) : ∀ (f o : Nat) (last : Option Int) (l : List Rc), o ≤ n → diskL s f o last = some l →
    ∃ m, m ≤ l.length ∧ diskL (s.extract 0 n) f o last = some (l.take m) ∧ endR o (l.take m) ≤ n ∧ ∀ k, k ≤ l.length → endR o (l.take k) ≤ n → k ≤ m
  | 0, o, last, l, ho, h => by
    simp [diskL] at h; subst h
    exact ⟨0, by simp, rfl, by simp [endR]; omega, fun k hk _ => hk⟩
  | f + 1, o, last, l, ho, h => by
    have hsz := pre_size hn
    have hb := diskL_bytes s _ _ _ _ h
    have h0 := h
    rw [diskL] at h
    by_cases c1 : s.size < o + 2
    · rw [if_pos c1] at h
      cases h
      exact ⟨0, by simp, by rw [diskL, if_pos (by omega)]; rfl, by simp [endR]; omega, fun k hk _ => hk⟩
    rw [if_neg c1] at h
    by_cases c2 : s.size < o + 2 + num s o 2
    · rw [if_pos c2] at h
      cases h
      refine ⟨0, by simp, ?_, by simp [endR]; omega, fun k hk _ => hk⟩
      rw [diskL]
      by_cases c3 : n < o + 2
      · rw [if_pos (by omega)]; rfl
      · rw [if_neg (by omega), num_pre (by omega), if_pos (by omega)]; rfl
    rw [if_neg c2] at h
    have hms := mid_size (s := s) (o := o + 2) (k := num s o 2) (by omega)
    have hbt := oneX_bytes (mid s (o + 2) (num s o 2))
    rw [hms] at hbt
    by_cases c4 : ((oneX (mid s (o + 2) (num s o 2))).2 && goesB last (oneX (mid s (o + 2) (num s o 2))).1.n) = true
    · rw [if_pos c4] at h
      obtain ⟨l', hl⟩ : ∃ l', diskL s f (o + 2 + num s o 2) (some (oneX (mid s (o + 2) (num s o 2))).1.n) = some l' := by
        cases hq : diskL s f (o + 2 + num s o 2) (some (oneX (mid s (o + 2) (num s o 2))).1.n) with
        | none => rw [hq] at h; cases h
        | some l' => exact ⟨l', rfl⟩
      rw [hl] at h
      simp only [Option.some.injEq] at h
      subst h
      have ho2 : (o : Int) + (oneX (mid s (o + 2) (num s o 2))).1.bytes = ((o + 2 + num s o 2 : Nat) : Int) := by rw [hbt]; omega
      by_cases c5 : n < o + 2 + num s o 2
      · refine ⟨0, by simp, ?_, by simp [endR]; omega, fun k hk he => ?_⟩
        · rw [diskL]
          by_cases c3 : n < o + 2
          · rw [if_pos (by omega)]; rfl
          · rw [if_neg (by omega), num_pre (by omega), if_pos (by omega)]; rfl
        · cases k with
          | zero => exact Nat.le_refl _
          | succ k =>
            rw [List.take_succ_cons, endR, ho2] at he
            have := endR_ge (l'.take k) ((o + 2 + num s o 2 : Nat) : Int) fun r hr => hb r (List.mem_cons_of_mem _ (List.mem_of_mem_take hr))
            omega
      · obtain ⟨m, m1, m2, m3, m4⟩ := diskL_pre s n hn f _ _ l' (by omega) hl
        refine ⟨m + 1, by rw [List.length_cons]; omega, ?_, ?_, fun k hk he => ?_⟩
        · rw [diskL, if_neg (by omega), num_pre (by omega), if_neg (by omega), mid_pre (by omega), if_pos c4, m2]; rfl
        · rw [List.take_succ_cons, endR, ho2]; exact m3
        · cases k with
          | zero => omega
          | succ k =>
            rw [List.take_succ_cons, endR, ho2] at he
            rw [List.length_cons] at hk
            have := m4 k (by omega) he
            omega
    · rw [if_neg c4] at h; cases h
def lastOr (last : Option Int) (l : List Rc) : Option Int := match l.getLast? with | some y => some y.n | none => last
theorem lastOr_cons (last : Option Int) (r : Rc) (l : List Rc) : lastOr last (r :: l) = lastOr (some r.n) l := by
  cases l with
  | nil => rfl
  | cons x l =>
    unfold lastOr
    rw [List.getLast?_cons_cons]
    cases hq : (x :: l).getLast? with
    | none => simp at hq
    | some y => rfl
theorem mid_left {s b : ByteArray} {o k : Nat} (h : o + k ≤ s.size) : mid (s ++ b) o k = mid s o k := by
  apply dk_ext
  rw [dk_midL, dk_midL, ByteArray.data_append, Array.toList_append, List.drop_append_of_le_length (by rw [dk_len]; omega), List.take_append_of_le_length (by rw [List.length_drop, dk_len]; omega)]
theorem num_left {s b : ByteArray} {o k : Nat} (h : o + k ≤ s.size) : num (s ++ b) o k = num s o k := by rw [num, num, mid_left h]
theorem diskL_app (s b : ByteArray) (hb : b.size < 65536) : ∀ (f o : Nat) (last : Option Int) (l : List Rc), o ≤ s.size → diskL s f o last = some l → endR o l = s.size → (oneX b).2 = true → goesB (lastOr last l) (oneX b).1.n = true →
    ∀ F, (s ++ (beN b.size 2 ++ b)).size ≤ o + F → diskL (s ++ (beN b.size 2 ++ b)) F o last = some (l ++ [(oneX b).1]) := by
  have hts : (s ++ (beN b.size 2 ++ b)).size = s.size + (2 + b.size) := by simp only [ByteArray.size_append, beN_size]
  have hh := has_app s (beN b.size 2 ++ b)
  have hn : num (s ++ (beN b.size 2 ++ b)) s.size 2 = b.size := by have := num_has (has_left hh) (by omega) (by omega); omega
  have hm : mid (s ++ (beN b.size 2 ++ b)) (s.size + 2) b.size = b := by have := (has_right hh).2; rwa [beN_size] at this
  have base : ∀ (last : Option Int), (oneX b).2 = true → goesB last (oneX b).1.n = true → ∀ F, (s ++ (beN b.size 2 ++ b)).size ≤ s.size + F → diskL (s ++ (beN b.size 2 ++ b)) F s.size last = some [(oneX b).1] := by
    intro last h1 h2 F hF
    obtain ⟨F, rfl⟩ : ∃ F', F = F' + 1 := ⟨F - 1, by omega⟩
    rw [diskL, if_neg (by omega), hn, if_neg (by omega), hm, if_pos (by rw [h1, h2]; rfl)]
    have : diskL (s ++ (beN b.size 2 ++ b)) F (s.size + 2 + b.size) (some (oneX b).1.n) = some [] := by
      cases F with
      | zero => rfl
      | succ F => rw [diskL, if_pos (by omega)]
    rw [this]
  intro f
  induction f with
  | zero =>
    intro o last l ho h he h1 h2 F hF
    simp [diskL] at h; subst h
    rw [endR] at he
    obtain rfl : o = s.size := by omega
    exact base last h1 h2 F hF
  | succ f ih =>
    intro o last l ho h he h1 h2 F hF
    rw [diskL] at h
    by_cases c1 : s.size < o + 2
    · rw [if_pos c1] at h
      cases h
      rw [endR] at he
      obtain rfl : o = s.size := by omega
      exact base last h1 h2 F hF
    rw [if_neg c1] at h
    by_cases c2 : s.size < o + 2 + num s o 2
    · rw [if_pos c2] at h
      cases h
      rw [endR] at he
      omega
    rw [if_neg c2] at h
    have hms := mid_size (s := s) (o := o + 2) (k := num s o 2) (by omega)
    have hbt := oneX_bytes (mid s (o + 2) (num s o 2))
    rw [hms] at hbt
    by_cases c4 : ((oneX (mid s (o + 2) (num s o 2))).2 && goesB last (oneX (mid s (o + 2) (num s o 2))).1.n) = true
    · rw [if_pos c4] at h
      obtain ⟨l', hl⟩ : ∃ l', diskL s f (o + 2 + num s o 2) (some (oneX (mid s (o + 2) (num s o 2))).1.n) = some l' := by
        cases hq : diskL s f (o + 2 + num s o 2) (some (oneX (mid s (o + 2) (num s o 2))).1.n) with
        | none => rw [hq] at h; cases h
        | some l' => exact ⟨l', rfl⟩
      rw [hl] at h
      simp only [Option.some.injEq] at h
      subst h
      have ho2 : (o : Int) + (oneX (mid s (o + 2) (num s o 2))).1.bytes = ((o + 2 + num s o 2 : Nat) : Int) := by rw [hbt]; omega
      rw [endR, ho2] at he
      rw [lastOr_cons] at h2
      obtain ⟨F, rfl⟩ : ∃ F', F = F' + 1 := ⟨F - 1, by omega⟩
      have := ih _ _ l' (by omega) hl he h1 h2 F (by omega)
      rw [diskL, if_neg (by omega), num_left (by omega), if_neg (by omega), mid_left (by omega), if_pos c4, this]
      rfl
    · rw [if_neg c4] at h; cases h
end Go.Proofs.Ytbhcjgobapnajaa

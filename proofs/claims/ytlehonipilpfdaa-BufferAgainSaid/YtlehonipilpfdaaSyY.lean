/- The symbolic layer, twenty-fifth part: two values of one struct type: are they the same? No condition. -/
import Derived.Test.YtlehonipilpfdaaSyU
import Derived.Laws.StructEq
set_option linter.unusedVariables false
namespace Go.Sy

/-- The kind of a cell. -/
inductive Pr where
  | int (k : IntKind)
  | bool
  | str

def flatL (rec : TypeId → Option (List Pr)) (P : Program) : List Field → Nat → Option (List Pr)
  | [], _ => some []
  | f :: fs, o =>
    if f.name ≠ "_" ∧ f.offset = o then
      match rec f.type, P.info? f.type, P.underlying f.type with
      | some l, some i, some d => if i.size = l.length ∧ (isAggD d = false → l.length = 1) then (flatL rec P fs (o + l.length)).map (l ++ ·) else none
      | _, _, _ => none
    else none
def flat (P : Program) : Nat → TypeId → Option (List Pr)
  | 0, _ => none
  | d + 1, t => match P.underlying t with
    | some (.int k) => some [.int k]
    | some .bool => some [.bool]
    | some .string => some [.str]
    | some (.struct fs) => if P.stoodInHeld t = false then flatL (flat P d) P fs.toList 0 else none
    | _ => none

def kinds : List Pr → List Value → Bool
  | [], [] => true
  | .int k :: l, .int k' _ :: m => decide (k' = k) && kinds l m
  | .bool :: l, .bool _ :: m => kinds l m
  | .str :: l, .string _ :: m => kinds l m
  | _, _ => false
def eqC : List Value → List Value → Bool
  | [], [] => true
  | .int _ a :: l, .int _ b :: m => decide (a = b) && eqC l m
  | .bool a :: l, .bool b :: m => decide (a = b) && eqC l m
  | .string a :: l, .string b :: m => decide (a = b) && eqC l m
  | _, _ => false

theorem kinds_length : ∀ {l : List Pr} {vs : List Value}, kinds l vs = true → vs.length = l.length
  | [], [], _ => rfl
  | .int k :: l, .int k' _ :: m, h => by simp only [kinds, Bool.and_eq_true] at h; simp [kinds_length h.2]
  | .bool :: l, .bool _ :: m, h => by simp only [kinds] at h; simp [kinds_length h]
  | .str :: l, .string _ :: m, h => by simp only [kinds] at h; simp [kinds_length h]
theorem kinds_append : ∀ {l m : List Pr} {vs : List Value}, kinds (l ++ m) vs = true → kinds l (vs.take l.length) = true ∧ kinds m (vs.drop l.length) = true
  | [], m, vs, h => by simpa [kinds] using h
  | .int k :: l, m, .int k' _ :: vs, h => by
    simp only [List.cons_append, kinds, Bool.and_eq_true] at h
    have := kinds_append h.2
    simp only [List.length_cons, List.take_succ_cons, List.drop_succ_cons, kinds, Bool.and_eq_true]
    exact ⟨⟨h.1, this.1⟩, this.2⟩
  | .bool :: l, m, .bool _ :: vs, h => by
    simp only [List.cons_append, kinds] at h
    have := kinds_append h
    simp only [List.length_cons, List.take_succ_cons, List.drop_succ_cons, kinds]
    exact this
  | .str :: l, m, .string _ :: vs, h => by
    simp only [List.cons_append, kinds] at h
    have := kinds_append h
    simp only [List.length_cons, List.take_succ_cons, List.drop_succ_cons, kinds]
    exact this
theorem eqC_split : ∀ {l : List Pr} {xs ys : List Value} (n : Nat), kinds l (xs.take n) = true → kinds l (ys.take n) = true → eqC xs ys = (eqC (xs.take n) (ys.take n) && eqC (xs.drop n) (ys.drop n))
  | _, xs, ys, 0, _, _ => by simp [eqC]
  | [], [], [], n + 1, h, h' => by simp [eqC]
  | .int k :: l, .int k1 a :: xs, .int k2 b :: ys, n + 1, h, h' => by
    simp only [List.take_succ_cons, kinds, Bool.and_eq_true] at h h'
    simp only [List.take_succ_cons, List.drop_succ_cons, eqC]
    rw [eqC_split n h.2 h'.2, Bool.and_assoc]
  | .bool :: l, .bool a :: xs, .bool b :: ys, n + 1, h, h' => by
    simp only [List.take_succ_cons, kinds] at h h'
    simp only [List.take_succ_cons, List.drop_succ_cons, eqC]
    rw [eqC_split n h h', Bool.and_assoc]
  | .str :: l, .string a :: xs, .string b :: ys, n + 1, h, h' => by
    simp only [List.take_succ_cons, kinds] at h h'
    simp only [List.take_succ_cons, List.drop_succ_cons, eqC]
    rw [eqC_split n h h', Bool.and_assoc]

/-- The value that cells make. -/
def valOf (ag : Bool) (xs : List Value) : Value := match ag with
  | true => .agg xs.toArray
  | false => xs.headD undef

theorem run_part {P : Program} {t : TypeId} {i : TypeInfo} {d : TypeDesc} (hi : P.info? t = some i) (hd : P.underlying t = some d) (w : World) (xs : List Value) (o : Nat) (h1 : isAggD d = false → i.size = 1) (hl : o + i.size ≤ xs.length) :
    (part t xs.toArray o).run P w = .ok (valOf (isAggD d) ((xs.drop o).take i.size)) w := by
  unfold part
  simp only [Sem.run_bind, run_isAgg' hd, Result.andThen_ok]
  cases hag : isAggD d with
  | true =>
    simp only [if_true, Sem.run_bind, run_sizeOf' hi, Result.andThen_ok, Sem.run_pure, valOf]
    congr 2
    apply Array.toList_inj.1
    simp [List.extract_eq_take_drop]
  | false =>
    have hs := h1 hag
    have hlt : o < xs.length := by omega
    have e : xs.toArray[o]? = some xs[o] := by simp [hlt]
    have e2 : (xs.drop o).take 1 = [xs[o]] := by rw [List.drop_eq_getElem_cons hlt]; rfl
    simp only [Bool.false_eq_true, if_false, e, Sem.run_pure, valOf, hs, e2]
    rfl
theorem kinds_int {k : IntKind} {xs : List Value} (h : kinds [.int k] xs = true) : ∃ a, xs = [.int k a] := by
  match xs, h with
  | [.int k' a], h => simp only [kinds, Bool.and_true, decide_eq_true_eq] at h; subst h; exact ⟨a, rfl⟩
  | .int k' a :: b :: l, h => simp [kinds] at h
theorem kinds_bool {xs : List Value} (h : kinds [.bool] xs = true) : ∃ a, xs = [.bool a] := by
  match xs, h with
  | [.bool a], h => exact ⟨a, rfl⟩
  | .bool a :: b :: l, h => simp [kinds] at h
theorem kinds_str {xs : List Value} (h : kinds [.str] xs = true) : ∃ a, xs = [.string a] := by
  match xs, h with
  | [.string a], h => exact ⟨a, rfl⟩
  | .string a :: b :: l, h => simp [kinds] at h
theorem flatL_length {P : Program} {rec : TypeId → Option (List Pr)} : ∀ {fs : List Field} {o : Nat} {ks : List Pr}, flatL rec P fs o = some ks → True := fun _ => trivial
theorem eq_flat {P : Program} (w : World) : ∀ (d n : Nat) (t : TypeId) (ks : List Pr) (xs ys : List Value) (dd : TypeDesc), flat P d t = some ks → d ≤ n → kinds ks xs = true → kinds ks ys = true → P.underlying t = some dd →
    (Op.equalIn n t (valOf (isAggD dd) xs) (valOf (isAggD dd) ys)).run P w = .ok (eqC xs ys) w
  | 0, n, t, ks, xs, ys, dd, h, _, _, _, _ => by cases h
  | d + 1, 0, t, ks, xs, ys, dd, h, hn, _, _, _ => by omega
  | d + 1, n + 1, t, ks, xs, ys, dd, h, hn, hx, hy, hdd => by
    simp only [flat] at h
    rw [hdd] at h
    split at h
    · rename_i k hk; cases hk; cases h
      obtain ⟨a, rfl⟩ := kinds_int hx
      obtain ⟨b, rfl⟩ := kinds_int hy
      have := run_equalIn_int w n t k k a b hdd
      simp [valOf, isAggD, this, eqC]
      rfl
    · rename_i hk; cases hk; cases h
      obtain ⟨a, rfl⟩ := kinds_bool hx
      obtain ⟨b, rfl⟩ := kinds_bool hy
      have := run_equalIn_bool' w n t a b hdd
      simp [valOf, isAggD, this, eqC]
      rfl
    · rename_i hk; cases hk; cases h
      obtain ⟨a, rfl⟩ := kinds_str hx
      obtain ⟨b, rfl⟩ := kinds_str hy
      have := run_equalIn_string w n t a b hdd
      simp [valOf, isAggD, this, eqC, beq_bytes]
    · rename_i fs hk; cases hk
      split at h
      · rename_i hp
        simp only [valOf, isAggD]
        have hf : P.fieldsOf t = fs := by simp [Program.fieldsOf, hdd]
        rw [run_equalIn_agg w n t _ _ (by rw [hf]; exact hdd) hp, hf]
        have key : ∀ (l : List Field) (o : Nat) (ks : List Pr), flatL (flat P d) P l o = some ks → o ≤ xs.length → o ≤ ys.length → kinds ks (xs.drop o) = true → kinds ks (ys.drop o) = true → (Op.eqFields n xs.toArray ys.toArray l).run P w = .ok (eqC (xs.drop o) (ys.drop o)) w := by
          intro l
          induction l with
          | nil =>
            intro o ks h ox oy hx hy
            cases h
            have h1 := kinds_length hx
            have h2 := kinds_length hy
            have e1 : xs.drop o = [] := List.eq_nil_of_length_eq_zero h1
            have e2 : ys.drop o = [] := List.eq_nil_of_length_eq_zero h2
            rw [e1, e2]; simp [Op.eqFields, eqC]
          | cons f l ih =>
            intro o ks h ox oy hx hy
            simp only [flatL] at h
            split at h
            · rename_i hc
              obtain ⟨hname, hoff⟩ := hc
              split at h
              · rename_i k1 i d1 hk1 hi hd1
                split at h
                · rename_i hsz
                  cases hq : flatL (flat P d) P l (o + k1.length) with
                  | none => rw [hq] at h; cases h
                  | some k2 =>
                    rw [hq] at h; cases h
                    have hx2 := kinds_append hx
                    have hy2 := kinds_append hy
                    have lx := kinds_length hx
                    have ly := kinds_length hy
                    simp only [List.length_drop, List.length_append] at lx ly
                    have h1 : isAggD d1 = false → i.size = 1 := fun h => by rw [hsz.1]; exact hsz.2 h
                    have px := run_part (P := P) hi hd1 w xs o h1 (by omega)
                    have py := run_part (P := P) hi hd1 w ys o h1 (by omega)
                    rw [hsz.1] at px py
                    have he := eq_flat w d n f.type k1 _ _ d1 hk1 (by omega) hx2.1 hy2.1 hd1
                    simp only [Op.eqFields, if_pos hname, hoff, Sem.run_bind, px, py, he, Result.andThen_ok, Sem.run_ite]
                    rw [eqC_split k1.length hx2.1 hy2.1, List.drop_drop, List.drop_drop]
                    cases hb : eqC ((xs.drop o).take k1.length) ((ys.drop o).take k1.length) with
                    | false => simp
                    | true =>
                      have := ih (o + k1.length) k2 hq (by omega) (by omega) (by have := hx2.2; rwa [List.drop_drop] at this) (by have := hy2.2; rwa [List.drop_drop] at this)
                      simp [this]
                · cases h
              · cases h
            · cases h
        have := key fs.toList 0 ks h (by omega) (by omega) (by simpa using hx) (by simpa using hy)
        simpa using this
      · cases h
    · cases h
theorem eqV_eql {P : Program} {t : TypeId} {ks : List Pr} {xs ys : List Value} (h : flat P 6 t = some ks) (hm : P.eqGuardType P.depth t = false) (ha : (match P.underlying t with | some d => isAggD d | none => false) = true) (hx : kinds ks xs = true) (hy : kinds ks ys = true) : EqV P .eql t xs ys (eqC xs ys) := by
  intro w x y
  cases hdd : P.underlying t with
  | none => rw [hdd] at ha; cases ha
  | some dd =>
    rw [hdd] at ha
    simp only at ha
    have := eq_flat w 6 10000 t ks xs ys dd h (by omega) hx hy hdd
    rw [ha] at this
    simp only [Sem.run_bind, run_eqGuard_agg w .eql t x y _ _ hm, Result.andThen_ok, run_eql_struct]
    simp only [valOf] at this
    rw [this]; rfl
theorem eqV_neq {P : Program} {t : TypeId} {ks : List Pr} {xs ys : List Value} (h : flat P 6 t = some ks) (hm : P.eqGuardType P.depth t = false) (ha : (match P.underlying t with | some d => isAggD d | none => false) = true) (hx : kinds ks xs = true) (hy : kinds ks ys = true) : EqV P .neq t xs ys (!(eqC xs ys)) := by
  intro w x y
  cases hdd : P.underlying t with
  | none => rw [hdd] at ha; cases ha
  | some dd =>
    rw [hdd] at ha
    simp only at ha
    have := eq_flat w 6 10000 t ks xs ys dd h (by omega) hx hy hdd
    rw [ha] at this
    simp only [Sem.run_bind, run_eqGuard_agg w .neq t x y _ _ hm, Result.andThen_ok, run_neq_struct]
    simp only [valOf] at this
    rw [this]; rfl
attribute [simp] eqC
end Go.Sy

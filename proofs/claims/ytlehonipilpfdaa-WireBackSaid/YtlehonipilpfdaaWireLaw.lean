/- Bytes of packets, there and back. No condition. -/
import Derived.Test.YtlehonipilpfdaaWireTells
namespace Go.Proofs.Ytlehonipilpfdaa
open Go Go.Sy
set_option linter.unusedSimpArgs false
set_option linter.unusedVariables false
abbrev uN (n : Int) : UInt8 := UInt8.ofNat n.toNat
theorem uN_nat {n : Int} (h0 : 0 ≤ n) (h1 : n < 256) : (uN n).toNat = n.toNat := by
  rw [UInt8.toNat_ofNat']; omega
theorem mid_list (s : ByteArray) (o k : Nat) : (mid s o k).data.toList = (s.data.toList.drop o).take k := by
  unfold mid
  rw [ByteArray.data_extract, Array.toList_extract, List.extract_eq_take_drop]
  congr 1; omega
theorem ba_ext {a b : ByteArray} (h : a.data.toList = b.data.toList) : a = b := by
  apply ByteArray.ext
  rw [← Array.toArray_toList (xs := a.data), ← Array.toArray_toList (xs := b.data), h]
theorem encP_list (p : Pkt) : (encP p).data.toList = [uN (flN p.first p.fin p.key % 256), uN (p.seq / 256 % 256), uN (p.seq % 256), uN (p.time / 16777216 % 256), uN (p.time / 65536 % 256), uN (p.time / 256 % 256), uN (p.time % 256), uN ((p.text.size : Int) % 256)] ++ p.text.data.toList := by
  unfold encP
  rw [beN_1, beN_2, beN_4, beN_1]
  simp [ByteArray.data_append, strOfNums]
theorem encP_size (p : Pkt) : (encP p).size = 8 + p.text.size := by
  unfold encP
  simp only [ByteArray.size_append, beN_size]
theorem drop8 (a b c d e f g h : UInt8) (r : List UInt8) : List.drop 8 ([a, b, c, d, e, f, g, h] ++ r) = r := rfl
theorem flN_rng (f e k : Bool) : 128 ≤ flN f e k ∧ flN f e k ≤ 135 := by
  unfold flN; cases f <;> cases e <;> cases k <;> simp
theorem fl_back : ∀ f e k : Bool, fl (flN f e k).toNat 1 = f ∧ fl (flN f e k).toNat 2 = e ∧ fl (flN f e k).toNat 4 = k := by decide +kernel
theorem enc_at0 (p : Pkt) : at1 (encP p) 0 = (flN p.first p.fin p.key).toNat := by
  have h := flN_rng p.first p.fin p.key
  unfold at1
  rw [mid_list, encP_list]
  simp [numTo]
  omega
section
variable {p : Pkt} (hp : pktE p = 0)
include hp
theorem enc_at7 : at1 (encP p) 7 = p.text.size := by
  have h := pktE_ok hp
  unfold at1
  rw [mid_list, encP_list]
  simp [numTo]
  omega
theorem enc_seq : (numTo (mid (encP p) 1 2).data.toList : Int) = p.seq := by
  have h := pktE_ok hp
  rw [mid_list, encP_list]
  simp [numTo]
  omega
theorem enc_time : (numTo (mid (encP p) 3 4).data.toList : Int) = p.time := by
  have h := pktE_ok hp
  rw [mid_list, encP_list]
  simp [numTo]
  omega
theorem enc_text : mid (encP p) 8 (at1 (encP p) 7) = p.text := by
  apply ba_ext
  rw [enc_at7 hp, mid_list, encP_list]
  rw [drop8]
  exact List.take_of_length_le (by rw [Array.length_toList]; exact Nat.le_refl _)
theorem dec_enc : decS (encP p) = (p, 0) := by
  have hf := flN_rng p.first p.fin p.key
  have h0 := enc_at0 p
  have h7 := enc_at7 hp
  have hs := encP_size p
  have hform : formB (encP p) = true := by
    simp only [formB, Bool.and_eq_true, decide_eq_true_eq]; omega
  have hd : decP (encP p) = p := by
    have hb := fl_back p.first p.fin p.key
    refine Pkt.ext' (enc_seq hp) (enc_time hp) ?_ ?_ ?_ (enc_text hp)
    · show fl (at1 (encP p) 0) 1 = _; rw [h0]; exact hb.1
    · show fl (at1 (encP p) 0) 2 = _; rw [h0]; exact hb.2.1
    · show fl (at1 (encP p) 0) 4 = _; rw [h0]; exact hb.2.2
  rw [decS, if_pos hform, hd, if_pos hp]
end
theorem uN_eq {n : Int} {b : UInt8} (h : n = b.toNat) : uN n = b := by
  subst h
  simp
theorem fl_there : ∀ j : Fin 8, flN (fl (128 + j.val) 1) (fl (128 + j.val) 2) (fl (128 + j.val) 4) = ((128 + j.val : Nat) : Int) := by decide +kernel
theorem fl_there' {n : Nat} (h : 128 ≤ n ∧ n ≤ 135) : flN (fl n 1) (fl n 2) (fl n 4) = n := by
  have := fl_there ⟨n - 128, by omega⟩
  simp only [show 128 + (n - 128) = n by omega] at this
  exact this
theorem eight {l : List UInt8} (h : 8 ≤ l.length) : ∃ b0 b1 b2 b3 b4 b5 b6 b7 r, l = [b0, b1, b2, b3, b4, b5, b6, b7] ++ r := by
  match l, h with
  | b0 :: b1 :: b2 :: b3 :: b4 :: b5 :: b6 :: b7 :: r, _ => exact ⟨b0, b1, b2, b3, b4, b5, b6, b7, r, rfl⟩
theorem enc_dec {s : ByteArray} (hf : formB s = true) : encP (decP s) = s := by
  simp only [formB, Bool.and_eq_true, decide_eq_true_eq] at hf
  obtain ⟨⟨h8, hsz⟩, h0⟩ := hf
  have hlen : s.data.toList.length = s.size := by rw [Array.length_toList]; rfl
  obtain ⟨b0, b1, b2, b3, b4, b5, b6, b7, r, hl⟩ := eight (l := s.data.toList) (by omega)
  have a0 : at1 s 0 = b0.toNat := by unfold at1; rw [mid_list, hl]; simp [numTo]
  have a7 : at1 s 7 = b7.toNat := by unfold at1; rw [mid_list, hl]; simp [numTo]
  have aS : numTo (mid s 1 2).data.toList = b1.toNat * 256 + b2.toNat := by rw [mid_list, hl]; simp [numTo]
  have aT : numTo (mid s 3 4).data.toList = ((b3.toNat * 256 + b4.toNat) * 256 + b5.toNat) * 256 + b6.toNat := by rw [mid_list, hl]; simp [numTo]
  have hr : r.length = b7.toNat := by
    rw [hl] at hlen
    simp at hlen; omega
  have aX : (mid s 8 (at1 s 7)).data.toList = r := by
    rw [mid_list, hl, drop8, a7]
    exact List.take_of_length_le (by omega)
  have aXs : (mid s 8 (at1 s 7)).size = b7.toNat := by
    rw [← hr, ← aX, Array.length_toList]; rfl
  have q1 := b1.toNat_lt
  have q2 := b2.toNat_lt
  have q3 := b3.toNat_lt
  have q4 := b4.toNat_lt
  have q5 := b5.toNat_lt
  have q6 := b6.toNat_lt
  have q7 := b7.toNat_lt
  have q0 := b0.toNat_lt
  apply ba_ext
  rw [encP_list, hl]
  have hfl := fl_there' h0
  simp only [decP]
  rw [aX, aXs, aS, aT, hfl, a0]
  rw [uN_eq (b := b0) (by omega), uN_eq (b := b1) (by omega), uN_eq (b := b2) (by omega), uN_eq (b := b3) (by omega), uN_eq (b := b4) (by omega), uN_eq (b := b5) (by omega), uN_eq (b := b6) (by omega), uN_eq (b := b7) (by omega)]
theorem dec_ok {s : ByteArray} (h : (decS s).2 = 0) : decS s = (decP s, 0) ∧ pktE (decP s) = 0 ∧ encS (decP s) = (s, 0) := by
  unfold decS at h ⊢
  by_cases h1 : formB s = true
  · rw [if_pos h1] at h ⊢
    by_cases h2 : pktE (decP s) = 0
    · rw [if_pos h2]
      refine ⟨rfl, h2, ?_⟩
      rw [encS, if_pos h2, enc_dec h1]
    · rw [if_neg h2] at h; exact absurd h h2
  · rw [if_neg h1] at h; cases h
theorem dec_err {s : ByteArray} (h : ¬ (decS s).2 = 0) : decS s = (pk0, (decS s).2) := by
  unfold decS at h ⊢
  by_cases h1 : formB s = true
  · rw [if_pos h1] at h ⊢
    by_cases h2 : pktE (decP s) = 0
    · rw [if_pos h2] at h; exact absurd rfl h
    · rw [if_neg h2]
  · rw [if_neg h1]
theorem enc_ok {p : Pkt} (h : (encS p).2 = 0) : pktE p = 0 ∧ encS p = (encP p, 0) := by
  rw [encS_e] at h
  exact ⟨h, if_pos h⟩
theorem enc_err {p : Pkt} (h : ¬ (encS p).2 = 0) : encS p = (⟨#[]⟩, (encS p).2) := by
  have h' := h
  rw [encS_e] at h'
  have : encS p = (ByteArray.empty, pktE p) := if_neg h'
  rw [this]; rfl
end Go.Proofs.Ytlehonipilpfdaa

/- Walks of package disk: Bytes, Encode. No condition. -/
import Derived.Test.YtbhcjgobapnajaaDisk7
namespace Go.Proofs.Ytbhcjgobapnajaa
open Go Go.Sy
set_option maxRecDepth 4000
set_option linter.unusedSimpArgs false
set_option linter.unusedVariables false
attribute [local irreducible] Reg RegD Later Out CallV YieldV Tri Side EqV
def cat : List ByteArray → ByteArray
  | [] => ByteArray.empty
  | a :: l => a ++ cat l
theorem cat_append : ∀ (l m : List ByteArray), cat (l ++ m) = cat l ++ cat m
  | [], m => by simp [cat]
  | a :: l, m => by rw [List.cons_append, cat, cat_append l m, cat, ByteArray.append_assoc]
theorem cat_one (a : ByteArray) : cat [a] = a := by simp [cat]
theorem cat_size : ∀ (l : List ByteArray), (∀ a ∈ l, a.size ≤ 255) → (cat l).size ≤ 255 * l.length
  | [], _ => by simp [cat]
  | a :: l, h => by
    have h1 := cat_size l fun b hb => h b (List.mem_cons_of_mem _ hb)
    have h2 := h a List.mem_cons_self
    rw [cat, ByteArray.size_append, List.length_cons]; omega
structure CkOK (c : List ByteArray) : Prop where
  sz : ∀ a ∈ c, a.size ≤ 255
  len : c.length ≤ 1000
theorem CkOK.size {c : List ByteArray} (h : CkOK c) : (cat c).size ≤ 255000 := by have := cat_size c h.sz; have := h.len; omega
theorem CkOK.left {c d : List ByteArray} (h : CkOK (c ++ d)) : CkOK c := ⟨fun a ha => h.sz a (List.mem_append_left _ ha), by have := h.len; rw [List.length_append] at this; omega⟩
theorem CkOK.right {c d : List ByteArray} (h : CkOK (c ++ d)) : CkOK d := ⟨fun a ha => h.sz a (List.mem_append_right _ ha), by have := h.len; rw [List.length_append] at this; omega⟩
set_option maxHeartbeats 1000000 in
theorem c_put (c ws : List ByteArray) (h : CkOK (c ++ ws)) : CSpec Try.prog 117 [.sl 1 (rowS ws), .ptr 0 0] [.box [Tx (cat c)]] (.tup []) [.box [Tx (cat (c ++ ws))]] := by
  have hwl := h.right.len
  have hws : ∀ (i : Nat) x, ws[i]? = some x → x.size ≤ 255 := fun i x hx => h.right.sz x (List.mem_of_getElem? hx)
  have hcs : ∀ i, (cat (c ++ ws.take i)).size ≤ 255000 := fun i => CkOK.size (c := c ++ ws.take i) (CkOK.left (d := ws.drop i) (by rw [List.append_assoc, List.take_append_drop]; exact h))
  refine v_cspec Try.func117 rfl Try.ntmps117 Try.results117 (by simp) (k := 1) rfl ?_
  repeat' (first
 | (with_reducible first | apply qz0 | (refine h0 _ _ ?_; clear h0 hw) | apply qz3 )
 | (with_reducible first | refine w_reg (by decide +kernel) fun K1 hK => ?_ )
 | ((with_reducible first | apply v_op Try.tab ) <;> first | (intro K' h0 hw; conv => whnf) | (simp only [Nat.reduceAdd, Nat.reduceMul]; rfl))
 | ((with_reducible apply v_nil); (case hm => (simp only [Nat.reduceAdd, Nat.reduceMul]; rfl)); (case' h => with_reducible refine hK _ ?_; clear hK))
 )
  refine w_loop (X := Nat) [4, 7, 8, 9, 10, 11, 12, 13, 14] (fun i => [(7, I i)]) (fun i => [(0, .box [Tx (cat (c ++ ws.take i))])]) (fun i => i ≤ ws.length) (fun i => ws.length - i) 0 (by simp) ?_ ?_
  · refine ⟨kt_refl, ko_refl, ?_, ?_, ?_, ?_, Nat.le_refl _⟩ <;> simp
  intro i hi
  have hci := hcs i
  repeat' (first
 | (with_reducible first | apply qz0 | (refine h0 _ _ ?_; clear h0 hw) | (refine hw _ _ _ ?_; clear h0 hw) | apply qz2 | apply qz3 | apply qz4 | apply qz6 | apply qz7 | apply qz9 | apply qza | apply qzc )
 | (with_reducible first | refine w_reg (by decide +kernel) fun K1 hK => ?_ | refine w_reg_end (by decide +kernel) fun K1 hK => ?_)
 | with_reducible refine go_seq ?_
 | ((with_reducible first | apply v_op Try.tab | apply v_op0 Try.tab) <;> first | (intro K' h0 hw; conv => whnf) | (simp only [Nat.reduceAdd, Nat.reduceMul]; rfl))
 | ((with_reducible apply v_nil); (case hm => (simp only [Nat.reduceAdd, Nat.reduceMul]; rfl)); (case' h => with_reducible refine hK _ ?_; clear hK))
 | ((with_reducible apply go_cond); (case hb => rfl))
 | ((with_reducible apply And.intro); (case' right => try (conv => whnf)); (case' left => try first | rfl | decide | (simp; done) ))
 | ((with_reducible apply Side.mk); (try simp (disch := omega) only [wrp]); (try simp); (try simp (disch := omega) only [wrp]); (try omega))
 | ((with_reducible refine all_row ?_); (first | intro x1 hx1); conv => whnf)
 | (rw [strAdd (by have := hws _ _ hx1; omega)]; conv => whnf)
 | (first  | intro g1; try simp at g1))
  · rw [Int.toNat_natCast] at hx1
    have e1 : cat (c ++ ws.take i) ++ x1 = cat (c ++ ws.take (i + 1)) := by rw [take_at hx1, ← List.append_assoc, cat_append (c ++ ws.take i), cat_one]
    ((refine w_nx ((i + 1)) ?_ ?_ ?_ ?_ ?_ ?_); (case refine_1 => simp [e1]); (case refine_2 => simp [e1]); (case refine_3 => simp (disch := omega) [e1, wrp]); (case refine_4 => simp [e1]); (case refine_5 => first | (simp; omega) | (simp; done) | omega | (simp only; omega)); (case' refine_6 => (try simp only); (try exact trivial)))
    omega
  · have e2 : ws.take i = ws := List.take_of_length_le (by omega)
    ((first | refine w_retO Try.tab [] (by rfl) (by simp) (by simp) (fun K' hL => ?_) ?_ ?_ ?_ | refine w_retO_end Try.tab [] (by rfl) (by simp) (by simp) (fun K' hL => ?_) ?_ ?_ ?_); (conv => whnf); (refine hL _ ?_; clear hL); all_goals simp [e2])
def partC (p : ByteArray) : List ByteArray := [beN p.size 1, p]
def frameCk (f : Fr) : List ByteArray := [beN f.time 4, beN f.parts.length 1] ++ f.parts.flatMap partC
def bodyCk (n : Int) (g : List Fr) : List ByteArray := [beN n 4, beN g.length 1] ++ g.flatMap frameCk
def recB (n : Int) (g : List Fr) : ByteArray := beN (cat (bodyCk n g)).size 2 ++ cat (bodyCk n g)
theorem big_no {l : List ByteArray} (h : l.any big = false) : ∀ p ∈ l, p.size ≤ 8 := fun p hp => by
  have := List.any_eq_false.1 h p hp
  simpa [big] using this
theorem frameCk_ok {f : Fr} (h : frameE f = 0) : (∀ a ∈ frameCk f, a.size ≤ 8) ∧ (frameCk f).length ≤ 10 := by
  obtain ⟨h1, h2, h3, h4, h5⟩ := frameE_ok h
  have hb := big_no h5
  refine ⟨fun a ha => ?_, ?_⟩
  · unfold frameCk at ha
    rcases List.mem_append.1 ha with ha | ha
    · have e1 := beN_size 4 f.time
      have e2 := beN_size 1 (f.parts.length : Int)
      simp at ha
      rcases ha with rfl | rfl <;> omega
    · obtain ⟨p, hp, ha⟩ := List.mem_flatMap.1 ha
      have e1 := beN_size 1 (p.size : Int)
      have := hb p hp
      simp [partC] at ha
      rcases ha with rfl | rfl <;> omega
  · unfold frameCk
    have : (f.parts.flatMap partC).length = 2 * f.parts.length := by
      induction f.parts with
      | nil => rfl
      | cons p l ih => rw [List.flatMap_cons, List.length_append, ih]; simp [partC]; omega
    rw [List.length_append, this]; simp; omega
theorem bodyCk_ok {g : List Fr} (n : Int) (h : groupE g = 0) : (∀ a ∈ bodyCk n g, a.size ≤ 8) ∧ (bodyCk n g).length ≤ 62 := by
  obtain ⟨_, h1, _, h2⟩ := groupE_ok h
  refine ⟨fun a ha => ?_, ?_⟩
  · unfold bodyCk at ha
    rcases List.mem_append.1 ha with ha | ha
    · have e1 := beN_size 4 n
      have e2 := beN_size 1 (g.length : Int)
      simp at ha
      rcases ha with rfl | rfl <;> omega
    · obtain ⟨f, hf, ha⟩ := List.mem_flatMap.1 ha
      exact (frameCk_ok (h2 f hf)).1 a ha
  · unfold bodyCk
    have : ∀ l : List Fr, (∀ f ∈ l, frameE f = 0) → (l.flatMap frameCk).length ≤ 10 * l.length := by
      intro l
      induction l with
      | nil => intro _; simp
      | cons f l ih =>
        intro hl
        have q1 := ih fun x hx => hl x (List.mem_cons_of_mem _ hx)
        have q2 := (frameCk_ok (hl f List.mem_cons_self)).2
        rw [List.flatMap_cons, List.length_append, List.length_cons]; omega
    have := this g h2
    rw [List.length_append]; simp only [List.length_cons, List.length_nil]; omega
theorem flat_take {α : Type} {f : α → List ByteArray} {l : List α} {i : Nat} {x : α} (h : l[i]? = some x) : (l.take (i + 1)).flatMap f = (l.take i).flatMap f ++ f x := by
  rw [take_at h, List.flatMap_append]; simp
def preC (n : Int) (g : List Fr) (i : Nat) : List ByteArray := [beN n 4, beN g.length 1] ++ (g.take i).flatMap frameCk
def preF (n : Int) (g : List Fr) (i : Nat) (f : Fr) (j : Nat) : List ByteArray := preC n g i ++ ([beN f.time 4, beN f.parts.length 1] ++ (f.parts.take j).flatMap partC)
set_option maxHeartbeats 4000000 in
theorem c_bytes (n : Int) (g : List Fr) (hn : 0 ≤ n) (hg : groupE g = 0) : PSpec Try.prog 62 [I n, .agg (grC g)] (Tx (recB n g)) := by
  obtain ⟨_, hg6, _, hgf⟩ := groupE_ok hg
  obtain ⟨hb1, hb2⟩ := bodyCk_ok n hg
  have hck : ∀ c, (∃ d, bodyCk n g = c ++ d) → CkOK c := fun c ⟨d, e⟩ => CkOK.left (d := d) (by rw [← e]; exact ⟨fun a ha => by have := hb1 a ha; omega, by omega⟩)
  have n1 := c_number4 n hn
  have n2 := c_number1 (g.length : Int) (by omega)
  have p1 := c_put [] [beN n 4, beN g.length 1] (hck _ ⟨g.flatMap frameCk, rfl⟩)
  rw [show cat [] = (⟨#[]⟩ : ByteArray) from rfl, List.nil_append] at p1
  refine v_pspec Try.func62 rfl Try.ntmps62 Try.results62 (by simp) (by first | exact .s _ | repeat constructor) ?_
  repeat' (first
 | (with_reducible first | apply qz0 | (refine h0 _ _ ?_; clear h0 hw) | (refine hw _ _ _ ?_; clear h0 hw) | apply qz3 )
 | (with_reducible first | refine w_reg (by decide +kernel) fun K1 hK => ?_ )
 | ((with_reducible first | apply d_reg Try.mix (by decide +kernel) ); (case hm => simp only [List.length_cons, List.length_nil, Nat.reduceAdd, Nat.reduceMul]; rfl); (case' h => intro K1 hK))
 | with_reducible refine go_seq ?_
 | ((with_reducible first | apply v_op Try.tab | apply v_op0 Try.tab | apply d_op Try.tab ) <;> first | (intro K' h0 hw; conv => whnf) | (simp only [Nat.reduceAdd, Nat.reduceMul]; rfl))
 | ((with_reducible apply v_nil); (case hm => (simp only [Nat.reduceAdd, Nat.reduceMul]; rfl)); (case' h => with_reducible refine hK _ ?_; clear hK))
 | ((with_reducible apply d_nil); (refine hK _ _ _ _ (by first | (simp only [List.map_cons, List.map_nil, List.nil_append, List.cons_append]; decide +kernel) ) ?_; clear hK))
 | ((with_reducible refine callV_id (f := 118) ?_); (with_reducible apply callV_f own118 (n1)); (case hx => rfl); (case he => rfl); (case hle => first | ((repeat constructor); done) ); (case hpu => repeat constructor); (case' hK => conv => whnf))
 | ((with_reducible refine callV_id (f := 118) ?_); (with_reducible apply callV_f own118 (n2)); (case hx => rfl); (case he => rfl); (case hle => first | (simp; done)); (case hpu => repeat constructor); (case' hK => conv => whnf))
 | ((with_reducible refine callV_id (f := 117) ?_); (with_reducible apply w_callO [32] own117 (p1)); (case hx => rfl); (case he => rfl); (case hle => first | ((repeat constructor); done) ); (case hm => rfl); (case hnd => decide); (case' hK => conv => whnf); (any_goals (simp; done)))
 | ((with_reducible apply And.intro); (case' right => try (conv => whnf)); (case' left => try first | rfl | decide | (simp; done) ))
 )
  refine w_loop (X := Nat) [8, 10, 24, 25, 26, 27, 28, 29, 30, 31, 32, 33, 34, 35, 36, 37, 38, 39, 40, 41, 42, 43, 44, 45, 46, 47, 48, 49, 50, 51, 52, 53] (fun i => [(24, I i)]) (fun i => [(32, .box [Tx (cat (preC n g i))])]) (fun i => i ≤ g.length) (fun i => g.length - i) 0 (Nat.zero_le _) ?_ ?_
  · refine ⟨kt_refl, ko_refl, ?_, ?_, ?_, ?_, Nat.le_refl _⟩ <;> simp [preC]
  intro i hi
  rcases Nat.lt_or_ge i g.length with hil | hil
  · obtain ⟨f, hf⟩ : ∃ f, g[i]? = some f := ⟨_, List.getElem?_eq_getElem hil⟩
    have hff := frameE_ok (hgf f (List.mem_of_getElem? hf))
    have n3 := c_number4 f.time hff.1
    have n4 := c_number1 (f.parts.length : Int) (by omega)
    have hbody : bodyCk n g = preC n g i ++ (frameCk f ++ (g.drop (i + 1)).flatMap frameCk) := by
      rw [preC, bodyCk, List.append_assoc, ← List.flatMap_cons, ← drop_at hf, ← List.flatMap_append, List.take_append_drop]
    have p2 := c_put (preC n g i) [beN f.time 4, beN f.parts.length 1] (hck _ ⟨f.parts.flatMap partC ++ (g.drop (i + 1)).flatMap frameCk, by rw [hbody, frameCk]; simp⟩)
    repeat' (first
 | ((with_reducible refine all_row ?_); intro z hz; obtain rfl : f = z := Option.some.inj (hf.symm.trans hz); conv => whnf)
 | (with_reducible first | apply qz0 | (refine h0 _ _ ?_; clear h0 hw) | (refine hw _ _ _ ?_; clear h0 hw) | apply qz2 | apply qz3 | apply qz4 | apply qz6 | apply qz7 | apply qza | apply qzc )
 | (with_reducible first | refine w_reg (by decide +kernel) fun K1 hK => ?_ )
 | ((with_reducible first | apply d_reg Try.mix (by decide +kernel) ); (case hm => simp only [List.length_cons, List.length_nil, Nat.reduceAdd, Nat.reduceMul]; rfl); (case' h => intro K1 hK))
 | with_reducible refine go_seq ?_
 | ((with_reducible first | apply v_op Try.tab | apply v_op0 Try.tab | apply d_op Try.tab ) <;> first | (intro K' h0 hw; conv => whnf) | (simp only [Nat.reduceAdd, Nat.reduceMul]; rfl))
 | ((with_reducible apply v_nil); (case hm => (simp only [Nat.reduceAdd, Nat.reduceMul]; rfl)); (case' h => with_reducible refine hK _ ?_; clear hK))
 | ((with_reducible apply d_nil); (refine hK _ _ _ _ (by first | (simp only [List.map_cons, List.map_nil, List.nil_append, List.cons_append]; decide +kernel) ) ?_; clear hK))
 | ((with_reducible refine callV_id (f := 118) ?_); (with_reducible apply callV_f own118 (n3)); (case hx => rfl); (case he => rfl); (case hle => first | ((repeat constructor); done) ); (case hpu => repeat constructor); (case' hK => conv => whnf))
 | ((with_reducible refine callV_id (f := 118) ?_); (with_reducible apply callV_f own118 (n4)); (case hx => rfl); (case he => rfl); (case hle => first | (simp; done)); (case hpu => repeat constructor); (case' hK => conv => whnf))
 | ((with_reducible refine callV_id (f := 117) ?_); (with_reducible apply w_callO [32] own117 (p2)); (case hx => rfl); (case he => rfl); (case hle => first | ((repeat constructor); done) ); (case hm => rfl); (case hnd => decide); (case' hK => conv => whnf); (any_goals (simp; done)))
 | ((with_reducible apply go_cond); (case hb => rfl))
 | ((with_reducible apply And.intro); (case' right => try (conv => whnf)); (case' left => try first | rfl | decide | (simp; done) ))
 | ((with_reducible apply Side.mk); (try simp (disch := omega) only [wrp]); (try simp); (try simp (disch := omega) only [wrp]); (try omega))
 | (first  | intro g1; try simp at g1))
    · refine w_loop (X := Nat) [10, 41, 42, 43, 44, 45, 46, 47, 48, 49, 50, 51, 52] (fun j => [(41, I j)]) (fun j => [(32, .box [Tx (cat (preF n g i f j))])]) (fun j => j ≤ f.parts.length) (fun j => f.parts.length - j) 0 (Nat.zero_le _) ?_ ?_
      · refine ⟨kt_refl, ko_refl, ?_, ?_, ?_, ?_, Nat.le_refl _⟩ <;> simp [preF]
      intro j hj
      rcases Nat.lt_or_ge j f.parts.length with hjl | hjl
      · obtain ⟨p, hp⟩ : ∃ p, f.parts[j]? = some p := ⟨_, List.getElem?_eq_getElem hjl⟩
        have n5 := c_number1 (p.size : Int) (by omega)
        have p3 := c_put (preF n g i f j) [beN p.size 1, p] (hck _ ⟨(f.parts.drop (j + 1)).flatMap partC ++ (g.drop (i + 1)).flatMap frameCk, by
          rw [hbody, frameCk, preF]
          rw [show f.parts.flatMap partC = (f.parts.take j).flatMap partC ++ ([beN p.size 1, p] ++ (f.parts.drop (j + 1)).flatMap partC) by
            conv => lhs; rw [← List.take_append_drop j f.parts, List.flatMap_append, drop_at hp, List.flatMap_cons]
            rfl]
          simp⟩)
        have e3 : preF n g i f j ++ [beN p.size 1, p] = preF n g i f (j + 1) := by
          rw [preF, preF, flat_take hp, partC]; simp
        rw [e3] at p3
        repeat' (first
 | ((with_reducible refine all_row ?_); intro z hz; obtain rfl : p = z := Option.some.inj (hp.symm.trans hz); conv => whnf)
 | (with_reducible first | apply qz0 | (refine h0 _ _ ?_; clear h0 hw) | (refine hw _ _ _ ?_; clear h0 hw) | apply qz2 | apply qz3 | apply qz4 | apply qz6 | apply qz7 | apply qz9 | apply qza | apply qzc )
 | (with_reducible first | refine w_reg (by decide +kernel) fun K1 hK => ?_ | refine w_reg_end (by decide +kernel) fun K1 hK => ?_)
 | with_reducible refine go_seq ?_
 | ((with_reducible first | apply v_op Try.tab ) <;> first | (intro K' h0 hw; conv => whnf) | (simp only [Nat.reduceAdd, Nat.reduceMul]; rfl))
 | ((with_reducible apply v_nil); (case hm => (simp only [Nat.reduceAdd, Nat.reduceMul]; rfl)); (case' h => with_reducible refine hK _ ?_; clear hK))
 | ((with_reducible refine callV_id (f := 118) ?_); (with_reducible apply callV_f own118 (n5)); (case hx => rfl); (case he => rfl); (case hle => first | ((repeat constructor); done) ); (case hpu => repeat constructor); (case' hK => conv => whnf))
 | ((with_reducible refine callV_id (f := 117) ?_); (with_reducible apply w_callO [32] own117 (p3)); (case hx => rfl); (case he => rfl); (case hle => first | ((repeat constructor); done) ); (case hm => rfl); (case hnd => decide); (case' hK => conv => whnf); (any_goals (simp; done)))
 | ((with_reducible apply go_cond); (case hb => rfl))
 | ((with_reducible apply And.intro); (case' right => try (conv => whnf)); (case' left => try first | rfl | decide | (simp; done) ))
 | ((with_reducible apply Side.mk); (try simp (disch := omega) only [wrp]); (try simp); (try simp (disch := omega) only [wrp]); (try omega))
 | (first  | intro g1; try simp at g1))
        · refine w_nx (ko := ?ko) (j + 1) ?_ ?_ ?_ ?_ ?_ ?_
          case ko => repeat (first | (with_reducible exact ko_refl) | ((with_reducible refine ko_wos ?_ ?_); focus (simp; done)) | ((with_reducible refine ko_wo ?_ ?_); focus (simp; done)) | ((with_reducible refine ko_wor4 ?_ ?_); focus (simp; done)))
          case refine_1 => simp
          case refine_2 => simp
          case refine_3 => simp (disch := omega) [wrp]
          case refine_4 => simp
          case refine_5 => first | omega | (simp only; omega)
          omega
        · exfalso; omega
      · have e4 : preF n g i f j = preC n g (i + 1) := by
          rw [preF, List.take_of_length_le (by omega), preC, preC, flat_take hf, frameCk]; simp
        repeat' (first
 | (with_reducible first | apply qz0 | (refine h0 _ _ ?_; clear h0 hw) | apply qz2 | apply qz3 | apply qz4 | apply qz6 | apply qz7 | apply qz9 | apply qza | apply qzc )
 | (with_reducible first | refine w_reg (by decide +kernel) fun K1 hK => ?_ | refine w_reg_end (by decide +kernel) fun K1 hK => ?_)
 | with_reducible refine go_seq ?_
 | ((with_reducible first | apply v_op Try.tab ) <;> first | (intro K' h0 hw; conv => whnf) | (simp only [Nat.reduceAdd, Nat.reduceMul]; rfl))
 | ((with_reducible apply v_nil); (case hm => (simp only [Nat.reduceAdd, Nat.reduceMul]; rfl)); (case' h => with_reducible refine hK _ ?_; clear hK))
 | ((with_reducible apply go_cond); (case hb => rfl))
 | ((with_reducible apply And.intro); (case' right => try (conv => whnf)); (case' left => try first | decide | (simp; done) | (simp (disch := omega) [wrp]; (try omega); done)))
 | ((with_reducible refine all_row ?_); (first  | intro x1 hx1); conv => whnf)
 | (first  | intro g1; try simp at g1))
        · exfalso; omega
        · refine w_nx (ko := ?ko) (i + 1) ?_ ?_ ?_ ?_ ?_ ?_
          case ko => repeat (first | (with_reducible exact ko_refl) | ((with_reducible refine ko_wos ?_ ?_); focus (simp; done)) | ((with_reducible refine ko_wo ?_ ?_); focus (simp; done)) | ((with_reducible refine ko_wor4 ?_ ?_); focus (simp; done)))
          case refine_1 => simp
          case refine_2 => simp
          case refine_3 => simp (disch := omega) [wrp]
          case refine_4 => simp [e4]
          case refine_5 => first | omega | (simp only; omega)
          omega
    · exfalso; omega
  · have e5 : preC n g i = bodyCk n g := by rw [preC, List.take_of_length_le (by omega)]; rfl
    rw [e5]
    have n6 := c_number2 ((cat (bodyCk n g)).size : Int) (by omega)
    have hsz := CkOK.size (hck (bodyCk n g) ⟨[], by simp⟩)
    have z6 := beN_size 2 ((cat (bodyCk n g)).size : Int)
    repeat' (first
 | (with_reducible first | apply qz0 | (refine h0 _ _ ?_; clear h0 hw) | (refine hw _ _ _ ?_; clear h0 hw) | apply qz1 | apply qz2 | apply qz3 | apply qz4 | apply qz6 | apply qz7 | apply qza | apply qzc | (refine hL _ ?_; clear hL))
 | (with_reducible first | refine w_reg (by decide +kernel) fun K1 hK => ?_ )
 | ((with_reducible first | apply d_reg Try.mix (by decide +kernel) ); (case hm => simp only [List.length_cons, List.length_nil, Nat.reduceAdd, Nat.reduceMul]; rfl); (case' h => intro K1 hK))
 | with_reducible refine go_seq ?_
 | ((with_reducible first | apply v_op Try.tab | apply v_op0 Try.tab | apply d_op Try.tab ) <;> first | (intro K' h0 hw; conv => whnf) | (simp only [Nat.reduceAdd, Nat.reduceMul]; rfl))
 | ((with_reducible apply v_nil); (case hm => (simp only [Nat.reduceAdd, Nat.reduceMul]; rfl)); (case' h => with_reducible refine hK _ ?_; clear hK))
 | ((with_reducible apply d_nil); (refine hK _ _ _ _ (by first | decide +kernel ) ?_; clear hK))
 | ((with_reducible refine callV_id (f := 118) ?_); (with_reducible apply callV_f own118 (n6)); (case hx => rfl); (case he => rfl); (case hle => first | ((repeat constructor); done) ); (case hpu => repeat constructor); (case' hK => conv => whnf))
 | ((with_reducible apply go_cond); (case hb => rfl))
 | ((with_reducible first | refine w_ret Try.tab fun K' hL => ?_ ); (conv => whnf))
 | ((with_reducible apply And.intro); (case' right => try (conv => whnf)); (case' left => try first | rfl | decide | (simp; done) | (simp (disch := omega) [wrp]; (try omega); done)))
 | ((with_reducible refine all_row ?_); (first  | intro x1 hx1); conv => whnf)
 | (rw [strAdd (by omega)]; conv => whnf)
 | (first  | intro g1; try simp at g1))
    all_goals first | (exfalso; omega) | exact .refl _
def encE (n : Int) (g : List Fr) : Int := if n < 0 ∨ 100000 < n then 3 else groupE g
def encR (n : Int) (g : List Fr) : ByteArray × Int := if encE n g = 0 then (recB n g, 0) else (ByteArray.empty, encE n g)
abbrev encTd (r : ByteArray × Int) : AV := .tup [Tx r.1, I r.2]
theorem c_dkEncode (n : Int) (g : List Fr) (hf : Fits g) : PSpec Try.prog 16 [I n, .agg (grC g)] (encTd (encR n g)) := by
  have h1 := c_numberD n
  have h2 := c_groupCheck g hf
  by_cases c : n < 0 ∨ 100000 < n
  · have e : encR n g = (ByteArray.empty, 3) := by unfold encR encE; rw [if_pos c]; rfl
    rw [show (decide (0 ≤ n) && decide (n ≤ 100000)) = false by simp; omega] at h1
    rw [e]
    refine v_pspec Try.func16 rfl Try.ntmps16 Try.results16 (by simp) (by first | exact .s _ | repeat constructor) ?_
    repeat' (first
 | (with_reducible first | apply qz0 | (refine h0 _ _ ?_; clear h0 hw) | (refine hw _ _ _ ?_; clear h0 hw) | apply qz1 | apply qz5 | (refine hL _ ?_; clear hL))
 | (with_reducible first | refine w_reg (by decide +kernel) fun K1 hK => ?_ )
 | with_reducible refine go_seq ?_
 | ((with_reducible first | apply v_op Try.tab ) <;> first | (intro K' h0 hw; conv => whnf) | (simp only [Nat.reduceAdd, Nat.reduceMul]; rfl))
 | ((with_reducible apply v_nil); (case hm => (simp only [Nat.reduceAdd, Nat.reduceMul]; rfl)); (case' h => with_reducible refine hK _ ?_; clear hK))
 | ((with_reducible refine callV_id (f := 60) ?_); (with_reducible apply callV_f own60 (h1)); (case hx => rfl); (case he => rfl); (case hle => first | ((repeat constructor); done) ); (case hpu => repeat constructor); (case' hK => conv => whnf))
 | ((with_reducible apply go_cond); (case hb => rfl))
 | ((with_reducible first | refine w_ret Try.tab fun K' hL => ?_ ); (conv => whnf))
 | ((with_reducible apply And.intro); (case' right => try (conv => whnf)); (case' left => try first | rfl ))
 | (first  | intro g1; try simp at g1))
    exact .refl _
  · rw [show (decide (0 ≤ n) && decide (n ≤ 100000)) = true by simp; omega] at h1
    have e : encE n g = groupE g := if_neg c
    by_cases cg : groupE g = 0
    · have h3 := c_bytes n g (by omega) cg
      rw [encR, e, if_pos cg]
      rw [cg] at h2
      refine v_pspec Try.func16 rfl Try.ntmps16 Try.results16 (by simp) (by first | exact .s _ | repeat constructor) ?_
      repeat' (first
 | (with_reducible first | apply qz0 | (refine h0 _ _ ?_; clear h0 hw) | (refine hw _ _ _ ?_; clear h0 hw) | apply qz1 | apply qz2 | apply qz6 | (refine hL _ ?_; clear hL))
 | (with_reducible first | refine w_reg (by decide +kernel) fun K1 hK => ?_ )
 | with_reducible refine go_seq ?_
 | ((with_reducible first | apply v_op Try.tab ) <;> first | (intro K' h0 hw; conv => whnf) | (simp only [Nat.reduceAdd, Nat.reduceMul]; rfl))
 | ((with_reducible apply v_nil); (case hm => (simp only [Nat.reduceAdd, Nat.reduceMul]; rfl)); (case' h => with_reducible refine hK _ ?_; clear hK))
 | ((with_reducible refine callV_id (f := 60) ?_); (with_reducible apply callV_f own60 (h1)); (case hx => rfl); (case he => rfl); (case hle => first | ((repeat constructor); done) ); (case hpu => repeat constructor); (case' hK => conv => whnf))
 | ((with_reducible refine callV_id (f := 61) ?_); (with_reducible apply callV_f own61 (h2)); (case hx => rfl); (case he => rfl); (case hle => first | ((repeat constructor); done) ); (case hpu => repeat constructor); (case' hK => conv => whnf))
 | ((with_reducible refine callV_id (f := 62) ?_); (with_reducible apply callV_f own62 (h3)); (case hx => rfl); (case he => rfl); (case hle => first | ((repeat constructor); done) ); (case hpu => repeat constructor); (case' hK => conv => whnf))
 | ((with_reducible apply go_cond); (case hb => rfl))
 | ((with_reducible first | refine w_ret Try.tab fun K' hL => ?_ ); (conv => whnf))
 | ((with_reducible apply And.intro); (case' right => try (conv => whnf)); (case' left => try first | rfl | decide | (simp; done) ))
 | (first  | intro g1; try simp at g1))
      exact .refl _
    · rw [encR, e, if_neg cg]
      refine v_pspec Try.func16 rfl Try.ntmps16 Try.results16 (by simp) (by first | exact .s _ | repeat constructor) ?_
      repeat' (first
 | (with_reducible first | apply qz0 | (refine h0 _ _ ?_; clear h0 hw) | (refine hw _ _ _ ?_; clear h0 hw) | apply qz1 | apply qz2 | apply qz5 | apply qz6 | (refine hL _ ?_; clear hL))
 | (with_reducible first | refine w_reg (by decide +kernel) fun K1 hK => ?_ )
 | with_reducible refine go_seq ?_
 | ((with_reducible first | apply v_op Try.tab ) <;> first | (intro K' h0 hw; conv => whnf) | (simp only [Nat.reduceAdd, Nat.reduceMul]; rfl))
 | ((with_reducible apply v_nil); (case hm => (simp only [Nat.reduceAdd, Nat.reduceMul]; rfl)); (case' h => with_reducible refine hK _ ?_; clear hK))
 | ((with_reducible refine callV_id (f := 60) ?_); (with_reducible apply callV_f own60 (h1)); (case hx => rfl); (case he => rfl); (case hle => first | ((repeat constructor); done) ); (case hpu => repeat constructor); (case' hK => conv => whnf))
 | ((with_reducible refine callV_id (f := 61) ?_); (with_reducible apply callV_f own61 (h2)); (case hx => rfl); (case he => rfl); (case hle => first | ((repeat constructor); done) ); (case hpu => repeat constructor); (case' hK => conv => whnf))
 | ((with_reducible apply go_cond); (case hb => rfl))
 | ((with_reducible first | refine w_ret Try.tab fun K' hL => ?_ ); (conv => whnf))
 | ((with_reducible apply And.intro); (case' right => try (conv => whnf)); (case' left => try first | rfl | decide | (simp; done) ))
 | (first  | intro g1; try simp at g1))
      all_goals first | exact .refl _ | (exfalso; exact cg (by assumption))
end Go.Proofs.Ytbhcjgobapnajaa

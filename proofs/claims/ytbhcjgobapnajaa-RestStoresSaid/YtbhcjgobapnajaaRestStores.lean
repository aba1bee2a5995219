/- RestStores, walked. CONDITIONS: what is handed in fits into memory. -/
import Derived.Test.YtbhcjgobapnajaaSpoil
import Derived.Test.YtbhcjgobapnajaaSyLb
import Derived.Test.YtbhcjgobapnajaaDisk13
import Derived.Test.YtbhcjgobapnajaaCuA
import Derived.Test.YtbhcjgobapnajaaFrA
import Derived.Test.YtbhcjgobapnajaaStB
namespace Go.Proofs.Ytbhcjgobapnajaa
open Go Go.Sy
set_option maxRecDepth 4000
set_option linter.unusedSimpArgs false
set_option linter.unusedVariables false
attribute [local irreducible] Reg RegD Later Out CallV YieldV Tri Side EqV
theorem c_storeGetE (s : Sto) (n : Int) (hs : FitsS s) (hn : n ≤ 9223372036854775807) : PSpec Try.prog 31 [.agg (stO s), I n] (.tup [.agg (grC (getS s n).1), I (getS s n).2]) := by
  by_cases h : 0 < s.op.length
  · exact c_storeGetN s n hs h hn
  · exact c_storeGetO s n hs h hn
theorem c_cursorNextE (s : Sto) (c : Cu) (upto : Int) (hs : FitsS s) : PSpec Try.prog 51 [.agg (stO s), .agg (cuC c), I upto] (nxT' (nextS s c upto)) := by
  by_cases h : 0 < s.op.length
  · exact c_cursorNextN s c upto hs h
  · exact c_cursorNextO s c upto hs h
theorem c_sameStoreO (a b : Sto) (ha : FitsS a) : PSpec Try.prog 28 [.agg (stO a), .agg (stO b)] (B (decide (a = b))) := by
  have h := (c_sameStoreT a b ha).olds ⟨pl_stC a, pl_stC b, trivial⟩ trivial
  rwa [show oldL [.agg (stC a), .agg (stC b)] = [.agg (stO a), .agg (stO b)] by simp only [oldL, AV.old, old_rowF, old_rowG]] at h
theorem c_sameFrameO (a b : Fr) (ha : a.parts.length ≤ 1000000000000000) : PSpec Try.prog 52 [.agg (frO a), .agg (frO b)] (B (decide (a = b))) := by
  have h := (c_sameFrame a b ha).olds ⟨pl_frC a, pl_frC b, trivial⟩ trivial
  rwa [show oldL [.agg (frC a), .agg (frC b)] = [.agg (frO a), .agg (frO b)] by simp only [oldL, AV.old, old_rowS]] at h
theorem c_storeIsO (s : Sto) (f : Fr) : PSpec Try.prog 27 [.agg (stC (addS' s f).1), I (addS' s f).2.2, I (addS' s f).2.2, .agg (stO (addS' s f).1)] (B true) :=
  (c_storeIs' s f).mix ⟨.inl rfl, .inl rfl, .inl rfl, .inr (by simp only [AV.old, oldL, old_rowF, old_rowG]), trivial⟩ ⟨pl_stC _, trivial, trivial, pl_stC _, trivial⟩ trivial
variable {dS : Sto} {dd : Dk} {de : Int}
theorem pl_cuC (c : Cu) : plL (cuC c) := ⟨trivial, trivial, trivial, trivial⟩
theorem sk_cuC (c : Cu) : skL (cuC c) := ⟨trivial, trivial, trivial, trivial⟩
theorem sk_dkC (d : Dk) : skL (dkC d) := ⟨trivial, trivial, trivial⟩
theorem ho_cuC (c : Cu) : hoL (cuC c) := ⟨trivial, trivial, trivial, trivial⟩
theorem ho_dkC (d : Dk) : hoL (dkC d) := ⟨trivial, trivial, trivial⟩
theorem pl_dkC (d : Dk) : plL (dkC d) := ⟨trivial, trivial, trivial⟩
set_option maxHeartbeats 1000000 in
theorem c_spoilFramesB (x : Fr) (hp : x.parts.length ≤ 1000000000000000) : CSpec Try.prog 54 [.bsl 0 0 3 1 1] [.box [I x.time, B x.key, strsW x.parts]] (.tup []) [.box [I (-7), B x.key, strsW x.parts]] := by
  refine v_cspec Try.func54 rfl Try.ntmps54 Try.results54 (by simp) (k := 1) rfl ?_
  repeat' (first
 | (with_reducible first | apply qz0 | (refine h0 _ _ ?_; clear h0 hw) | apply qz3 )
 | (with_reducible first | refine w_reg (by decide +kernel) fun K1 hK => ?_ )
 | ((with_reducible first | apply v_op Try.tab ) <;> first | (intro K' h0 hw; conv => whnf) | (simp only [Nat.reduceAdd, Nat.reduceMul]; rfl))
 | ((with_reducible apply v_nil); (case hm => (simp only [Nat.reduceAdd, Nat.reduceMul]; rfl)); (case' h => with_reducible refine hK _ ?_; clear hK))
 )
  refine w_loop (X := Nat) [2, 3, 4, 5, 6, 7, 8, 9, 10, 11, 12, 13, 14, 15, 16, 17, 18, 19, 20, 21, 22, 23, 24, 25, 26, 27, 28, 29, 30] (fun i => [(2, I i)]) (fun i => [(0, .box [I (if i = 0 then x.time else -7), B x.key, strsW x.parts])]) (fun i => i ≤ 1) (fun i => 1 - i) 0 (by simp) ?_ ?_
  · refine ⟨kt_refl, ko_refl, ?_, ?_, ?_, ?_, Nat.le_refl _⟩ <;> simp
  intro i h1
  repeat' (first
 | (with_reducible first | apply qz0 | (refine h0 _ _ ?_; clear h0 hw) | apply qz2 | apply qz3 | apply qz4 | apply qz6 | apply qz7 | apply qza | apply qzc )
 | (with_reducible first | refine w_reg (by decide +kernel) fun K1 hK => ?_ )
 | with_reducible refine go_seq ?_
 | ((with_reducible first | apply v_op Try.tab ) <;> first | (intro K' h0 hw; conv => whnf) | (simp only [Nat.reduceAdd, Nat.reduceMul]; rfl))
 | ((with_reducible apply v_nil); (case hm => (simp only [Nat.reduceAdd, Nat.reduceMul]; rfl)); (case' h => with_reducible refine hK _ ?_; clear hK))
 | ((with_reducible apply go_cond); (case hb => rfl))
 | (first  | intro g1; try simp at g1))
  · obtain rfl : i = 0 := by omega
    refine w_loop (X := Nat) [3, 10, 11, 12, 13, 14, 15, 16, 17, 18, 19, 20, 21, 22, 23, 24, 25, 26] (fun k => [(3, I k)]) (fun _ => []) (fun k => k ≤ x.parts.length) (fun k => x.parts.length - k) 0 (by simp) ?_ ?_
    · refine ⟨kt_refl, ko_refl, ?_, ?_, ?_, ?_, Nat.le_refl _⟩ <;> simp
    intro k h2
    repeat' (first
 | (with_reducible first | apply qz0 | (refine h0 _ _ ?_; clear h0 hw) | (refine hw _ _ _ ?_; clear h0 hw) | apply qz2 | apply qz3 | apply qz4 | apply qz6 | apply qz7 | apply qz9 | apply qza | apply qzc )
 | (with_reducible first | refine w_reg (by decide +kernel) fun K1 hK => ?_ | refine w_reg_end (by decide +kernel) fun K1 hK => ?_)
 | with_reducible refine go_seq ?_
 | ((with_reducible first | apply v_op Try.tab | apply v_op0 Try.tab) <;> first | (intro K' h0 hw; conv => whnf) | (simp only [Nat.reduceAdd, Nat.reduceMul]; rfl))
 | ((with_reducible apply v_nil); (case hm => (simp only [Nat.reduceAdd, Nat.reduceMul]; rfl)); (case' h => with_reducible refine hK _ ?_; clear hK))
 | ((with_reducible apply go_cond); (case hb => rfl))
 | ((with_reducible apply And.intro); (case' right => try (conv => whnf)); (case' left => try first | rfl | decide | (simp; done) ))
 | ((with_reducible apply Side.mk); (try simp (disch := omega) only [wrp]); (try simp); (try simp (disch := omega) only [wrp]); (try omega))
 | ((with_reducible refine all_row ?_); (first | intro x1 hx1); conv => whnf)
 | (first  | intro g1; try simp at g1))
    · have h3 := hx1
      ((refine w_nx ((k + 1)) ?_ ?_ ?_ ?_ ?_ ?_); (case refine_1 => simp); (case refine_2 => simp); (case refine_3 => simp (disch := omega) [wrp]); (case refine_4 => simp); (case refine_5 => first | (simp; omega) | (simp; done) | omega | (simp only; omega)); (case' refine_6 => (try simp only); (try exact trivial)))
      omega
    · ((refine w_nx (1) ?_ ?_ ?_ ?_ ?_ ?_); (case refine_1 => simp); (case refine_2 => simp); (case refine_3 => simp (disch := omega) [wrp]); (case refine_4 => simp); (case refine_5 => first | (simp; omega) | (simp; done) | omega | (simp only; omega)); (case' refine_6 => (try simp only); (try exact trivial)))
      omega
  · obtain rfl : i = 1 := by omega
    ((first | refine w_retO Try.tab [] (by rfl) (by simp) (by simp) (fun K' hL => ?_) ?_ ?_ ?_ | refine w_retO_end Try.tab [] (by rfl) (by simp) (by simp) (fun K' hL => ?_) ?_ ?_ ?_); (conv => whnf); (refine hL _ ?_; clear hL); all_goals simp)
set_option maxHeartbeats 16000000 in
theorem c_restStores (s : Sto) (f : Fr) (c : Cu) (d : Dk) (hs : FitsT s) (hf : f.parts.length ≤ 8796093022208) (hfirst : s.first ≤ 9223372036854775807) (hO : PSpec Try.prog 14 [.agg (dkC d)] (.tup [.agg (stC dS), .agg (dkC dd), I de])) (hdS : Small dS) : PSpec Try.prog 10 [.agg (stC s), .agg (frC f), .agg (cuC c), .agg (dkC d)] (B true) := by
  have hG := p_copiedGroup [f] (by simp) (by simpa using hf)
  have r1 := c_storeAddO s f hs.fits hf
  have r2 := c_storeIsO s f
  have r3 := c_storeGetE s s.first hs.fits hfirst
  have r4 := c_cursorNextE s c 1000000 hs.fits
  have r5 := c_sameStoreO s s hs.fits
  rw [decide_eq_true rfl] at r5
  have r6 := c_sameFrameO f f (by omega)
  rw [decide_eq_true rfl] at r6
  have p1 := c_spoilStore (addS' s f).1 (add_small s f)
  have p2 := c_spoilStore dS hdS
  have p3 := c_spoilFrames (getS s s.first).1 (by have := (getS_small s s.first).1; omega) (fun f hf => by have := (getS_small s s.first).2 f hf; omega)
  have p4 := c_spoilFramesB (nextS s c 1000000).1.2.1 (next_parts s c 1000000)
  refine v_pspec Try.func10 rfl Try.ntmps10 Try.results10 (by simp) (by first | exact .s _ | repeat constructor) ?_
  repeat' (first
 | ((with_reducible refine all_row ?_); intro x1 hx1; simp at hx1; subst hx1; conv => whnf)
 | ((first | with_reducible refine w_cut (x := .seq (.region _ _ _) (.cond (.tmp 53) _ _)) (X := Unit) [11, 52, 53, 54, 55] (fun _ => [(11, I (vE1 s f))]) (fun _ => []) (fun _ => True) ?_ ?_); (try (rintro z hz; simp only at hz)))
 | ((first | with_reducible refine w_cut (x := .seq (.region _ _ _) (.cond (.tmp 57) _ _)) (X := Unit) [11, 56, 57, 58, 59, 60, 61, 62, 63, 64] (fun _ => [(11, I (addS' s f).2.2)]) (fun _ => [(560, .box (stC (addS' s f).1))]) (fun _ => True) ?_ ?_); (try (rintro z hz; simp only at hz)))
 | (with_reducible first | apply qz0 | (refine h0 _ _ ?_; clear h0 hw) | (refine hw _ _ _ ?_; clear h0 hw) | apply qz2 | apply qz3 | apply qz6 )
 | (with_reducible first | refine w_reg (by decide +kernel) fun K1 hK => ?_ | refine w_reg_end (by decide +kernel) fun K1 hK => ?_)
 | with_reducible refine go_seq ?_
 | ((with_reducible first | apply v_op Try.tab | apply v_op0 Try.tab) <;> first | (intro K' h0 hw; conv => whnf) | (simp only [Nat.reduceAdd, Nat.reduceMul]; rfl))
 | ((with_reducible apply v_nil); (case hm => (simp only [Nat.reduceAdd, Nat.reduceMul]; rfl)); (case' h => with_reducible refine hK _ ?_; clear hK))
 | (first | refine v_grd_yes (by rfl) (by rfl) ?_)
 | ((with_reducible refine callV_id (f := 29) ?_); (with_reducible apply callV_f own29 (c_storeBegun)); (case hx => rfl); (case he => rfl); (case hle => first | ((repeat constructor); done) ); (case hpu => repeat constructor); (case' hK => conv => whnf))
 | ((with_reducible refine callV_id (f := 43) ?_); (with_reducible apply callV_f own43 (c_cursorBegun)); (case hx => rfl); (case he => rfl); (case hle => first | ((repeat constructor); done) ); (case hpu => repeat constructor); (case' hK => conv => whnf))
 | ((with_reducible refine callV_id (f := 12) ?_); (with_reducible apply callV_f own12 (c_diskBegun)); (case hx => rfl); (case he => rfl); (case hle => first | ((repeat constructor); done) ); (case hpu => repeat constructor); (case' hK => conv => whnf))
 | ((with_reducible refine callV_id (f := 44) ?_); (with_reducible apply callV_f own44 (c_frameBegun)); (case hx => rfl); (case he => rfl); (case hle => first | ((repeat constructor); done) ); (case hpu => repeat constructor); (case' hK => conv => whnf))
 | ((with_reducible refine callV_id (f := 45) ?_); have hcs_ := c_copiedStore s hs; (with_reducible apply callV_f own45 (hcs_)); (case hx => rfl); (case he => rfl); (case hle => first | ((repeat constructor); done) ); (case hpu => repeat constructor); (case' hK => (try clear hcs_); conv => whnf))
 | ((with_reducible refine callV_id (f := 46) ?_); (with_reducible apply callV_f own46 (hG)); (case hx => rfl); (case he => rfl); (case hle => first | ((repeat constructor); done) ); (case hpu => repeat constructor); (case' hK => conv => whnf))
 | ((with_reducible refine callV_id (f := 47) ?_); have hcs_ := c_checkStore s hs.fits; (with_reducible apply callV_f own47 (hcs_)); (case hx => rfl); (case he => rfl); (case hle => first | ((repeat constructor); done) ); (case hpu => repeat constructor); (case' hK => (try clear hcs_); conv => whnf))
 | ((with_reducible refine callV_id (f := 48) ?_); have hcs_ := c_checkFrame f (by omega); (with_reducible apply callV_f own48 (hcs_)); (case hx => rfl); (case he => rfl); (case hle => first | ((repeat constructor); done) ); (case hpu => repeat constructor); (case' hK => (try clear hcs_); conv => whnf))
 | ((with_reducible refine callV_id (f := 49) ?_); have hcs_ := c_storeAddR s f (vE1_ok (by assumption)).1 (vE1_ok (by assumption)).2; (with_reducible apply callV_f own49 (hcs_)); (case hx => rfl); (case he => rfl); (case hle => first | ((repeat constructor); done) ); (case hpu => repeat constructor); (case' hK => (try clear hcs_); conv => whnf))
 | ((with_reducible apply go_cond); (case hb => rfl))
 | ((with_reducible apply And.intro); (case' right => try (conv => whnf)); (case' left => try first | rfl | decide | (simp [stT]; done) ))
 | ((with_reducible apply Side.mk); (try simp (disch := omega) only [wrp]); (try simp); (try simp (disch := omega) only [wrp]); (try omega))
 | (first  | intro g1; try simp at g1; try simp (disch := omega) only [wrp] at g1))
  · have e : vE1 s f = frameE f := if_pos (by assumption)
    ((refine w_nx (()) ?_ ?_ ?_ ?_ ?_ ?_); (case refine_1 => simp [e]); (case refine_2 => simp [e]); (case refine_3 => simp (disch := omega) [e, wrp]); (case refine_4 => simp [e]); (case refine_5 => first | (simp; omega) | (simp; done) | omega | (simp only; omega)); (case' refine_6 => (try simp only); (try exact trivial)))
  · have e : vE1 s f = storeE s := if_neg (by assumption)
    ((refine w_nx (()) ?_ ?_ ?_ ?_ ?_ ?_); (case refine_1 => simp [e]); (case refine_2 => simp [e]); (case refine_3 => simp (disch := omega) [e, wrp]); (case refine_4 => simp [e]); (case refine_5 => first | (simp; omega) | (simp; done) | omega | (simp only; omega)); (case' refine_6 => (try simp only); (try exact trivial)))
  · have e : addS' s f = storeRaw s f := if_pos (by assumption)
    ((refine w_nx (()) ?_ ?_ ?_ ?_ ?_ ?_); (case refine_1 => simp [e]); (case refine_2 => simp [e]); (case refine_3 => simp (disch := omega) [e, wrp]); (case refine_4 => simp [e]); (case refine_5 => first | (simp; omega) | (simp; done) | omega | (simp only; omega)); (case' refine_6 => (try simp only); (try exact trivial)))
  · have e : addS' s f = (st0, false, vE1 s f) := if_neg (by assumption)
    ((refine w_nx (()) ?_ ?_ ?_ ?_ ?_ ?_); (case refine_1 => simp [e, st0]); (case refine_2 => simp [e, st0]); (case refine_3 => simp (disch := omega) [e, st0, wrp]); (case refine_4 => simp [e, st0]); (case refine_5 => first | (simp; omega) | (simp; done) | omega | (simp only; omega)); (case' refine_6 => (try simp only); (try exact trivial)))
  · refine w_unroll ?_
    repeat' (first
 | ((with_reducible apply w_raise (code := .seq (.block 1 _) _) [(4, .ptr 0 0), (5, .ptr 16 0), (6, .ptr 32 0), (7, .ptr 48 0), (9, .ptr 336 0), (10, .ptr 480 0), (12, .ptr 560 0), (11, I (addS' s f).2.2), (13, I 0), (8, B false)] [(0, stC s), (16, frC f), (32, cuC c), (48, dkC d), (336, stC s), (480, frC f), (560, stC (addS' s f).1)] 16); (case hid => rfl); (case hS => simp); (case hB => simp [boxB]); (case hSp => simp [plS, AV.pl]); (case hBp => exact ⟨pl_stC _, pl_frC _, pl_cuC _, pl_dkC _, pl_stC _, pl_frC _, pl_stC _, trivial⟩); (case' h => simp only [oldS, oldB, oldL, AV.old, old_rowF, old_rowG, old_rowS]))
 | ((with_reducible apply w_spoil (code := .seq (.region 22 _ _) _) [(4, .ptr 0 0), (5, .ptr 16 0), (6, .ptr 32 0), (7, .ptr 48 0), (9, .ptr 336 0), (10, .ptr 480 0), (12, .ptr 560 0), (11, I (addS' s f).2.2), (13, I 0), (8, B false), (14, .ptr 736 0), (17, .ptr 1008 0), (20, .ptr 1216 0), (24, .ptr 1408 0)] [(0, stO s), (16, frO f), (32, cuC c), (48, dkC d), (336, stO s), (480, frO f), (560, stO (addS' s f).1), (736, stC (addS' s f).1), (1008, grC (getS s s.first).1), (1216, frC (nextS s c 1000000).1.2.1), (1408, stC dS)] 16); (case hmk => rfl); (case h16 => decide); (case hid => rfl); (case hS => simp); (case hB => simp [boxB]); (case hSp => simp [skS, AV.sk]); (case hBp => exact ⟨sk_stO _, sk_frO _, sk_cuC _, sk_dkC _, sk_stO _, sk_frO _, sk_stO _, sk_stC _, sk_grC _, sk_frC _, sk_stC _, trivial⟩); (case' h => simp only [spoS, spoB, spoL, AV.spo, spo_rowF, spo_rowG, spo_rowS]))
 | ((with_reducible apply v_litB (d := 122) (es := [[I (nextS s c 1000000).1.2.1.time, B (nextS s c 1000000).1.2.1.key, strsW (nextS s c 1000000).1.2.1.parts]]) (cs := [I (nextS s c 1000000).1.2.1.time, B (nextS s c 1000000).1.2.1.key, strsW (nextS s c 1000000).1.2.1.parts]) Try.tab); (case hnb => (try simp only [Nat.reduceAdd, Nat.reduceMul]); exact rfl); (case hi => exact rfl); (case he => exact rfl); (case h1 => decide); (case h2 => decide); (case h3 => rfl); (case hes => rfl); (case hcs => rfl))
 | (with_reducible first | apply qz0 | (refine h0 _ _ ?_; clear h0 hw) | (refine hw _ _ _ ?_; clear h0 hw) | apply qz2 | apply qz3 | apply qz6 | apply qz9 )
 | (with_reducible first | refine w_reg (by decide +kernel) fun K1 hK => ?_ | refine w_reg_end (by decide +kernel) fun K1 hK => ?_)
 | with_reducible refine go_seq ?_
 | ((with_reducible first | apply v_op Try.tab | apply v_op0 Try.tab) <;> first | (intro K' h0 hw; conv => whnf) | (simp only [Nat.reduceAdd, Nat.reduceMul]; rfl))
 | ((with_reducible apply v_nil); (case hm => (simp only [Nat.reduceAdd, Nat.reduceMul]; rfl)); (case' h => with_reducible refine hK _ ?_; clear hK))
 | (first | refine v_grd_yes (by rfl) (by rfl) ?_)
 | ((with_reducible refine callV_id (f := 50) ?_); (with_reducible apply callV_f own50 (r1)); (case hx => rfl); (case he => rfl); (case hle => first | ((repeat constructor); done) ); (case hpu => repeat constructor); (case' hK => conv => whnf))
 | ((with_reducible refine callV_id (f := 27) ?_); (with_reducible apply callV_f own27 (r2)); (case hx => rfl); (case he => rfl); (case hle => first | ((repeat constructor); done) ); (case hpu => repeat constructor); (case' hK => conv => whnf))
 | ((with_reducible refine callV_id (f := 31) ?_); (with_reducible apply callV_f own31 (r3)); (case hx => rfl); (case he => rfl); (case hle => first | ((repeat constructor); done) ); (case hpu => repeat constructor); (case' hK => conv => whnf))
 | ((with_reducible refine callV_id (f := 51) ?_); (with_reducible apply callV_f own51 (r4)); (case hx => rfl); (case he => rfl); (case hle => first | ((repeat constructor); done) ); (case hpu => repeat constructor); (case' hK => conv => whnf))
 | ((with_reducible refine callV_id (f := 14) ?_); (with_reducible apply callV_f own14 (hO)); (case hx => rfl); (case he => rfl); (case hle => first | ((repeat constructor); done) ); (case hpu => repeat constructor); (case' hK => conv => whnf))
 | ((with_reducible refine callV_id (f := 28) ?_); (with_reducible apply callV_f own28 (r5)); (case hx => rfl); (case he => rfl); (case hle => first | ((repeat constructor); done) ); (case hpu => repeat constructor); (case' hK => conv => whnf))
 | ((with_reducible refine callV_id (f := 52) ?_); (with_reducible apply callV_f own52 (r6)); (case hx => rfl); (case he => rfl); (case hle => first | ((repeat constructor); done) ); (case hpu => repeat constructor); (case' hK => conv => whnf))
 | ((with_reducible refine callV_id (f := 54) ?_); (with_reducible apply w_callO [1776] own54 (p4)); (case hx => rfl); (case he => rfl); (case hle => first | ((repeat constructor); done) ); (case hm => rfl); (case hnd => decide); (case' hK => conv => whnf); (any_goals (simp [stT, nxT']; done)))
 | ((with_reducible refine callV_id (f := 53) ?_); (with_reducible apply callV_f own53 (p1)); (case hx => rfl); (case he => rfl); (case hle => first | ((repeat constructor); done) ); (case hpu => repeat constructor); (case' hK => conv => whnf))
 | ((with_reducible refine callV_id (f := 53) ?_); (with_reducible apply callV_f own53 (p2)); (case hx => rfl); (case he => rfl); (case hle => first | ((repeat constructor); done) ); (case hpu => repeat constructor); (case' hK => conv => whnf))
 | ((with_reducible refine callV_id (f := 54) ?_); (with_reducible apply callV_f own54 (p3)); (case hx => rfl); (case he => rfl); (case hle => first | ((repeat constructor); done) ); (case hpu => repeat constructor); (case' hK => conv => whnf))
 | ((with_reducible apply go_cond); (case hb => rfl))
 | ((with_reducible apply And.intro); (case' right => try (conv => whnf)); (case' left => try first | rfl | decide | (simp [stT, nxT']; done) ))
 | ((with_reducible refine spoil_out [(4, .ptr 0 0), (5, .ptr 16 0), (6, .ptr 32 0), (7, .ptr 48 0), (9, .ptr 336 0), (10, .ptr 480 0), (12, .ptr 560 0), (11, I (addS' s f).2.2), (13, I 0), (8, B false)] [(0, stO s), (16, frO f), (32, cuC c), (48, dkC d), (336, stO s), (480, frO f), (560, stO (addS' s f).1)] ?_ ?_ ?_ ?_ ?_); (focus simp); (focus simp [boxB]); (focus simp [hoS, AV.ho]); (focus exact ⟨ho_stO _, ho_frO _, ho_cuC _, ho_dkC _, ho_stO _, ho_frO _, ho_stO _, trivial⟩))
 | ((with_reducible refine round_out [(4, .ptr 0 0), (5, .ptr 16 0), (6, .ptr 32 0), (7, .ptr 48 0), (9, .ptr 336 0), (10, .ptr 480 0), (12, .ptr 560 0), (11, I (addS' s f).2.2), (13, I 1), (8, B false)] [(0, stC s), (16, frC f), (32, cuC c), (48, dkC d), (336, stC s), (480, frC f), (560, stC (addS' s f).1)] ?_ ?_ ?_ ?_ ?_); (focus simp [oldS, AV.old, wrp]); (focus simp [boxB, oldB, oldL, AV.old, old_rowF, old_rowG, old_rowS]); (focus simp [plS, AV.pl]); (focus exact ⟨pl_stC _, pl_frC _, pl_cuC _, pl_dkC _, pl_stC _, pl_frC _, pl_stC _, trivial⟩))
 | (first  | intro g1; try simp at g1))
    refine un_next ?_
    repeat' (first
 | ((with_reducible apply w_raise (code := .seq (.block 1 _) _) [(4, .ptr 0 0), (5, .ptr 16 0), (6, .ptr 32 0), (7, .ptr 48 0), (9, .ptr 336 0), (10, .ptr 480 0), (12, .ptr 560 0), (11, I (addS' s f).2.2), (13, I 1), (8, B false)] [(0, stC s), (16, frC f), (32, cuC c), (48, dkC d), (336, stC s), (480, frC f), (560, stC (addS' s f).1)] 16); (case hid => rfl); (case hS => simp); (case hB => simp [boxB]); (case hSp => simp [plS, AV.pl]); (case hBp => exact ⟨pl_stC _, pl_frC _, pl_cuC _, pl_dkC _, pl_stC _, pl_frC _, pl_stC _, trivial⟩); (case' h => simp only [oldS, oldB, oldL, AV.old, old_rowF, old_rowG, old_rowS]))
 | ((with_reducible apply w_spoil (code := .seq (.region 22 _ _) _) [(4, .ptr 0 0), (5, .ptr 16 0), (6, .ptr 32 0), (7, .ptr 48 0), (9, .ptr 336 0), (10, .ptr 480 0), (12, .ptr 560 0), (11, I (addS' s f).2.2), (13, I 1), (8, B false), (14, .ptr 2000 0), (17, .ptr 2272 0), (20, .ptr 2480 0), (24, .ptr 2672 0)] [(0, stO s), (16, frO f), (32, cuC c), (48, dkC d), (336, stO s), (480, frO f), (560, stO (addS' s f).1), (2000, stC (addS' s f).1), (2272, grC (getS s s.first).1), (2480, frC (nextS s c 1000000).1.2.1), (2672, stC dS)] 16); (case hmk => rfl); (case h16 => decide); (case hid => rfl); (case hS => simp); (case hB => simp [boxB]); (case hSp => simp [skS, AV.sk]); (case hBp => exact ⟨sk_stO _, sk_frO _, sk_cuC _, sk_dkC _, sk_stO _, sk_frO _, sk_stO _, sk_stC _, sk_grC _, sk_frC _, sk_stC _, trivial⟩); (case' h => simp only [spoS, spoB, spoL, AV.spo, spo_rowF, spo_rowG, spo_rowS]))
 | ((with_reducible apply v_litB (d := 122) (es := [[I (nextS s c 1000000).1.2.1.time, B (nextS s c 1000000).1.2.1.key, strsW (nextS s c 1000000).1.2.1.parts]]) (cs := [I (nextS s c 1000000).1.2.1.time, B (nextS s c 1000000).1.2.1.key, strsW (nextS s c 1000000).1.2.1.parts]) Try.tab); (case hnb => (try simp only [Nat.reduceAdd, Nat.reduceMul]); exact rfl); (case hi => exact rfl); (case he => exact rfl); (case h1 => decide); (case h2 => decide); (case h3 => rfl); (case hes => rfl); (case hcs => rfl))
 | (with_reducible first | apply qz0 | (refine h0 _ _ ?_; clear h0 hw) | (refine hw _ _ _ ?_; clear h0 hw) | apply qz2 | apply qz3 | apply qz6 | apply qz9 )
 | (with_reducible first | refine w_reg (by decide +kernel) fun K1 hK => ?_ | refine w_reg_end (by decide +kernel) fun K1 hK => ?_)
 | with_reducible refine go_seq ?_
 | ((with_reducible first | apply v_op Try.tab | apply v_op0 Try.tab) <;> first | (intro K' h0 hw; conv => whnf) | (simp only [Nat.reduceAdd, Nat.reduceMul]; rfl))
 | ((with_reducible apply v_nil); (case hm => (simp only [Nat.reduceAdd, Nat.reduceMul]; rfl)); (case' h => with_reducible refine hK _ ?_; clear hK))
 | (first | refine v_grd_yes (by rfl) (by rfl) ?_)
 | ((with_reducible refine callV_id (f := 50) ?_); (with_reducible apply callV_f own50 (r1)); (case hx => rfl); (case he => rfl); (case hle => first | ((repeat constructor); done) ); (case hpu => repeat constructor); (case' hK => conv => whnf))
 | ((with_reducible refine callV_id (f := 27) ?_); (with_reducible apply callV_f own27 (r2)); (case hx => rfl); (case he => rfl); (case hle => first | ((repeat constructor); done) ); (case hpu => repeat constructor); (case' hK => conv => whnf))
 | ((with_reducible refine callV_id (f := 31) ?_); (with_reducible apply callV_f own31 (r3)); (case hx => rfl); (case he => rfl); (case hle => first | ((repeat constructor); done) ); (case hpu => repeat constructor); (case' hK => conv => whnf))
 | ((with_reducible refine callV_id (f := 51) ?_); (with_reducible apply callV_f own51 (r4)); (case hx => rfl); (case he => rfl); (case hle => first | ((repeat constructor); done) ); (case hpu => repeat constructor); (case' hK => conv => whnf))
 | ((with_reducible refine callV_id (f := 14) ?_); (with_reducible apply callV_f own14 (hO)); (case hx => rfl); (case he => rfl); (case hle => first | ((repeat constructor); done) ); (case hpu => repeat constructor); (case' hK => conv => whnf))
 | ((with_reducible refine callV_id (f := 28) ?_); (with_reducible apply callV_f own28 (r5)); (case hx => rfl); (case he => rfl); (case hle => first | ((repeat constructor); done) ); (case hpu => repeat constructor); (case' hK => conv => whnf))
 | ((with_reducible refine callV_id (f := 52) ?_); (with_reducible apply callV_f own52 (r6)); (case hx => rfl); (case he => rfl); (case hle => first | ((repeat constructor); done) ); (case hpu => repeat constructor); (case' hK => conv => whnf))
 | ((with_reducible refine callV_id (f := 54) ?_); (with_reducible apply w_callO [3040] own54 (p4)); (case hx => rfl); (case he => rfl); (case hle => first | ((repeat constructor); done) ); (case hm => rfl); (case hnd => decide); (case' hK => conv => whnf); (any_goals (simp [stT, nxT']; done)))
 | ((with_reducible refine callV_id (f := 53) ?_); (with_reducible apply callV_f own53 (p1)); (case hx => rfl); (case he => rfl); (case hle => first | ((repeat constructor); done) ); (case hpu => repeat constructor); (case' hK => conv => whnf))
 | ((with_reducible refine callV_id (f := 53) ?_); (with_reducible apply callV_f own53 (p2)); (case hx => rfl); (case he => rfl); (case hle => first | ((repeat constructor); done) ); (case hpu => repeat constructor); (case' hK => conv => whnf))
 | ((with_reducible refine callV_id (f := 54) ?_); (with_reducible apply callV_f own54 (p3)); (case hx => rfl); (case he => rfl); (case hle => first | ((repeat constructor); done) ); (case hpu => repeat constructor); (case' hK => conv => whnf))
 | ((with_reducible apply go_cond); (case hb => rfl))
 | ((with_reducible apply And.intro); (case' right => try (conv => whnf)); (case' left => try first | rfl | decide | (simp [stT, nxT']; done) ))
 | ((with_reducible refine spoil_out [(4, .ptr 0 0), (5, .ptr 16 0), (6, .ptr 32 0), (7, .ptr 48 0), (9, .ptr 336 0), (10, .ptr 480 0), (12, .ptr 560 0), (11, I (addS' s f).2.2), (13, I 1), (8, B false)] [(0, stO s), (16, frO f), (32, cuC c), (48, dkC d), (336, stO s), (480, frO f), (560, stO (addS' s f).1)] ?_ ?_ ?_ ?_ ?_); (focus simp); (focus simp [boxB]); (focus simp [hoS, AV.ho]); (focus exact ⟨ho_stO _, ho_frO _, ho_cuC _, ho_dkC _, ho_stO _, ho_frO _, ho_stO _, trivial⟩))
 | ((with_reducible refine round_out [(4, .ptr 0 0), (5, .ptr 16 0), (6, .ptr 32 0), (7, .ptr 48 0), (9, .ptr 336 0), (10, .ptr 480 0), (12, .ptr 560 0), (11, I (addS' s f).2.2), (13, I 2), (8, B false)] [(0, stC s), (16, frC f), (32, cuC c), (48, dkC d), (336, stC s), (480, frC f), (560, stC (addS' s f).1)] ?_ ?_ ?_ ?_ ?_); (focus simp [oldS, AV.old, wrp]); (focus simp [boxB, oldB, oldL, AV.old, old_rowF, old_rowG, old_rowS]); (focus simp [plS, AV.pl]); (focus exact ⟨pl_stC _, pl_frC _, pl_cuC _, pl_dkC _, pl_stC _, pl_frC _, pl_stC _, trivial⟩))
 | (first  | intro g1; try simp at g1))
    refine un_next ?_
    repeat' (first
 | (with_reducible first | apply qz0 | (refine h0 _ _ ?_; clear h0 hw) | apply qz1 | apply qz4 | apply qz6 | apply qz7 | apply qza | (refine hL _ ?_; clear hL))
 | (with_reducible first | refine w_reg (by decide +kernel) fun K1 hK => ?_ )
 | with_reducible refine go_seq ?_
 | ((with_reducible first | apply v_op Try.tab ) <;> first | (intro K' h0 hw; conv => whnf) | (simp only [Nat.reduceAdd, Nat.reduceMul]; rfl))
 | ((with_reducible apply v_nil); (case hm => (simp only [Nat.reduceAdd, Nat.reduceMul]; rfl)); (case' h => with_reducible refine hK _ ?_; clear hK))
 | ((with_reducible apply go_cond); (case hb => rfl))
 | ((with_reducible first | refine w_ret Try.tab fun K' hL => ?_ ); (conv => whnf))
 | (with_reducible refine un_exit ?_)
 | (first  | intro g1; try simp at g1))
    exact .refl _
theorem cells_frsT {cx : List AV} (h : Reads (.sl 3 40 (.agg [.int .i64, .bool, .sl 1 16 .str])) cx) : ∃ l : List Fr, cx = [frs l] ∧ l.length * 40 ≤ 140737488355328 ∧ ∀ f ∈ l, f.parts.length ≤ 8796093022208 := by
  obtain ⟨es, h1, h2, h3⟩ := h
  obtain ⟨l, h4, h5⟩ := map_of (f := frC) (Q := fun f => f.parts.length ≤ 8796093022208) (es := es) fun x hx => by obtain ⟨f, hf, hq, _⟩ := cells_fr (h2 x hx); exact ⟨f, hf, hq⟩
  subst h1
  refine ⟨l, by rw [h4], ?_, h5⟩
  rw [h4, List.length_map] at h3
  unfold reachBytes at h3; omega
theorem cells_grT {cx : List AV} (h : ReadsL [.sl 3 40 (.agg [.int .i64, .bool, .sl 1 16 .str])] cx) : ∃ g : List Fr, cx = grC g ∧ g.length * 40 ≤ 140737488355328 ∧ ∀ f ∈ g, f.parts.length ≤ 8796093022208 := by
  obtain ⟨_, _, rfl, h, rfl⟩ := h
  obtain ⟨l, rfl, h1, h2⟩ := cells_frsT h
  exact ⟨l, rfl, h1, h2⟩
theorem cells_grsT {cx : List AV} (h : Reads (.sl 1 24 (.agg [.sl 3 40 (.agg [.int .i64, .bool, .sl 1 16 .str])])) cx) : ∃ l : List (List Fr), cx = [grs l] ∧ l.length * 24 ≤ 140737488355328 ∧ ∀ g ∈ l, g.length * 40 ≤ 140737488355328 ∧ ∀ f ∈ g, f.parts.length ≤ 8796093022208 := by
  obtain ⟨es, h1, h2, h3⟩ := h
  obtain ⟨l, h4, h5⟩ := map_of (f := grC) (Q := fun g => g.length * 40 ≤ 140737488355328 ∧ ∀ f ∈ g, f.parts.length ≤ 8796093022208) (es := es) fun x hx => by obtain ⟨g, hg, hq⟩ := cells_grT (h2 x hx); exact ⟨g, hg, hq⟩
  subst h1
  refine ⟨l, by rw [h4], ?_, h5⟩
  rw [h4, List.length_map] at h3
  unfold reachBytes at h3; omega
theorem reads_stoT {a : AV} (h : ReadsArg (.agg [.int .i64, .sl 1 24 (.agg [.sl 3 40 (.agg [.int .i64, .bool, .sl 1 16 .str])]), .agg [.sl 3 40 (.agg [.int .i64, .bool, .sl 1 16 .str])]]) a) : ∃ s : Sto, a = .agg (stC s) ∧ FitsT s ∧ s.first ≤ 9223372036854775807 := by
  obtain ⟨_, rfl, _, _, rfl, ⟨n, rfl, _, hn⟩, _, _, rfl, h2, _, _, rfl, h3, rfl⟩ := h
  obtain ⟨l, rfl, h4, h5⟩ := cells_grsT h2
  obtain ⟨g, rfl, h6, h7⟩ := cells_grT h3
  exact ⟨⟨n, l, g⟩, rfl, ⟨h4, h5, h6, h7⟩, hn⟩
theorem reads_dkT {a : AV} (h : ReadsArg (.agg [.str, .int .i64]) a) : ∃ d : Dk, a = .agg (dkC d) := by
  obtain ⟨_, rfl, _, _, rfl, ⟨s, rfl, _⟩, _, _, rfl, ⟨n, rfl, _⟩, rfl⟩ := h
  exact ⟨⟨s, n⟩, rfl⟩
theorem law_restStores (args : List AV) (h : ReadsArgs [.agg [.int .i64, .sl 1 24 (.agg [.sl 3 40 (.agg [.int .i64, .bool, .sl 1 16 .str])]), .agg [.sl 3 40 (.agg [.int .i64, .bool, .sl 1 16 .str])]], .agg [.int .i64, .bool, .sl 1 16 .str], .agg [.int .i64, .int .i64, .int .i64], .agg [.str, .int .i64]] args) (_ : True) : PSpec Try.prog 10 args (B true) := by
  obtain ⟨_, _, rfl, h1, _, _, rfl, h2, _, _, rfl, h3, _, _, rfl, h4, rfl⟩ := h
  obtain ⟨s, rfl, hs, hn⟩ := reads_stoT h1
  obtain ⟨_, rfl, h2⟩ := h2
  obtain ⟨f, rfl, hf, _⟩ := cells_fr h2
  obtain ⟨c, rfl⟩ := reads_cu h3
  obtain ⟨d, rfl⟩ := reads_dkT h4
  exact c_restStores s f c d hs hf hn (c_dkOpen d) (open_small d)
end Go.Proofs.Ytbhcjgobapnajaa

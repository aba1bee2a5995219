/- TrackTells, walked. No condition. -/
import Derived.Test.YtdanlpkclkjkcaaGreatTrack3
namespace Go.Proofs.YtdanlpkclkjkcaaGreat
open Go Go.Sy
set_option maxRecDepth 4000
set_option linter.unusedSimpArgs false
set_option linter.unusedVariables false
attribute [local irreducible] Reg RegD Later Out CallV Tri Side EqV
theorem Bf.ext' {p q : Bf} (h1 : p.next = q.next) (h2 : p.held = q.held) : p = q := by cases p; cases q; simp_all
theorem Tk.ext' {p q : Tk} (h1 : p.last = q.last) (h2 : p.buf.next = q.buf.next ∧ p.buf.held = q.buf.held) (h3 : p.op = q.op) (h4 : p.st = q.st) : p = q := by
  have := Bf.ext' h2.1 h2.2
  cases p; cases q; simp_all
instance : DecidableEq Tk := fun p q => decidable_of_iff (p.last = q.last ∧ (p.buf.next = q.buf.next ∧ p.buf.held = q.buf.held) ∧ p.op = q.op ∧ p.st = q.st) ⟨fun ⟨h1, h2, h3, h4⟩ => Tk.ext' h1 h2 h3 h4, fun h => by subst h; simp⟩
def SmallT (t : Tk) : Prop := t.buf.held.length ≤ 1000000 ∧ t.op.length ≤ 1000000 ∧ Small t.st
theorem RightT.small {t : Tk} (h : RightT t) : SmallT t := by
  have h1 := buf_small h.buf
  have h2 := (buildE_ok h.op).1
  exact ⟨by omega, by omega, h.st.small⟩
theorem tk0_small : SmallT tk0 := tk0_right.small
set_option maxHeartbeats 1000000 in
theorem c_sameTrack (a b : Tk) (ha : SmallT a) : PSpec Tryz.prog 13 [.agg (tkC a), .agg (tkC b)] (B (decide (a = b))) := by
  refine v_pspec Tryz.func13 rfl Tryz.ntmps13 Tryz.results13 (by simp) (by first | exact .s _ | repeat constructor) ?_
  repeat' (first
 | (with_reducible first | apply qz0 | (refine h0 _ _ ?_; clear h0 hw) | (refine hw _ _ _ ?_; clear h0 hw) | apply qz1 | (refine hL _ ?_; clear hL))
 | (with_reducible first | refine w_reg (by decide +kernel) fun K1 hK => ?_ )
 | ((with_reducible first | apply v_op Tryz.tab ) <;> first | (intro K' h0 hw; conv => whnf) | (simp only [Nat.reduceAdd, Nat.reduceMul]; rfl))
 | ((with_reducible apply v_nil); (case hm => (simp only [Nat.reduceAdd, Nat.reduceMul]; rfl)); (case' h => with_reducible refine hK _ ?_; clear hK))
 | (first | refine v_grd_yes (by rfl) (by rfl) ?_)
 | ((first | (apply v_grd_no; (case hg => rfl); (case hb => rfl)) | (apply v_grd; (case hg => rfl); (case hb => rfl))); (case hi => (simp only [Nat.reduceAdd, Nat.reduceMul]; rfl)))
 | ((with_reducible refine callV_id (f := 44) ?_); have hcs_ := c_sameBuffer a.buf b.buf (by have := ha.1; omega); (with_reducible apply callV_f own44 (hcs_)); (case hx => rfl); (case he => rfl); (case hle => first | ((repeat constructor); done) ); (case hpu => repeat constructor); (case' hK => (try clear hcs_); conv => whnf))
 | ((with_reducible refine callV_id (f := 45) ?_); have hcs_ := c_sameSlots a.op b.op (by have := ha.2.1; omega); (with_reducible apply callV_f own45 (hcs_)); (case hx => rfl); (case he => rfl); (case hle => first | ((repeat constructor); done) ); (case hpu => repeat constructor); (case' hK => (try clear hcs_); conv => whnf))
 | ((with_reducible refine callV_id (f := 46) ?_); have hcs_ := c_sameStore a.st b.st ha.2.2; (with_reducible apply callV_f own46 (hcs_)); (case hx => rfl); (case he => rfl); (case hle => first | ((repeat constructor); done) ); (case hpu => repeat constructor); (case' hK => (try clear hcs_); conv => whnf))
 | ((with_reducible first | refine w_ret Tryz.tab fun K' hL => ?_ ); (conv => whnf))
 | ((with_reducible apply And.intro); (case' right => try (conv => whnf)); (case' left => try first | rfl | decide | (simp; done) ))
 | (first | (guard_hyp g3; intro g4; try simp at g4) | (guard_hyp g2; intro g3; try simp at g3) | (guard_hyp g1; intro g2; try simp at g2) | intro g1; try simp at g1))
  · refine le_of_eq (congrArg B ?_)
    rw [Bool.eq_iff_iff]; simp
    exact ⟨fun h => Tk.ext' g1 g2 g3 h, fun h => by rw [h]⟩
  all_goals
    refine le_of_eq (congrArg B ?_)
    simp; intro h; subst h; simp_all
set_option maxHeartbeats 400000 in
theorem c_bytesOf (p : Pkt) (hp : pktE p = 0) : PSpec Tryz.prog 25 [.agg (pktC p)] (Tx (encP p)) := by
  refine v_pspec Tryz.func25 rfl Tryz.ntmps25 Tryz.results25 (by simp) (by first | exact .s _ | repeat constructor) ?_
  repeat' (first
 | (with_reducible first | apply qz0 | (refine h0 _ _ ?_; clear h0 hw) | (refine hw _ _ _ ?_; clear h0 hw) | apply qz1 | (refine hL _ ?_; clear hL))
 | (with_reducible first | refine w_reg (by decide +kernel) fun K1 hK => ?_ )
 | ((with_reducible first | apply v_op Tryz.tab ) <;> first | (intro K' h0 hw; conv => whnf) | (simp only [Nat.reduceAdd, Nat.reduceMul]; rfl))
 | ((with_reducible apply v_nil); (case hm => (simp only [Nat.reduceAdd, Nat.reduceMul]; rfl)); (case' h => with_reducible refine hK _ ?_; clear hK))
 | ((with_reducible refine callV_id (f := 59) ?_); have hcs_ := c_packetBytes p hp; (with_reducible apply callV_f own59 (hcs_)); (case hx => rfl); (case he => rfl); (case hle => first | ((repeat constructor); done) ); (case hpu => repeat constructor); (case' hK => (try clear hcs_); conv => whnf))
 | ((with_reducible first | refine w_ret Tryz.tab fun K' hL => ?_ ); (conv => whnf))
 | ((with_reducible apply And.intro); (case' right => try (conv => whnf)); (case' left => try first | rfl | decide | (simp; done) ))
 )
  exact .refl _
def sa : ByteArray := ⟨#[97]⟩
def sb : ByteArray := ⟨#[98]⟩
abbrev kp (q t : Int) (s : ByteArray) : Pkt := ⟨q, t, true, true, true, s⟩
abbrev kf (t : Int) (s : ByteArray) : Fr := ⟨t, true, [s]⟩
theorem SmallT.fits {t : Tk} (h : SmallT t) : FitsT t := ⟨by have := h.1; omega, by have := h.2.1; omega, h.2.2.fits⟩
abbrev shTk : Sh := .agg [.int .i64, .agg [.int .i64, .sl 7 48 (.agg [.int .i64, .agg [.int .i64, .int .i64, .bool, .bool, .bool, .str]])], .agg [.sl 7 48 (.agg [.int .i64, .agg [.int .i64, .int .i64, .bool, .bool, .bool, .str]])], .agg [.int .i64, .sl 1 24 (.agg [.sl 3 40 (.agg [.int .i64, .bool, .sl 1 16 .str])]), .agg [.sl 3 40 (.agg [.int .i64, .bool, .sl 1 16 .str])]]]
theorem cells_tk {cx : List AV} (h : Reads shTk cx) : ∃ t : Tk, cx = tkC t ∧ FitsT t := by
  obtain ⟨_, _, rfl, ⟨n, rfl, _⟩, _, _, rfl, ⟨_, _, rfl, ⟨m, rfl, _⟩, _, _, rfl, hb, rfl⟩, _, _, rfl, ⟨_, _, rfl, ho, rfl⟩, _, _, rfl, ⟨_, _, rfl, ⟨f, rfl, _⟩, _, _, rfl, hg, _, _, rfl, ⟨_, _, rfl, hp, rfl⟩, rfl⟩, rfl⟩ := h
  obtain ⟨l, rfl, b1, _⟩ := cells_slts hb
  obtain ⟨o, rfl, o1, _⟩ := cells_slts ho
  obtain ⟨gs, rfl, g1, g2⟩ := cells_grs hg
  obtain ⟨g, hgr, g3⟩ := cells_gr ⟨_, _, rfl, hp, rfl⟩
  rw [List.append_nil] at hgr
  subst hgr
  exact ⟨⟨n, ⟨m, l⟩, o, ⟨f, gs, g⟩⟩, by simp, b1, o1, g1, g2, g3⟩
theorem reads_tk {a : AV} (h : ReadsArg shTk a) : ∃ t : Tk, a = .agg (tkC t) ∧ FitsT t := by
  obtain ⟨_, rfl, h⟩ := h
  obtain ⟨t, rfl, ht⟩ := cells_tk h
  exact ⟨t, rfl, ht⟩
end Go.Proofs.YtdanlpkclkjkcaaGreat

/- Watch of two packets, walked; what laws of the whole begin with. No condition. -/
import Derived.Test.YtokkencbpmjdaaaGreatDeskRun
import Derived.Test.YtokkencbpmjdaaaGreatTrackTells
namespace Go.Proofs.YtokkencbpmjdaaaGreat
open Go Go.Sy
set_option maxRecDepth 4000
set_option linter.unusedSimpArgs false
set_option linter.unusedVariables false
attribute [local irreducible] Reg RegD Later Out CallV Tri Side EqV Pause
abbrev wP : Pkt := ⟨1, 10, true, true, true, sa⟩
abbrev wQ : Pkt := ⟨2, 20, true, true, true, sb⟩
set_option maxHeartbeats 8000000 in
theorem c_watch2 : PSpec Tryz.prog 14 [pkts [wP, wQ]] (framesT ([⟨10, true, [sa]⟩, ⟨20, true, [sb]⟩], 0)) := by
  have q1 := c_wireCheck wP
  rw [show pktE wP = 0 by decide +kernel] at q1
  have q2 := c_wireCheck wQ
  rw [show pktE wQ = 0 by decide +kernel] at q2
  have q3 := c_unwrap 65537 2
  rw [show unwrapS 65537 2 = (65538, 0) by decide +kernel] at q3
  have q4 := c_frameAll [⟨65537, wP⟩, ⟨65538, wQ⟩] (by decide)
  rw [show allF [⟨65537, wP⟩, ⟨65538, wQ⟩] = ([⟨10, true, [sa]⟩, ⟨20, true, [sb]⟩], 0) by decide +kernel] at q4
  have w1 : IntKind.i64.wrap 65537 = 65537 := by decide
  have w2 : IntKind.i64.wrap 65538 = 65538 := by decide
  refine p_pspec Tryz.func14 Tryz.ntmps14 Tryz.results14 ?_
  repeat' (first
 | ((with_reducible apply w_thaw (code := .seq (.region 12 _ _) _) 416 7 (rowL [⟨65537, wP⟩, ⟨65538, wQ⟩]) ([(4, .osl 416 7 (rowL [⟨65537, wP⟩, ⟨65538, wQ⟩]))]) ([])); (case hat => exact .inl ⟨4, rfl⟩); (case hp16 => decide); (case hpe => rfl); (case hn0 => first | rfl ); (case h0 => first | (simp [w1, w2]; done) ); (case hsc => simp [thokS, thokB, Ob.thok, AV.thok, thokL, permIs, scalR, w1, w2]); (case hS => simp [w1, w2]); (case hB => simp [w1, w2]); (case hSk => simp [thokS, thokB, Ob.thok, AV.thok, thokL, permIs, scalR, w1, w2]); (case hBk => simp [thokS, thokB, Ob.thok, AV.thok, thokL, permIs, scalR, w1, w2]); (case hm => (try simp only [Nat.reduceAdd, Nat.reduceMul]); exact rfl); (case' h => intro cap hc1 hc2))
 | ((with_reducible apply w_freeze (code := .seq (.region 19 _ _) _) 4 (rowL [⟨65537, wP⟩, ⟨65538, wQ⟩])); (case hs => rfl); (case hq => rfl); (case hn => first | rfl ); (case hes => simp [w1, w2]); (case hl => simp [w1, w2]); (case hpu => first | ((repeat constructor); done) ); (case hone => simp [w1, w2]))
 | ((with_reducible refine all_row ?_); intro x1 hx1; simp at hx1; subst hx1; conv => whnf)
 | (with_reducible first | apply qz0 | (refine h0 _ _ ?_; clear h0 hw) | (refine hw _ _ _ ?_; clear h0 hw) | apply qz1 | apply qz2 | apply qz3 | apply qz4 | apply qz6 | apply qz7 | apply qz9 | apply qza | (refine hL _ ?_; clear hL))
 | refine p_reg fun K1 hK => ?_ | refine p_regE fun K1 hK => ?_
 | refine p_dreg Tryz.mix fun K1 hK => ?_
 | apply go_seq
 | ((first | refine p_op Tryz.tab fun K' h0 hw => ?_ | refine p_op0 Tryz.tab fun K' h0 hw => ?_ | refine p_dop Tryz.tab fun K' h0 hw => ?_); conv => whnf)
 | (refine p_nil (hK _ ?_); clear hK)
 | (refine d_nil (p_obj ?_ (hK _ _ _ _)); clear hK)
 | (refine p_call own46 (q1) ?_; conv => whnf)
 | (refine p_call own46 (q2) ?_; conv => whnf)
 | (refine p_call own47 (q3) ?_; conv => whnf)
 | (refine p_call own48 (q4) ?_; conv => whnf)
 | ((with_reducible apply go_cond); (case hb => rfl))
 | ((with_reducible first | refine w_ret Tryz.tab fun K' hL => ?_ ); (conv => whnf))
 | ((with_reducible apply And.intro); (case' right => try (conv => whnf)); (case' left => try first | rfl | decide | (simp [thL, AV.th, thB, thS, Ob.th]; done) | (simp (disch := omega) [thL, AV.th, thB, thS, Ob.th, wrp]; (try omega); done)))
 | exact p_side
 | ((with_reducible refine nfL_stop ?_); conv => whnf)
 | (with_reducible refine w_unroll ?_)
 | ((with_reducible apply un_nextS 16); (case hv => (conv => lhs; whnf); try exact rfl); (case he => (simp (disch := omega) only [wrp, Int.reduceAdd]); try exact rfl))
 | ((with_reducible apply un_nextS 8); (case hv => (conv => lhs; whnf); try exact rfl); (case he => (simp (disch := omega) only [wrp, Int.reduceAdd]); try exact rfl))
 | (with_reducible refine un_exit ?_)
 | (first  | intro g1; try simp at g1))
  all_goals exact .refl _
def vX : Vw := ⟨⟨2, 1, 1⟩, ⟨2, 20, -90⟩⟩
def tX : Tk := ⟨65542, ⟨65543, []⟩, [], ⟨0, [[kf 100 sa]], [kf 110 sb]⟩⟩
def scriptL : List Ac := [⟨1, 0, encP (kp 5 100 sa)⟩, ⟨1, 0, encP (kp 6 110 sb)⟩, ⟨4, 0, ⟨#[]⟩⟩, ⟨5, 105, ⟨#[]⟩⟩, ⟨2, 0, ⟨#[]⟩⟩, ⟨5, 0, ⟨#[]⟩⟩, ⟨3, 0, ⟨#[]⟩⟩]
instance : DecidableEq Ou := fun p q => decidable_of_iff (p.last = q.last ∧ p.time = q.time ∧ p.shift = q.shift) ⟨fun ⟨h1, h2, h3⟩ => Ou.ext' h1 h2 h3, fun h => by subst h; simp⟩
theorem Vw.ext' {p q : Vw} (h1 : p.cu = q.cu) (h2 : p.ou = q.ou) : p = q := by cases p; cases q; simp_all
instance : DecidableEq Vw := fun p q => decidable_of_iff (p.cu = q.cu ∧ p.ou = q.ou) ⟨fun ⟨h1, h2⟩ => Vw.ext' h1 h2, fun h => by subst h; simp⟩
theorem Ds.ext' {p q : Ds} (h1 : p.v = q.v) (h2 : p.t = q.t) (h3 : p.l = q.l) : p = q := by cases p; cases q; simp_all
instance : DecidableEq Ds := fun p q => decidable_of_iff (p.v = q.v ∧ p.t = q.t ∧ p.l = q.l) ⟨fun ⟨h1, h2, h3⟩ => Ds.ext' h1 h2 h3, fun h => by subst h; simp⟩
set_option maxHeartbeats 1000000 in
theorem c_script : PSpec Tryz.prog 22 [] (acts scriptL) := by
  have b1 := c_bytesOf (kp 5 100 sa) (by decide +kernel)
  have b2 := c_bytesOf (kp 6 110 sb) (by decide +kernel)
  refine p_pspec Tryz.func22 Tryz.ntmps22 Tryz.results22 ?_
  repeat' (first
 | (with_reducible first | apply qz0 | (refine h0 _ _ ?_; clear h0 hw) | (refine hw _ _ _ ?_; clear h0 hw) | apply qz1 | (refine hL _ ?_; clear hL))
 | refine p_reg fun K1 hK => ?_
 | (refine p_op Tryz.tab fun K' h0 hw => ?_; conv => whnf)
 | (refine p_nil (hK _ ?_); clear hK)
 | ((with_reducible refine callV_id (f := 20) ?_); have hcs_ := c_whole 5 100 sa; (with_reducible apply callV_f own20 (hcs_)); (case hx => rfl); (case he => rfl); (case hle => first | ((repeat constructor); done) ); (case hpu => repeat constructor); (case' hK => (try clear hcs_); conv => whnf))
 | ((with_reducible refine callV_id (f := 20) ?_); have hcs_ := c_whole 6 110 sb; (with_reducible apply callV_f own20 (hcs_)); (case hx => rfl); (case he => rfl); (case hle => first | ((repeat constructor); done) ); (case hpu => repeat constructor); (case' hK => (try clear hcs_); conv => whnf))
 | (refine p_call own19 (b1) ?_; conv => whnf)
 | (refine p_call own19 (b2) ?_; conv => whnf)
 | ((with_reducible first | refine w_ret Tryz.tab fun K' hL => ?_ ); (conv => whnf))
 | ((with_reducible apply And.intro); (case' right => try (conv => whnf)); (case' left => try first | rfl | decide ))
 )
  all_goals first | (simp [scriptL]; done) | exact .osl _ _ _
theorem db1 : PSpec Tryz.prog 15 [acts scriptL] (runT ((⟨vX, tX, [wP, wQ]⟩, [0, 0, 0, 0, 0, 0, 0]), 0)) := by
  have h := c_run scriptL (by decide) (by decide +kernel)
  rwa [show runS scriptL = ((⟨vX, tX, [wP, wQ]⟩, [0, 0, 0, 0, 0, 0, 0]), 0) by decide +kernel] at h
theorem tX_small : SmallT tX := ⟨by decide, by decide, by decide, by decide, by decide, by decide⟩
theorem db2 : PSpec Tryz.prog 10 [.agg (tkC tX), .agg (vwC vX), .agg (acC ⟨5, 500, ⟨#[]⟩⟩)] (dsT (⟨vX, tX, []⟩, 0)) := by
  have h := c_deskDo tX vX ⟨5, 500, ⟨#[]⟩⟩ tX_small.fits (by decide)
  rwa [show actS tX vX ⟨5, 500, ⟨#[]⟩⟩ = (⟨vX, tX, []⟩, 0) by decide +kernel] at h
set_option maxHeartbeats 4000000 in
theorem c_deskBegun : PSpec Tryz.prog 5 [] (B true) := by
  refine p_pspec Tryz.func5 Tryz.ntmps5 Tryz.results5 ?_
  repeat' (first
 | ((with_reducible refine all_row ?_); intro x1 hx1; simp at hx1; subst hx1; conv => whnf)
 | (with_reducible first | apply qz0 | (refine h0 _ _ ?_; clear h0 hw) | (refine hw _ _ _ ?_; clear h0 hw) | apply qz1 | apply qz2 | apply qz6 | (refine hL _ ?_; clear hL))
 | refine p_reg fun K1 hK => ?_
 | apply go_seq
 | ((first | refine p_op Tryz.tab fun K' h0 hw => ?_ | refine p_op0 Tryz.tab fun K' h0 hw => ?_); conv => whnf)
 | (refine p_nil (hK _ ?_); clear hK)
 | (first | refine v_grd_yes (by rfl) (by rfl) ?_)
 | (refine p_call own22 (c_script) ?_; conv => whnf)
 | (refine p_call own15 (db1) ?_; conv => whnf)
 | (refine p_call own14 (c_watch2) ?_; conv => whnf)
 | (refine p_call own10 (db2) ?_; conv => whnf)
 | ((with_reducible apply go_cond); (case hb => rfl))
 | ((with_reducible first | refine w_ret Tryz.tab fun K' hL => ?_ ); (conv => whnf))
 | ((with_reducible apply And.intro); (case' right => try (conv => whnf)); (case' left => try first | rfl | decide ))
 | exact p_side
 | (first  | intro g1; try simp at g1))
  all_goals exact .refl _
end Go.Proofs.YtokkencbpmjdaaaGreat

/- The walk of disk.one: its contract; disk.read's. No condition. -/
import Derived.Test.YtbhcjgobapnajaaDisk5
namespace Go.Proofs.Ytbhcjgobapnajaa
open Go Go.Sy
set_option maxRecDepth 4000
set_option linter.unusedSimpArgs false
set_option linter.unusedVariables false
attribute [local irreducible] Reg RegD Later Out CallV YieldV Tri Side EqV
theorem c_numberD (n : Int) : PSpec Try.prog 60 [I n] (B (decide (0 ≤ n) && decide (n ≤ 100000))) := by
  refine v_pspec Try.func60 rfl Try.ntmps60 Try.results60 (by simp) (by first | exact .s _ | repeat constructor) ?_
  repeat' (first
 | (with_reducible first | apply qz0 | (refine h0 _ _ ?_; clear h0 hw) | apply qz1 | (refine hL _ ?_; clear hL))
 | (with_reducible first | refine w_reg (by decide +kernel) fun K1 hK => ?_ )
 | ((with_reducible first | apply v_op Try.tab ) <;> first | (intro K' h0 hw; conv => whnf) | (simp only [Nat.reduceAdd, Nat.reduceMul]; rfl))
 | ((with_reducible apply v_nil); (case hm => (simp only [Nat.reduceAdd, Nat.reduceMul]; rfl)); (case' h => with_reducible refine hK _ ?_; clear hK))
 | (first | refine v_grd_yes (by rfl) (by rfl) ?_)
 | ((first | (apply v_grd_no; (case hg => rfl); (case hb => rfl)) | (apply v_grd; (case hg => rfl); (case hb => rfl))); (case hi => (simp only [Nat.reduceAdd, Nat.reduceMul]; rfl)))
 | ((with_reducible first | refine w_ret Try.tab fun K' hL => ?_ ); (conv => whnf))
 | (first  | intro g1; try simp at g1))
  all_goals simp_all
  all_goals (intro _; omega)
theorem x_one0 (s : ByteArray) (b0 : Int) (h : s.size < 4) : XSpec Try.prog 175 [.ptr 0 0, .ptr 1 0] [rdB s, .box [I 0, I b0, .s (.slice none 0 0)]] shortP [.box [.junk], .box [I 0, I b0, frs []]] := by
  have hN := x_rnum s 0 4 (by omega) (by omega)
  rw [tl_zero] at hN
  refine v_xspec Try.func175 rfl Try.ntmps175 (by simp) (k := 2) rfl ?_
  repeat' (first
 | ((with_reducible first | refine w_regX (id := 1) 1 _ (by decide +kernel) rfl rfl fun K1 hK => ?_ ); (simp only [List.take_succ_cons, List.take_zero]))
 | (with_reducible first | apply qz0 | (refine h0 _ _ ?_; clear h0 hw) )
 | (with_reducible first | refine w_reg (by decide +kernel) fun K1 hK => ?_ )
 | ((with_reducible first | apply v_op Try.tab ) <;> first | (intro K' h0 hw; conv => whnf) | (simp only [Nat.reduceAdd, Nat.reduceMul]; rfl))
 | ((with_reducible apply v_nil); (case hm => (simp only [Nat.reduceAdd, Nat.reduceMul]; rfl)); (case' h => with_reducible refine hK _ ?_; clear hK))
 | ((with_reducible apply v_nil); (case hm => (try simp only [Nat.reduceAdd, Nat.reduceMul]); exact rfl); (case' h => refine hK _ _ _ _ _ (panOp_call [0] own159 (hN) (by rfl) (by decide) (by simp) (by simp) (by rfl) (by rfl) ?_ ?_ ?_ ?_) ?_; clear hK); (any_goals first | ((repeat constructor); done) ))
 )
  (refine w_xend rfl ?_ ?_; all_goals simp [obsRet, callWs, callφ, backN, updG, obF, ObLe, ObLeG, Ob.opt])
theorem x_one4 (s : ByteArray) (b0 : Int) (h : s.size = 4) : XSpec Try.prog 175 [.ptr 0 0, .ptr 1 0] [rdB s, .box [I 0, I b0, .s (.slice none 0 0)]] shortP [.box [.junk], .box [I (num s 0 4), I b0, frs []]] := by
  have hN := c_rnum s 0 4 (by omega) (by omega) (by omega)
  rw [tl_zero, num_def] at hN
  have hN2 := x_rnum s 4 1 (by omega) (by omega)
  refine v_xspec Try.func175 rfl Try.ntmps175 (by simp) (k := 2) rfl ?_
  repeat' (first
 | ((with_reducible first | refine w_regX (id := 2) 1 _ (by decide +kernel) rfl rfl fun K1 hK => ?_ ); (simp only [List.take_succ_cons, List.take_zero]))
 | (with_reducible first | apply qz0 | (refine h0 _ _ ?_; clear h0 hw) | (refine hw _ _ _ ?_; clear h0 hw) | apply qzf )
 | (with_reducible first | refine w_reg (by decide +kernel) fun K1 hK => ?_ )
 | with_reducible refine go_seq ?_
 | ((with_reducible first | apply v_op Try.tab | apply v_op0 Try.tab ) <;> first | (intro K' h0 hw; conv => whnf) | (simp only [Nat.reduceAdd, Nat.reduceMul]; rfl))
 | ((with_reducible apply v_nil); (case hm => (simp only [Nat.reduceAdd, Nat.reduceMul]; rfl)); (case' h => with_reducible refine hK _ ?_; clear hK))
 | ((with_reducible refine callV_id (f := 159) ?_); (with_reducible apply w_callO [0] own159 (hN)); (case hx => rfl); (case he => rfl); (case hle => first | ((repeat constructor); done) ); (case hm => rfl); (case hnd => decide); (case' hK => conv => whnf); (any_goals (simp; done)))
 | ((with_reducible apply And.intro); (case' right => try (conv => whnf)); (case' left => try first | rfl | decide | (simp; done) ))
 | ((with_reducible apply v_nil); (case hm => (try simp only [Nat.reduceAdd, Nat.reduceMul]); exact rfl); (case' h => refine hK _ _ _ _ _ (panOp_call [0] own159 (hN2) (by rfl) (by decide) (by simp) (by simp) (by rfl) (by rfl) ?_ ?_ ?_ ?_) ?_; clear hK); (any_goals first | ((repeat constructor); done) ))
 )
  (refine w_xend rfl ?_ ?_; all_goals simp [obsRet, callWs, callφ, backN, updG, obF, ObLe, ObLeG, Ob.opt])
theorem rdParts_len {s : ByteArray} {m o : Nat} {l : List ByteArray} {e : Nat} (h : rdParts s m o = some (l, e)) : l.length = m := (rdParts_end h).2.1
theorem rdFrames_fits (s : ByteArray) : ∀ (k o : Nat) (b : Bool), (rdFrames s k o b).1.length ≤ k ∧ ∀ f ∈ (rdFrames s k o b).1, f.parts.length ≤ 255
  | 0, o, b => by simp [rdFrames]
  | k + 1, o, b => by
    unfold rdFrames
    split
    · split
      · rename_i ps e h
        obtain ⟨h1, h2⟩ := rdFrames_fits s k e false
        refine ⟨by simp only [List.length_cons]; omega, fun f hf => ?_⟩
        rcases List.mem_cons.1 hf with rfl | hf
        · have := rdParts_len h
          have := at1_lt s (o + 4)
          simp only; omega
        · exact h2 f hf
      · simp
    · simp
theorem flat_rc (r : Rc) : Flat (rcC r) := ⟨fun φ => by simp [renL, AV.ren], fun n => by simp [ltL, AV.lt]⟩
theorem flat_c0 (b0 : Int) : Flat [I 0, I b0, .s (.slice none 0 0)] := ⟨fun φ => by simp [renL, AV.ren], fun n => by simp [ltL, AV.lt]⟩
theorem c_rdOne (s : ByteArray) (hs : s.size ≤ 100000) : ∃ b, CSpec Try.prog 157 [Tx s, .fn (.func 175) [] [.ptr 0 0]] [.box [I 0, I (s.size + 2), .s (.slice none 0 0)]] (B b) [.box (rcC (oneX s).1)] ∧
    (oneX s).2 = (b && (decide (0 ≤ (oneX s).1.n) && decide ((oneX s).1.n ≤ 100000)) && decide (groupE (oneX s).1.g = 0)) ∧ Fits (oneX s).1.g := by
  have hf := rdFrames_fits s (at1 s 4) 5 true
  have ha := at1_lt s 4
  have hfit : Fits (oneX s).1.g := by
    unfold oneX
    split
    · exact ⟨by simp, by simp⟩
    split
    · exact ⟨by simp, by simp⟩
    · exact ⟨by simp only; omega, fun f hf' => by have := hf.2 f hf'; omega⟩
  rcases Nat.lt_or_ge s.size 4 with h4 | h4
  · have e : oneX s = (⟨0, s.size + 2, []⟩, false) := if_pos h4
    refine ⟨false, ?_, by rw [e]; rfl, hfit⟩
    rw [e]
    exact c_readG_pan 175 own175 s _ _ (flat_c0 _) (flat_rc _) (x_one0 s _ h4)
  rcases Nat.lt_or_ge s.size 5 with h5 | h5
  · have e : oneX s = (⟨num s 0 4, s.size + 2, []⟩, false) := by rw [oneX, if_neg (by omega), if_pos h5]
    refine ⟨false, ?_, by rw [e]; rfl, hfit⟩
    rw [e]
    exact c_readG_pan 175 own175 s _ _ (flat_c0 _) (flat_rc _) (x_one4 s _ (by omega))
  have e : oneX s = (⟨num s 0 4, s.size + 2, (rdFrames s (at1 s 4) 5 true).1⟩, decide ((rdFrames s (at1 s 4) 5 true).2 = some s.size) && decide (num s 0 4 ≤ 100000) && decide (groupE (rdFrames s (at1 s 4) 5 true).1 = 0)) := by
    rw [oneX, if_neg (by omega), if_neg (by omega)]
  cases hq : (rdFrames s (at1 s 4) 5 true).2 with
  | none =>
    refine ⟨false, ?_, by rw [e, hq]; simp, hfit⟩
    rw [e]
    exact c_readG_pan 175 own175 s _ _ (flat_c0 _) (flat_rc _) (x_one1 s _ _ h5 hs (by rw [← hq]))
  | some en =>
    refine ⟨decide (en = s.size), ?_, ?_, hfit⟩
    · rw [e]
      exact c_readG_ok 175 own175 s _ _ _ (flat_c0 _) (flat_rc _) _ (c_one1 s _ en _ h5 hs (by rw [← hq]))
    · rw [e, hq]
      simp only [Option.some.injEq]
      congr 1
      congr 1
      simp
      omega
set_option maxHeartbeats 1000000 in
theorem c_one : OneSpec := by
  intro s hs
  obtain ⟨b, hR, hb, hfit⟩ := c_rdOne s hs
  have hG := c_groupCheck (oneX s).1.g hfit
  have hn := c_numberD (oneX s).1.n
  rw [hb]
  generalize oneX s = X at hR hb hfit hG hn
  have w1 := wrp (n := (s.size : Int) + 2) (by omega) (by omega)
  refine v_pspec Try.func153 rfl Try.ntmps153 Try.results153 (by simp) (by first | exact .s _ | repeat constructor) ?_
  cases b
  · repeat' (first
 | (with_reducible first | apply qz0 | (refine h0 _ _ ?_; clear h0 hw) | (refine hw _ _ _ ?_; clear h0 hw) | apply qz1 | (refine hL _ ?_; clear hL))
 | (with_reducible first | refine w_reg (by decide +kernel) fun K1 hK => ?_ )
 | ((with_reducible first | apply d_reg Try.mix (by decide +kernel) ); (case hm => simp only [List.length_cons, List.length_nil, Nat.reduceAdd, Nat.reduceMul]; rfl); (case' h => intro K1 hK))
 | ((with_reducible first | apply v_op Try.tab | apply v_op0 Try.tab | apply d_op Try.tab | apply d_op0 Try.tab) <;> first | (intro K' h0 hw; conv => whnf) | (simp only [Nat.reduceAdd, Nat.reduceMul]; rfl))
 | ((with_reducible apply v_nil); (case hm => (simp only [Nat.reduceAdd, Nat.reduceMul]; rfl)); (case' h => with_reducible refine hK _ ?_; clear hK))
 | ((with_reducible apply d_nil); (refine hK _ _ _ _ (by first | (simp only [List.map_cons, List.map_nil, List.nil_append, List.cons_append]; decide +kernel) ) ?_; clear hK))
 | ((first | (apply d_grd_no; (case hg => rfl); (case hb => rfl)) ); (case hi => (simp only [Nat.reduceAdd, Nat.reduceMul]; rfl)))
 | ((with_reducible refine callV_id (f := 157) ?_); (with_reducible apply w_callO [96] own157 (hR)); (case hx => rfl); (case he => rfl); (case hle => first | ((repeat constructor); done) ); (case hm => rfl); (case hnd => decide); (case' hK => conv => whnf); (any_goals (simp [w1]; done)))
 | ((with_reducible first | refine w_ret Try.tab fun K' hL => ?_ ); (conv => whnf))
 | ((with_reducible apply And.intro); (case' right => try (conv => whnf)); (case' left => try first | rfl | decide | (simp [w1]; done) ))
 )
    all_goals first | (simp [*]; done) | (simp [*]; intro h1 h2; exfalso; have := g1 h1; omega)
  · repeat' (first
 | (with_reducible first | apply qz0 | (refine h0 _ _ ?_; clear h0 hw) | (refine hw _ _ _ ?_; clear h0 hw) | apply qz1 | (refine hL _ ?_; clear hL))
 | (with_reducible first | refine w_reg (by decide +kernel) fun K1 hK => ?_ )
 | ((with_reducible first | apply d_reg Try.mix (by decide +kernel) ); (case hm => simp only [List.length_cons, List.length_nil, Nat.reduceAdd, Nat.reduceMul]; rfl); (case' h => intro K1 hK))
 | ((with_reducible first | apply v_op Try.tab | apply v_op0 Try.tab | apply d_op Try.tab | apply d_op0 Try.tab) <;> first | (intro K' h0 hw; conv => whnf) | (simp only [Nat.reduceAdd, Nat.reduceMul]; rfl))
 | ((with_reducible apply v_nil); (case hm => (simp only [Nat.reduceAdd, Nat.reduceMul]; rfl)); (case' h => with_reducible refine hK _ ?_; clear hK))
 | ((with_reducible apply d_nil); (refine hK _ _ _ _ (by first | (simp only [List.map_cons, List.map_nil, List.nil_append, List.cons_append]; decide +kernel) ) ?_; clear hK))
 | (first | refine d_grd_yes (by rfl) (by rfl) ?_ )
 | ((first | (apply d_grd_no; (case hg => rfl); (case hb => rfl)) | (apply d_grd; (case hg => rfl); (case hb => rfl)) ); (case hi => (simp only [Nat.reduceAdd, Nat.reduceMul]; rfl)))
 | ((with_reducible refine callV_id (f := 157) ?_); (with_reducible apply w_callO [96] own157 (hR)); (case hx => rfl); (case he => rfl); (case hle => first | ((repeat constructor); done) ); (case hm => rfl); (case hnd => decide); (case' hK => conv => whnf); (any_goals (simp [w1]; done)))
 | ((with_reducible refine callV_id (f := 60) ?_); (with_reducible apply callV_f own60 (hn)); (case hx => rfl); (case he => rfl); (case hle => first | ((repeat constructor); done) ); (case hpu => repeat constructor); (case' hK => conv => whnf))
 | ((with_reducible refine callV_id (f := 61) ?_); (with_reducible apply callV_f own61 (hG)); (case hx => rfl); (case he => rfl); (case hle => first | ((repeat constructor); done) ); (case hpu => repeat constructor); (case' hK => conv => whnf))
 | ((with_reducible first | refine w_ret Try.tab fun K' hL => ?_ ); (conv => whnf))
 | ((with_reducible apply And.intro); (case' right => try (conv => whnf)); (case' left => try first | rfl | decide | (simp [w1]; done) ))
 | (first | (guard_hyp g1; intro g2; try simp at g2) | intro g1; try simp at g1))
    all_goals first | (simp [*]; done) | (simp [*]; intro h1 h2; exfalso; have := g1 h1; omega)
end Go.Proofs.Ytbhcjgobapnajaa

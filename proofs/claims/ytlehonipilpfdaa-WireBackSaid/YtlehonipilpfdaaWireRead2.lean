/- The walk of wire.Read, on: what it answers. No condition. -/
import Derived.Test.YtlehonipilpfdaaWireRead
import Derived.Defers
namespace Go.Proofs.Ytlehonipilpfdaa
open Go Go.Sy
set_option maxRecDepth 4000
set_option linter.unusedSimpArgs false
set_option linter.unusedVariables false
attribute [local irreducible] Reg RegD Later Out CallV Tri Side EqV
theorem _root_.Go.Sy.tri_use {P : Program} {N : Nat} {code : Code} {σ : St} (K : Exit → St → Prop) {c : Ctx} {H : View} {ε : Env} {a : Act} {w : World} {Q : Exit → Act → World → Prop} (h : Tri P N code σ K) (hc : c.N = N) (hi : Inv c H ε σ a w)
    (hQ : ∀ e σ' H' ε' a' w', K e σ' → Inv c H' ε' σ' a' w' → Q e a' w') : code.wp P Q a w := by
  unfold Tri at h
  exact h c H ε a w hc hi Q hQ
theorem setCell_same (w : World) (p : Addr) (v : Value) (h : w.cell? p = some v) (hs : p.spot = none) : w.setCell p v = w := by
  unfold World.cell? at h
  unfold World.setCell
  refine congrArg (fun h => ({ w with heap := h } : World)) (a₂ := w.heap) ?_
  · skip
    apply Array.ext
    · simp
    · intro i h1 h2
      rw [Array.getElem_modify]
      split
      · rename_i hi
        subst hi
        rw [Array.getElem?_eq_getElem h2] at h
        generalize w.heap[p.block] = ob at h ⊢
        cases ob <;> simp [hs] at h ⊢
        apply Array.ext
        · simp
        · intro j h3 h4
          rw [Array.getElem_setIfInBounds]
          split
          · rename_i hj
            subst hj
            rw [Array.getElem?_eq_getElem h4] at h
            simpa using h.symm
          · rfl
      · rfl
def rdK0 (s : ByteArray) (g : FuncId) (c0 : List AV) : Exit → St → Prop := fun e σ => e = .normal ∧ σ.tm 0 = Tx s ∧ σ.tm 1 = .fn (.func g) [] [.ptr 0 0] ∧ σ.tm 4 = .ptr 1 0 ∧ (∀ i, σ.ob i = if i = 0 then some (.box c0) else if i = 1 then some (.box [B false]) else none) ∧ σ.nx = 17
def rdK2 (c1 : List AV) (b : Bool) (ex : Exit) : Exit → St → Prop := fun e σ => e = ex ∧ σ.tm 4 = .ptr 1 0 ∧ ObLe (σ.ob 0) (.box c1) ∧ σ.ob 1 = some (.box [B b])
def rdS (s : ByteArray) (g : FuncId) (c0 : List AV) : St := ⟨wr (wr (wr (fun _ => .junk) 0 (Tx s)) 1 (.fn (.func g) [] [.ptr 0 0])) 4 (.ptr 1 0), wo (wo (fun _ => none) 0 (.box c0)) 1 (.box [B false]), 17⟩
set_option maxHeartbeats 2000000 in
theorem c_read_ok (g : FuncId) (ho : Own Try.prog g) (s s' : ByteArray) (p0 p1 : Pkt) (b : Bool) (hdo : CSpec Try.prog g [.ptr 0 0, .ptr 1 0] [rdB s, .box (pktC p0)] (B b) [rdB s', .box (pktC p1)]) :
    CSpec Try.prog 49 [Tx s, .fn (.func g) [] [.ptr 0 0]] [.box (pktC p0)] (B b) [.box (pktC p1)] := by
  intro w H ε vs hm hvs hdom
  refine calls_of_wp_defers Try.func49 rfl ?_
  have hinv := start_inv (P := Try.prog) (fn := Try.f49) (N := 11) Try.ntmps49 (by simp) hm hvs hdom
  refine wp_seq ?_
  refine tri_use (N := 11) (rdK0 s g (pktC p0)) ?_ rfl hinv ?_
  · rw [show St.startO [Tx s, .fn (.func g) [] [.ptr 0 0]] [Ob.box (pktC p0)] = ⟨slots [Tx s, .fn (.func g) [] [.ptr 0 0]], obF [.box (pktC p0)], 1⟩ by unfold St.startO; congr 1; funext i; exact slots_get _ i]
    repeat' (first
    | (with_reducible first | refine go_later ?_ | (refine h0 _ _ ?_; clear h0 hw) | (refine hw _ _ _ ?_; clear h0 hw) | refine go_ret ?_ | refine go_skip ?_ | refine go_block ?_ | refine go_exit ?_ | refine out_seq_ret ?_ | refine out_seq_normal ?_ | refine out_seq_exit ?_ | refine out_block_ret ?_ | refine out_block_normal ?_ | refine out_block_here ?_ | refine out_loop_ret ?_ | refine out_loop_exit ?_ | refine out_loopR_ret ?_ | refine out_loopR_exit ?_ | refine out_seq_panic ?_ | refine out_block_panic ?_ | refine out_loop_panic ?_ | (refine hL _ ?_; clear hL))
    | (with_reducible first | refine w_reg (by decide +kernel) fun K1 hK => ?_ | refine w_reg_end (by decide +kernel) fun K1 hK => ?_)
    | ((with_reducible first | apply d_reg Try.mix (by decide +kernel) | apply d_reg_end Try.mix (by decide +kernel)); (case hm => simp only [List.length_cons, List.length_nil, Nat.reduceAdd, Nat.reduceMul]; rfl); (case' h => intro K1 hK))
    | with_reducible refine go_seq ?_
    | ((with_reducible first | apply v_op Try.tab | apply v_op0 Try.tab | apply d_op Try.tab | apply d_op0 Try.tab) <;> first | (intro K' h0 hw; conv => whnf) | (simp only [Nat.reduceAdd, Nat.reduceMul]; rfl))
    | ((with_reducible apply v_nil); (case hm => (simp only [Nat.reduceAdd, Nat.reduceMul]; rfl)); (case' h => with_reducible refine hK _ ?_; clear hK))
    | ((with_reducible apply d_nil); (refine hK _ _ _ _ (by first | decide +kernel | (simp only [List.map_cons, List.map_nil, List.nil_append, List.cons_append]; decide +kernel) | rfl) ?_; clear hK))
    | (first | refine d_grd_yes (by rfl) (by rfl) ?_ | refine v_grd_yes (by rfl) (by rfl) ?_)
    | (apply d_grd_no; (case hg => rfl); (case hb => rfl); (case hi => (simp only [Nat.reduceAdd, Nat.reduceMul]; rfl)))
    | (apply d_grd_undef; (case hg => rfl); (case hb => rfl); (case hi => (simp only [Nat.reduceAdd, Nat.reduceMul]; rfl)))
    | (apply d_grd; (case hg => rfl); (case hb => rfl); (case hi => (simp only [Nat.reduceAdd, Nat.reduceMul]; rfl)))
    | (apply v_grd_no; (case hg => rfl); (case hb => rfl); (case hi => (simp only [Nat.reduceAdd, Nat.reduceMul]; rfl)))
    | (apply v_grd_undef; (case hg => rfl); (case hb => rfl); (case hi => (simp only [Nat.reduceAdd, Nat.reduceMul]; rfl)))
    | (apply v_grd; (case hg => rfl); (case hb => rfl); (case hi => (simp only [Nat.reduceAdd, Nat.reduceMul]; rfl)))
    | ((with_reducible apply go_cond); (case hb => rfl))
    | ((with_reducible apply out_block_there); (case hne => rfl))
    | ((with_reducible first | refine w_ret Try.tab fun K' hL => ?_ | refine w_ret_end Try.tab fun K' hL => ?_); (conv => whnf))
    | ((with_reducible apply And.intro); (case' right => try (conv => whnf)); (case' left => try first | rfl | decide | (simp; done)))
    | ((with_reducible apply Side.mk); (try simp (disch := omega) only [wrp]); (try simp); (try omega))
    | ((with_reducible apply all_rk); (case hx => with_reducible assumption); (conv => whnf))
    | ((with_reducible refine all_row ?_); (first | (have _y := hx5; clear _y; intro x6 hx6) | (have _y := hx4; clear _y; intro x5 hx5) | (have _y := hx3; clear _y; intro x4 hx4) | (have _y := hx2; clear _y; intro x3 hx3) | (have _y := hx1; clear _y; intro x2 hx2) | (intro x1 hx1)); conv => whnf)
    | (refine ⟨_, eqAT (by rfl) (by rfl) (by rfl) (by rfl), ?_⟩; conv => whnf)
    | ((first | (have _y := g9; clear _y; intro g10; try simp at g10) | (have _y := g8; clear _y; intro g9; try simp at g9) | (have _y := g7; clear _y; intro g8; try simp at g8) | (have _y := g6; clear _y; intro g7; try simp at g7) | (have _y := g5; clear _y; intro g6; try simp at g6) | (have _y := g4; clear _y; intro g5; try simp at g5) | (have _y := g3; clear _y; intro g4; try simp at g4) | (have _y := g2; clear _y; intro g3; try simp at g3) | (have _y := g1; clear _y; intro g2; try simp at g2) | (intro g1; try simp at g1))))
    rw [out_iff]
    refine ⟨rfl, rfl, rfl, rfl, fun i => ?_, rfl⟩
    match i with
    | 0 => rfl
    | 1 => rfl
    | _ + 2 => rfl
  rintro e σ1 H1 ε1 a1 w1 ⟨rfl, k0, k1, k4, kob, knx⟩ hi1
  refine wp_seq ?_
  refine wp_region ?_
  obtain ⟨bk, hv4, hε4⟩ := R.ptr_inv (k4 ▸ hi1.tm 4)
  have hv4' : a1.tmps[4]?.getD undef = .pointer (some ⟨bk, 0, none⟩) := by rw [← Array.getD_eq_getD_getElem?]; exact hv4
  have hmf : ∀ (fn : Fn) (first cap : Array Value) (w : World), (Instr.makeFunc fn first cap).run Try.prog w = .ok (.func fn first cap) w := fun _ _ _ _ => rfl
  have hsz : 5 < a1.tmps.size := by rw [hi1.sz]; show 5 < 11; omega
  have hset : (a1.tmps.setIfInBounds 5 (.func (.func 81) #[] #[.pointer (some ⟨bk, 0, none⟩)]))[5]?.getD undef = .func (.func 81) #[] #[.pointer (some ⟨bk, 0, none⟩)] := by simp [hsz]
  simp [wpOps, Oper.wp, go_sem, Region.wanted, hv4', hmf, resolve, Deferred.ofValue, Act.put, hset, hsz]
  repeat (with_reducible refine Or.inl ?_)
  have hi2 : Inv { callCtx w H ε 1 with N := 11, D := [{ target := .fn (.func 81) #[.pointer (some ⟨bk, 0, none⟩)], args := #[] }] } H1 ε1 (rdS s g (pktC p0)) { tmps := a1.tmps.setIfInBounds 5 (.func (.func 81) #[] #[.pointer (some ⟨bk, 0, none⟩)]), defers := { target := .fn (.func 81) #[.pointer (some ⟨bk, 0, none⟩)], args := #[] } :: a1.defers } w1 := by
    have hm1 := hi1.mem
    have hob : σ1.ob = (rdS s g (pktC p0)).ob := by
      funext i
      rw [kob i]
      match i with
      | 0 => rfl
      | 1 => rfl
      | _ + 2 => rfl
    rw [hob] at hm1
    refine ⟨by simp [hi1.sz], by simp [hi1.df, callCtx], fun i => ?_, ⟨hm1.view, hm1.objs, hm1.dj, hm1.own, hm1.os, hm1.tape, hm1.output, hm1.size, hm1.block, hm1.hle, hm1.hold, hm1.ele⟩, fun id hid => hi1.dom id (by rw [knx]; exact hid)⟩
    have hne : ∀ j, j ≠ 5 → (a1.tmps.setIfInBounds 5 (.func (.func 81) #[] #[.pointer (some ⟨bk, 0, none⟩)])).getD j undef = a1.tmps.getD j undef := fun j hj => by
      simp only [Array.getD_eq_getD_getElem?, Array.getElem?_setIfInBounds, if_neg (Ne.symm hj)]
    match i with
    | 0 => rw [hne 0 (by decide)]; have := hi1.tm 0; rw [k0] at this; exact this
    | 1 => rw [hne 1 (by decide)]; have := hi1.tm 1; rw [k1] at this; exact this
    | 2 => exact .junk _
    | 3 => exact .junk _
    | 4 => rw [hne 4 (by decide)]; have := hi1.tm 4; rw [k4] at this; exact this
    | _ + 5 => exact .junk _
  refine tri_use (N := 11) (rdK2 (pktC p1) b .ret) ?_ rfl hi2 ?_
  · unfold rdS
    repeat' (first
    | (with_reducible first | refine go_later ?_ | (refine h0 _ _ ?_; clear h0 hw) | (refine hw _ _ _ ?_; clear h0 hw) | refine go_ret ?_ | refine go_skip ?_ | refine go_block ?_ | refine go_exit ?_ | refine out_seq_ret ?_ | refine out_seq_normal ?_ | refine out_seq_exit ?_ | refine out_block_ret ?_ | refine out_block_normal ?_ | refine out_block_here ?_ | refine out_loop_ret ?_ | refine out_loop_exit ?_ | refine out_loopR_ret ?_ | refine out_loopR_exit ?_ | refine out_seq_panic ?_ | refine out_block_panic ?_ | refine out_loop_panic ?_ | (refine hL _ ?_; clear hL))
    | (with_reducible first | refine w_reg (by decide +kernel) fun K1 hK => ?_ | refine w_reg_end (by decide +kernel) fun K1 hK => ?_)
    | ((with_reducible first | apply d_reg Try.mix (by decide +kernel) | apply d_reg_end Try.mix (by decide +kernel)); (case hm => simp only [List.length_cons, List.length_nil, Nat.reduceAdd, Nat.reduceMul]; rfl); (case' h => intro K1 hK))
    | with_reducible refine go_seq ?_
    | ((with_reducible first | apply v_op Try.tab | apply v_op0 Try.tab | apply d_op Try.tab | apply d_op0 Try.tab) <;> first | (intro K' h0 hw; conv => whnf) | (simp only [Nat.reduceAdd, Nat.reduceMul]; rfl))
    | ((with_reducible apply v_nil); (case hm => (simp only [Nat.reduceAdd, Nat.reduceMul]; rfl)); (case' h => with_reducible refine hK _ ?_; clear hK))
    | ((with_reducible apply d_nil); (refine hK _ _ _ _ (by first | decide +kernel | (simp only [List.map_cons, List.map_nil, List.nil_append, List.cons_append]; decide +kernel) | rfl) ?_; clear hK))
    | (first | refine d_grd_yes (by rfl) (by rfl) ?_ | refine v_grd_yes (by rfl) (by rfl) ?_)
    | (apply d_grd_no; (case hg => rfl); (case hb => rfl); (case hi => (simp only [Nat.reduceAdd, Nat.reduceMul]; rfl)))
    | (apply d_grd_undef; (case hg => rfl); (case hb => rfl); (case hi => (simp only [Nat.reduceAdd, Nat.reduceMul]; rfl)))
    | (apply d_grd; (case hg => rfl); (case hb => rfl); (case hi => (simp only [Nat.reduceAdd, Nat.reduceMul]; rfl)))
    | (apply v_grd_no; (case hg => rfl); (case hb => rfl); (case hi => (simp only [Nat.reduceAdd, Nat.reduceMul]; rfl)))
    | (apply v_grd_undef; (case hg => rfl); (case hb => rfl); (case hi => (simp only [Nat.reduceAdd, Nat.reduceMul]; rfl)))
    | (apply v_grd; (case hg => rfl); (case hb => rfl); (case hi => (simp only [Nat.reduceAdd, Nat.reduceMul]; rfl)))
    | ((with_reducible apply go_cond); (case hb => rfl))
    | ((with_reducible apply out_block_there); (case hne => rfl))
    | ((with_reducible first | refine w_ret Try.tab fun K' hL => ?_ | refine w_ret_end Try.tab fun K' hL => ?_); (conv => whnf))
    | ((with_reducible apply And.intro); (case' right => try (conv => whnf)); (case' left => try first | rfl | decide | (simp; done)))
    | ((with_reducible apply Side.mk); (try simp (disch := omega) only [wrp]); (try simp); (try omega))
    | ((with_reducible apply all_rk); (case hx => with_reducible assumption); (conv => whnf))
    | ((with_reducible refine all_row ?_); (first | (have _y := hx5; clear _y; intro x6 hx6) | (have _y := hx4; clear _y; intro x5 hx5) | (have _y := hx3; clear _y; intro x4 hx4) | (have _y := hx2; clear _y; intro x3 hx3) | (have _y := hx1; clear _y; intro x2 hx2) | (intro x1 hx1)); conv => whnf)
    | (refine ⟨_, eqAT (by rfl) (by rfl) (by rfl) (by rfl), ?_⟩; conv => whnf)
    | ((with_reducible apply w_callO [65, 0] ho hdo); (case hx => rfl); (case he => rfl); (case hle => simp); (case hm => rfl); (case hnd => decide); (case' hK => conv => whnf); (any_goals (simp; done)))
    | ((first | (have _y := g9; clear _y; intro g10; try simp at g10) | (have _y := g8; clear _y; intro g9; try simp at g9) | (have _y := g7; clear _y; intro g8; try simp at g8) | (have _y := g6; clear _y; intro g7; try simp at g7) | (have _y := g5; clear _y; intro g6; try simp at g6) | (have _y := g4; clear _y; intro g5; try simp at g5) | (have _y := g3; clear _y; intro g4; try simp at g4) | (have _y := g2; clear _y; intro g3; try simp at g3) | (have _y := g1; clear _y; intro g2; try simp at g2) | (intro g1; try simp at g1))))
    rw [out_iff]
    refine ⟨rfl, rfl, ?_, rfl⟩
    show ObLe (some (.box (pktC p1))) (.box (pktC p1))
    simp [ObLe]
  rintro e σ3 H3 ε3 a3 w3 ⟨rfl, h4, h5, h6⟩ hi3
  have ht := Try.tab 4 _ rfl
  have hres : resL Try.prog σ3 Try.f49.results.toList = some [B b] := by
    rw [show Try.f49.results = #[.cell 4 4] from Try.results49]
    simp [resL, resAV, ht, h4, h6, ofCells, Kd.agg]
  obtain ⟨vs', q1, q2⟩ := res_run hi3 hres
  obtain ⟨v, rfl, q3⟩ : ∃ v, vs' = [v] ∧ R H3 ε3 v (B b) := by
    cases q2 with
    | cons v _ _ _ q3 q4 => cases q4; exact ⟨v, rfl, q3⟩
  have hrr : (results Try.f49 a3.tmps).run Try.prog w3 = .ok v w3 := by
    rw [results_eq]
    simp only [Sem.run_bind, q1, Result.andThen_ok, Sem.run_pure]
  obtain ⟨hel, hmem⟩ := back_mem (w := w) (H := H) (ε := ε) (obs := [.box (pktC p0)]) (obs' := [.box (pktC p1)]) [] hdom rfl (by simp) (by simp) (by
    have : backN 1 [] 0 = 0 := rfl
    refine ⟨?_, trivial⟩
    rw [show backN [Ob.box (pktC p0)].length [] 0 = 0 from rfl]
    simpa [ObLeG, Ob.ren, AV.ren, renL] using h5) (by simp) hi3
  have hd3 := hi3.df
  show Leaves Try.prog Try.f49 a3.tmps _ a3.defers .returning w3
  rw [hd3]
  refine leaves_cons (f := 81) (args := #[.pointer (some ⟨bk, 0, none⟩)]) (by simp) (by simp [go_sem]) ?_
  refine (catch_idle _ _).mono ?_
  rintro e u' w'' ⟨rfl, rfl, rfl⟩
  refine ⟨v, hrr, v, rfl, H3, hi3.mem.hle, _, hel, fun id hid => if_neg (by simp; omega), ?_, hmem⟩
  obtain ⟨rfl, h⟩ := q3.s_inv
  exact .d _ _ (.s _ rfl)
set_option maxHeartbeats 2000000 in
theorem c_read_pan (g : FuncId) (ho : Own Try.prog g) (s : ByteArray) (p0 : Pkt) (hdo : XSpec Try.prog g [.ptr 0 0, .ptr 1 0] [rdB s, .box (pktC p0)] shortP [.box [.junk], jk6]) :
    CSpec Try.prog 49 [Tx s, .fn (.func g) [] [.ptr 0 0]] [.box (pktC p0)] (B false) [jk6] := by
  intro w H ε vs hm hvs hdom
  refine calls_of_wp_defers Try.func49 rfl ?_
  have hinv := start_inv (P := Try.prog) (fn := Try.f49) (N := 11) Try.ntmps49 (by simp) hm hvs hdom
  refine wp_seq ?_
  refine tri_use (N := 11) (rdK0 s g (pktC p0)) ?_ rfl hinv ?_
  · rw [show St.startO [Tx s, .fn (.func g) [] [.ptr 0 0]] [Ob.box (pktC p0)] = ⟨slots [Tx s, .fn (.func g) [] [.ptr 0 0]], obF [.box (pktC p0)], 1⟩ by unfold St.startO; congr 1; funext i; exact slots_get _ i]
    repeat' (first
    | (with_reducible first | refine go_later ?_ | (refine h0 _ _ ?_; clear h0 hw) | (refine hw _ _ _ ?_; clear h0 hw) | refine go_ret ?_ | refine go_skip ?_ | refine go_block ?_ | refine go_exit ?_ | refine out_seq_ret ?_ | refine out_seq_normal ?_ | refine out_seq_exit ?_ | refine out_block_ret ?_ | refine out_block_normal ?_ | refine out_block_here ?_ | refine out_loop_ret ?_ | refine out_loop_exit ?_ | refine out_loopR_ret ?_ | refine out_loopR_exit ?_ | refine out_seq_panic ?_ | refine out_block_panic ?_ | refine out_loop_panic ?_ | (refine hL _ ?_; clear hL))
    | (with_reducible first | refine w_reg (by decide +kernel) fun K1 hK => ?_ | refine w_reg_end (by decide +kernel) fun K1 hK => ?_)
    | ((with_reducible first | apply d_reg Try.mix (by decide +kernel) | apply d_reg_end Try.mix (by decide +kernel)); (case hm => simp only [List.length_cons, List.length_nil, Nat.reduceAdd, Nat.reduceMul]; rfl); (case' h => intro K1 hK))
    | with_reducible refine go_seq ?_
    | ((with_reducible first | apply v_op Try.tab | apply v_op0 Try.tab | apply d_op Try.tab | apply d_op0 Try.tab) <;> first | (intro K' h0 hw; conv => whnf) | (simp only [Nat.reduceAdd, Nat.reduceMul]; rfl))
    | ((with_reducible apply v_nil); (case hm => (simp only [Nat.reduceAdd, Nat.reduceMul]; rfl)); (case' h => with_reducible refine hK _ ?_; clear hK))
    | ((with_reducible apply d_nil); (refine hK _ _ _ _ (by first | decide +kernel | (simp only [List.map_cons, List.map_nil, List.nil_append, List.cons_append]; decide +kernel) | rfl) ?_; clear hK))
    | (first | refine d_grd_yes (by rfl) (by rfl) ?_ | refine v_grd_yes (by rfl) (by rfl) ?_)
    | (apply d_grd_no; (case hg => rfl); (case hb => rfl); (case hi => (simp only [Nat.reduceAdd, Nat.reduceMul]; rfl)))
    | (apply d_grd_undef; (case hg => rfl); (case hb => rfl); (case hi => (simp only [Nat.reduceAdd, Nat.reduceMul]; rfl)))
    | (apply d_grd; (case hg => rfl); (case hb => rfl); (case hi => (simp only [Nat.reduceAdd, Nat.reduceMul]; rfl)))
    | (apply v_grd_no; (case hg => rfl); (case hb => rfl); (case hi => (simp only [Nat.reduceAdd, Nat.reduceMul]; rfl)))
    | (apply v_grd_undef; (case hg => rfl); (case hb => rfl); (case hi => (simp only [Nat.reduceAdd, Nat.reduceMul]; rfl)))
    | (apply v_grd; (case hg => rfl); (case hb => rfl); (case hi => (simp only [Nat.reduceAdd, Nat.reduceMul]; rfl)))
    | ((with_reducible apply go_cond); (case hb => rfl))
    | ((with_reducible apply out_block_there); (case hne => rfl))
    | ((with_reducible first | refine w_ret Try.tab fun K' hL => ?_ | refine w_ret_end Try.tab fun K' hL => ?_); (conv => whnf))
    | ((with_reducible apply And.intro); (case' right => try (conv => whnf)); (case' left => try first | rfl | decide | (simp; done)))
    | ((with_reducible apply Side.mk); (try simp (disch := omega) only [wrp]); (try simp); (try omega))
    | ((with_reducible apply all_rk); (case hx => with_reducible assumption); (conv => whnf))
    | ((with_reducible refine all_row ?_); (first | (have _y := hx5; clear _y; intro x6 hx6) | (have _y := hx4; clear _y; intro x5 hx5) | (have _y := hx3; clear _y; intro x4 hx4) | (have _y := hx2; clear _y; intro x3 hx3) | (have _y := hx1; clear _y; intro x2 hx2) | (intro x1 hx1)); conv => whnf)
    | (refine ⟨_, eqAT (by rfl) (by rfl) (by rfl) (by rfl), ?_⟩; conv => whnf)
    | ((first | (have _y := g9; clear _y; intro g10; try simp at g10) | (have _y := g8; clear _y; intro g9; try simp at g9) | (have _y := g7; clear _y; intro g8; try simp at g8) | (have _y := g6; clear _y; intro g7; try simp at g7) | (have _y := g5; clear _y; intro g6; try simp at g6) | (have _y := g4; clear _y; intro g5; try simp at g5) | (have _y := g3; clear _y; intro g4; try simp at g4) | (have _y := g2; clear _y; intro g3; try simp at g3) | (have _y := g1; clear _y; intro g2; try simp at g2) | (intro g1; try simp at g1))))
    rw [out_iff]
    refine ⟨rfl, rfl, rfl, rfl, fun i => ?_, rfl⟩
    match i with
    | 0 => rfl
    | 1 => rfl
    | _ + 2 => rfl
  rintro e σ1 H1 ε1 a1 w1 ⟨rfl, k0, k1, k4, kob, knx⟩ hi1
  refine wp_seq ?_
  refine wp_region ?_
  obtain ⟨bk, hv4, hε4⟩ := R.ptr_inv (k4 ▸ hi1.tm 4)
  have hv4' : a1.tmps[4]?.getD undef = .pointer (some ⟨bk, 0, none⟩) := by rw [← Array.getD_eq_getD_getElem?]; exact hv4
  have hmf : ∀ (fn : Fn) (first cap : Array Value) (w : World), (Instr.makeFunc fn first cap).run Try.prog w = .ok (.func fn first cap) w := fun _ _ _ _ => rfl
  have hsz : 5 < a1.tmps.size := by rw [hi1.sz]; show 5 < 11; omega
  have hset : (a1.tmps.setIfInBounds 5 (.func (.func 81) #[] #[.pointer (some ⟨bk, 0, none⟩)]))[5]?.getD undef = .func (.func 81) #[] #[.pointer (some ⟨bk, 0, none⟩)] := by simp [hsz]
  simp [wpOps, Oper.wp, go_sem, Region.wanted, hv4', hmf, resolve, Deferred.ofValue, Act.put, hset, hsz]
  repeat (with_reducible refine Or.inl ?_)
  have hi2 : Inv { N := 11, w0 := w, H0 := H1, E0 := ε1, S := (callCtx w H ε 1).S, D := [{ target := .fn (.func 81) #[.pointer (some ⟨bk, 0, none⟩)], args := #[] }] } H1 ε1 (rdS s g (pktC p0)) { tmps := a1.tmps.setIfInBounds 5 (.func (.func 81) #[] #[.pointer (some ⟨bk, 0, none⟩)]), defers := { target := .fn (.func 81) #[.pointer (some ⟨bk, 0, none⟩)], args := #[] } :: a1.defers } w1 := by
    have hm1 := hi1.mem
    have hob : σ1.ob = (rdS s g (pktC p0)).ob := by
      funext i
      rw [kob i]
      match i with
      | 0 => rfl
      | 1 => rfl
      | _ + 2 => rfl
    rw [hob] at hm1
    refine ⟨by simp [hi1.sz], by simp [hi1.df, callCtx], fun i => ?_, ⟨hm1.view, hm1.objs, hm1.dj, hm1.own, hm1.os, hm1.tape, hm1.output, hm1.size, hm1.block, View.le_refl H1, fun _ _ _ _ => rfl, Env.le_refl ε1⟩, fun id hid => hi1.dom id (by rw [knx]; exact hid)⟩
    have hne : ∀ j, j ≠ 5 → (a1.tmps.setIfInBounds 5 (.func (.func 81) #[] #[.pointer (some ⟨bk, 0, none⟩)])).getD j undef = a1.tmps.getD j undef := fun j hj => by
      simp only [Array.getD_eq_getD_getElem?, Array.getElem?_setIfInBounds, if_neg (Ne.symm hj)]
    match i with
    | 0 => rw [hne 0 (by decide)]; have := hi1.tm 0; rw [k0] at this; exact this
    | 1 => rw [hne 1 (by decide)]; have := hi1.tm 1; rw [k1] at this; exact this
    | 2 => exact .junk _
    | 3 => exact .junk _
    | 4 => rw [hne 4 (by decide)]; have := hi1.tm 4; rw [k4] at this; exact this
    | _ + 5 => exact .junk _
  refine tri_use (N := 11) (rdK2 [.junk, .junk, .junk, .junk, .junk, .junk] false (.panic shortP)) ?_ rfl hi2 ?_
  · unfold rdS
    repeat' (first
    | ((with_reducible first | refine w_regX (id := 2) 4 _ (by decide +kernel) rfl rfl fun K1 hK => ?_ | refine w_regX_end (id := 2) 4 _ (by decide +kernel) rfl rfl fun K1 hK => ?_); (simp only [List.take_succ_cons, List.take_zero]))
    | (with_reducible first | refine go_later ?_ | (refine h0 _ _ ?_; clear h0 hw) | (refine hw _ _ _ ?_; clear h0 hw) | refine go_ret ?_ | refine go_skip ?_ | refine go_block ?_ | refine go_exit ?_ | refine out_seq_ret ?_ | refine out_seq_normal ?_ | refine out_seq_exit ?_ | refine out_block_ret ?_ | refine out_block_normal ?_ | refine out_block_here ?_ | refine out_loop_ret ?_ | refine out_loop_exit ?_ | refine out_loopR_ret ?_ | refine out_loopR_exit ?_ | refine out_seq_panic ?_ | refine out_block_panic ?_ | refine out_loop_panic ?_ | (refine hL _ ?_; clear hL))
    | (with_reducible first | refine w_reg (by decide +kernel) fun K1 hK => ?_ | refine w_reg_end (by decide +kernel) fun K1 hK => ?_)
    | ((with_reducible first | apply d_reg Try.mix (by decide +kernel) | apply d_reg_end Try.mix (by decide +kernel)); (case hm => simp only [List.length_cons, List.length_nil, Nat.reduceAdd, Nat.reduceMul]; rfl); (case' h => intro K1 hK))
    | with_reducible refine go_seq ?_
    | ((with_reducible first | apply v_op Try.tab | apply v_op0 Try.tab | apply d_op Try.tab | apply d_op0 Try.tab) <;> first | (intro K' h0 hw; conv => whnf) | (simp only [Nat.reduceAdd, Nat.reduceMul]; rfl))
    | ((with_reducible apply v_nil); (case hm => (simp only [Nat.reduceAdd, Nat.reduceMul]; rfl)); (case' h => with_reducible refine hK _ ?_; clear hK))
    | ((with_reducible apply d_nil); (refine hK _ _ _ _ (by first | decide +kernel | (simp only [List.map_cons, List.map_nil, List.nil_append, List.cons_append]; decide +kernel) | rfl) ?_; clear hK))
    | (first | refine d_grd_yes (by rfl) (by rfl) ?_ | refine v_grd_yes (by rfl) (by rfl) ?_)
    | (apply d_grd_no; (case hg => rfl); (case hb => rfl); (case hi => (simp only [Nat.reduceAdd, Nat.reduceMul]; rfl)))
    | (apply d_grd_undef; (case hg => rfl); (case hb => rfl); (case hi => (simp only [Nat.reduceAdd, Nat.reduceMul]; rfl)))
    | (apply d_grd; (case hg => rfl); (case hb => rfl); (case hi => (simp only [Nat.reduceAdd, Nat.reduceMul]; rfl)))
    | (apply v_grd_no; (case hg => rfl); (case hb => rfl); (case hi => (simp only [Nat.reduceAdd, Nat.reduceMul]; rfl)))
    | (apply v_grd_undef; (case hg => rfl); (case hb => rfl); (case hi => (simp only [Nat.reduceAdd, Nat.reduceMul]; rfl)))
    | (apply v_grd; (case hg => rfl); (case hb => rfl); (case hi => (simp only [Nat.reduceAdd, Nat.reduceMul]; rfl)))
    | ((with_reducible apply go_cond); (case hb => rfl))
    | ((with_reducible apply out_block_there); (case hne => rfl))
    | ((with_reducible first | refine w_ret Try.tab fun K' hL => ?_ | refine w_ret_end Try.tab fun K' hL => ?_); (conv => whnf))
    | ((with_reducible apply And.intro); (case' right => try (conv => whnf)); (case' left => try first | rfl | decide | (simp; done)))
    | ((with_reducible apply Side.mk); (try simp (disch := omega) only [wrp]); (try simp); (try omega))
    | ((with_reducible apply all_rk); (case hx => with_reducible assumption); (conv => whnf))
    | ((with_reducible refine all_row ?_); (first | (have _y := hx5; clear _y; intro x6 hx6) | (have _y := hx4; clear _y; intro x5 hx5) | (have _y := hx3; clear _y; intro x4 hx4) | (have _y := hx2; clear _y; intro x3 hx3) | (have _y := hx1; clear _y; intro x2 hx2) | (intro x1 hx1)); conv => whnf)
    | (refine ⟨_, eqAT (by rfl) (by rfl) (by rfl) (by rfl), ?_⟩; conv => whnf)
    | ((with_reducible apply v_nil); (case hm => (try simp only [Nat.reduceAdd, Nat.reduceMul]); exact rfl); (case' h => refine hK _ _ _ _ _ (panOp_call [65, 0] ho hdo (by rfl) (by decide) (by simp) (by simp) (by rfl) (by rfl) ?_ ?_ ?_ ?_) ?_; clear hK); (any_goals first | ((repeat constructor); done) | (simp; done)))
    | ((first | (have _y := g9; clear _y; intro g10; try simp at g10) | (have _y := g8; clear _y; intro g9; try simp at g9) | (have _y := g7; clear _y; intro g8; try simp at g8) | (have _y := g6; clear _y; intro g7; try simp at g7) | (have _y := g5; clear _y; intro g6; try simp at g6) | (have _y := g4; clear _y; intro g5; try simp at g5) | (have _y := g3; clear _y; intro g4; try simp at g4) | (have _y := g2; clear _y; intro g3; try simp at g3) | (have _y := g1; clear _y; intro g2; try simp at g2) | (intro g1; try simp at g1))))
    rw [out_iff]
    refine ⟨rfl, rfl, ?_, rfl⟩
    show ObLe (some jk6) (.box [.junk, .junk, .junk, .junk, .junk, .junk])
    simp [ObLe]
  rintro e σ3 H3 ε3 a3 w3 ⟨rfl, h4, h5, h6⟩ hi3
  have hi3' : Inv { callCtx w H ε 1 with N := 11, D := [{ target := .fn (.func 81) #[.pointer (some ⟨bk, 0, none⟩)], args := #[] }] } H3 ε3 σ3 a3 w3 := ⟨hi3.sz, hi3.df, hi3.tm, ⟨hi3.mem.view, hi3.mem.objs, hi3.mem.dj, hi3.mem.own, hi3.mem.os, hi3.mem.tape, hi3.mem.output, hi3.mem.size, hi3.mem.block, View.le_trans hi1.mem.hle hi3.mem.hle, fun b o hb hS => (hi3.mem.hold b o hb hS).trans (hi1.mem.hold b o hb hS), Env.le_trans hi1.mem.ele hi3.mem.ele⟩, hi3.dom⟩
  have hε3 : ε3 1 = some (.blk bk) := hi3.mem.ele 1 (.blk bk) hε4
  obtain ⟨arr, T', hh, hrl, _, _⟩ := (hi3.mem.objs 1 _ h6).box hε3
  have harr : arr = #[.bool false] := by
    cases hq : arr.toList with
    | nil => rw [hq] at hrl; cases hrl
    | cons v l =>
      rw [hq] at hrl
      cases hrl with
      | cons _ _ _ _ h t =>
        cases t
        rw [h.s_inv.1] at hq
        rw [← Array.toArray_toList (xs := arr), hq]
  subst harr
  have hc : w3.cell? ⟨bk, 0, none⟩ = some (.bool false) := by rw [cell_of_row _ _ _ _ T' (0, 0) hh]; rfl
  have hz : w3.frozen? ⟨bk, 0, none⟩ = false := by
    unfold World.frozen?
    rw [hh]; simp
  have hi4 : Inv { callCtx w H ε 1 with N := 11, D := [{ target := .fn (.func 81) #[.pointer (some ⟨bk, 0, none⟩)], args := #[] }] } H3 ε3 σ3 a3 (w3.alloc (.cells #[] 118)) := ⟨hi3'.sz, hi3'.df, hi3'.tm, hi3'.mem.ext (View.le_refl H3) (fun _ _ _ => rfl) (fun b o v h => cell_alloc_lt (hi3'.mem.view b o v h)) (fun k hk => heap_old w3 _ k hk) (by simp) rfl rfl rfl, hi3'.dom⟩
  have ht := Try.tab 4 _ rfl
  have hres : resL Try.prog σ3 Try.f49.results.toList = some [B false] := by
    rw [show Try.f49.results = #[.cell 4 4] from Try.results49]
    simp [resL, resAV, ht, h4, h6, ofCells, Kd.agg]
  obtain ⟨vs', q1, q2⟩ := res_run hi4 hres
  obtain ⟨v, rfl, q3⟩ : ∃ v, vs' = [v] ∧ R H3 ε3 v (B false) := by
    cases q2 with
    | cons v _ _ _ q3 q4 => cases q4; exact ⟨v, rfl, q3⟩
  have hrr : (results Try.f49 a3.tmps).run Try.prog (w3.alloc (.cells #[] 118)) = .ok v (w3.alloc (.cells #[] 118)) := by
    rw [results_eq]
    simp only [Sem.run_bind, q1, Result.andThen_ok, Sem.run_pure]
  obtain ⟨hel, hmem⟩ := back_mem (w := w) (H := H) (ε := ε) (obs := [.box (pktC p0)]) (obs' := [jk6]) [] hdom rfl (by simp) (by simp) (by
    refine ⟨?_, trivial⟩
    rw [show backN [Ob.box (pktC p0)].length [] 0 = 0 from rfl]
    simpa [ObLeG, Ob.ren, AV.ren, renL] using h5) (by simp) hi4
  have hd3 := hi3.df
  show Leaves Try.prog Try.f49 a3.tmps _ a3.defers (.panicking shortP) w3
  rw [hd3]
  refine leaves_cons (f := 81) (args := #[.pointer (some ⟨bk, 0, none⟩)]) (by simp) (by simp [go_sem]) ?_
  refine (catch_pan _ _ _ hc hz).mono ?_
  rintro e u' w'' ⟨rfl, rfl, rfl⟩
  rw [setCell_same _ _ _ (cell_alloc_lt hc) rfl]
  refine ⟨v, hrr, v, rfl, H3, hi3'.mem.hle, _, hel, fun id hid => if_neg (by simp; omega), ?_, hmem⟩
  obtain ⟨rfl, h⟩ := q3.s_inv
  exact .d _ _ (.s _ rfl)
end Go.Proofs.Ytlehonipilpfdaa

/- The symbolic layer: what the walk's simp uses; small facts on wraps and quotients. No condition. -/
import Derived.Test.YtokkencbpmjdaaaGreatSy3
import Derived.IntWalk
set_option linter.unusedVariables false
namespace Go.Sy

attribute [simp] elemTy St.ev St.put St.know constAV upd_get updOb_get applyW gdst intOp strOp condVC
attribute [simp] retVC retVO head_tm head_ob head_nx resL resAV AV.cells AV.one ofCells litRows datL AV.dat rowsOK AV.rows buildAV scal Kd.agg AV.lt ltL AV.ren renL Ob.ren Ob.lt callφ callWs obF oneAV backN obsBack ltO ObLe leS leB ltS ltB
attribute [simp] List.range_succ Ob.opt obsRet ObLeG
attribute [simp] leL_nil leL_cons le_tup le_agg le_osl le_sl le_osl_sl le_nil_sl le_junk le_self le_ptr wr_get wo_get wos

theorem start_tm (args : List AV) : (St.start args).tm = fun i => args.getD i (.tup []) := rfl
theorem start_ob (args : List AV) : (St.start args).ob = fun _ => none := rfl
theorem start_nx (args : List AV) : (St.start args).nx = 0 := rfl
theorem startO_tm (args : List AV) (obs : List Ob) : (St.startO args obs).tm = fun i => args.getD i (.tup []) := rfl
theorem startO_ob (args : List AV) (obs : List Ob) : (St.startO args obs).ob = obF obs := rfl
theorem startO_nx (args : List AV) (obs : List Ob) : (St.startO args obs).nx = obs.length := rfl
attribute [simp] start_tm start_ob start_nx startO_tm startO_ob startO_nx

abbrev I (n : Int) : AV := .s (.int .i64 n)
abbrev B (b : Bool) : AV := .s (.bool b)
abbrev Tx (s : ByteArray) : AV := .s (.string s)
theorem wrp {n : Int} (h1 : -9223372036854775808 ≤ n) (h2 : n ≤ 9223372036854775807) : IntKind.i64.wrap n = n := IntWalk.i64_in n ⟨h1, h2⟩
theorem tmp {a b : Int} (h : 0 ≤ a) : a.tmod b = a % b := Int.tmod_eq_emod_of_nonneg h
theorem callV_f {P : Program} {nb : Nat} {t : TypeId} {σ : St} {K : Kont} {f : FuncId} {x : Operand} {args : Array Operand} {ts : Array TypeId} {avs args' : List AV} {r : AV} (ho : Own P f) (hs : PSpec P f args' r) (hx : σ.ev x = .fn (.func f) [] []) (he : avs = args.toList.map σ.ev)
    (hle : LeL avs args') (hpu : PuL args') (hK : K r [] []) : CallV P nb (.call { callee := .value x, args, argTypes := ts }) t f avs σ K := callV_pure ho hs hx (by simpa using he) hle hpu hK
@[simp] theorem le_s {v w : Value} : Le (.s v) (.s w) ↔ v = w := ⟨fun h => by cases h; rfl, fun h => by subst h; exact .refl _⟩
theorem le_of_eq {a b : AV} (h : a = b) : Le a b := by subst h; exact .refl _
section
variable {P : Program} {T : TypeId → Option TY} {ops : Array Oper} {base nb i i' nx m : Nat} {l : List Oper} {tm : Nat → AV} {ob : Nat → Option Ob} {K : St → Prop} {d d0 g : Nat} {op : Op} {t : TypeId} {pos : String} {aft : Array Edge} {want : Bool}
theorem p_nil (h : K ⟨tm, ob, m⟩) (hm : base + 16 * i = m := by simp only [Nat.reduceAdd, Nat.reduceMul]; rfl) : Reg P ops base [] i ⟨tm, ob, nx⟩ K := v_nil hm h
theorem p_side {p : Prop} (h : p := by first | ((try simp (disch := omega) only [wrp]); (try simp); (try simp (disch := omega) only [wrp]); (try omega); done) | fail) : Side p := h
theorem p_reg {N id : Nat} {y : Code} {K : Exit → St → Prop} (h : ∀ K1 : St → Prop, (∀ σ', Later P N y K σ' → K1 σ') → Reg P l.toArray nx l 0 ⟨tm, ob, nx⟩ K1) (hN : dstOK N l.toArray = true := by decide +kernel) : Tri P N (.seq (.region id l.toArray false) y) ⟨tm, ob, nx⟩ K := w_reg hN h
theorem p_regE {N id : Nat} {K : Exit → St → Prop} (h : ∀ K1 : St → Prop, (∀ σ', Out K .normal σ' → K1 σ') → Reg P l.toArray nx l 0 ⟨tm, ob, nx⟩ K1) (hN : dstOK N l.toArray = true := by decide +kernel) : Tri P N (.region id l.toArray false) ⟨tm, ob, nx⟩ K := w_reg_end hN h
theorem p_op (hT : TabOK P T)
    (h : ∀ K' : Kont, (∀ r deps, Reg P ops base l i' ⟨wr tm d r, ob, nx⟩ K → K' r deps []) → (∀ r deps ws, Reg P ops base l i' ⟨wr tm d r, wos ob ws, nx⟩ K → K' r deps ws) → vc T P nb op t ⟨tm, ob, nx⟩ (nfK K'))
    (hnb : base + 16 * i = nb := by simp only [Nat.reduceAdd, Nat.reduceMul]; rfl) (hi : i + 1 = i' := by simp only [Nat.reduceAdd, Nat.reduceMul]; rfl) :
    Reg P ops base (⟨some d, op, t, pos, aft, none⟩ :: l) i ⟨tm, ob, nx⟩ K := v_op hT hnb hi h
theorem p_op0 (hT : TabOK P T)
    (h : ∀ K' : Kont, (∀ r deps, Reg P ops base l i' ⟨tm, ob, nx⟩ K → K' r deps []) → (∀ r deps ws, Reg P ops base l i' ⟨tm, wos ob ws, nx⟩ K → K' r deps ws) → vc T P nb op t ⟨tm, ob, nx⟩ (nfK K'))
    (hnb : base + 16 * i = nb := by simp only [Nat.reduceAdd, Nat.reduceMul]; rfl) (hi : i + 1 = i' := by simp only [Nat.reduceAdd, Nat.reduceMul]; rfl) :
    Reg P ops base (⟨none, op, t, pos, aft, none⟩ :: l) i ⟨tm, ob, nx⟩ K := v_op0 hT hnb hi h
end
section
variable {P : Program} {T : TypeId → Option TY} {ops : Array Oper} {base nb i i' nx m : Nat} {l : List Oper} {tm : Nat → AV} {ob : Nat → Option Ob} {K : List (List Nat × List Nat) → St → Prop} {d d0 g : Nat} {op : Op} {t : TypeId} {pos : String} {aft : Array Edge} {want : Bool} {acc : List (List Nat × List Nat)}
theorem p_dreg {N id : Nat} {y : Code} {K : Exit → St → Prop} (hmix : P.follows .mixedOrders = true)
    (h : ∀ K1 : List (List Nat × List Nat) → St → Prop, (∀ acc tm' ob' nx', objsOK (ancT l) acc = true → Later P N y K ⟨tm', ob', m⟩ → K1 acc ⟨tm', ob', nx'⟩) → RegD P l.toArray nx l 0 ⟨tm, ob, nx⟩ [] K1)
    (hok : drawOK N l.toArray = true := by decide +kernel) (hm : nx + 16 * l.length = m := by simp only [List.length_cons, List.length_nil, Nat.reduceAdd, Nat.reduceMul]; rfl) : Tri P N (.seq (.region id l.toArray true) y) ⟨tm, ob, nx⟩ K := d_reg hmix hok hm h
theorem p_dregE {N id : Nat} {K : Exit → St → Prop} (hmix : P.follows .mixedOrders = true)
    (h : ∀ K1 : List (List Nat × List Nat) → St → Prop, (∀ acc tm' ob' nx', objsOK (ancT l) acc = true → Out K .normal ⟨tm', ob', m⟩ → K1 acc ⟨tm', ob', nx'⟩) → RegD P l.toArray nx l 0 ⟨tm, ob, nx⟩ [] K1)
    (hok : drawOK N l.toArray = true := by decide +kernel) (hm : nx + 16 * l.length = m := by simp only [List.length_cons, List.length_nil, Nat.reduceAdd, Nat.reduceMul]; rfl) : Tri P N (.region id l.toArray true) ⟨tm, ob, nx⟩ K := d_reg_end hmix hok hm h
theorem p_dop (hT : TabOK P T)
    (h : ∀ K' : Kont, (∀ r deps, RegD P ops base l i' ⟨wr tm d r, ob, nx⟩ (acc ++ [(deps, [])]) K → K' r deps []) → (∀ r deps ws, RegD P ops base l i' ⟨wr tm d r, wos ob ws, nx⟩ (acc ++ [(deps, ws.map (·.1))]) K → K' r deps ws) → vc T P nb op t ⟨tm, ob, nx⟩ (nfK K'))
    (hnb : base + 16 * i = nb := by simp only [Nat.reduceAdd, Nat.reduceMul]; rfl) (hi : i + 1 = i' := by simp only [Nat.reduceAdd, Nat.reduceMul]; rfl) :
    RegD P ops base (⟨some d, op, t, pos, aft, none⟩ :: l) i ⟨tm, ob, nx⟩ acc K := d_op hT hnb hi h
theorem p_dop0 (hT : TabOK P T)
    (h : ∀ K' : Kont, (∀ r deps, RegD P ops base l i' ⟨tm, ob, nx⟩ (acc ++ [(deps, [])]) K → K' r deps []) → (∀ r deps ws, RegD P ops base l i' ⟨tm, wos ob ws, nx⟩ (acc ++ [(deps, ws.map (·.1))]) K → K' r deps ws) → vc T P nb op t ⟨tm, ob, nx⟩ (nfK K'))
    (hnb : base + 16 * i = nb := by simp only [Nat.reduceAdd, Nat.reduceMul]; rfl) (hi : i + 1 = i' := by simp only [Nat.reduceAdd, Nat.reduceMul]; rfl) :
    RegD P ops base (⟨none, op, t, pos, aft, none⟩ :: l) i ⟨tm, ob, nx⟩ acc K := d_op0 hT hnb hi h
end
theorem p_obj {p q : Prop} {acc : List (List Nat × List Nat)} {anc : List (List Nat)} (hq : p) (h : objsOK anc acc = true → p → q) (ho : objsOK anc acc = true := by first | decide +kernel | (simp only [List.map_cons, List.map_nil, List.nil_append, List.cons_append]; decide +kernel) | rfl) : q := h ho hq
theorem p_call {P : Program} {nb : Nat} {t : TypeId} {σ : St} {K : Kont} {f : FuncId} {x : Operand} {args : Array Operand} {ts : Array TypeId} {avs args' : List AV} {r : AV} (ho : Own P f) (hs : PSpec P f args' r) (hK : K r [] []) (hx : σ.ev x = .fn (.func f) [] [] := by rfl) (he : avs = args.toList.map σ.ev := by rfl)
    (hle : LeL avs args' := by first | ((repeat constructor); done) | (simp; done) | fail) (hpu : PuL args' := by first | ((repeat constructor); done) | fail) : CallV P nb (.call { callee := .value x, args, argTypes := ts }) t f avs σ K := callV_f ho hs hx he hle hpu hK
theorem p_nx {K : Exit → St → Prop} {X : Type} {σ0 σ : St} {W : List Nat} {S : X → List (Nat × AV)} {B : X → List (Nat × Ob)} {rel : X → Prop} {m : Nat} {μ : X → Nat} (x' : X) (rel' : rel x') (hs : ltS σ0.nx (S x') := by first | (simp; done) | fail) (hb : ltB σ0.nx (B x') := by first | (simp; done) | fail) (ls : leS σ (S x') := by first | (simp (disch := omega) [wrp]; done) | fail) (lb : leB σ (B x') := by first | (simp; done) | fail) (mu : μ x' < m := by first | (simp; omega) | (simp; done) | omega | (simp only; omega))
    (kt : KeepTm W σ.tm σ0.tm := by first | exact kt_refl | (repeat (first | exact kt_refl | refine kt_wr (by rfl) ?_ | refine kt_jnk (by rfl) ?_ | refine kt_wrs (by rfl) ?_)))
    (ko : KeepOb σ0.nx ((B x').map (·.1)) σ.ob σ0.ob := by repeat (first | exact ko_refl | refine ko_wo (by first | exact .inl (by rfl) | exact .inr (by simp) | exact .inr (by omega)) ?_ | refine ko_wor (by rfl) ?_ | refine ko_wos (by simp) ?_))
    (hn : σ0.nx ≤ σ.nx := by first | exact Nat.le_refl _ | (simp; done) | (simp; omega)) : Out (LoopK σ0 W S B rel m μ K) .normal σ :=
  w_next x' rel' mu kt ko ls lb hs hb hn
theorem p_pspec {P : Program} {f : FuncId} {fn : Func} {code : Code} {args : List AV} {r : AV} {N : Nat} (hf : P.funcs[f]? = some fn) (hN : fn.ntmps = N) {rs : Array ResultVar} (hr : fn.results = rs)
    (h : Later P N code (retK P rs.toList r) ⟨slots args, fun _ => none, 0⟩) (hb : fn.body = some code := by rfl) (hn : args.length ≤ N := by simp) (hpu : Pu r := by first | exact .s _ | repeat constructor) : PSpec P f args r := v_pspec hf hb hN hr hn hpu h
end Go.Sy

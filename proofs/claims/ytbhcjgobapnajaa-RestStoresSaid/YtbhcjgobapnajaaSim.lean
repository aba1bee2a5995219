/- The symbolic layer: what the walk's simp uses; small facts on wraps and quotients. No condition. -/
import Derived.Test.YtbhcjgobapnajaaSy3
import Derived.IntWalk
set_option linter.unusedVariables false
namespace Go.Sy

attribute [simp] elemTy St.ev St.put St.know constAV upd_get updOb_get applyW gdst intOp strOp condVC
attribute [simp] retVC retVO head_tm head_ob head_nx resL resAV AV.cells AV.one ofCells litRows datL AV.dat rowsOK AV.rows buildAV scal Kd.agg AV.lt ltL AV.ren renL Ob.ren Ob.lt callφ callWs obF oneAV backN obsBack ltO ObLe leS leB ltS ltB
attribute [simp] List.range_succ Ob.opt obsRet ObLeG
attribute [simp] leL_nil leL_cons le_tup le_agg le_osl le_sl le_osl_sl le_nil_sl le_junk le_self le_ptr wr_get wo_get wos

theorem start_tm (args : List AV) : (St.start args).tm = fun i => args.getD i (.tup []) := rfl
theorem start_ob (args : List AV) : (St.start args).ob = fun _ => none := rfl
theorem start_nx (args : List AV) : (St.start args).nx = 0 := rfl
theorem startO_tm (args : List AV) (obs : List Ob) : (St.startO args obs).tm = fun i => args.getD i (.tup []) := rfl
theorem startO_ob (args : List AV) (obs : List Ob) : (St.startO args obs).ob = obF obs := rfl
theorem startO_nx (args : List AV) (obs : List Ob) : (St.startO args obs).nx = obs.length := rfl
attribute [simp] start_tm start_ob start_nx startO_tm startO_ob startO_nx

abbrev I (n : Int) : AV := .s (.int .i64 n)
abbrev B (b : Bool) : AV := .s (.bool b)
abbrev Tx (s : ByteArray) : AV := .s (.string s)
theorem wrp {n : Int} (h1 : -9223372036854775808 ≤ n) (h2 : n ≤ 9223372036854775807) : IntKind.i64.wrap n = n := IntWalk.i64_in n ⟨h1, h2⟩
theorem tmp {a b : Int} (h : 0 ≤ a) : a.tmod b = a % b := Int.tmod_eq_emod_of_nonneg h
theorem callV_f {P : Program} {nb : Nat} {t : TypeId} {σ : St} {K : Kont} {f : FuncId} {x : Operand} {args : Array Operand} {ts : Array TypeId} {avs args' : List AV} {r : AV} (ho : Own P f) (hs : PSpec P f args' r) (hx : σ.ev x = .fn (.func f) [] []) (he : avs = args.toList.map σ.ev)
    (hle : LeL avs args') (hpu : PuL args') (hK : K r [] []) : CallV P nb (.call { callee := .value x, args, argTypes := ts }) t f avs σ K := callV_pure ho hs hx (by simpa using he) hle hpu hK
@[simp] theorem le_s {v w : Value} : Le (.s v) (.s w) ↔ v = w := ⟨fun h => by cases h; rfl, fun h => by subst h; exact .refl _⟩
theorem le_of_eq {a b : AV} (h : a = b) : Le a b := by subst h; exact .refl _
end Go.Sy

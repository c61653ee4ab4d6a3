/-
  Sl, part 10: floats.
-/
import Derived.Test.YtgpfhkbolhpoiaaSl9
namespace Go.Sl
set_option linter.unusedVariables false
set_option linter.unusedSimpArgs false
section
variable {C : Ctx} {Q : QT} {E : Env} {L L' F : List HProp} {ty : TypeId} {v : Value} {x y : Operand} {t t' : TypeId} {k : FloatKind} {a b r : Nat}
theorem eqGuard_float {o : BinOp} (w : World) : (eqGuard o t x y (.float k a) (.float k b)).run C.P w = .ok () w := by
  unfold eqGuard
  cases o <;> simp
theorem v_float {o : BinOp} (hx : evalE E x = some (.float k a)) (hy : evalE E y = some (.float k b)) (hr : ∀ w, (binOp o t (.float k a) (.float k b)).run C.P w = .ok v w) : OpV C (.binOp o t x y t') ty E L v L :=
  pureV fun d pos aft g a w ha => by rw [run_bin d pos aft g (ha.eval hx) (ha.eval hy) (eqGuard_float w), hr]; rfl
theorem v_feq (hx : evalE E x = some (.float k a)) (hy : evalE E y = some (.float k b)) : OpV C (.binOp .eql t x y t') ty E L (.bool (k.format.order a b == some .eq)) L := v_float hx hy fun w => by simp [binOp, Op.floatCmp]
theorem v_fne (hx : evalE E x = some (.float k a)) (hy : evalE E y = some (.float k b)) : OpV C (.binOp .neq t x y t') ty E L (.bool (k.format.order a b != some .eq)) L := v_float hx hy fun w => by simp [binOp, Op.floatCmp]
theorem v_flt (hx : evalE E x = some (.float k a)) (hy : evalE E y = some (.float k b)) : OpV C (.binOp .lss t x y t') ty E L (.bool (k.format.order a b == some .lt)) L := v_float hx hy fun w => by simp [binOp, Op.floatCmp]
theorem v_fgt (hx : evalE E x = some (.float k a)) (hy : evalE E y = some (.float k b)) : OpV C (.binOp .gtr t x y t') ty E L (.bool (k.format.order a b == some .gt)) L := v_float hx hy fun w => by simp [binOp, Op.floatCmp]
theorem v_fle (hx : evalE E x = some (.float k a)) (hy : evalE E y = some (.float k b)) : OpV C (.binOp .leq t x y t') ty E L (.bool (k.format.order a b == some .lt || k.format.order a b == some .eq)) L := v_float hx hy fun w => by simp [binOp, Op.floatCmp]
theorem v_fge (hx : evalE E x = some (.float k a)) (hy : evalE E y = some (.float k b)) : OpV C (.binOp .geq t x y t') ty E L (.bool (k.format.order a b == some .gt || k.format.order a b == some .eq)) L := v_float hx hy fun w => by simp [binOp, Op.floatCmp]
theorem v_fmul (hx : evalE E x = some (.float k a)) (hy : evalE E y = some (.float k b)) (h : k.format.mul a b = some r) : OpV C (.binOp .mul t x y t') ty E L (.float k r) L := v_float hx hy fun w => by simp [binOp, Op.floatArith, h]
theorem v_fdiv (hx : evalE E x = some (.float k a)) (hy : evalE E y = some (.float k b)) (h : k.format.div a b = some r) : OpV C (.binOp .quo t x y t') ty E L (.float k r) L := v_float hx hy fun w => by simp [binOp, Op.floatArith, h]
theorem v_fadd (hx : evalE E x = some (.float k a)) (hy : evalE E y = some (.float k b)) (h : k.format.add a b = some r) : OpV C (.binOp .add t x y t') ty E L (.float k r) L := v_float hx hy fun w => by simp [binOp, Op.floatArith, h]
theorem v_fsub (hx : evalE E x = some (.float k a)) (hy : evalE E y = some (.float k b)) (h : k.format.sub a b = some r) : OpV C (.binOp .sub t x y t') ty E L (.float k r) L := v_float hx hy fun w => by simp [binOp, Op.floatArith, h]
theorem v_ftoi {src dst : TypeId} {k' : IntKind} {n : Int} (hs : C.P.underlying src = some (.float k)) (hd : C.P.underlying dst = some (.int k')) (hx : evalE E x = some (.float k a)) (h : (k.decode a).toInt .zero = some n) (hr : k'.min ≤ n ∧ n ≤ k'.max) : OpV C (.convert src dst x) ty E L (.int k' n) L :=
  pureV fun d pos aft g a w ha => by
    simp [execOp, ha.eval hx, convert, run_underlying hs, run_underlying hd, Conv.floatToInt, h, hr]
theorem v_itof {src dst : TypeId} {ki : IntKind} {n : Int} (hs : C.P.underlying src = some (.int ki)) (hd : C.P.underlying dst = some (.float k)) (hx : evalE E x = some (.int ki n)) (h : k.nearest n = r) : OpV C (.convert src dst x) ty E L (.float k r) L :=
  pureV fun d pos aft g a w ha => by
    simp [execOp, ha.eval hx, convert, run_underlying hs, run_underlying hd, Conv.intToFloat, h]
end
end Go.Sl

/-
  All bits turned; strings that differ not; bytes of numbers.
-/
import Derived.Test.YtoplcgkafaoafaaM38
namespace Go.BitP
theorem u8_mod (n : Int) : IntKind.u8.wrap n = n % 256 := rfl
theorem compl64 {n : Int} (h0 : 0 ≤ n) (h1 : n < 2 ^ 62) : IntKind.i64.wrap ((BitVec.ofInt IntKind.i64.bits (-1) ^^^ BitVec.ofInt IntKind.i64.bits n).toNat : Int) = -n - 1 := by
  obtain ⟨a, rfl⟩ : ∃ a : Nat, n = (a : Int) := ⟨n.toNat, by omega⟩
  have e : IntKind.i64.bits = 64 := rfl
  have e1 : BitVec.ofInt 64 (-1) = BitVec.allOnes 64 := by decide
  rw [e, e1, BitVec.xor_comm, BitVec.xor_allOnes, BitVec.toNat_not, ofInt_nat, Nat.mod_eq_of_lt (by omega)]
  have e2 : ∀ m : Int, IntKind.i64.wrap m = if m % 18446744073709551616 ≥ 9223372036854775808 then m % 18446744073709551616 - 18446744073709551616 else m % 18446744073709551616 := fun m => by
    unfold IntKind.wrap
    have s1 : IntKind.i64.signed = true := rfl
    simp only [s1, e, Bool.true_and, decide_eq_true_eq]
    rfl
  rw [e2]
  have : a < 2 ^ 62 := by omega
  split <;> omega
end Go.BitP
namespace Go.Sl
set_option linter.unusedVariables false
section
variable {C : Ctx} {E : Env} {L : List HProp} {ty : TypeId}
theorem v_compl {x : Operand} {t : TypeId} {n r : Int} (h : evalE E x = some (.int .i64 n)) (e : IntKind.i64.wrap ((BitVec.ofInt IntKind.i64.bits (-1) ^^^ BitVec.ofInt IntKind.i64.bits n).toNat : Int) = r) : OpV C (.unOp .xor t x) ty E L (.int .i64 r) L := pureV fun d pos aft g a w ha => by
  rw [← e]
  have s1 : IntKind.i64.signed = true := rfl
  simp [execOp, ha.eval h, Op.unary, Op.intBits, s1]
theorem v_sneself {x y : Operand} {t t' : TypeId} {s : ByteArray} (hx : evalE E x = some (.string s)) (hy : evalE E y = some (.string s)) : OpV C (.binOp .neq t x y t') ty E L (.bool false) L :=
  pureV fun d pos aft g a w ha => by
    rw [run_bin d pos aft g (ha.eval hx) (ha.eval hy) (by simp [eqGuard])]
    simp [binOp, Op.stringOp, Sem.run_pure]
end
end Go.Sl

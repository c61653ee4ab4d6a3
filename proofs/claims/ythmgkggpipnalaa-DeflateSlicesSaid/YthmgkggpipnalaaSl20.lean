/-
  Sl, part 20: panics; interface values; comparisons with nil; code behind a defer.
-/
import Derived.Test.YthmgkggpipnalaaSl19
import Derived.Test.YthmgkggpipnalaaSl13
import Derived.Recover
namespace Go.Sl
open Go.RowKit (Below)
set_option linter.unusedVariables false
set_option linter.unusedSimpArgs false
/-- It panics. -/
def Pan (R : List PanicEntry → List HProp → Prop) : Ending → List HProp → Prop := fun e G => ∃ ch, e = .panicked ch ∧ R ch G
/-- It returns, or panics. -/
def RetPan (R : Value → List HProp → Prop) (S : List PanicEntry → List HProp → Prop) : Ending → List HProp → Prop := fun e G => (∃ v, e = .returned v ∧ R v G) ∨ (∃ ch, e = .panicked ch ∧ S ch G)
abbrev pan1 (t : TypeId) (v : Value) : List PanicEntry := [{ v := .iface t v, recovered := false }]
section
variable {C : Ctx} {Q : QT} {E : Env} {L L' F : List HProp} {ops : Array Oper} {rest : List Oper} {d : Nat} {ty : TypeId} {pos : String} {aft : Array Edge} {op : Op} {v : Value}
/-- Types that are no interfaces. -/
def concB (P : Program) (t : TypeId) : Bool := match P.underlying t with | some (.interface _) => false | some _ => true | none => false
theorem run_equal_sl {t e : TypeId} {p : Option Addr} {n c : Nat} (ht : C.P.underlying t = some (.slice e)) (d : Nat) (w : World) : (Op.equalIn (d + 1) t (.slice p n c) (.slice none 0 0)).run C.P w = .ok p.isNone w := by
  cases p <;> simp [Op.equalIn, run_underlying ht]
theorem v_eqnilS {x y : Operand} {t t' e : TypeId} {p : Option Addr} {n c : Nat} (ht : C.P.underlying t = some (.slice e)) (hx : evalE E x = some (.slice p n c)) (hy : evalE E y = some (.slice none 0 0)) : OpV C (.binOp .eql t x y t') ty E L (.bool p.isNone) L :=
  pureV fun d pos aft g a w ha => by
    rw [run_bin d pos aft g (ha.eval hx) (ha.eval hy) (by simp [eqGuard])]
    have h := run_equal_sl ht (p := p) (n := n) (c := c) 9999 w
    simp only [binOp, Op.equal, Op.maxDepth, Sem.run_bind, h, Result.andThen_ok, Sem.run_pure]
def funcB (P : Program) (t : TypeId) : Bool := match P.underlying t with | some (.func _ _ _) => true | _ => false
end
theorem sub_add0 {A : HProp} {L : List HProp} (hA : ∀ w0, A w0 (fun _ => none)) : Sub L (A :: L) := fun w0 w hi => hi.add0 (hA w0)
/-! ### Code behind a defer -/
abbrev QR := Exit → Act → World → Prop
def WpR (C : Ctx) (c : Code) (Q : QR) (E : Env) (L : List HProp) : Prop := ∀ a w, Agr C E a → Inv C.w0 L w → c.wp C.P Q a w
/-- What is known of the exit, as it is asked of a frame. -/
def qr (C : Ctx) (Q : QR) : QT := fun e E L => ∀ a w, Agr C E a → Inv C.w0 L w → Q e a w
section
variable {C : Ctx} {Q : QR} {E : Env} {L : List HProp}
end
theorem byte_in {x : Int} (h : IntKind.u8.min ≤ x ∧ x ≤ IntKind.u8.max) : 0 ≤ x ∧ x < 256 := by
  have h1 : IntKind.u8.min = 0 := by decide
  have h2 : IntKind.u8.max = 255 := by decide
  omega
theorem rd_nil {α : Type} {c : Ec α} {w0 w : World} {L : List HProp} {R : HProp} {p : Option Addr} {n : Nat} {l : List α} (hm : R ∈ L) (hR : ∀ w0 h, R w0 h → RdR c p n l w0 h) (hi : Inv w0 L w) : p = none → l = [] := by
  intro e
  obtain ⟨F, hb, h, a, h1, h2, d, l1, l2, hp, _⟩ := hi.mem hm
  obtain ⟨e1, e2, e3⟩ := hR _ _ hp
  rcases e3 with h0 | ⟨b, o, h1, _⟩
  · exact List.length_eq_zero_iff.1 (by omega)
  · rw [e] at h1; cases h1
/-! ### Panics within a region that draws its order -/
section
variable {C : Ctx} {Q : QT} {E E0 : Env} {L F : List HProp} {ops : Array Oper} {ty : TypeId} {pos : String} {aft : Array Edge}
variable {l : List Oper} {ts : List Tok} {i : Nat} {c : AccN} {o : Oper} {os : List Oper} {ps : List Par} {K : AccN → Prop} {A0 : List HProp}
end
end Go.Sl

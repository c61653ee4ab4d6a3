/-
  Sl, part 20: panics; interface values; comparisons with nil; code behind a defer.
-/
import Derived.Test.YtmclopghpnndnaaSl19
import Derived.Test.YtmclopghpnndnaaSl13
import Derived.Recover
namespace Go.Sl
open Go.RowKit (Below)
set_option linter.unusedVariables false
set_option linter.unusedSimpArgs false
/-- It panics. -/
def Pan (R : List PanicEntry → List HProp → Prop) : Ending → List HProp → Prop := fun e G => ∃ ch, e = .panicked ch ∧ R ch G
/-- It returns, or panics. -/
def RetPan (R : Value → List HProp → Prop) (S : List PanicEntry → List HProp → Prop) : Ending → List HProp → Prop := fun e G => (∃ v, e = .returned v ∧ R v G) ∨ (∃ ch, e = .panicked ch ∧ S ch G)
abbrev pan1 (t : TypeId) (v : Value) : List PanicEntry := [{ v := .iface t v, recovered := false }]
section
variable {C : Ctx} {Q : QT} {E : Env} {L L' F : List HProp} {ops : Array Oper} {rest : List Oper} {d : Nat} {ty : TypeId} {pos : String} {aft : Array Edge} {op : Op} {v : Value}
/-- Types that are no interfaces. -/
def concB (P : Program) (t : TypeId) : Bool := match P.underlying t with | some (.interface _) => false | some _ => true | none => false
def funcB (P : Program) (t : TypeId) : Bool := match P.underlying t with | some (.func _ _ _) => true | _ => false
end
theorem sub_add0 {A : HProp} {L : List HProp} (hA : ∀ w0, A w0 (fun _ => none)) : Sub L (A :: L) := fun w0 w hi => hi.add0 (hA w0)
/-! ### Code behind a defer -/
abbrev QR := Exit → Act → World → Prop
def WpR (C : Ctx) (c : Code) (Q : QR) (E : Env) (L : List HProp) : Prop := ∀ a w, Agr C E a → Inv C.w0 L w → c.wp C.P Q a w
/-- What is known of the exit, as it is asked of a frame. -/
def qr (C : Ctx) (Q : QR) : QT := fun e E L => ∀ a w, Agr C E a → Inv C.w0 L w → Q e a w
section
variable {C : Ctx} {Q : QR} {E : Env} {L : List HProp}
end
/-! ### Panics within a region that draws its order -/
section
variable {C : Ctx} {Q : QT} {E E0 : Env} {L F : List HProp} {ops : Array Oper} {ty : TypeId} {pos : String} {aft : Array Edge}
variable {l : List Oper} {ts : List Tok} {i : Nat} {c : AccN} {o : Oper} {os : List Oper} {ps : List Par} {K : AccN → Prop} {A0 : List HProp}
end
end Go.Sl

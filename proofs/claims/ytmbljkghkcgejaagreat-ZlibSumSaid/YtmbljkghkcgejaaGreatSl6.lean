/- Walks of functions that the law reaches, and what they lean on; no conditions. -/
import Derived.Test.YtmbljkghkcgejaaGreatSl5
set_option linter.unusedVariables false
set_option linter.unusedSimpArgs false
set_option maxRecDepth 100000
namespace Go.Sl
open Go.RowKit (Below)
def envV (l : List Oper) (E0 : Env) (p : Par) (V : List Value) : Env :=
 (p.deps.filterMap fun j => match dstIn l j with | some t => (match V[j]? with | some v => some (t, v) | none => none) | none => none) ++ p.slots.filterMap fun s => match E0.get s with | some v => some (s, v) | none => none
def finV (l : List Oper) (V : List Value) : Nat → Env → Env
 | 0, E => E
 | i + 1, E => match dstIn l i with | some t => (match V[i]? with | some v => (t, v) :: finV l V i E | none => finV l V i E) | none => finV l V i E
section
variable {C : Ctx} {E0 : Env} {Q : QT} {L : List HProp}
def envA (l : List Oper) (E0 : Env) (p : Par) (i : Nat) (acc : List Value) : Env :=
 (p.deps.filterMap fun j => match dstIn l j with | some t => (match acc[i - 1 - j]? with | some v => some (t, v) | none => none) | none => none) ++ p.slots.filterMap fun s => match E0.get s with | some v => some (s, v) | none => none
def finA (l : List Oper) (n : Nat) (acc : List Value) : Nat → Env → Env
 | 0, E => E
 | i + 1, E => match dstIn l i with | some t => (match acc[n - 1 - i]? with | some v => (t, v) :: finA l n acc i E | none => finA l n acc i E) | none => finA l n acc i E
def OwA (C : Ctx) (l : List Oper) (E0 : Env) (ch : List Nat) (Ls : List (List HProp)) : Nat → List Value → List Oper → List Par → (List Value → Prop) → Prop
 | _, acc, [], [], K => K acc
 | i, acc, o :: os, p :: ps, K => ∃ v, (∀ k L, p.lo ≤ k → k ≤ p.hi → Ls[k]? = some L → Step C l.toArray o (envA l E0 p i acc) L (fun v' L' => v' = v ∧ (if mem i ch then ∃ L'', Ls[k + 1]? = some L'' ∧ L'.Perm L'' else L'.Perm L))) ∧ OwA C l E0 ch Ls (i + 1) (v :: acc) os ps K
 | _, _, _, _, _ => False
section
variable {l : List Oper} {ch : List Nat} {Ls : List (List HProp)} {i : Nat} {acc : List Value} {o : Oper} {os : List Oper} {ps : List Par} {v : Value} {K : List Value → Prop}
end
end
end Go.Sl

/- Walks of functions that the law reaches, and what they lean on; no conditions. -/
import Derived.Test.YtmbljkghkcgejaaGreatSl5
set_option linter.unusedVariables false
set_option linter.unusedSimpArgs false
set_option maxRecDepth 100000
namespace Go.Sl
open Go.RowKit (Below)
def Oi (l : List Oper) (E0 : Env) (p : et) (V : List Value) : Env :=
 (p.iS.filterMap fun j => match ew l j with | some t => (match V[j]? with | some v => some (t, v) | none => none) | none => none) ++ p.mb.filterMap fun s => match E0.get s with | some v => some (s, v) | none => none
def Fi (l : List Oper) (V : List Value) : Nat → Env → Env
 | 0, E => E
 | i + 1, E => match ew l i with | some t => (match V[i]? with | some v => (t, v) :: Fi l V i E | none => Fi l V i E) | none => Fi l V i E
section
variable {C : Ctx} {E0 : Env} {Q : QT} {L : List ae}
def MP (l : List Oper) (E0 : Env) (p : et) (i : Nat) (acc : List Value) : Env :=
 (p.iS.filterMap fun j => match ew l j with | some t => (match acc[i - 1 - j]? with | some v => some (t, v) | none => none) | none => none) ++ p.mb.filterMap fun s => match E0.get s with | some v => some (s, v) | none => none
def Fa (l : List Oper) (n : Nat) (acc : List Value) : Nat → Env → Env
 | 0, E => E
 | i + 1, E => match ew l i with | some t => (match acc[n - 1 - i]? with | some v => (t, v) :: Fa l n acc i E | none => Fa l n acc i E) | none => Fa l n acc i E
def Nb (C : Ctx) (l : List Oper) (E0 : Env) (ch : List Nat) (Ls : List (List ae)) : Nat → List Value → List Oper → List et → (List Value → Prop) → Prop
 | _, acc, [], [], K => K acc
 | i, acc, o :: os, p :: ps, K => ∃ v, (∀ k L, p.lo ≤ k → k ≤ p.hi → Ls[k]? = some L → Step C l.toArray o (MP l E0 p i acc) L (fun v' L' => v' = v ∧ (if mem i ch then ∃ L'', Ls[k + 1]? = some L'' ∧ L'.Perm L'' else L'.Perm L))) ∧ Nb C l E0 ch Ls (i + 1) (v :: acc) os ps K
 | _, _, _, _, _ => False
section
variable {l : List Oper} {ch : List Nat} {Ls : List (List ae)} {i : Nat} {acc : List Value} {o : Oper} {os : List Oper} {ps : List et} {v : Value} {K : List Value → Prop}
end
end
end Go.Sl

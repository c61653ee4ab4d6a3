/- Walks of functions that the law reaches, and what they lean on; no conditions. -/
import Derived.Test.YtmbljkghkcgejaaGreatSl7
set_option linter.unusedVariables false
set_option linter.unusedSimpArgs false
set_option maxRecDepth 100000
namespace Go.Sl
open Go.RowKit (Below)
abbrev Yv := Nat → Value
def envY (l : List Oper) (E0 : Env) (p : Par) (V : List (Yv → Value)) (y : Yv) : Env :=
 (p.deps.filterMap fun j => match dstIn l j with | some t => (match V[j]? with | some f => some (t, f y) | none => none) | none => none) ++ p.slots.filterMap fun s => match E0.get s with | some v => some (s, v) | none => none
def finY (l : List Oper) (V : List (Yv → Value)) (y : Yv) : Nat → Env → Env
 | 0, E => E
 | i + 1, E => match dstIn l i with | some t => (match V[i]? with | some f => (t, f y) :: finY l V y i E | none => finY l V y i E) | none => finY l V y i E
structure Kn (V : List (Yv → Value)) (P : List (Yv → Prop)) (At : List (Yv → List HProp)) (A : List HProp) (j : Nat) (y : Yv) : Prop where
 val : ∃ f q, V[j]? = some f ∧ P[j]? = some q ∧ y j = f y ∧ q y
 add : ∀ a, At[j]? = some a → ∀ B ∈ a y, B ∈ A
def LsLoc : List (Yv → List HProp) → Nat → Prop
 | [], _ => True
 | f :: fs, i => (∀ y v, f (upd y i v) = f y) ∧ LsLoc fs i
def Loc (i : Nat) (p : Par) {β : Sort _} (f : Yv → β) : Prop := ∀ y y' : Yv, (∀ j, j = i ∨ j ∈ p.anc → y j = y' j) → f y = f y'
section
variable {C : Ctx} {E0 : Env} {Q : QT} {L : List HProp}
def OwedY (C : Ctx) (l : List Oper) (E0 : Env) (ch : List Nat) (V : List (Yv → Value)) (P : List (Yv → Prop)) (At : List (Yv → List HProp)) (Ls : List (Yv → List HProp)) : Nat → List Oper → List Par → List (Yv → Value) → List (Yv → Prop) → List (Yv → List HProp) → Prop
 | _, [], [], [], [], [] => True
 | i, o :: os, p :: ps, f :: fs, q :: qs, b :: bs => Loc i p f ∧ Loc i p q ∧ Loc i p b ∧ (∀ y k Lf A, p.lo ≤ k → k ≤ p.hi → (∀ j ∈ p.anc, Kn V P At A j y) → Ls[k]? = some Lf → Step C l.toArray o (envY l E0 p V y) (Lf y ++ A) (fun v L' => f (upd y i v) = v ∧ q (upd y i v) ∧ (if mem i ch then ∃ L'', Ls[k + 1]? = some L'' ∧ L'.Perm (L'' (upd y i v) ++ (b (upd y i v) ++ A)) else L'.Perm (Lf (upd y i v) ++ (b (upd y i v) ++ A))))) ∧ OwedY C l E0 ch V P At Ls (i + 1) os ps fs qs bs
 | _, _, _, _, _, _ => False
structure Acc where
 V : List (Yv → Value)
 P : List (Yv → Prop)
 At : List (Yv → List HProp)
def Acc.put (c : Acc) (f : Yv → Value) (q : Yv → Prop) (b : Yv → List HProp) : Acc := ⟨f :: c.V, q :: c.P, b :: c.At⟩
def envB (l : List Oper) (E0 : Env) (p : Par) (i : Nat) (c : Acc) (y : Yv) : Env :=
 (p.deps.filterMap fun j => match dstIn l j with | some t => (match c.V[i - 1 - j]? with | some f => some (t, f y) | none => none) | none => none) ++ p.slots.filterMap fun s => match E0.get s with | some v => some (s, v) | none => none
def finB (l : List Oper) (n : Nat) (c : Acc) (y : Yv) : Nat → Env → Env
 | 0, E => E
 | i + 1, E => match dstIn l i with | some t => (match c.V[n - 1 - i]? with | some f => (t, f y) :: finB l n c y i E | none => finB l n c y i E) | none => finB l n c y i E
structure KnB (c : Acc) (i : Nat) (A : List HProp) (j : Nat) (y : Yv) : Prop where
 val : ∃ f q, c.V[i - 1 - j]? = some f ∧ c.P[i - 1 - j]? = some q ∧ y j = f y ∧ q y
 add : ∀ a, c.At[i - 1 - j]? = some a → ∀ B ∈ a y, B ∈ A
def OwB (C : Ctx) (l : List Oper) (E0 : Env) (ch : List Nat) (Ls : List (Yv → List HProp)) : Nat → Acc → List Oper → List Par → (Acc → Prop) → Prop
 | _, c, [], [], K => K c
 | i, c, o :: os, p :: ps, K => ∃ (f : Yv → Value) (q : Yv → Prop) (b : Yv → List HProp), Loc i p f ∧ Loc i p q ∧ Loc i p b ∧ (∀ y k Lf A, p.lo ≤ k → k ≤ p.hi → (∀ j ∈ p.anc, KnB c i A j y) → Ls[k]? = some Lf → Step C l.toArray o (envB l E0 p i c y) (Lf y ++ A) (fun v L' => f (upd y i v) = v ∧ q (upd y i v) ∧ (if mem i ch then ∃ L'', Ls[k + 1]? = some L'' ∧ L'.Perm (L'' (upd y i v) ++ (b (upd y i v) ++ A)) else L'.Perm (Lf (upd y i v) ++ (b (upd y i v) ++ A))))) ∧ OwB C l E0 ch Ls (i + 1) (c.put f q b) os ps K
 | _, _, _, _, _ => False
section
variable {l : List Oper} {ch : List Nat} {Ls : List (Yv → List HProp)} {i : Nat} {c : Acc} {o : Oper} {os : List Oper} {ps : List Par} {f : Yv → Value} {K : Acc → Prop}
end
def slP : Value → Option Addr | .slice p _ _ => p | _ => none
def slC : Value → Nat | .slice _ _ c => c | _ => 0
theorem st_mono {ops : Array Oper} {o : Oper} {E : Env} {R R' : Value → List HProp → Prop} (h : Step C ops o E L R) (hR : ∀ v L', R v L' → R' v L') : Step C ops o E L R' :=
 fun a w K Q ha hi hK => h a w K Q ha hi fun v L' w' hr hi' => hK v L' w' (hR v L' hr) hi'
theorem st_call {ops : Array Oper} {d : Option Nat} {ty : TypeId} {pos : String} {aft : Array Edge} {E : Env} {f : FuncId} {args : List Operand} {tys : Array TypeId} {vs : List Value} {Pre F : List HProp} {R : Value → List HProp → Prop} {R' : Value → List HProp → Prop} (hS : Ctr C.P f vs Pre (Ret R)) (hb : bodyB C.P f = true) (hE : evs E args = some vs) (hL : Rems L Pre F)
  (hR : ∀ v G, R v G → R' v (G ++ F)) : Step C ops ⟨d, .call ⟨.value (.func f), args.toArray, tys⟩, ty, pos, aft, none⟩ E L R' :=
 st_mono (st_x (x_call hS hb hE hL)) fun v L' ⟨G, h1, e⟩ => by subst e; exact hR v G h1
end
end Go.Sl

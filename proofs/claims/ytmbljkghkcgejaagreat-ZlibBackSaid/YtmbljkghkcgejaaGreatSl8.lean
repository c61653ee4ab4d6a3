/- Walks of functions that the law reaches, and what they lean on; no conditions. -/
import Derived.Test.YtmbljkghkcgejaaGreatSl7
set_option linter.unusedVariables false
set_option linter.unusedSimpArgs false
set_option maxRecDepth 100000
namespace Go.Sl
open Go.RowKit (Below)
abbrev Yv := Nat → Value
def uu (l : List Oper) (E0 : Env) (p : et) (V : List (Yv → Value)) (y : Yv) : Env :=
 (p.iS.filterMap fun j => match ew l j with | some t => (match V[j]? with | some f => some (t, f y) | none => none) | none => none) ++ p.mb.filterMap fun s => match E0.get s with | some v => some (s, v) | none => none
def Eu (l : List Oper) (V : List (Yv → Value)) (y : Yv) : Nat → Env → Env
 | 0, E => E
 | i + 1, E => match ew l i with | some t => (match V[i]? with | some f => (t, f y) :: Eu l V y i E | none => Eu l V y i E) | none => Eu l V y i E
structure Kn (V : List (Yv → Value)) (P : List (Yv → Prop)) (At : List (Yv → List ae)) (A : List ae) (j : Nat) (y : Yv) : Prop where
 val : ∃ f q, V[j]? = some f ∧ P[j]? = some q ∧ y j = f y ∧ q y
 add : ∀ a, At[j]? = some a → ∀ B ∈ a y, B ∈ A
def KR : List (Yv → List ae) → Nat → Prop
 | [], _ => True
 | f :: fs, i => (∀ y v, f (eu y i v) = f y) ∧ KR fs i
def Loc (i : Nat) (p : et) {β : Sort _} (f : Yv → β) : Prop := ∀ y y' : Yv, (∀ j, j = i ∨ j ∈ p.gq → y j = y' j) → f y = f y'
section
variable {C : Ctx} {E0 : Env} {Q : QT} {L : List ae}
def Lu (C : Ctx) (l : List Oper) (E0 : Env) (ch : List Nat) (V : List (Yv → Value)) (P : List (Yv → Prop)) (At : List (Yv → List ae)) (Ls : List (Yv → List ae)) : Nat → List Oper → List et → List (Yv → Value) → List (Yv → Prop) → List (Yv → List ae) → Prop
 | _, [], [], [], [], [] => True
 | i, o :: os, p :: ps, f :: fs, q :: qs, b :: bs => Loc i p f ∧ Loc i p q ∧ Loc i p b ∧ (∀ y k Lf A, p.lo ≤ k → k ≤ p.hi → (∀ j ∈ p.gq, Kn V P At A j y) → Ls[k]? = some Lf → Step C l.toArray o (uu l E0 p V y) (Lf y ++ A) (fun v L' => f (eu y i v) = v ∧ q (eu y i v) ∧ (if mem i ch then ∃ L'', Ls[k + 1]? = some L'' ∧ L'.Perm (L'' (eu y i v) ++ (b (eu y i v) ++ A)) else L'.Perm (Lf (eu y i v) ++ (b (eu y i v) ++ A))))) ∧ Lu C l E0 ch V P At Ls (i + 1) os ps fs qs bs
 | _, _, _, _, _, _ => False
structure Acc where
 V : List (Yv → Value)
 P : List (Yv → Prop)
 At : List (Yv → List ae)
def Acc.put (c : Acc) (f : Yv → Value) (q : Yv → Prop) (b : Yv → List ae) : Acc := ⟨f :: c.V, q :: c.P, b :: c.At⟩
def MK (l : List Oper) (E0 : Env) (p : et) (i : Nat) (c : Acc) (y : Yv) : Env :=
 (p.iS.filterMap fun j => match ew l j with | some t => (match c.V[i - 1 - j]? with | some f => some (t, f y) | none => none) | none => none) ++ p.mb.filterMap fun s => match E0.get s with | some v => some (s, v) | none => none
def EY (l : List Oper) (n : Nat) (c : Acc) (y : Yv) : Nat → Env → Env
 | 0, E => E
 | i + 1, E => match ew l i with | some t => (match c.V[n - 1 - i]? with | some f => (t, f y) :: EY l n c y i E | none => EY l n c y i E) | none => EY l n c y i E
structure NR (c : Acc) (i : Nat) (A : List ae) (j : Nat) (y : Yv) : Prop where
 val : ∃ f q, c.V[i - 1 - j]? = some f ∧ c.P[i - 1 - j]? = some q ∧ y j = f y ∧ q y
 add : ∀ a, c.At[i - 1 - j]? = some a → ∀ B ∈ a y, B ∈ A
def Np (C : Ctx) (l : List Oper) (E0 : Env) (ch : List Nat) (Ls : List (Yv → List ae)) : Nat → Acc → List Oper → List et → (Acc → Prop) → Prop
 | _, c, [], [], K => K c
 | i, c, o :: os, p :: ps, K => ∃ (f : Yv → Value) (q : Yv → Prop) (b : Yv → List ae), Loc i p f ∧ Loc i p q ∧ Loc i p b ∧ (∀ y k Lf A, p.lo ≤ k → k ≤ p.hi → (∀ j ∈ p.gq, NR c i A j y) → Ls[k]? = some Lf → Step C l.toArray o (MK l E0 p i c y) (Lf y ++ A) (fun v L' => f (eu y i v) = v ∧ q (eu y i v) ∧ (if mem i ch then ∃ L'', Ls[k + 1]? = some L'' ∧ L'.Perm (L'' (eu y i v) ++ (b (eu y i v) ++ A)) else L'.Perm (Lf (eu y i v) ++ (b (eu y i v) ++ A))))) ∧ Np C l E0 ch Ls (i + 1) (c.put f q b) os ps K
 | _, _, _, _, _ => False
section
variable {l : List Oper} {ch : List Nat} {Ls : List (Yv → List ae)} {i : Nat} {c : Acc} {o : Oper} {os : List Oper} {ps : List et} {f : Yv → Value} {K : Acc → Prop}
end
def bY : Value → Option Addr | .slice p _ _ => p | _ => none
def fp : Value → Nat | .slice _ _ c => c | _ => 0
theorem Iv {ops : Array Oper} {o : Oper} {E : Env} {R R' : Value → List ae → Prop} (h : Step C ops o E L R) (hR : ∀ v L', R v L' → R' v L') : Step C ops o E L R' :=
 fun a w K Q ha hi hK => h a w K Q ha hi fun v L' w' hr hi' => hK v L' w' (hR v L' hr) hi'
theorem tP {ops : Array Oper} {d : Option Nat} {ty : TypeId} {pos : String} {aft : Array Edge} {E : Env} {f : FuncId} {args : List Operand} {tys : Array TypeId} {vs : List Value} {Pre F : List ae} {R : Value → List ae → Prop} {R' : Value → List ae → Prop} (hS : aD C.P f vs Pre (aK R)) (hb : aC C.P f = true) (hE : iB E args = some vs) (hL : fy L Pre F)
  (hR : ∀ v G, R v G → R' v (G ++ F)) : Step C ops ⟨d, .call ⟨.value (.func f), args.toArray, tys⟩, ty, pos, aft, none⟩ E L R' :=
 Iv (vW (BH hS hb hE hL)) fun v L' ⟨G, h1, e⟩ => by subst e; exact hR v G h1
end
end Go.Sl

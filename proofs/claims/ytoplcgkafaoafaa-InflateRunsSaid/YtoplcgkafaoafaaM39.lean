/- Steps of the proof: the walks of the functions that the statement reaches; printed by a program of ours. -/
import Derived.Test.YtoplcgkafaoafaaM37
import Derived.KernelRfl
/-
  What the document's own answer keeps: tables; blocks.
-/
namespace Go.InfP
set_option linter.unusedVariables false
open Go.BitP Go.HuffP
set_option linter.unusedVariables false
set_option linter.unusedSimpArgs false
def baseT : List Int := [3, 4, 5, 6, 7, 8, 9, 10, 11, 13, 15, 17, 19, 23, 27, 31, 35, 43, 51, 59, 67, 83, 99, 115, 131, 163, 195, 227, 258]
def moreT : List Int := [0, 0, 0, 0, 0, 0, 0, 0, 1, 1, 1, 1, 2, 2, 2, 2, 3, 3, 3, 3, 4, 4, 4, 4, 5, 5, 5, 5, 0]
/-- A block is done: the machine comes there. -/
structure Dn (B : List Int) (mo : Int) (S S' : St) : Prop where
  goes : Goes B mo S S'
  ok : Ok B mo S'
  kind : S'.kind = -1
  copies : S'.copies = 0
  ended : S'.ended = S'.last
  last : S'.last = S.last
/-- Within a block. -/
structure In (B : List Int) (mo : Int) (S s : St) : Prop where
  goes : Goes B mo S s
  ok : Ok B mo s
  kind : s.kind = S.kind
  copies : s.copies = 0
  ended : s.ended = false
  last : s.last = S.last
  lits : s.lits = S.lits
  dist : s.dist = S.dist
section
variable {B : List Int} {mo e : Int} {S s s2 : St}
end
end Go.InfP
namespace Go.InfP
open Go.BitP Go.HuffP
set_option linter.unusedVariables false
/-- A block's way, till it is done. -/
inductive Bl (B : List Int) (mo : Int) : St → Except Int St → Prop
  | done {s : St} : s.kind = -1 → Bl B mo s (.ok s)
  | step {s s' : St} {o : Except Int St} : ¬ s.kind = -1 → one B mo s = .ok s' → Bl B mo s' o → Bl B mo s o
  | fail {s : St} {e : Int} : ¬ s.kind = -1 → one B mo s = .error e → Bl B mo s (.error e)
section
variable {B : List Int} {mo e : Int} {s s2 : St} {o : Except Int St}
/-- What a block leaves. -/
structure Left (B : List Int) (mo : Int) (s s2 : St) : Prop where
  goes : Goes B mo s s2
  ok : Ok B mo s2
  kind : s2.kind = -1
  copies : s2.copies = 0
  ended : s2.ended = s2.last
  last : s2.last = s.last
  less : mu B s2 ≤ mu B s
end
/-- A block, its beginning with it. -/
def BO (B : List Int) (mo : Int) (S : St) (o : Except Int St) : Prop := (∃ e, begin_ B S = .error e ∧ o = .error e) ∨ (∃ S1, begin_ B S = .ok S1 ∧ Bl B mo S1 o)
section
variable {B : List Int} {mo e : Int} {S S1 : St} {o : Except Int St}
end
section
variable {B ds : List Int} {s d : Int} {a a3 n : Nat}
end
end Go.InfP
namespace Go.InfP
set_option linter.unusedVariables false
end Go.InfP
namespace Go.InfP
set_option linter.unusedVariables false
end Go.InfP
namespace Go.InfP
open Go.BitP
set_option linter.unusedVariables false
end Go.InfP

/-
  Ways that are reckoned.
-/
namespace Go.InfP
open Go.BitP Go.HuffP
set_option linter.unusedVariables false
def run (B : List Int) (mo : Int) : Nat → St → Option Oc
  | 0, _ => none
  | f + 1, s => if s.ended = true then some (.ok (s.out, (s.at_ + 7) / 8)) else match one B mo s with
    | .error e => some (.error e)
    | .ok s' => run B mo f s'
theorem run_sound {B : List Int} {mo : Int} : ∀ {f : Nat} {s : St} {o : Oc}, run B mo f s = some o → Runs B mo s o := by
  intro f
  induction f with
  | zero => intro s o h; cases h
  | succ f ih =>
    intro s o h
    unfold run at h
    split at h
    · rename_i he; cases h; exact .done he
    · rename_i he
      split at h
      · rename_i e h1; cases h; exact .fail (by simpa using he) h1
      · rename_i s' h1; exact .step (by simpa using he) h1 (ih h)
def runB (B : List Int) (mo : Int) (f : Nat) (q : List Int × Int × Int) : Bool := match run B mo f start with
  | some o => decide (Ou o = q)
  | none => false
theorem runB_res {B : List Int} {mo : Int} {f : Nat} {q : List Int × Int × Int} (hm : 0 ≤ mo) (h : runB B mo f q = true) : Res B mo q := by
  unfold runB at h
  split at h
  · rename_i o ho; exact .inr ⟨hm, o, run_sound ho, (of_decide_eq_true h).symm⟩
  · cases h
theorem awake1 : Res [3, 0] 9 ([], 2, 0) := runB_res (f := 9) (by decide) (by kernel_rfl)
theorem awake2 : Res [1, 2, 0, 253, 255, 7, 8, 9] 9 ([7, 8], 7, 0) := runB_res (f := 9) (by decide) (by kernel_rfl)
end Go.InfP
namespace Go.InfP
end Go.InfP

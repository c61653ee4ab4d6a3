/- Steps of the proof: the walks of the functions that the statement reaches; printed by a program of ours. -/
import Derived.Test.YtoplcgkafaoafaaM32
/-
 Steps of the proof: walks of functions that the statement reaches; printed by a program of ours.
-/
namespace Go.Proofs.Ytoplcgkafaoafaa
open Go.Sl 
set_option linter.unusedVariables false
set_option linter.unusedSimpArgs false

attribute [local irreducible] HuffP.ord HuffP.wordsK HuffP.posn HuffP.cntL HuffP.mostL HuffP.words HuffP.wordOf HuffP.lenOf HuffP.newE HuffP.wholeB
attribute [local irreducible] HuffP.cntZ HuffP.sy

end Go.Proofs.Ytoplcgkafaoafaa

/-
  Steps of the proof: walks of functions that the statement reaches; printed by a program of ours.
-/
namespace Go.Proofs.Ytoplcgkafaoafaa
open Go.Sl 
set_option linter.unusedVariables false
set_option linter.unusedSimpArgs false


theorem h_new_yes (p : Option Addr) (cap : Nat) (ls : List Int) (R : HProp) (hR : ∀ w0 h, R w0 h → RdR I3 p ls.length ls w0 h) (hE : HuffP.newE ls = 0) : Ctr Try.prog 60 [.slice p ls.length cap] [R] (Ret fun v G => ∃ b, v = .tuple #[.pointer (some ⟨b, 0, none⟩), .int .i64 0] ∧ G = [HC b ls, R]) := by
  refine (h_new p cap ls R hR).mono ?_
  rintro e G ⟨v, rfl, h⟩
  rcases h with ⟨_, b, h1, h2⟩ | ⟨h, _⟩
  · exact ⟨v, rfl, b, h1, h2⟩
  · exact absurd hE h
theorem h_new_no (p : Option Addr) (cap : Nat) (ls : List Int) (R : HProp) (hR : ∀ w0 h, R w0 h → RdR I3 p ls.length ls w0 h) (hE : ¬ HuffP.newE ls = 0) : Ctr Try.prog 60 [.slice p ls.length cap] [R] (Ret fun v G => v = .tuple #[.pointer none, .int .i64 (HuffP.newE ls)] ∧ G = [R]) := by
  refine (h_new p cap ls R hR).mono ?_
  rintro e G ⟨v, rfl, h⟩
  rcases h with ⟨h, _⟩ | ⟨_, h1, h2⟩
  · exact absurd h hE
  · exact ⟨v, rfl, h1, h2⟩



end Go.Proofs.Ytoplcgkafaoafaa

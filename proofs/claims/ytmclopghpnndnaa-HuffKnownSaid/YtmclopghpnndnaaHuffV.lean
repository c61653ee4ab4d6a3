/-
  Steps of the proof: walks of functions that the statement reaches; printed by a program of ours.
-/
import Derived.Test.YtmclopghpnndnaaHuffU
import Derived.Test.YtmclopghpnndnaaHuffF
import Derived.Test.YtmclopghpnndnaaHuffFacts4
namespace Go.Proofs.Ytmclopghpnndnaa
open Go.Sl 
set_option linter.unusedVariables false
set_option linter.unusedSimpArgs false

attribute [local irreducible] HuffP.newE PkM.lvs


theorem h_len_yes (p : Option Addr) (c : Nat) (fr : List Int) (most : Int) (R : HProp) (hR : ∀ w0 h, R w0 h → RdR I3 p fr.length fr w0 h) (hOk : OkL fr most) : Ctr Try.prog 24 [.slice p fr.length c, .int .i64 most] [R] (Ret fun v G => ∃ b o, v = .tuple #[.slice (some ⟨b, 0, none⟩) fr.length fr.length, .bool true] ∧ PkM.GoodL fr most.toNat o ∧ G = [Row I3 (some ⟨b, 0, none⟩) fr.length fr.length o, R]) := by
  refine (h_lengths p c fr most R hR).mono ?_
  rintro e G ⟨v, rfl, h⟩
  rcases h with ⟨h, _⟩ | ⟨_, h⟩
  · exact absurd hOk h
  · exact ⟨v, rfl, h⟩
theorem h_len_no (p : Option Addr) (c : Nat) (fr : List Int) (most : Int) (R : HProp) (hR : ∀ w0 h, R w0 h → RdR I3 p fr.length fr w0 h) (hNo : ¬ OkL fr most) : Ctr Try.prog 24 [.slice p fr.length c, .int .i64 most] [R] (Ret fun v G => v = .tuple #[.slice none 0 0, .bool false] ∧ G = [R]) := by
  refine (h_lengths p c fr most R hR).mono ?_
  rintro e G ⟨v, rfl, h⟩
  rcases h with ⟨_, h1, h2⟩ | ⟨h, _⟩
  · exact ⟨v, rfl, h1, h2⟩
  · exact absurd h hNo
end Go.Proofs.Ytmclopghpnndnaa

/-
  Steps of the proof: walks of functions that the statement reaches; printed by a program of ours.
-/
import Derived.Test.YtmclopghpnndnaaHuffK
namespace Go.Proofs.Ytmclopghpnndnaa
open Go.Sl 
set_option linter.unusedVariables false
set_option linter.unusedSimpArgs false


theorem h_take_hit (b : Nat) (ls : List Int) (b2 : Nat) (B : List Int) (at_ : Nat) (out : List Int) (free : Int) (hE : HuffP.newE ls = 0) (hl : B.length < 500000000) (hB : BitP.Byt B) (ha : at_ ≤ 8 * B.length) {n : Nat} {s : Int} (htk : HuffP.tk ls B at_ = .hit n s) : Ctr Try.prog 17 [.pointer (some ⟨b, 0, none⟩), .pointer (some ⟨b2, 0, none⟩)] [HC b ls, LW b2 B at_ out free] (Ret fun v G => v = .int .i64 s ∧ G = [HC b ls, LW b2 B (at_ + n) out free]) := by
  refine (h_take b ls b2 B at_ out free hE hl hB ha).mono ?_
  rintro e G (⟨v, rfl, n', s', h, rfl, rfl⟩ | ⟨ch, rfl, (⟨n', h, _, _⟩ | ⟨n', h, _, _⟩)⟩)
  · rw [htk] at h; cases h; exact ⟨_, rfl, rfl, rfl⟩
  · rw [htk] at h; cases h
  · rw [htk] at h; cases h
theorem h_take_err (b : Nat) (ls : List Int) (b2 : Nat) (B : List Int) (at_ : Nat) (out : List Int) (free : Int) (hE : HuffP.newE ls = 0) (hl : B.length < 500000000) (hB : BitP.Byt B) (ha : at_ ≤ 8 * B.length) (htk : ∀ n s, HuffP.tk ls B at_ ≠ .hit n s) : Ctr Try.prog 17 [.pointer (some ⟨b, 0, none⟩), .pointer (some ⟨b2, 0, none⟩)] [HC b ls, LW b2 B at_ out free] (Pan fun ch G => (∃ t u, ch = pan1 t u) ∧ ∃ n, G = [HC b ls, LW b2 B (at_ + n) out free]) := by
  refine (h_take b ls b2 B at_ out free hE hl hB ha).mono ?_
  rintro e G (⟨v, rfl, n', s', h, rfl, rfl⟩ | ⟨ch, rfl, (⟨n', h, rfl, rfl⟩ | ⟨n', h, rfl, rfl⟩)⟩)
  · exact absurd h (htk _ _)
  · exact ⟨_, rfl, ⟨_, _, rfl⟩, n', rfl⟩
  · exact ⟨_, rfl, ⟨_, _, rfl⟩, n', rfl⟩



end Go.Proofs.Ytmclopghpnndnaa

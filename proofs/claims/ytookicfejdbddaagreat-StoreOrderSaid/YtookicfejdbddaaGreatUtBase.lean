/- Walks of functions that the law reaches, and what they lean on; no conditions. -/
import Derived.Test.YtookicfejdbddaaGreatM8
import Derived.Test.YtookicfejdbddaaGreatUiBase
set_option linter.unusedVariables false
set_option linter.unusedSimpArgs false
set_option linter.unnecessarySimpa false
set_option maxRecDepth 100000
namespace Go.Sl
open Go.StoreP
abbrev IT : Ec It := ⟨68, 6, enc, It.nil, fun _ => rfl, fun _ => rfl⟩
def IsStore (b : Nat) (l : List It) (last : Int) : HProp := fun w0 h => ∃ i : Option Addr × Nat, True ∧ sats w0 [Cel b 130 [.slice i.1 l.length i.2, .int .i64 last], Row IT i.1 l.length i.2 l] h
theorem st_close {b n c : Nat} {p : Option Addr} {l : List It} {last : Int} {w0 : World} {h : Hp} (hn : n = l.length) (hh : sats w0 [Cel b 130 [.slice p n c, .int .i64 last], Row IT p n c l] h) : IsStore b l last w0 h := by
  subst hn; exact ⟨⟨p, c⟩, trivial, hh⟩
theorem st_enc {b : Nat} {l m : List It} {last : Int} {w0 : World} {h : Hp} (hl : l.length = m.length) (he : l.flatMap enc = m.flatMap enc) (hh : IsStore b l last w0 h) : IsStore b m last w0 h := by
  obtain ⟨i, _, h1⟩ := hh
  refine ⟨i, trivial, ?_⟩
  have e : Row IT i.1 l.length i.2 l = Row IT i.1 m.length i.2 m := by
    unfold Row
    dsimp only
    rw [he, hl]
  rw [hl] at h1 e
  rw [e] at h1
  exact h1
end Go.Sl

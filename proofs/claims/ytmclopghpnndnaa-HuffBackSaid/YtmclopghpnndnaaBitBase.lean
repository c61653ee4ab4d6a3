/-
  Readers of bits in memory.
-/
import Derived.Test.YtmclopghpnndnaaHuffFacts2
import Derived.Test.YtmclopghpnndnaaM41
namespace Go.Sl
abbrev U5 : Ec Int := ecI 5 .u8
structure Lv where
  p1 : Option Addr
  c1 : Nat
  p2 : Option Addr
  c2 : Nat
/-- A machine of bits: what it reads, where it is; what it wrote, what is free. -/
def LW (b : Nat) (B : List Int) (at_ : Nat) (out : List Int) (free : Int) : HProp := fun w0 h => ∃ i : Lv, True ∧ sats w0 [Cel b 70 [.slice i.p1 B.length i.c1, .slice i.p2 out.length i.c2, .int .i64 (at_ : Int), .int .i64 free], Row U5 i.p1 B.length i.c1 B, Row U5 i.p2 out.length i.c2 out] h
theorem lw_close {b at_ : Nat} {p1 p2 : Option Addr} {c1 c2 : Nat} {B out : List Int} {free : Int} {w0 : World} {h : Hp}
    (hh : sats w0 [Cel b 70 [.slice p1 B.length c1, .slice p2 out.length c2, .int .i64 (at_ : Int), .int .i64 free], Row U5 p1 B.length c1 B, Row U5 p2 out.length c2 out] h) : LW b B at_ out free w0 h := ⟨⟨p1, c1, p2, c2⟩, trivial, hh⟩
/-- A machine of bits that wrote them. -/
def WB (b : Nat) (bs : List Int) : HProp := fun w0 h => ∃ i : List Int × Nat, (BitP.Pk bs i.1 i.2 ∧ i.2 < 8) ∧ sats w0 [LW b [] 0 i.1 (i.2 : Int)] h
theorem wb_close {b : Nat} {bs out : List Int} {fr n : Nat} {f : Int} {p1 p2 : Option Addr} {c1 c2 : Nat} {w0 : World} {h : Hp} (hp : BitP.Pk bs out fr) (h8 : fr < 8) (hf : f = (fr : Int)) (hn : n = out.length)
    (hh : sats w0 [Cel b 70 [.slice p1 0 c1, .slice p2 n c2, .int .i64 0, .int .i64 f], Row U5 p1 0 c1 [], Row U5 p2 n c2 out] h) : WB b bs w0 h := by
  subst hf; subst hn
  refine ⟨(out, fr), ⟨hp, h8⟩, h, fun _ => none, fun _ => .inr rfl, Hp.le_refl _, (fun _ _ e => by cases e), ?_, trivial⟩
  exact lw_close (B := []) hh
end Go.Sl

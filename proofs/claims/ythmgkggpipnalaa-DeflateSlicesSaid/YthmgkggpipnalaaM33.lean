/- Steps of the proof: the walks of the functions that the statement reaches; printed by a program of ours. -/
import Derived.Test.YthmgkggpipnalaaSl20
import Derived.Test.YthmgkggpipnalaaM30
import Derived.Test.YthmgkggpipnalaaProg
import Derived.KernelRfl
import Derived.Test.YthmgkggpipnalaaSl23
import Derived.Test.YthmgkggpipnalaaSl24
/-
  What inflate's walks have in memory: codes, bits; printed by a program of ours.
-/
namespace Go.Sl
abbrev I3 : Ec Int := ecI 3 .i64
abbrev W63 : Ec (Int × Int) := ⟨123, 2, fun x => [.int .i64 x.1, .int .i64 x.2], (0, 0), fun _ => rfl, fun _ => rfl⟩
structure Cv where
  p1 : Option Addr
  c1 : Nat
  p2 : Option Addr
  c2 : Nat
/-- A code as 'huff' keeps it. -/
def HC (b : Nat) (ls : List Int) : HProp := fun w0 h => ∃ i : Cv, True ∧ sats w0 [Cel b 119 (CA [.slice i.p1 ls.length i.c1] .i64 (HuffP.cntL ls) [.slice i.p2 (HuffP.ord ls).length i.c2, .int .i64 (HuffP.mostL ls)]), Row W63 i.p1 ls.length i.c1 (HuffP.words ls), Row I3 i.p2 (HuffP.ord ls).length i.c2 (HuffP.ord ls)] h
theorem hc_close {b c1 c2 : Nat} {p1 p2 : Option Addr} {ls : List Int} {ws : List (Int × Int)} {w0 : World} {h : Hp} (e : ws = HuffP.words ls)
    (hh : sats w0 [Cel b 119 (CA [.slice p1 ls.length c1] .i64 (HuffP.cntL ls) [.slice p2 (HuffP.ord ls).length c2, .int .i64 (HuffP.mostL ls)]), Row W63 p1 ls.length c1 ws, Row I3 p2 (HuffP.ord ls).length c2 (HuffP.ord ls)] h) : HC b ls w0 h := by
  subst e; exact ⟨⟨p1, c1, p2, c2⟩, trivial, hh⟩
end Go.Sl
namespace Go.Sl
def RC (b : Nat) (ls : List Int) : HProp := fun w0 h => ∃ i : Cv, True ∧ sats w0 [Cel b 73 (CA [] .i64 (HuffP.cntL ls) [.slice i.p1 (HuffP.ord ls).length i.c1, .slice i.p2 ls.length i.c2]), Row I3 i.p1 (HuffP.ord ls).length i.c1 (HuffP.ord ls), Row I3 i.p2 ls.length i.c2 ls] h
theorem rc_close {b c1 c2 : Nat} {p1 p2 : Option Addr} {ls : List Int} {w0 : World} {h : Hp}
    (hh : sats w0 [Cel b 73 (CA [] .i64 (HuffP.cntL ls) [.slice p1 (HuffP.ord ls).length c1, .slice p2 ls.length c2]), Row I3 p1 (HuffP.ord ls).length c1 (HuffP.ord ls), Row I3 p2 ls.length c2 ls] h) : RC b ls w0 h := ⟨⟨p1, c1, p2, c2⟩, trivial, hh⟩
end Go.Sl
namespace Go.Sl
abbrev U5 : Ec Int := ecI 5 .u8
structure Lv where
  p1 : Option Addr
  c1 : Nat
  p2 : Option Addr
  c2 : Nat
/-- A machine of bits: what it reads, where it is; what it wrote, what is free. -/
def LW (b : Nat) (B : List Int) (at_ : Nat) (out : List Int) (free : Int) : HProp := fun w0 h => ∃ i : Lv, True ∧ sats w0 [Cel b 88 [.slice i.p1 B.length i.c1, .slice i.p2 out.length i.c2, .int .i64 (at_ : Int), .int .i64 free], Row U5 i.p1 B.length i.c1 B, Row U5 i.p2 out.length i.c2 out] h
theorem lw_close {b at_ : Nat} {p1 p2 : Option Addr} {c1 c2 : Nat} {B out : List Int} {free : Int} {w0 : World} {h : Hp}
    (hh : sats w0 [Cel b 88 [.slice p1 B.length c1, .slice p2 out.length c2, .int .i64 (at_ : Int), .int .i64 free], Row U5 p1 B.length c1 B, Row U5 p2 out.length c2 out] h) : LW b B at_ out free w0 h := ⟨⟨p1, c1, p2, c2⟩, trivial, hh⟩
/-- A machine of bits that wrote them. -/
def WB (b : Nat) (bs : List Int) : HProp := fun w0 h => ∃ i : List Int × Nat, (BitP.Pk bs i.1 i.2 ∧ i.2 < 8) ∧ sats w0 [LW b [] 0 i.1 (i.2 : Int)] h
theorem wb_close {b : Nat} {bs out : List Int} {fr n : Nat} {f : Int} {p1 p2 : Option Addr} {c1 c2 : Nat} {w0 : World} {h : Hp} (hp : BitP.Pk bs out fr) (h8 : fr < 8) (hf : f = (fr : Int)) (hn : n = out.length)
    (hh : sats w0 [Cel b 88 [.slice p1 0 c1, .slice p2 n c2, .int .i64 0, .int .i64 f], Row U5 p1 0 c1 [], Row U5 p2 n c2 out] h) : WB b bs w0 h := by
  subst hf; subst hn
  refine ⟨(out, fr), ⟨hp, h8⟩, h, fun _ => none, fun _ => .inr rfl, Hp.le_refl _, (fun _ _ e => by cases e), ?_, trivial⟩
  exact lw_close (B := []) hh
end Go.Sl

namespace Go.Sl
structure Mi where
  po : Option Addr
  co : Nat
/-- The machine of inflate, and what is out. -/
def MS (b bl : Nat) (sz mo : Int) (li di : Value) (s : InfP.St) : HProp := fun w0 h => ∃ i : Mi, True ∧ sats w0 [Cel b 999999 [.pointer (some ⟨bl, 0, none⟩), .int .i64 sz, .int .i64 mo, .slice i.po s.out.length i.co, .bool s.ended, .int .i64 0, .int .i64 s.kind, .int .i64 (s.left : Int), .bool s.last, li, di, .int .i64 (s.copies : Int), .int .i64 (s.far : Int)], Row U5 i.po s.out.length i.co s.out] h
structure Vx where
  v3 : Value
  v4 : Value
  v5 : Value
  v6 : Value
  v7 : Value
  v8 : Value
  v9 : Value
  v10 : Value
  v11 : Value
  v12 : Value
/-- A machine that broke. -/
def MX (b bl : Nat) (sz mo : Int) : HProp := fun w0 h => ∃ i : Vx, True ∧ sats w0 [Cel b 999999 [.pointer (some ⟨bl, 0, none⟩), .int .i64 sz, .int .i64 mo, i.v3, i.v4, i.v5, i.v6, i.v7, i.v8, i.v9, i.v10, i.v11, i.v12]] h
/-- What is panicked with, for an error. -/
def PE (e : Int) (ch : List PanicEntry) : Prop := (ch = pan1 105 (.agg #[]) ∧ e = 2) ∨ (ch = pan1 999999 (.agg #[]) ∧ e = 4) ∨ (ch = pan1 99 (.int .i64 e) ∧ e ≠ 0)
/-- What comes of a call, as plainly said. -/
def PostE {α : Type} (E : Except Int α) (R : α → Value → List HProp → Prop) (Gx : List HProp) : Ending → List HProp → Prop := RetPan (fun v G => ∃ x, E = .ok x ∧ R x v G) (fun ch G => ∃ e, E = .error e ∧ PE e ch ∧ G = Gx)
section
variable {P : Program} {f : FuncId} {args : List Value} {Pre Gx : List HProp} {α : Type} {E : Except Int α} {R : α → Value → List HProp → Prop}
variable {C : Ctx} {Q : QT} {En : Env} {L F G : List HProp} {rs : Array ResultVar} {v : Value} {ch : List PanicEntry}
end
end Go.Sl

/-
  Facts about the types of the program; printed by a program of ours.
-/
namespace Go.Proofs.Ythmgkggpipnalaa
open Go.Sl
theorem V.a123 : aggB Try.prog 123 = some 2 := by kernel_rfl
theorem V.a71 : aggB Try.prog 71 = some 16 := by kernel_rfl
theorem V.ar71 : arrayB Try.prog 71 = some (16, 3, 1) := by kernel_rfl
theorem V.b18 : bodyB Try.prog 18 = true := by kernel_rfl
theorem V.b19 : bodyB Try.prog 19 = true := by kernel_rfl
theorem V.b20 : bodyB Try.prog 20 = true := by kernel_rfl
theorem V.b21 : bodyB Try.prog 21 = true := by kernel_rfl
theorem V.b22 : bodyB Try.prog 22 = true := by kernel_rfl
theorem V.b23 : bodyB Try.prog 23 = true := by kernel_rfl
theorem V.b24 : bodyB Try.prog 24 = true := by kernel_rfl
theorem V.b26 : bodyB Try.prog 26 = true := by kernel_rfl
theorem V.b27 : bodyB Try.prog 27 = true := by kernel_rfl
theorem V.b28 : bodyB Try.prog 28 = true := by kernel_rfl
theorem V.b29 : bodyB Try.prog 29 = true := by kernel_rfl
theorem V.b30 : bodyB Try.prog 30 = true := by kernel_rfl
theorem V.b31 : bodyB Try.prog 31 = true := by kernel_rfl
theorem V.b39 : bodyB Try.prog 39 = true := by kernel_rfl
theorem V.b49 : bodyB Try.prog 49 = true := by kernel_rfl
theorem V.b58 : bodyB Try.prog 58 = true := by kernel_rfl
theorem V.b59 : bodyB Try.prog 59 = true := by kernel_rfl
theorem V.b60 : bodyB Try.prog 60 = true := by kernel_rfl
theorem V.b61 : bodyB Try.prog 61 = true := by kernel_rfl
theorem V.b62 : bodyB Try.prog 62 = true := by kernel_rfl
theorem V.b68 : bodyB Try.prog 68 = true := by kernel_rfl
theorem V.b69 : bodyB Try.prog 69 = true := by kernel_rfl
theorem V.b84 : bodyB Try.prog 84 = true := by kernel_rfl
theorem V.b85 : bodyB Try.prog 85 = true := by kernel_rfl
theorem V.b92 : bodyB Try.prog 92 = true := by kernel_rfl
theorem V.b95 : bodyB Try.prog 95 = true := by kernel_rfl
theorem V.f119_0 : fieldB Try.prog 119 0 = some 0 := by kernel_rfl
theorem V.f119_1 : fieldB Try.prog 119 1 = some 1 := by kernel_rfl
theorem V.f119_2 : fieldB Try.prog 119 2 = some 17 := by kernel_rfl
theorem V.f119_3 : fieldB Try.prog 119 3 = some 18 := by kernel_rfl
theorem V.f123_0 : fieldB Try.prog 123 0 = some 0 := by kernel_rfl
theorem V.f123_1 : fieldB Try.prog 123 1 = some 1 := by kernel_rfl
theorem V.f48_0 : fieldB Try.prog 48 0 = some 0 := by kernel_rfl
theorem V.f48_1 : fieldB Try.prog 48 1 = some 1 := by kernel_rfl
theorem V.f48_2 : fieldB Try.prog 48 2 = some 2 := by kernel_rfl
theorem V.f48_3 : fieldB Try.prog 48 3 = some 3 := by kernel_rfl
theorem V.f73_0 : fieldB Try.prog 73 0 = some 0 := by kernel_rfl
theorem V.f73_1 : fieldB Try.prog 73 1 = some 16 := by kernel_rfl
theorem V.f73_2 : fieldB Try.prog 73 2 = some 17 := by kernel_rfl
theorem V.f76_0 : fieldB Try.prog 76 0 = some 0 := by kernel_rfl
theorem V.f86_1 : fieldB Try.prog 86 1 = some 1 := by kernel_rfl
theorem V.f86_3 : fieldB Try.prog 86 3 = some 3 := by kernel_rfl
theorem V.f88_0 : fieldB Try.prog 88 0 = some 0 := by kernel_rfl
theorem V.mixed : Try.prog.follows .mixedOrders = true := by kernel_rfl
theorem V.pl119 : placesB Try.prog 119 = some [(0, 1), (1, 16), (17, 1), (18, 1)] := by kernel_rfl
theorem V.pl123 : placesB Try.prog 123 = some [(0, 1), (1, 1)] := by kernel_rfl
theorem V.pl48 : placesB Try.prog 48 = some [(0, 1), (1, 1), (2, 1), (3, 1)] := by kernel_rfl
theorem V.pl73 : placesB Try.prog 73 = some [(0, 16), (16, 1), (17, 1)] := by kernel_rfl
theorem V.s117 : scalarB Try.prog 117 = true := by kernel_rfl
theorem V.s23 : scalarB Try.prog 23 = true := by kernel_rfl
theorem V.s3 : scalarB Try.prog 3 = true := by kernel_rfl
theorem V.s34 : scalarB Try.prog 34 = true := by kernel_rfl
theorem V.s4 : scalarB Try.prog 4 = true := by kernel_rfl
theorem V.s5 : scalarB Try.prog 5 = true := by kernel_rfl
theorem V.sl117 : sliceB Try.prog 117 = some (123, 2, 16) := by kernel_rfl
theorem V.sl23 : sliceB Try.prog 23 = some (5, 1, 1) := by kernel_rfl
theorem V.sl34 : sliceB Try.prog 34 = some (3, 1, 8) := by kernel_rfl
theorem V.u3 : undB Try.prog 3 = true := by kernel_rfl
theorem V.u43 : undB Try.prog 43 = true := by kernel_rfl
theorem V.u44 : undB Try.prog 44 = true := by kernel_rfl
theorem V.u5 : undB Try.prog 5 = true := by kernel_rfl
theorem V.z119 : zeroB Try.prog 119 = some ([.slice none 0 0, .int .i64 0, .int .i64 0, .int .i64 0, .int .i64 0, .int .i64 0, .int .i64 0, .int .i64 0, .int .i64 0, .int .i64 0, .int .i64 0, .int .i64 0, .int .i64 0, .int .i64 0, .int .i64 0, .int .i64 0, .int .i64 0, .slice none 0 0, .int .i64 0]) := by kernel_rfl
theorem V.z123 : zeroB Try.prog 123 = some ([.int .i64 0, .int .i64 0]) := by kernel_rfl
theorem V.z3 : zeroB Try.prog 3 = some ([.int .i64 0]) := by kernel_rfl
theorem V.z48 : zeroB Try.prog 48 = some ([.slice none 0 0, .int .i64 0, .bool false, .bool false]) := by kernel_rfl
theorem V.z5 : zeroB Try.prog 5 = some ([.int .u8 0]) := by kernel_rfl
theorem V.z73 : zeroB Try.prog 73 = some ([.int .i64 0, .int .i64 0, .int .i64 0, .int .i64 0, .int .i64 0, .int .i64 0, .int .i64 0, .int .i64 0, .int .i64 0, .int .i64 0, .int .i64 0, .int .i64 0, .int .i64 0, .int .i64 0, .int .i64 0, .int .i64 0, .slice none 0 0, .slice none 0 0]) := by kernel_rfl
end Go.Proofs.Ythmgkggpipnalaa

/-
  Facts about the types of the program; printed by a program of ours.
-/
namespace Go.Proofs.Ythmgkggpipnalaa
open Go.Sl
theorem V.a79 : aggB Try.prog 79 = some 3 := by kernel_rfl
theorem V.b36 : bodyB Try.prog 36 = true := by kernel_rfl
theorem V.b37 : bodyB Try.prog 37 = true := by kernel_rfl
theorem V.b45 : bodyB Try.prog 45 = true := by kernel_rfl
theorem V.b46 : bodyB Try.prog 46 = true := by kernel_rfl
theorem V.b47 : bodyB Try.prog 47 = true := by kernel_rfl
theorem V.b48 : bodyB Try.prog 48 = true := by kernel_rfl
theorem V.b50 : bodyB Try.prog 50 = true := by kernel_rfl
theorem V.b51 : bodyB Try.prog 51 = true := by kernel_rfl
theorem V.f76_1 : fieldB Try.prog 76 1 = some 1 := by kernel_rfl
theorem V.f76_2 : fieldB Try.prog 76 2 = some 2 := by kernel_rfl
theorem V.f79_0 : fieldB Try.prog 79 0 = some 0 := by kernel_rfl
theorem V.f79_1 : fieldB Try.prog 79 1 = some 1 := by kernel_rfl
theorem V.f79_2 : fieldB Try.prog 79 2 = some 2 := by kernel_rfl
theorem V.f90_0 : fieldB Try.prog 90 0 = some 0 := by kernel_rfl
theorem V.f90_1 : fieldB Try.prog 90 1 = some 1 := by kernel_rfl
theorem V.f90_2 : fieldB Try.prog 90 2 = some 2 := by kernel_rfl
theorem V.pl76 : placesB Try.prog 76 = some [(0, 1), (1, 1), (2, 1)] := by kernel_rfl
theorem V.pl79 : placesB Try.prog 79 = some [(0, 1), (1, 1), (2, 1)] := by kernel_rfl
theorem V.s84 : scalarB Try.prog 84 = true := by kernel_rfl
theorem V.sl68 : sliceB Try.prog 68 = some (79, 3, 24) := by kernel_rfl
theorem V.z76 : zeroB Try.prog 76 = some ([.slice none 0 0, .slice none 0 0, .slice none 0 0]) := by kernel_rfl
theorem V.z79 : zeroB Try.prog 79 = some ([.int .i64 0, .int .i64 0, .int .i64 0]) := by kernel_rfl
end Go.Proofs.Ythmgkggpipnalaa

/-
  Facts about the types of the program; printed by a program of ours.
-/
namespace Go.Proofs.Ythmgkggpipnalaa
open Go.Sl

end Go.Proofs.Ythmgkggpipnalaa

/-
  Facts about the types of the program; printed by a program of ours.
-/
namespace Go.Proofs.Ythmgkggpipnalaa
open Go.Sl
theorem V.a111 : aggB Try.prog 111 = some 2 := by kernel_rfl
theorem V.a81 : aggB Try.prog 81 = some 2 := by kernel_rfl
theorem V.a90 : aggB Try.prog 90 = some 3 := by kernel_rfl
theorem V.ar81 : arrayB Try.prog 81 = some (2, 3, 1) := by kernel_rfl
theorem V.b14 : bodyB Try.prog 14 = true := by kernel_rfl
theorem V.b15 : bodyB Try.prog 15 = true := by kernel_rfl
theorem V.b16 : bodyB Try.prog 16 = true := by kernel_rfl
theorem V.b17 : bodyB Try.prog 17 = true := by kernel_rfl
theorem V.b25 : bodyB Try.prog 25 = true := by kernel_rfl
theorem V.b32 : bodyB Try.prog 32 = true := by kernel_rfl
theorem V.b33 : bodyB Try.prog 33 = true := by kernel_rfl
theorem V.b34 : bodyB Try.prog 34 = true := by kernel_rfl
theorem V.b35 : bodyB Try.prog 35 = true := by kernel_rfl
theorem V.b38 : bodyB Try.prog 38 = true := by kernel_rfl
theorem V.b40 : bodyB Try.prog 40 = true := by kernel_rfl
theorem V.b41 : bodyB Try.prog 41 = true := by kernel_rfl
theorem V.b42 : bodyB Try.prog 42 = true := by kernel_rfl
theorem V.b43 : bodyB Try.prog 43 = true := by kernel_rfl
theorem V.b44 : bodyB Try.prog 44 = true := by kernel_rfl
theorem V.b52 : bodyB Try.prog 52 = true := by kernel_rfl
theorem V.b53 : bodyB Try.prog 53 = true := by kernel_rfl
theorem V.b54 : bodyB Try.prog 54 = true := by kernel_rfl
theorem V.b55 : bodyB Try.prog 55 = true := by kernel_rfl
theorem V.b56 : bodyB Try.prog 56 = true := by kernel_rfl
theorem V.b57 : bodyB Try.prog 57 = true := by kernel_rfl
theorem V.b63 : bodyB Try.prog 63 = true := by kernel_rfl
theorem V.b64 : bodyB Try.prog 64 = true := by kernel_rfl
theorem V.b65 : bodyB Try.prog 65 = true := by kernel_rfl
theorem V.b70 : bodyB Try.prog 70 = true := by kernel_rfl
theorem V.b71 : bodyB Try.prog 71 = true := by kernel_rfl
theorem V.b72 : bodyB Try.prog 72 = true := by kernel_rfl
theorem V.b86 : bodyB Try.prog 86 = true := by kernel_rfl
theorem V.b93 : bodyB Try.prog 93 = true := by kernel_rfl
theorem V.f111_0 : fieldB Try.prog 111 0 = some 0 := by kernel_rfl
theorem V.f111_1 : fieldB Try.prog 111 1 = some 1 := by kernel_rfl
theorem V.f61_0 : fieldB Try.prog 61 0 = some 0 := by kernel_rfl
theorem V.f61_1 : fieldB Try.prog 61 1 = some 1 := by kernel_rfl
theorem V.f61_2 : fieldB Try.prog 61 2 = some 2 := by kernel_rfl
theorem V.f61_3 : fieldB Try.prog 61 3 = some 3 := by kernel_rfl
theorem V.pl111 : placesB Try.prog 111 = some [(0, 1), (1, 1)] := by kernel_rfl
theorem V.pl61 : placesB Try.prog 61 = some [(0, 1), (1, 1), (2, 1), (3, 1)] := by kernel_rfl
theorem V.pl88 : placesB Try.prog 88 = some [(0, 4)] := by kernel_rfl
theorem V.pl90 : placesB Try.prog 90 = some [(0, 1), (1, 1), (2, 1)] := by kernel_rfl
theorem V.s109 : scalarB Try.prog 109 = true := by kernel_rfl
theorem V.sl109 : sliceB Try.prog 109 = some (111, 2, 32) := by kernel_rfl
theorem V.sl126 : sliceB Try.prog 126 = some (109, 1, 24) := by kernel_rfl
theorem V.sl134 : sliceB Try.prog 134 = some (34, 1, 24) := by kernel_rfl
theorem V.sl22 : sliceB Try.prog 22 = some (23, 1, 24) := by kernel_rfl
theorem V.sl82 : sliceB Try.prog 82 = some (81, 2, 16) := by kernel_rfl
theorem V.z109 : zeroB Try.prog 109 = some ([.slice none 0 0]) := by kernel_rfl
theorem V.z111 : zeroB Try.prog 111 = some ([.int .i64 0, .slice none 0 0]) := by kernel_rfl
theorem V.z23 : zeroB Try.prog 23 = some ([.slice none 0 0]) := by kernel_rfl
theorem V.z34 : zeroB Try.prog 34 = some ([.slice none 0 0]) := by kernel_rfl
theorem V.z61 : zeroB Try.prog 61 = some ([.slice none 0 0, .slice none 0 0, .int .i64 0, .bool false]) := by kernel_rfl
theorem V.z81 : zeroB Try.prog 81 = some ([.int .i64 0, .int .i64 0]) := by kernel_rfl
theorem V.z88 : zeroB Try.prog 88 = some ([.slice none 0 0, .slice none 0 0, .int .i64 0, .int .i64 0]) := by kernel_rfl
theorem V.z90 : zeroB Try.prog 90 = some ([.pointer none, .slice none 0 0, .slice none 0 0]) := by kernel_rfl
end Go.Proofs.Ythmgkggpipnalaa

/-
  Facts about the types of the program; printed by a program of ours.
-/
namespace Go.Proofs.Ythmgkggpipnalaa
open Go.Sl
theorem V.a25 : aggB Try.prog 25 = some 2 := by kernel_rfl
theorem V.b10 : bodyB Try.prog 10 = true := by kernel_rfl
theorem V.b11 : bodyB Try.prog 11 = true := by kernel_rfl
theorem V.b12 : bodyB Try.prog 12 = true := by kernel_rfl
theorem V.b13 : bodyB Try.prog 13 = true := by kernel_rfl
theorem V.b9 : bodyB Try.prog 9 = true := by kernel_rfl
theorem V.f25_0 : fieldB Try.prog 25 0 = some 0 := by kernel_rfl
theorem V.f25_1 : fieldB Try.prog 25 1 = some 1 := by kernel_rfl
theorem V.s22 : scalarB Try.prog 22 = true := by kernel_rfl
end Go.Proofs.Ythmgkggpipnalaa

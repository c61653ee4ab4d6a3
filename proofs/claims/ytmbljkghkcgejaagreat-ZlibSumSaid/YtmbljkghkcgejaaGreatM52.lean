/- Walks of functions that the law reaches, and what they lean on; no conditions. -/
import Derived.Test.YtmbljkghkcgejaaGreatM30
import Derived.Test.YtmbljkghkcgejaaGreatSl22
import Derived.KernelRfl
import Derived.Test.YtmbljkghkcgejaaGreatM51
import Derived.Test.YtmbljkghkcgejaaGreatM35
import Derived.Test.YtmbljkghkcgejaaGreatSl24
set_option linter.unusedVariables false
set_option linter.unusedSimpArgs false
set_option maxRecDepth 100000
namespace Go.Proofs.YtmbljkghkcgejaaGreat
open Go.Sl 
theorem TTZiAA : okT Tryz.prog ⟨[77], []⟩ = true := by kernel_rfl
attribute [local irreducible] HuffP.newE HuffP.tk HuffP.ord HuffP.cntL HuffP.words HuffP.mostL InfP.frs InfP.toldC InfP.toldN InfP.toldA InfP.hL InfP.hD InfP.hC InfP.lnGo InfP.told InfP.fixL InfP.codeE InfP.rep InfP.lenE InfP.awayE InfP.sym InfP.alg BitP.numL InfP.coded InfP.begin_ InfP.one InfP.put_ InfP.lnB InfP.dsB InfP.lnM InfP.dsM InfP.rpB InfP.rpL InfP.rpW InfP.fixD
def PD (b : Nat) (p : Option Addr) (cap : Nat) (B : List Int) (R : HProp) : Except Int (Nat × List Int × List Int) → Value → List HProp → Prop
 | .error e, v, G => v = .tuple #[.pointer none, .pointer none, .int .i64 e] ∧ G = [R]
 | .ok (a, l, d), v, G => ∃ x y sh, v = .tuple #[.pointer (some ⟨x, 0, none⟩), .pointer (some ⟨y, 0, none⟩), .int .i64 0] ∧ G = [Cel b 59 [.slice p B.length cap, .int .i64 (a : Int), .bool false, .bool sh], R, RC x l, RC y d]
end Go.Proofs.YtmbljkghkcgejaaGreat
namespace Go.Proofs.YtmbljkghkcgejaaGreat
open Go.Sl 
theorem TTZiAB : okT Tryz.prog ⟨[], []⟩ = true := by kernel_rfl
attribute [local irreducible] HuffP.newE HuffP.tk HuffP.ord HuffP.cntL HuffP.words HuffP.mostL InfP.frs InfP.toldC InfP.toldN InfP.toldA InfP.hL InfP.hD InfP.hC InfP.lnGo InfP.told InfP.fixL InfP.codeE InfP.rep InfP.lenE InfP.awayE InfP.sym InfP.alg BitP.numL InfP.coded InfP.begin_ InfP.one InfP.put_ InfP.lnB InfP.dsB InfP.lnM InfP.dsM InfP.fixD
end Go.Proofs.YtmbljkghkcgejaaGreat
namespace Go.Proofs.YtmbljkghkcgejaaGreat
open Go.Sl
theorem V.a32 : aggB Tryz.prog 32 = some 2 := by kernel_rfl
theorem V.ar33 : arrayB Tryz.prog 33 = some (2, 5, 1) := by kernel_rfl
theorem V.b10 : bodyB Tryz.prog 10 = true := by kernel_rfl
theorem V.b11 : bodyB Tryz.prog 11 = true := by kernel_rfl
theorem V.b13 : bodyB Tryz.prog 13 = true := by kernel_rfl
theorem V.b14 : bodyB Tryz.prog 14 = true := by kernel_rfl
theorem V.b15 : bodyB Tryz.prog 15 = true := by kernel_rfl
theorem V.b18 : bodyB Tryz.prog 18 = true := by kernel_rfl
theorem V.b26 : bodyB Tryz.prog 26 = true := by kernel_rfl
theorem V.b42 : bodyB Tryz.prog 42 = true := by kernel_rfl
theorem V.b7 : bodyB Tryz.prog 7 = true := by kernel_rfl
theorem V.b8 : bodyB Tryz.prog 8 = true := by kernel_rfl
theorem V.f32_0 : fieldB Tryz.prog 32 0 = some 0 := by kernel_rfl
theorem V.f32_1 : fieldB Tryz.prog 32 1 = some 1 := by kernel_rfl
theorem V.s30 : scalarB Tryz.prog 30 = true := by kernel_rfl
end Go.Proofs.YtmbljkghkcgejaaGreat

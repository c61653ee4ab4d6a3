/- Walks of functions that the law reaches, and what they lean on; no conditions. -/
import Derived.Test.YtmbljkghkcgejaaGreatM30
import Derived.Test.YtmbljkghkcgejaaGreatSl22
import Derived.KernelRfl
import Derived.Test.YtmbljkghkcgejaaGreatM43
import Derived.Test.YtmbljkghkcgejaaGreatM33
set_option linter.unusedVariables false
set_option linter.unusedSimpArgs false
set_option maxRecDepth 100000
namespace Go.Proofs.YtmbljkghkcgejaaGreat
open Go.Sl 
theorem TTZiY : okT Tryz.prog ⟨[], [(59, 1, 1)]⟩ = true := by kernel_rfl
attribute [local irreducible] HuffP.newE HuffP.tk HuffP.ord HuffP.cntL HuffP.words HuffP.mostL InfP.frs InfP.toldC InfP.toldN InfP.toldA InfP.hL InfP.hD InfP.hC InfP.lnGo InfP.told InfP.fixL InfP.codeE InfP.rep InfP.lenE InfP.awayE InfP.sym InfP.alg BitP.numL InfP.coded InfP.begin_ InfP.one InfP.put_ InfP.lnB InfP.dsB InfP.lnM InfP.dsM
section
variable (b2 : Nat) (ls : List Int) (b : Nat) (p : Option Addr) (cap : Nat) (B : List Int) (R : HProp) (hR : ∀ w0 h, R w0 h → RdR U5 p B.length B w0 h) (sh : Bool) (a : Nat) (hE : HuffP.newE ls = 0) (hl : B.length < 500000000) (hB : BitP.Byt B) (ha : a ≤ 8 * B.length)
include hR hE hl hB ha
end
end Go.Proofs.YtmbljkghkcgejaaGreat
namespace Go.Proofs.YtmbljkghkcgejaaGreat
open Go.Sl 
theorem TTZiZ : okT Tryz.prog ⟨[22], []⟩ = true := by kernel_rfl
attribute [local irreducible] HuffP.newE HuffP.tk HuffP.ord HuffP.cntL HuffP.words HuffP.mostL InfP.frs InfP.toldC InfP.toldN InfP.toldA InfP.hL InfP.hD InfP.hC InfP.lnGo InfP.told InfP.fixL InfP.codeE InfP.rep InfP.lenE InfP.awayE InfP.sym InfP.alg BitP.numL InfP.coded InfP.begin_ InfP.one InfP.put_ InfP.lnB InfP.dsB InfP.lnM InfP.dsM
def PO (b : Nat) (p : Option Addr) (cap : Nat) (B : List Int) (R : HProp) : Except Int InfP.St → Value → List HProp → Prop
 | .error e, v, G => v = .tuple #[.slice none 0 0, .int .i64 e] ∧ G = [R]
 | .ok S, v, G => ∃ q c sh, v = .tuple #[.slice q S.out.length c, .int .i64 0] ∧ G = [Cel b 59 [.slice p B.length cap, .int .i64 (S.at_ : Int), .bool false, .bool sh], R, Row U5 q S.out.length c S.out]
end Go.Proofs.YtmbljkghkcgejaaGreat

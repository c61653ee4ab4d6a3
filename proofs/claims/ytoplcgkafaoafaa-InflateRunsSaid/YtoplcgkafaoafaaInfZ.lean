/-
 Steps of the proof: walks of functions that the statement reaches; printed by a program of ours.
-/
import Derived.Test.YtoplcgkafaoafaaM45
namespace Go.Proofs.Ytoplcgkafaoafaa
open Go.Sl 
set_option linter.unusedVariables false
set_option linter.unusedSimpArgs false

attribute [local irreducible] HuffP.newE HuffP.tk HuffP.ord HuffP.cntL HuffP.words HuffP.mostL InfP.frs InfP.toldC InfP.toldN InfP.toldA InfP.hL InfP.hD InfP.hC InfP.lnGo InfP.told InfP.fixL InfP.codeE InfP.rep InfP.lenE InfP.awayE InfP.sym InfP.alg BitP.numL InfP.coded InfP.begin_ InfP.one InfP.put_ InfP.lnB InfP.dsB InfP.lnM InfP.dsM


/-- What a block's reader says. -/
def PO (b : Nat) (p : Option Addr) (cap : Nat) (B : List Int) (R : HProp) : Except Int InfP.St → Value → List HProp → Prop
 | .error e, v, G => v = .tuple #[.slice none 0 0, .int .i64 e] ∧ G = [R]
 | .ok S, v, G => ∃ q c sh, v = .tuple #[.slice q S.out.length c, .int .i64 0] ∧ G = [Cel b 52 [.slice p B.length cap, .int .i64 (S.at_ : Int), .bool false, .bool sh], R, Row U5 q S.out.length c S.out]



end Go.Proofs.Ytoplcgkafaoafaa

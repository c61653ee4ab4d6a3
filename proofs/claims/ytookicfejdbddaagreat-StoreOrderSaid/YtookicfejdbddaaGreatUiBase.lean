/- Walks of functions that the law reaches, and what they lean on; no conditions. -/
import Derived.Test.YtookicfejdbddaaGreatM4
import Derived.Test.YtookicfejdbddaaGreatM6
set_option linter.unusedVariables false
set_option linter.unusedSimpArgs false
set_option linter.unnecessarySimpa false
set_option maxRecDepth 100000
namespace Go.Sl
abbrev I3 : Ec Int := ecI 3 .i64
abbrev W63 : Ec (Int × Int) := ⟨440, 2, fun x => [.int .i64 x.1, .int .i64 x.2], (0, 0), fun _ => rfl, fun _ => rfl⟩
structure Cv where
  p1 : Option Addr
  c1 : Nat
  p2 : Option Addr
  c2 : Nat
def HC (b : Nat) (ls : List Int) : HProp := fun w0 h => ∃ i : Cv, True ∧ sats w0 [Cel b 436 (CA [.slice i.p1 ls.length i.c1] .i64 (HuffP.cntL ls) [.slice i.p2 (HuffP.ord ls).length i.c2, .int .i64 (HuffP.mostL ls)]), Row W63 i.p1 ls.length i.c1 (HuffP.words ls), Row I3 i.p2 (HuffP.ord ls).length i.c2 (HuffP.ord ls)] h
end Go.Sl
namespace Go.Sl
def RC (b : Nat) (ls : List Int) : HProp := fun w0 h => ∃ i : Cv, True ∧ sats w0 [Cel b 286 (CA [] .i64 (HuffP.cntL ls) [.slice i.p1 (HuffP.ord ls).length i.c1, .slice i.p2 ls.length i.c2]), Row I3 i.p1 (HuffP.ord ls).length i.c1 (HuffP.ord ls), Row I3 i.p2 ls.length i.c2 ls] h
end Go.Sl
namespace Go.Sl
abbrev U5 : Ec Int := ecI 5 .u8
structure Lv where
  p1 : Option Addr
  c1 : Nat
  p2 : Option Addr
  c2 : Nat
def LW (b : Nat) (B : List Int) (at_ : Nat) (out : List Int) (free : Int) : HProp := fun w0 h => ∃ i : Lv, True ∧ sats w0 [Cel b 399 [.slice i.p1 B.length i.c1, .slice i.p2 out.length i.c2, .int .i64 (at_ : Int), .int .i64 free], Row U5 i.p1 B.length i.c1 B, Row U5 i.p2 out.length i.c2 out] h
def WB (b : Nat) (bs : List Int) : HProp := fun w0 h => ∃ i : List Int × Nat, (BitP.Pk bs i.1 i.2 ∧ i.2 < 8) ∧ sats w0 [LW b [] 0 i.1 (i.2 : Int)] h
end Go.Sl
namespace Go.Sl
structure Mi where
  po : Option Addr
  co : Nat
def MS (b bl : Nat) (sz mo : Int) (li di : Value) (s : InfP.St) : HProp := fun w0 h => ∃ i : Mi, True ∧ sats w0 [Cel b 392 [.pointer (some ⟨bl, 0, none⟩), .int .i64 sz, .int .i64 mo, .slice i.po s.out.length i.co, .bool s.ended, .int .i64 0, .int .i64 s.kind, .int .i64 (s.left : Int), .bool s.last, li, di, .int .i64 (s.copies : Int), .int .i64 (s.far : Int)], Row U5 i.po s.out.length i.co s.out] h
structure Vx where
  v3 : Value
  v4 : Value
  v5 : Value
  v6 : Value
  v7 : Value
  v8 : Value
  v9 : Value
  v10 : Value
  v11 : Value
  v12 : Value
def MX (b bl : Nat) (sz mo : Int) : HProp := fun w0 h => ∃ i : Vx, True ∧ sats w0 [Cel b 392 [.pointer (some ⟨bl, 0, none⟩), .int .i64 sz, .int .i64 mo, i.v3, i.v4, i.v5, i.v6, i.v7, i.v8, i.v9, i.v10, i.v11, i.v12]] h
def PE (e : Int) (ch : List PanicEntry) : Prop := (ch = pan1 377 (.agg #[]) ∧ e = 2) ∨ (ch = pan1 400 (.agg #[]) ∧ e = 4) ∨ (ch = pan1 29 (.int .i64 e) ∧ e ≠ 0)
def PostE {α : Type} (E : Except Int α) (R : α → Value → List HProp → Prop) (Gx : List HProp) : Ending → List HProp → Prop := RetPan (fun v G => ∃ x, E = .ok x ∧ R x v G) (fun ch G => ∃ e, E = .error e ∧ PE e ch ∧ G = Gx)
section
variable {P : Program} {f : FuncId} {args : List Value} {Pre Gx : List HProp} {α : Type} {E : Except Int α} {R : α → Value → List HProp → Prop}
variable {C : Ctx} {Q : QT} {En : Env} {L F G : List HProp} {rs : Array ResultVar} {v : Value} {ch : List PanicEntry}
end
end Go.Sl

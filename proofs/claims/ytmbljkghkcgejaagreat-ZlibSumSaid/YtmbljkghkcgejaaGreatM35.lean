/- Walks of functions that the law reaches, and what they lean on; no conditions. -/
import Derived.Test.YtmbljkghkcgejaaGreatSl20
import Derived.Test.YtmbljkghkcgejaaGreatM32
import Derived.Test.YtmbljkghkcgejaaGreatProg
import Derived.KernelRfl
import Derived.Test.YtmbljkghkcgejaaGreatSl23
set_option linter.unusedVariables false
set_option linter.unusedSimpArgs false
set_option maxRecDepth 100000
namespace Go.Sl
abbrev I3 : Ec Int := ecI 3 .i64
abbrev W63 : Ec (Int × Int) := ⟨145, 2, fun x => [.int .i64 x.1, .int .i64 x.2], (0, 0), fun _ => rfl, fun _ => rfl⟩
structure Cv where
 p1 : Option Addr
 c1 : Nat
 p2 : Option Addr
 c2 : Nat
def HC (b : Nat) (ls : List Int) : HProp := fun w0 h => ∃ i : Cv, True ∧ sats w0 [Cel b 129 (CA [.slice i.p1 ls.length i.c1] .i64 (HuffP.cntL ls) [.slice i.p2 (HuffP.ord ls).length i.c2, .int .i64 (HuffP.mostL ls)]), Row W63 i.p1 ls.length i.c1 (HuffP.words ls), Row I3 i.p2 (HuffP.ord ls).length i.c2 (HuffP.ord ls)] h
theorem hc_close {b c1 c2 : Nat} {p1 p2 : Option Addr} {ls : List Int} {ws : List (Int × Int)} {w0 : World} {h : Hp} (e : ws = HuffP.words ls)
  (hh : sats w0 [Cel b 129 (CA [.slice p1 ls.length c1] .i64 (HuffP.cntL ls) [.slice p2 (HuffP.ord ls).length c2, .int .i64 (HuffP.mostL ls)]), Row W63 p1 ls.length c1 ws, Row I3 p2 (HuffP.ord ls).length c2 (HuffP.ord ls)] h) : HC b ls w0 h := by
 subst e; exact ⟨⟨p1, c1, p2, c2⟩, trivial, hh⟩
end Go.Sl
namespace Go.Sl
def RC (b : Nat) (ls : List Int) : HProp := fun w0 h => ∃ i : Cv, True ∧ sats w0 [Cel b 96 (CA [] .i64 (HuffP.cntL ls) [.slice i.p1 (HuffP.ord ls).length i.c1, .slice i.p2 ls.length i.c2]), Row I3 i.p1 (HuffP.ord ls).length i.c1 (HuffP.ord ls), Row I3 i.p2 ls.length i.c2 ls] h
end Go.Sl
namespace Go.Sl
abbrev U5 : Ec Int := ecI 5 .u8
structure Lv where
 p1 : Option Addr
 c1 : Nat
 p2 : Option Addr
 c2 : Nat
def LW (b : Nat) (B : List Int) (at_ : Nat) (out : List Int) (free : Int) : HProp := fun w0 h => ∃ i : Lv, True ∧ sats w0 [Cel b 89 [.slice i.p1 B.length i.c1, .slice i.p2 out.length i.c2, .int .i64 (at_ : Int), .int .i64 free], Row U5 i.p1 B.length i.c1 B, Row U5 i.p2 out.length i.c2 out] h
theorem lw_close {b at_ : Nat} {p1 p2 : Option Addr} {c1 c2 : Nat} {B out : List Int} {free : Int} {w0 : World} {h : Hp}
  (hh : sats w0 [Cel b 89 [.slice p1 B.length c1, .slice p2 out.length c2, .int .i64 (at_ : Int), .int .i64 free], Row U5 p1 B.length c1 B, Row U5 p2 out.length c2 out] h) : LW b B at_ out free w0 h := ⟨⟨p1, c1, p2, c2⟩, trivial, hh⟩
def WB (b : Nat) (bs : List Int) : HProp := fun w0 h => ∃ i : List Int × Nat, (BitP.Pk bs i.1 i.2 ∧ i.2 < 8) ∧ sats w0 [LW b [] 0 i.1 (i.2 : Int)] h
theorem wb_close {b : Nat} {bs out : List Int} {fr n : Nat} {f : Int} {p1 p2 : Option Addr} {c1 c2 : Nat} {w0 : World} {h : Hp} (hp : BitP.Pk bs out fr) (h8 : fr < 8) (hf : f = (fr : Int)) (hn : n = out.length)
  (hh : sats w0 [Cel b 89 [.slice p1 0 c1, .slice p2 n c2, .int .i64 0, .int .i64 f], Row U5 p1 0 c1 [], Row U5 p2 n c2 out] h) : WB b bs w0 h := by
 subst hf; subst hn
 refine ⟨(out, fr), ⟨hp, h8⟩, h, fun _ => none, fun _ => .inr rfl, Hp.le_refl _, (fun _ _ e => by cases e), ?_, trivial⟩
 exact lw_close (B := []) hh
end Go.Sl
namespace Go.Sl
structure Mi where
 po : Option Addr
 co : Nat
def MS (b bl : Nat) (sz mo : Int) (li di : Value) (s : InfP.St) : HProp := fun w0 h => ∃ i : Mi, True ∧ sats w0 [Cel b 75 [.pointer (some ⟨bl, 0, none⟩), .int .i64 sz, .int .i64 mo, .slice i.po s.out.length i.co, .bool s.ended, .int .i64 0, .int .i64 s.kind, .int .i64 (s.left : Int), .bool s.last, li, di, .int .i64 (s.copies : Int), .int .i64 (s.far : Int)], Row U5 i.po s.out.length i.co s.out] h
theorem ms_close {b bl : Nat} {sz mo : Int} {li di : Value} {s : InfP.St} {po : Option Addr} {co n : Nat} {w0 : World} {h : Hp} (hn : n = s.out.length)
  (hh : sats w0 [Cel b 75 [.pointer (some ⟨bl, 0, none⟩), .int .i64 sz, .int .i64 mo, .slice po n co, .bool s.ended, .int .i64 0, .int .i64 s.kind, .int .i64 (s.left : Int), .bool s.last, li, di, .int .i64 (s.copies : Int), .int .i64 (s.far : Int)], Row U5 po n co s.out] h) : MS b bl sz mo li di s w0 h := by
 subst hn; exact ⟨⟨po, co⟩, trivial, hh⟩
theorem ms_open {b bl : Nat} {sz mo : Int} {li di : Value} {s : InfP.St} {w0 : World} {h : Hp} (hh : MS b bl sz mo li di s w0 h) : ∃ i : Mi, True ∧ sats w0 [Cel b 75 [.pointer (some ⟨bl, 0, none⟩), .int .i64 sz, .int .i64 mo, .slice i.po s.out.length i.co, .bool s.ended, .int .i64 0, .int .i64 s.kind, .int .i64 (s.left : Int), .bool s.last, li, di, .int .i64 (s.copies : Int), .int .i64 (s.far : Int)], Row U5 i.po s.out.length i.co s.out] h := hh
structure Vx where
 v3 : Value
 v4 : Value
 v5 : Value
 v6 : Value
 v7 : Value
 v8 : Value
 v9 : Value
 v10 : Value
 v11 : Value
 v12 : Value
def MX (b bl : Nat) (sz mo : Int) : HProp := fun w0 h => ∃ i : Vx, True ∧ sats w0 [Cel b 75 [.pointer (some ⟨bl, 0, none⟩), .int .i64 sz, .int .i64 mo, i.v3, i.v4, i.v5, i.v6, i.v7, i.v8, i.v9, i.v10, i.v11, i.v12]] h
theorem mx_close {b bl : Nat} {sz mo : Int} {v3 v4 v5 v6 v7 v8 v9 v10 v11 v12 : Value} {w0 : World} {h : Hp}
  (hh : sats w0 [Cel b 75 [.pointer (some ⟨bl, 0, none⟩), .int .i64 sz, .int .i64 mo, v3, v4, v5, v6, v7, v8, v9, v10, v11, v12]] h) : MX b bl sz mo w0 h := ⟨⟨v3, v4, v5, v6, v7, v8, v9, v10, v11, v12⟩, trivial, hh⟩
def PE (e : Int) (ch : List PanicEntry) : Prop := (ch = pan1 91 (.agg #[]) ∧ e = 2) ∨ (ch = pan1 92 (.agg #[]) ∧ e = 4) ∨ (ch = pan1 24 (.int .i64 e) ∧ e ≠ 0)
theorem PE.no {e : Int} (h : e ≠ 0) : PE e (pan1 24 (.int .i64 e)) := .inr (.inr ⟨rfl, h⟩)
theorem PE.end_ : PE 2 (pan1 91 (.agg #[])) := .inl ⟨rfl, rfl⟩
theorem PE.none_ : PE 4 (pan1 92 (.agg #[])) := .inr (.inl ⟨rfl, rfl⟩)
def PostE {α : Type} (E : Except Int α) (R : α → Value → List HProp → Prop) (Gx : List HProp) : Ending → List HProp → Prop := RetPan (fun v G => ∃ x, E = .ok x ∧ R x v G) (fun ch G => ∃ e, E = .error e ∧ PE e ch ∧ G = Gx)
section
variable {P : Program} {f : FuncId} {args : List Value} {Pre Gx : List HProp} {α : Type} {E : Except Int α} {R : α → Value → List HProp → Prop}
theorem Ctr.ok {x : α} (h : Ctr P f args Pre (PostE E R Gx)) (hE : E = .ok x) : Ctr P f args Pre (Ret (R x)) := h.mono fun e G h => by
 rcases h with ⟨v, rfl, x', h1, h2⟩ | ⟨ch, rfl, e', h1, _⟩
 ·rw [hE] at h1; cases h1; exact ⟨v, rfl, h2⟩
 ·rw [hE] at h1; cases h1
theorem Ctr.err {e : Int} (h : Ctr P f args Pre (PostE E R Gx)) (hE : E = .error e) : Ctr P f args Pre (Pan fun ch G => PE e ch ∧ G = Gx) := h.mono fun e' G h => by
 rcases h with ⟨v, rfl, x', h1, h2⟩ | ⟨ch, rfl, e', h1, h2⟩
 ·rw [hE] at h1; cases h1
 ·rw [hE] at h1; cases h1; exact ⟨ch, rfl, h2⟩
variable {C : Ctx} {Q : QT} {En : Env} {L F G : List HProp} {rs : Array ResultVar} {v : Value} {ch : List PanicEntry}
theorem pe_ret {x : α} (hE : E = .ok x) (hr : ResE C rs En L v) (hR : R x v G) (hs : Sub L (G ++ F)) : retQ C rs F (PostE E R Gx) .ret En L := ⟨v, G, hr, .inl ⟨v, rfl, x, hE, hR⟩, hs⟩
theorem pe_end {x : α} (hE : E = .ok x) (hr : ResE C rs En L v) (hR : R x v G) (hs : Sub L (G ++ F)) : retQ C rs F (PostE E R Gx) .normal En L := ⟨v, G, hr, .inl ⟨v, rfl, x, hE, hR⟩, hs⟩
theorem pe_pan {e : Int} (hE : E = .error e) (hp : PE e ch) (hs : Sub L (Gx ++ F)) : retQ C rs F (PostE E R Gx) (.panic ch) En L := ⟨Gx, .inr ⟨ch, rfl, e, hE, hp, rfl⟩, hs⟩
theorem x_pe {e : Int} (hE : E = .error e) (hp : PE e ch) (hs : Sub L (Gx ++ F)) : ∃ G, PostE E R Gx (.panicked ch) G ∧ Sub L (G ++ F) := ⟨Gx, .inr ⟨ch, rfl, e, hE, hp, rfl⟩, hs⟩
end
theorem dp0 {M F : List HProp} : Drop (M ++ F) F := by
 induction M with
 | nil => exact .refl
 | cons a M ih => exact .skip ih
theorem dp1 {a0 : HProp} {M F : List HProp} : Drop (a0 :: (M ++ F)) F := .skip dp0
end Go.Sl
namespace Go.Proofs.YtmbljkghkcgejaaGreat
open Go.Sl
theorem V.a109 : aggB Tryz.prog 109 = some 3 := by kernel_rfl
theorem V.a110 : aggB Tryz.prog 110 = some 2 := by kernel_rfl
theorem V.a114 : aggB Tryz.prog 114 = some 3 := by kernel_rfl
theorem V.a136 : aggB Tryz.prog 136 = some 2 := by kernel_rfl
theorem V.a145 : aggB Tryz.prog 145 = some 2 := by kernel_rfl
theorem V.a91 : aggB Tryz.prog 91 = some 0 := by kernel_rfl
theorem V.a92 : aggB Tryz.prog 92 = some 0 := by kernel_rfl
theorem V.a94 : aggB Tryz.prog 94 = some 16 := by kernel_rfl
theorem V.ar110 : arrayB Tryz.prog 110 = some (2, 3, 1) := by kernel_rfl
theorem V.ar94 : arrayB Tryz.prog 94 = some (16, 3, 1) := by kernel_rfl
theorem V.b100 : bodyB Tryz.prog 100 = true := by kernel_rfl
theorem V.b101 : bodyB Tryz.prog 101 = true := by kernel_rfl
theorem V.b102 : bodyB Tryz.prog 102 = true := by kernel_rfl
theorem V.b103 : bodyB Tryz.prog 103 = true := by kernel_rfl
theorem V.b104 : bodyB Tryz.prog 104 = true := by kernel_rfl
theorem V.b107 : bodyB Tryz.prog 107 = true := by kernel_rfl
theorem V.b108 : bodyB Tryz.prog 108 = true := by kernel_rfl
theorem V.b109 : bodyB Tryz.prog 109 = true := by kernel_rfl
theorem V.b110 : bodyB Tryz.prog 110 = true := by kernel_rfl
theorem V.b111 : bodyB Tryz.prog 111 = true := by kernel_rfl
theorem V.b123 : bodyB Tryz.prog 123 = true := by kernel_rfl
theorem V.b124 : bodyB Tryz.prog 124 = true := by kernel_rfl
theorem V.b125 : bodyB Tryz.prog 125 = true := by kernel_rfl
theorem V.b131 : bodyB Tryz.prog 131 = true := by kernel_rfl
theorem V.b132 : bodyB Tryz.prog 132 = true := by kernel_rfl
theorem V.b134 : bodyB Tryz.prog 134 = true := by kernel_rfl
theorem V.b20 : bodyB Tryz.prog 20 = true := by kernel_rfl
theorem V.b21 : bodyB Tryz.prog 21 = true := by kernel_rfl
theorem V.b22 : bodyB Tryz.prog 22 = true := by kernel_rfl
theorem V.b23 : bodyB Tryz.prog 23 = true := by kernel_rfl
theorem V.b24 : bodyB Tryz.prog 24 = true := by kernel_rfl
theorem V.b25 : bodyB Tryz.prog 25 = true := by kernel_rfl
theorem V.b33 : bodyB Tryz.prog 33 = true := by kernel_rfl
theorem V.b34 : bodyB Tryz.prog 34 = true := by kernel_rfl
theorem V.b35 : bodyB Tryz.prog 35 = true := by kernel_rfl
theorem V.b36 : bodyB Tryz.prog 36 = true := by kernel_rfl
theorem V.b37 : bodyB Tryz.prog 37 = true := by kernel_rfl
theorem V.b38 : bodyB Tryz.prog 38 = true := by kernel_rfl
theorem V.b39 : bodyB Tryz.prog 39 = true := by kernel_rfl
theorem V.b40 : bodyB Tryz.prog 40 = true := by kernel_rfl
theorem V.b41 : bodyB Tryz.prog 41 = true := by kernel_rfl
theorem V.b49 : bodyB Tryz.prog 49 = true := by kernel_rfl
theorem V.b50 : bodyB Tryz.prog 50 = true := by kernel_rfl
theorem V.b51 : bodyB Tryz.prog 51 = true := by kernel_rfl
theorem V.b52 : bodyB Tryz.prog 52 = true := by kernel_rfl
theorem V.b53 : bodyB Tryz.prog 53 = true := by kernel_rfl
theorem V.b54 : bodyB Tryz.prog 54 = true := by kernel_rfl
theorem V.b55 : bodyB Tryz.prog 55 = true := by kernel_rfl
theorem V.b56 : bodyB Tryz.prog 56 = true := by kernel_rfl
theorem V.b57 : bodyB Tryz.prog 57 = true := by kernel_rfl
theorem V.b58 : bodyB Tryz.prog 58 = true := by kernel_rfl
theorem V.b59 : bodyB Tryz.prog 59 = true := by kernel_rfl
theorem V.b60 : bodyB Tryz.prog 60 = true := by kernel_rfl
theorem V.b61 : bodyB Tryz.prog 61 = true := by kernel_rfl
theorem V.b62 : bodyB Tryz.prog 62 = true := by kernel_rfl
theorem V.b63 : bodyB Tryz.prog 63 = true := by kernel_rfl
theorem V.b64 : bodyB Tryz.prog 64 = true := by kernel_rfl
theorem V.b65 : bodyB Tryz.prog 65 = true := by kernel_rfl
theorem V.b66 : bodyB Tryz.prog 66 = true := by kernel_rfl
theorem V.b67 : bodyB Tryz.prog 67 = true := by kernel_rfl
theorem V.b68 : bodyB Tryz.prog 68 = true := by kernel_rfl
theorem V.b69 : bodyB Tryz.prog 69 = true := by kernel_rfl
theorem V.b70 : bodyB Tryz.prog 70 = true := by kernel_rfl
theorem V.b71 : bodyB Tryz.prog 71 = true := by kernel_rfl
theorem V.b72 : bodyB Tryz.prog 72 = true := by kernel_rfl
theorem V.b73 : bodyB Tryz.prog 73 = true := by kernel_rfl
theorem V.b74 : bodyB Tryz.prog 74 = true := by kernel_rfl
theorem V.b75 : bodyB Tryz.prog 75 = true := by kernel_rfl
theorem V.b76 : bodyB Tryz.prog 76 = true := by kernel_rfl
theorem V.b77 : bodyB Tryz.prog 77 = true := by kernel_rfl
theorem V.b78 : bodyB Tryz.prog 78 = true := by kernel_rfl
theorem V.b79 : bodyB Tryz.prog 79 = true := by kernel_rfl
theorem V.b80 : bodyB Tryz.prog 80 = true := by kernel_rfl
theorem V.b81 : bodyB Tryz.prog 81 = true := by kernel_rfl
theorem V.b82 : bodyB Tryz.prog 82 = true := by kernel_rfl
theorem V.b83 : bodyB Tryz.prog 83 = true := by kernel_rfl
theorem V.b84 : bodyB Tryz.prog 84 = true := by kernel_rfl
theorem V.b85 : bodyB Tryz.prog 85 = true := by kernel_rfl
theorem V.b86 : bodyB Tryz.prog 86 = true := by kernel_rfl
theorem V.b87 : bodyB Tryz.prog 87 = true := by kernel_rfl
theorem V.b88 : bodyB Tryz.prog 88 = true := by kernel_rfl
theorem V.b89 : bodyB Tryz.prog 89 = true := by kernel_rfl
theorem V.b90 : bodyB Tryz.prog 90 = true := by kernel_rfl
theorem V.b91 : bodyB Tryz.prog 91 = true := by kernel_rfl
theorem V.b92 : bodyB Tryz.prog 92 = true := by kernel_rfl
theorem V.b93 : bodyB Tryz.prog 93 = true := by kernel_rfl
theorem V.b94 : bodyB Tryz.prog 94 = true := by kernel_rfl
theorem V.b95 : bodyB Tryz.prog 95 = true := by kernel_rfl
theorem V.b96 : bodyB Tryz.prog 96 = true := by kernel_rfl
theorem V.b97 : bodyB Tryz.prog 97 = true := by kernel_rfl
theorem V.b98 : bodyB Tryz.prog 98 = true := by kernel_rfl
theorem V.b99 : bodyB Tryz.prog 99 = true := by kernel_rfl
theorem V.c24 : concB Tryz.prog 24 = true := by kernel_rfl
theorem V.c91 : concB Tryz.prog 91 = true := by kernel_rfl
theorem V.c92 : concB Tryz.prog 92 = true := by kernel_rfl
theorem V.f106_0 : fieldB Tryz.prog 106 0 = some 0 := by kernel_rfl
theorem V.f106_1 : fieldB Tryz.prog 106 1 = some 1 := by kernel_rfl
theorem V.f106_2 : fieldB Tryz.prog 106 2 = some 2 := by kernel_rfl
theorem V.f109_0 : fieldB Tryz.prog 109 0 = some 0 := by kernel_rfl
theorem V.f109_1 : fieldB Tryz.prog 109 1 = some 1 := by kernel_rfl
theorem V.f109_2 : fieldB Tryz.prog 109 2 = some 2 := by kernel_rfl
theorem V.f114_0 : fieldB Tryz.prog 114 0 = some 0 := by kernel_rfl
theorem V.f114_1 : fieldB Tryz.prog 114 1 = some 1 := by kernel_rfl
theorem V.f114_2 : fieldB Tryz.prog 114 2 = some 2 := by kernel_rfl
theorem V.f129_0 : fieldB Tryz.prog 129 0 = some 0 := by kernel_rfl
theorem V.f129_1 : fieldB Tryz.prog 129 1 = some 1 := by kernel_rfl
theorem V.f129_2 : fieldB Tryz.prog 129 2 = some 17 := by kernel_rfl
theorem V.f129_3 : fieldB Tryz.prog 129 3 = some 18 := by kernel_rfl
theorem V.f136_0 : fieldB Tryz.prog 136 0 = some 0 := by kernel_rfl
theorem V.f136_1 : fieldB Tryz.prog 136 1 = some 1 := by kernel_rfl
theorem V.f145_0 : fieldB Tryz.prog 145 0 = some 0 := by kernel_rfl
theorem V.f145_1 : fieldB Tryz.prog 145 1 = some 1 := by kernel_rfl
theorem V.f75_0 : fieldB Tryz.prog 75 0 = some 0 := by kernel_rfl
theorem V.f75_1 : fieldB Tryz.prog 75 1 = some 1 := by kernel_rfl
theorem V.f75_10 : fieldB Tryz.prog 75 10 = some 10 := by kernel_rfl
theorem V.f75_11 : fieldB Tryz.prog 75 11 = some 11 := by kernel_rfl
theorem V.f75_12 : fieldB Tryz.prog 75 12 = some 12 := by kernel_rfl
theorem V.f75_2 : fieldB Tryz.prog 75 2 = some 2 := by kernel_rfl
theorem V.f75_3 : fieldB Tryz.prog 75 3 = some 3 := by kernel_rfl
theorem V.f75_4 : fieldB Tryz.prog 75 4 = some 4 := by kernel_rfl
theorem V.f75_5 : fieldB Tryz.prog 75 5 = some 5 := by kernel_rfl
theorem V.f75_6 : fieldB Tryz.prog 75 6 = some 6 := by kernel_rfl
theorem V.f75_7 : fieldB Tryz.prog 75 7 = some 7 := by kernel_rfl
theorem V.f75_8 : fieldB Tryz.prog 75 8 = some 8 := by kernel_rfl
theorem V.f75_9 : fieldB Tryz.prog 75 9 = some 9 := by kernel_rfl
theorem V.f85_0 : fieldB Tryz.prog 85 0 = some 0 := by kernel_rfl
theorem V.f85_1 : fieldB Tryz.prog 85 1 = some 1 := by kernel_rfl
theorem V.f85_2 : fieldB Tryz.prog 85 2 = some 2 := by kernel_rfl
theorem V.f85_3 : fieldB Tryz.prog 85 3 = some 3 := by kernel_rfl
theorem V.f87_0 : fieldB Tryz.prog 87 0 = some 0 := by kernel_rfl
theorem V.f87_1 : fieldB Tryz.prog 87 1 = some 1 := by kernel_rfl
theorem V.f87_2 : fieldB Tryz.prog 87 2 = some 2 := by kernel_rfl
theorem V.f87_3 : fieldB Tryz.prog 87 3 = some 3 := by kernel_rfl
theorem V.f89_0 : fieldB Tryz.prog 89 0 = some 0 := by kernel_rfl
theorem V.mixed : Tryz.prog.follows .mixedOrders = true := by kernel_rfl
theorem V.pl106 : placesB Tryz.prog 106 = some [(0, 1), (1, 1), (2, 1)] := by kernel_rfl
theorem V.pl109 : placesB Tryz.prog 109 = some [(0, 1), (1, 1), (2, 1)] := by kernel_rfl
theorem V.pl114 : placesB Tryz.prog 114 = some [(0, 1), (1, 1), (2, 1)] := by kernel_rfl
theorem V.pl129 : placesB Tryz.prog 129 = some [(0, 1), (1, 16), (17, 1), (18, 1)] := by kernel_rfl
theorem V.pl136 : placesB Tryz.prog 136 = some [(0, 1), (1, 1)] := by kernel_rfl
theorem V.pl145 : placesB Tryz.prog 145 = some [(0, 1), (1, 1)] := by kernel_rfl
theorem V.pl75 : placesB Tryz.prog 75 = some [(0, 1), (1, 1), (2, 1), (3, 1), (4, 1), (5, 1), (6, 1), (7, 1), (8, 1), (9, 1), (10, 1), (11, 1), (12, 1)] := by kernel_rfl
theorem V.pl85 : placesB Tryz.prog 85 = some [(0, 1), (1, 1), (2, 1), (3, 1)] := by kernel_rfl
theorem V.pl87 : placesB Tryz.prog 87 = some [(0, 1), (1, 1), (2, 1), (3, 1)] := by kernel_rfl
theorem V.pl89 : placesB Tryz.prog 89 = some [(0, 4)] := by kernel_rfl
theorem V.pl91 : placesB Tryz.prog 91 = some [] := by kernel_rfl
theorem V.pl92 : placesB Tryz.prog 92 = some [] := by kernel_rfl
theorem V.s127 : scalarB Tryz.prog 127 = true := by kernel_rfl
theorem V.s134 : scalarB Tryz.prog 134 = true := by kernel_rfl
theorem V.s22 : scalarB Tryz.prog 22 = true := by kernel_rfl
theorem V.s24 : scalarB Tryz.prog 24 = true := by kernel_rfl
theorem V.s3 : scalarB Tryz.prog 3 = true := by kernel_rfl
theorem V.s4 : scalarB Tryz.prog 4 = true := by kernel_rfl
theorem V.s5 : scalarB Tryz.prog 5 = true := by kernel_rfl
theorem V.s50 : scalarB Tryz.prog 50 = true := by kernel_rfl
theorem V.s71 : scalarB Tryz.prog 71 = true := by kernel_rfl
theorem V.s73 : scalarB Tryz.prog 73 = true := by kernel_rfl
theorem V.s77 : scalarB Tryz.prog 77 = true := by kernel_rfl
theorem V.sl111 : sliceB Tryz.prog 111 = some (110, 2, 16) := by kernel_rfl
theorem V.sl127 : sliceB Tryz.prog 127 = some (145, 2, 16) := by kernel_rfl
theorem V.sl134 : sliceB Tryz.prog 134 = some (136, 2, 32) := by kernel_rfl
theorem V.sl147 : sliceB Tryz.prog 147 = some (134, 1, 24) := by kernel_rfl
theorem V.sl155 : sliceB Tryz.prog 155 = some (77, 1, 24) := by kernel_rfl
theorem V.sl22 : sliceB Tryz.prog 22 = some (5, 1, 1) := by kernel_rfl
theorem V.sl30 : sliceB Tryz.prog 30 = some (22, 1, 24) := by kernel_rfl
theorem V.sl77 : sliceB Tryz.prog 77 = some (3, 1, 8) := by kernel_rfl
theorem V.sl97 : sliceB Tryz.prog 97 = some (109, 3, 24) := by kernel_rfl
theorem V.u3 : undB Tryz.prog 3 = true := by kernel_rfl
theorem V.u38 : undB Tryz.prog 38 = true := by kernel_rfl
theorem V.u48 : undB Tryz.prog 48 = true := by kernel_rfl
theorem V.u5 : undB Tryz.prog 5 = true := by kernel_rfl
theorem V.z106 : zeroB Tryz.prog 106 = some ([.slice none 0 0, .slice none 0 0, .slice none 0 0]) := by kernel_rfl
theorem V.z109 : zeroB Tryz.prog 109 = some ([.int .i64 0, .int .i64 0, .int .i64 0]) := by kernel_rfl
theorem V.z110 : zeroB Tryz.prog 110 = some ([.int .i64 0, .int .i64 0]) := by kernel_rfl
theorem V.z114 : zeroB Tryz.prog 114 = some ([.pointer none, .slice none 0 0, .slice none 0 0]) := by kernel_rfl
theorem V.z129 : zeroB Tryz.prog 129 = some ([.slice none 0 0, .int .i64 0, .int .i64 0, .int .i64 0, .int .i64 0, .int .i64 0, .int .i64 0, .int .i64 0, .int .i64 0, .int .i64 0, .int .i64 0, .int .i64 0, .int .i64 0, .int .i64 0, .int .i64 0, .int .i64 0, .int .i64 0, .slice none 0 0, .int .i64 0]) := by kernel_rfl
theorem V.z134 : zeroB Tryz.prog 134 = some ([.slice none 0 0]) := by kernel_rfl
theorem V.z136 : zeroB Tryz.prog 136 = some ([.int .i64 0, .slice none 0 0]) := by kernel_rfl
theorem V.z145 : zeroB Tryz.prog 145 = some ([.int .i64 0, .int .i64 0]) := by kernel_rfl
theorem V.z22 : zeroB Tryz.prog 22 = some ([.slice none 0 0]) := by kernel_rfl
theorem V.z24 : zeroB Tryz.prog 24 = some ([.int .i64 0]) := by kernel_rfl
theorem V.z3 : zeroB Tryz.prog 3 = some ([.int .i64 0]) := by kernel_rfl
theorem V.z5 : zeroB Tryz.prog 5 = some ([.int .u8 0]) := by kernel_rfl
theorem V.z75 : zeroB Tryz.prog 75 = some ([.pointer none, .int .i64 0, .int .i64 0, .slice none 0 0, .bool false, .int .i64 0, .int .i64 0, .int .i64 0, .bool false, .pointer none, .pointer none, .int .i64 0, .int .i64 0]) := by kernel_rfl
theorem V.z77 : zeroB Tryz.prog 77 = some ([.slice none 0 0]) := by kernel_rfl
theorem V.z85 : zeroB Tryz.prog 85 = some ([.slice none 0 0, .slice none 0 0, .int .i64 0, .bool false]) := by kernel_rfl
theorem V.z87 : zeroB Tryz.prog 87 = some ([.slice none 0 0, .slice none 0 0, .int .i64 0, .int .i64 0]) := by kernel_rfl
theorem V.z89 : zeroB Tryz.prog 89 = some ([.slice none 0 0, .slice none 0 0, .int .i64 0, .int .i64 0]) := by kernel_rfl
theorem V.z91 : zeroB Tryz.prog 91 = some ([]) := by kernel_rfl
theorem V.z92 : zeroB Tryz.prog 92 = some ([]) := by kernel_rfl
end Go.Proofs.YtmbljkghkcgejaaGreat

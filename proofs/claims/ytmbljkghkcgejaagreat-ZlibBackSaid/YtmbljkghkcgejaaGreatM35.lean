/- Walks of functions that the law reaches, and what they lean on; no conditions. -/
import Derived.Test.YtmbljkghkcgejaaGreatSl20
import Derived.Test.YtmbljkghkcgejaaGreatM32
import Derived.Test.YtmbljkghkcgejaaGreatProg
import Derived.KernelRfl
import Derived.Test.YtmbljkghkcgejaaGreatSl23
set_option linter.unusedVariables false
set_option linter.unusedSimpArgs false
set_option maxRecDepth 100000
namespace Go.Sl
abbrev I3 : Ec Int := qE 3 .i64
abbrev kS : Ec (Int × Int) := ⟨145, 2, fun x => [.int .i64 x.1, .int .i64 x.2], (0, 0), fun _ => rfl, fun _ => rfl⟩
structure Cv where
 p1 : Option Addr
 c1 : Nat
 p2 : Option Addr
 c2 : Nat
def HC (b : Nat) (ls : List Int) : ae := fun w0 h => ∃ i : Cv, True ∧ cA w0 [av b 129 (CA [.slice i.p1 ls.length i.c1] .i64 (ab.bx ls) [.slice i.p2 (ab.ord ls).length i.c2, .int .i64 (ab.cF ls)]), Row kS i.p1 ls.length i.c1 (ab.words ls), Row I3 i.p2 (ab.ord ls).length i.c2 (ab.ord ls)] h
theorem jO {b c1 c2 : Nat} {p1 p2 : Option Addr} {ls : List Int} {ws : List (Int × Int)} {w0 : World} {h : Hp} (e : ws = ab.words ls)
  (hh : cA w0 [av b 129 (CA [.slice p1 ls.length c1] .i64 (ab.bx ls) [.slice p2 (ab.ord ls).length c2, .int .i64 (ab.cF ls)]), Row kS p1 ls.length c1 ws, Row I3 p2 (ab.ord ls).length c2 (ab.ord ls)] h) : HC b ls w0 h := by
 subst e; exact ⟨⟨p1, c1, p2, c2⟩, trivial, hh⟩
end Go.Sl
namespace Go.Sl
def RC (b : Nat) (ls : List Int) : ae := fun w0 h => ∃ i : Cv, True ∧ cA w0 [av b 96 (CA [] .i64 (ab.bx ls) [.slice i.p1 (ab.ord ls).length i.c1, .slice i.p2 ls.length i.c2]), Row I3 i.p1 (ab.ord ls).length i.c1 (ab.ord ls), Row I3 i.p2 ls.length i.c2 ls] h
theorem kL {b c1 c2 : Nat} {p1 p2 : Option Addr} {ls : List Int} {w0 : World} {h : Hp}
  (hh : cA w0 [av b 96 (CA [] .i64 (ab.bx ls) [.slice p1 (ab.ord ls).length c1, .slice p2 ls.length c2]), Row I3 p1 (ab.ord ls).length c1 (ab.ord ls), Row I3 p2 ls.length c2 ls] h) : RC b ls w0 h := ⟨⟨p1, c1, p2, c2⟩, trivial, hh⟩
end Go.Sl
namespace Go.Sl
abbrev U5 : Ec Int := qE 5 .u8
structure Lv where
 p1 : Option Addr
 c1 : Nat
 p2 : Option Addr
 c2 : Nat
def LW (b : Nat) (B : List Int) (at_ : Nat) (out : List Int) (free : Int) : ae := fun w0 h => ∃ i : Lv, True ∧ cA w0 [av b 89 [.slice i.p1 B.length i.c1, .slice i.p2 out.length i.c2, .int .i64 (at_ : Int), .int .i64 free], Row U5 i.p1 B.length i.c1 B, Row U5 i.p2 out.length i.c2 out] h
theorem jP {b at_ : Nat} {p1 p2 : Option Addr} {c1 c2 : Nat} {B out : List Int} {free : Int} {w0 : World} {h : Hp}
  (hh : cA w0 [av b 89 [.slice p1 B.length c1, .slice p2 out.length c2, .int .i64 (at_ : Int), .int .i64 free], Row U5 p1 B.length c1 B, Row U5 p2 out.length c2 out] h) : LW b B at_ out free w0 h := ⟨⟨p1, c1, p2, c2⟩, trivial, hh⟩
def WB (b : Nat) (bs : List Int) : ae := fun w0 h => ∃ i : List Int × Nat, (af.Pk bs i.1 i.2 ∧ i.2 < 8) ∧ cA w0 [LW b [] 0 i.1 (i.2 : Int)] h
theorem EH {b : Nat} {bs out : List Int} {fr n : Nat} {f : Int} {p1 p2 : Option Addr} {c1 c2 : Nat} {w0 : World} {h : Hp} (hp : af.Pk bs out fr) (h8 : fr < 8) (hf : f = (fr : Int)) (hn : n = out.length)
  (hh : cA w0 [av b 89 [.slice p1 0 c1, .slice p2 n c2, .int .i64 0, .int .i64 f], Row U5 p1 0 c1 [], Row U5 p2 n c2 out] h) : WB b bs w0 h := by
 subst hf; subst hn
 refine ⟨(out, fr), ⟨hp, h8⟩, h, fun _ => none, fun _ => .inr rfl, Hp.le_refl _, (fun _ _ e => by cases e), ?_, trivial⟩
 exact jP (B := []) hh
end Go.Sl
namespace Go.Sl
structure Mi where
 po : Option Addr
 co : Nat
def MS (b bl : Nat) (sz mo : Int) (li di : Value) (s : aa.St) : ae := fun w0 h => ∃ i : Mi, True ∧ cA w0 [av b 75 [.pointer (some ⟨bl, 0, none⟩), .int .i64 sz, .int .i64 mo, .slice i.po s.out.length i.co, .bool s.ended, .int .i64 0, .int .i64 s.kind, .int .i64 (s.left : Int), .bool s.last, li, di, .int .i64 (s.aq : Int), .int .i64 (s.aL : Int)], Row U5 i.po s.out.length i.co s.out] h
theorem cU {b bl : Nat} {sz mo : Int} {li di : Value} {s : aa.St} {po : Option Addr} {co n : Nat} {w0 : World} {h : Hp} (hn : n = s.out.length)
  (hh : cA w0 [av b 75 [.pointer (some ⟨bl, 0, none⟩), .int .i64 sz, .int .i64 mo, .slice po n co, .bool s.ended, .int .i64 0, .int .i64 s.kind, .int .i64 (s.left : Int), .bool s.last, li, di, .int .i64 (s.aq : Int), .int .i64 (s.aL : Int)], Row U5 po n co s.out] h) : MS b bl sz mo li di s w0 h := by
 subst hn; exact ⟨⟨po, co⟩, trivial, hh⟩
theorem im {b bl : Nat} {sz mo : Int} {li di : Value} {s : aa.St} {w0 : World} {h : Hp} (hh : MS b bl sz mo li di s w0 h) : ∃ i : Mi, True ∧ cA w0 [av b 75 [.pointer (some ⟨bl, 0, none⟩), .int .i64 sz, .int .i64 mo, .slice i.po s.out.length i.co, .bool s.ended, .int .i64 0, .int .i64 s.kind, .int .i64 (s.left : Int), .bool s.last, li, di, .int .i64 (s.aq : Int), .int .i64 (s.aL : Int)], Row U5 i.po s.out.length i.co s.out] h := hh
structure Vx where
 v3 : Value
 v4 : Value
 v5 : Value
 v6 : Value
 v7 : Value
 v8 : Value
 v9 : Value
 v10 : Value
 v11 : Value
 v12 : Value
def MX (b bl : Nat) (sz mo : Int) : ae := fun w0 h => ∃ i : Vx, True ∧ cA w0 [av b 75 [.pointer (some ⟨bl, 0, none⟩), .int .i64 sz, .int .i64 mo, i.v3, i.v4, i.v5, i.v6, i.v7, i.v8, i.v9, i.v10, i.v11, i.v12]] h
theorem cD {b bl : Nat} {sz mo : Int} {v3 v4 v5 v6 v7 v8 v9 v10 v11 v12 : Value} {w0 : World} {h : Hp}
  (hh : cA w0 [av b 75 [.pointer (some ⟨bl, 0, none⟩), .int .i64 sz, .int .i64 mo, v3, v4, v5, v6, v7, v8, v9, v10, v11, v12]] h) : MX b bl sz mo w0 h := ⟨⟨v3, v4, v5, v6, v7, v8, v9, v10, v11, v12⟩, trivial, hh⟩
def PE (e : Int) (ch : List PanicEntry) : Prop := (ch = jY 91 (.agg #[]) ∧ e = 2) ∨ (ch = jY 92 (.agg #[]) ∧ e = 4) ∨ (ch = jY 24 (.int .i64 e) ∧ e ≠ 0)
theorem PE.no {e : Int} (h : e ≠ 0) : PE e (jY 24 (.int .i64 e)) := .inr (.inr ⟨rfl, h⟩)
theorem PE.end_ : PE 2 (jY 91 (.agg #[])) := .inl ⟨rfl, rfl⟩
theorem PE.none_ : PE 4 (jY 92 (.agg #[])) := .inr (.inl ⟨rfl, rfl⟩)
def ib {α : Type} (E : Except Int α) (R : α → Value → List ae → Prop) (Gx : List ae) : Ending → List ae → Prop := tq (fun v G => ∃ x, E = .ok x ∧ R x v G) (fun ch G => ∃ e, E = .error e ∧ PE e ch ∧ G = Gx)
section
variable {P : Program} {f : FuncId} {args : List Value} {Pre Gx : List ae} {α : Type} {E : Except Int α} {R : α → Value → List ae → Prop}
theorem aD.ok {x : α} (h : aD P f args Pre (ib E R Gx)) (hE : E = .ok x) : aD P f args Pre (aK (R x)) := h.mono fun e G h => by
 rcases h with ⟨v, rfl, x', h1, h2⟩ | ⟨ch, rfl, e', h1, _⟩
 ·rw [hE] at h1; cases h1; exact ⟨v, rfl, h2⟩
 ·rw [hE] at h1; cases h1
theorem aD.err {e : Int} (h : aD P f args Pre (ib E R Gx)) (hE : E = .error e) : aD P f args Pre (sa fun ch G => PE e ch ∧ G = Gx) := h.mono fun e' G h => by
 rcases h with ⟨v, rfl, x', h1, h2⟩ | ⟨ch, rfl, e', h1, h2⟩
 ·rw [hE] at h1; cases h1
 ·rw [hE] at h1; cases h1; exact ⟨ch, rfl, h2⟩
variable {C : Ctx} {Q : QT} {En : Env} {L F G : List ae} {rs : Array ResultVar} {v : Value} {ch : List PanicEntry}
theorem kA {x : α} (hE : E = .ok x) (hr : mW C rs En L v) (hR : R x v G) (hs : Sub L (G ++ F)) : pI C rs F (ib E R Gx) .ret En L := ⟨v, G, hr, .inl ⟨v, rfl, x, hE, hR⟩, hs⟩
theorem hG {x : α} (hE : E = .ok x) (hr : mW C rs En L v) (hR : R x v G) (hs : Sub L (G ++ F)) : pI C rs F (ib E R Gx) .normal En L := ⟨v, G, hr, .inl ⟨v, rfl, x, hE, hR⟩, hs⟩
theorem dS {e : Int} (hE : E = .error e) (hp : PE e ch) (hs : Sub L (Gx ++ F)) : pI C rs F (ib E R Gx) (.panic ch) En L := ⟨Gx, .inr ⟨ch, rfl, e, hE, hp, rfl⟩, hs⟩
theorem lu {e : Int} (hE : E = .error e) (hp : PE e ch) (hs : Sub L (Gx ++ F)) : ∃ G, ib E R Gx (.panicked ch) G ∧ Sub L (G ++ F) := ⟨Gx, .inr ⟨ch, rfl, e, hE, hp, rfl⟩, hs⟩
end
theorem vj {M F : List ae} : Drop (M ++ F) F := by
 induction M with
 | nil => exact .refl
 | cons a M ih => exact .skip ih
theorem xn {a0 : ae} {M F : List ae} : Drop (a0 :: (M ++ F)) F := .skip vj
end Go.Sl
namespace Go.Proofs.YtmbljkghkcgejaaGreat
open Go.Sl
theorem V.a109 : jR Tryz.prog 109 = some 3 := by kernel_rfl
theorem V.AR : jR Tryz.prog 110 = some 2 := by kernel_rfl
theorem V.Bc : jR Tryz.prog 114 = some 3 := by kernel_rfl
theorem V.fJ : jR Tryz.prog 136 = some 2 := by kernel_rfl
theorem V.a145 : jR Tryz.prog 145 = some 2 := by kernel_rfl
theorem V.a91 : jR Tryz.prog 91 = some 0 := by kernel_rfl
theorem V.Nf : jR Tryz.prog 92 = some 0 := by kernel_rfl
theorem V.Nq : jR Tryz.prog 94 = some 16 := by kernel_rfl
theorem V.rf : nk Tryz.prog 110 = some (2, 3, 1) := by kernel_rfl
theorem V.kQ : nk Tryz.prog 94 = some (16, 3, 1) := by kernel_rfl
theorem V.IW : aC Tryz.prog 100 = true := by kernel_rfl
theorem V.MW : aC Tryz.prog 101 = true := by kernel_rfl
theorem V.Mt : aC Tryz.prog 102 = true := by kernel_rfl
theorem V.M3 : aC Tryz.prog 103 = true := by kernel_rfl
theorem V.MR : aC Tryz.prog 104 = true := by kernel_rfl
theorem V.I2 : aC Tryz.prog 107 = true := by kernel_rfl
theorem V.KB : aC Tryz.prog 108 = true := by kernel_rfl
theorem V.J0 : aC Tryz.prog 109 = true := by kernel_rfl
theorem V.Al : aC Tryz.prog 110 = true := by kernel_rfl
theorem V.MQ : aC Tryz.prog 111 = true := by kernel_rfl
theorem V.JA : aC Tryz.prog 123 = true := by kernel_rfl
theorem V.Aj : aC Tryz.prog 124 = true := by kernel_rfl
theorem V.Mz : aC Tryz.prog 125 = true := by kernel_rfl
theorem V.Je : aC Tryz.prog 131 = true := by kernel_rfl
theorem V.Ef : aC Tryz.prog 132 = true := by kernel_rfl
theorem V.Ew : aC Tryz.prog 134 = true := by kernel_rfl
theorem V.Bq : aC Tryz.prog 20 = true := by kernel_rfl
theorem V.r3 : aC Tryz.prog 21 = true := by kernel_rfl
theorem V.Ni : aC Tryz.prog 22 = true := by kernel_rfl
theorem V.kc : aC Tryz.prog 23 = true := by kernel_rfl
theorem V.DQ : aC Tryz.prog 24 = true := by kernel_rfl
theorem V.lf : aC Tryz.prog 25 = true := by kernel_rfl
theorem V.wh : aC Tryz.prog 27 = true := by kernel_rfl
theorem V.jB : aC Tryz.prog 28 = true := by kernel_rfl
theorem V.Ml : aC Tryz.prog 29 = true := by kernel_rfl
theorem V.lG : aC Tryz.prog 30 = true := by kernel_rfl
theorem V.GD : aC Tryz.prog 31 = true := by kernel_rfl
theorem V.Mj : aC Tryz.prog 32 = true := by kernel_rfl
theorem V.LV : aC Tryz.prog 33 = true := by kernel_rfl
theorem V.Na : aC Tryz.prog 34 = true := by kernel_rfl
theorem V.JU : aC Tryz.prog 35 = true := by kernel_rfl
theorem V.JE : aC Tryz.prog 36 = true := by kernel_rfl
theorem V.sU : aC Tryz.prog 37 = true := by kernel_rfl
theorem V.Md : aC Tryz.prog 38 = true := by kernel_rfl
theorem V.Kq : aC Tryz.prog 39 = true := by kernel_rfl
theorem V.w6 : aC Tryz.prog 40 = true := by kernel_rfl
theorem V.NF : aC Tryz.prog 41 = true := by kernel_rfl
theorem V.Nh : aC Tryz.prog 43 = true := by kernel_rfl
theorem V.NU : aC Tryz.prog 44 = true := by kernel_rfl
theorem V.r9 : aC Tryz.prog 45 = true := by kernel_rfl
theorem V.zk : aC Tryz.prog 46 = true := by kernel_rfl
theorem V.L0 : aC Tryz.prog 47 = true := by kernel_rfl
theorem V.LY : aC Tryz.prog 48 = true := by kernel_rfl
theorem V.Ng : aC Tryz.prog 49 = true := by kernel_rfl
theorem V.sb : aC Tryz.prog 50 = true := by kernel_rfl
theorem V.Ma : aC Tryz.prog 51 = true := by kernel_rfl
theorem V.yg : aC Tryz.prog 52 = true := by kernel_rfl
theorem V.oB : aC Tryz.prog 53 = true := by kernel_rfl
theorem V.IP : aC Tryz.prog 54 = true := by kernel_rfl
theorem V.LP : aC Tryz.prog 55 = true := by kernel_rfl
theorem V.gp : aC Tryz.prog 56 = true := by kernel_rfl
theorem V.gy : aC Tryz.prog 57 = true := by kernel_rfl
theorem V.NB : aC Tryz.prog 58 = true := by kernel_rfl
theorem V.Nx : aC Tryz.prog 59 = true := by kernel_rfl
theorem V.GM : aC Tryz.prog 60 = true := by kernel_rfl
theorem V.uV : aC Tryz.prog 61 = true := by kernel_rfl
theorem V.kt : aC Tryz.prog 62 = true := by kernel_rfl
theorem V.iW : aC Tryz.prog 63 = true := by kernel_rfl
theorem V.NN : aC Tryz.prog 64 = true := by kernel_rfl
theorem V.L6 : aC Tryz.prog 65 = true := by kernel_rfl
theorem V.w3 : aC Tryz.prog 66 = true := by kernel_rfl
theorem V.LR : aC Tryz.prog 67 = true := by kernel_rfl
theorem V.LS : aC Tryz.prog 68 = true := by kernel_rfl
theorem V.LX : aC Tryz.prog 69 = true := by kernel_rfl
theorem V.NH : aC Tryz.prog 70 = true := by kernel_rfl
theorem V.NL : aC Tryz.prog 71 = true := by kernel_rfl
theorem V.NS : aC Tryz.prog 72 = true := by kernel_rfl
theorem V.L5 : aC Tryz.prog 73 = true := by kernel_rfl
theorem V.qT : aC Tryz.prog 74 = true := by kernel_rfl
theorem V.LZ : aC Tryz.prog 75 = true := by kernel_rfl
theorem V.Mc : aC Tryz.prog 76 = true := by kernel_rfl
theorem V.Nn : aC Tryz.prog 77 = true := by kernel_rfl
theorem V.JB : aC Tryz.prog 78 = true := by kernel_rfl
theorem V.Mn : aC Tryz.prog 79 = true := by kernel_rfl
theorem V.CW : aC Tryz.prog 80 = true := by kernel_rfl
theorem V.CX : aC Tryz.prog 81 = true := by kernel_rfl
theorem V.FO : aC Tryz.prog 82 = true := by kernel_rfl
theorem V.sZ : aC Tryz.prog 83 = true := by kernel_rfl
theorem V.NT : aC Tryz.prog 84 = true := by kernel_rfl
theorem V.vJ : aC Tryz.prog 85 = true := by kernel_rfl
theorem V.Mb : aC Tryz.prog 86 = true := by kernel_rfl
theorem V.Jw : aC Tryz.prog 87 = true := by kernel_rfl
theorem V.NC : aC Tryz.prog 88 = true := by kernel_rfl
theorem V.LU : aC Tryz.prog 89 = true := by kernel_rfl
theorem V.LO : aC Tryz.prog 90 = true := by kernel_rfl
theorem V.L2 : aC Tryz.prog 91 = true := by kernel_rfl
theorem V.L8 : aC Tryz.prog 92 = true := by kernel_rfl
theorem V.Mf : aC Tryz.prog 93 = true := by kernel_rfl
theorem V.Nc : aC Tryz.prog 94 = true := by kernel_rfl
theorem V.Nr : aC Tryz.prog 95 = true := by kernel_rfl
theorem V.Nw : aC Tryz.prog 96 = true := by kernel_rfl
theorem V.Nz : aC Tryz.prog 97 = true := by kernel_rfl
theorem V.M8 : aC Tryz.prog 98 = true := by kernel_rfl
theorem V.M7 : aC Tryz.prog 99 = true := by kernel_rfl
theorem V.pV : mK Tryz.prog 24 = true := by kernel_rfl
theorem V.F1 : mK Tryz.prog 91 = true := by kernel_rfl
theorem V.IF : mK Tryz.prog 92 = true := by kernel_rfl
theorem V.Nu : bK Tryz.prog 106 0 = some 0 := by kernel_rfl
theorem V.IZ : bK Tryz.prog 106 1 = some 1 := by kernel_rfl
theorem V.Ns : bK Tryz.prog 106 2 = some 2 := by kernel_rfl
theorem V.JQ : bK Tryz.prog 109 0 = some 0 := by kernel_rfl
theorem V.Ny : bK Tryz.prog 109 1 = some 1 := by kernel_rfl
theorem V.M9 : bK Tryz.prog 109 2 = some 2 := by kernel_rfl
theorem V.Ds : bK Tryz.prog 114 0 = some 0 := by kernel_rfl
theorem V.NQ : bK Tryz.prog 114 1 = some 1 := by kernel_rfl
theorem V.NA : bK Tryz.prog 114 2 = some 2 := by kernel_rfl
theorem V.Nd : bK Tryz.prog 129 0 = some 0 := by kernel_rfl
theorem V.xO : bK Tryz.prog 129 1 = some 1 := by kernel_rfl
theorem V.I4 : bK Tryz.prog 129 2 = some 17 := by kernel_rfl
theorem V.Nv : bK Tryz.prog 129 3 = some 18 := by kernel_rfl
theorem V.wX : bK Tryz.prog 136 0 = some 0 := by kernel_rfl
theorem V.sM : bK Tryz.prog 136 1 = some 1 := by kernel_rfl
theorem V.JJ : bK Tryz.prog 145 0 = some 0 := by kernel_rfl
theorem V.CI : bK Tryz.prog 145 1 = some 1 := by kernel_rfl
theorem V.FN : bK Tryz.prog 59 0 = some 0 := by kernel_rfl
theorem V.tH : bK Tryz.prog 59 1 = some 1 := by kernel_rfl
theorem V.N8 : bK Tryz.prog 59 2 = some 2 := by kernel_rfl
theorem V.Oe : bK Tryz.prog 59 3 = some 3 := by kernel_rfl
theorem V.fe : bK Tryz.prog 75 0 = some 0 := by kernel_rfl
theorem V.Lo : bK Tryz.prog 75 1 = some 1 := by kernel_rfl
theorem V.xc : bK Tryz.prog 75 10 = some 10 := by kernel_rfl
theorem V.NG : bK Tryz.prog 75 11 = some 11 := by kernel_rfl
theorem V.tz : bK Tryz.prog 75 12 = some 12 := by kernel_rfl
theorem V.GB : bK Tryz.prog 75 2 = some 2 := by kernel_rfl
theorem V.mc : bK Tryz.prog 75 3 = some 3 := by kernel_rfl
theorem V.AM : bK Tryz.prog 75 4 = some 4 := by kernel_rfl
theorem V.LG : bK Tryz.prog 75 5 = some 5 := by kernel_rfl
theorem V.N2 : bK Tryz.prog 75 6 = some 6 := by kernel_rfl
theorem V.NX : bK Tryz.prog 75 7 = some 7 := by kernel_rfl
theorem V.Oa : bK Tryz.prog 75 8 = some 8 := by kernel_rfl
theorem V.AQ : bK Tryz.prog 75 9 = some 9 := by kernel_rfl
theorem V.Gy : bK Tryz.prog 85 0 = some 0 := by kernel_rfl
theorem V.N6 : bK Tryz.prog 85 1 = some 1 := by kernel_rfl
theorem V.rW : bK Tryz.prog 85 2 = some 2 := by kernel_rfl
theorem V.NW : bK Tryz.prog 85 3 = some 3 := by kernel_rfl
theorem V.Ge : bK Tryz.prog 87 0 = some 0 := by kernel_rfl
theorem V.FW : bK Tryz.prog 87 1 = some 1 := by kernel_rfl
theorem V.AB : bK Tryz.prog 87 2 = some 2 := by kernel_rfl
theorem V.N5 : bK Tryz.prog 87 3 = some 3 := by kernel_rfl
theorem V.tl : bK Tryz.prog 89 0 = some 0 := by kernel_rfl
theorem V.vw : bK Tryz.prog 96 0 = some 0 := by kernel_rfl
theorem V.NY : bK Tryz.prog 96 1 = some 16 := by kernel_rfl
theorem V.vx : bK Tryz.prog 96 2 = some 17 := by kernel_rfl
theorem V.mixed : Tryz.prog.follows .mixedOrders = true := by kernel_rfl
theorem V.K2 : fQ Tryz.prog 106 = some [(0, 1), (1, 1), (2, 1)] := by kernel_rfl
theorem V.GL : fQ Tryz.prog 109 = some [(0, 1), (1, 1), (2, 1)] := by kernel_rfl
theorem V.FL : fQ Tryz.prog 114 = some [(0, 1), (1, 1), (2, 1)] := by kernel_rfl
theorem V.LM : fQ Tryz.prog 129 = some [(0, 1), (1, 16), (17, 1), (18, 1)] := by kernel_rfl
theorem V.Gj : fQ Tryz.prog 136 = some [(0, 1), (1, 1)] := by kernel_rfl
theorem V.Lt : fQ Tryz.prog 145 = some [(0, 1), (1, 1)] := by kernel_rfl
theorem V.MU : fQ Tryz.prog 59 = some [(0, 1), (1, 1), (2, 1), (3, 1)] := by kernel_rfl
theorem V.JN : fQ Tryz.prog 75 = some [(0, 1), (1, 1), (2, 1), (3, 1), (4, 1), (5, 1), (6, 1), (7, 1), (8, 1), (9, 1), (10, 1), (11, 1), (12, 1)] := by kernel_rfl
theorem V.MY : fQ Tryz.prog 85 = some [(0, 1), (1, 1), (2, 1), (3, 1)] := by kernel_rfl
theorem V.Mx : fQ Tryz.prog 87 = some [(0, 1), (1, 1), (2, 1), (3, 1)] := by kernel_rfl
theorem V.FD : fQ Tryz.prog 89 = some [(0, 4)] := by kernel_rfl
theorem V.MZ : fQ Tryz.prog 91 = some [] := by kernel_rfl
theorem V.Mu : fQ Tryz.prog 92 = some [] := by kernel_rfl
theorem V.Mq : fQ Tryz.prog 96 = some [(0, 16), (16, 1), (17, 1)] := by kernel_rfl
theorem V.Ad : cZ Tryz.prog 127 = true := by kernel_rfl
theorem V.JD : cZ Tryz.prog 134 = true := by kernel_rfl
theorem V.eL : cZ Tryz.prog 22 = true := by kernel_rfl
theorem V.r8 : cZ Tryz.prog 24 = true := by kernel_rfl
theorem V.s3 : cZ Tryz.prog 3 = true := by kernel_rfl
theorem V.s4 : cZ Tryz.prog 4 = true := by kernel_rfl
theorem V.s5 : cZ Tryz.prog 5 = true := by kernel_rfl
theorem V.iZ : cZ Tryz.prog 50 = true := by kernel_rfl
theorem V.dw : cZ Tryz.prog 71 = true := by kernel_rfl
theorem V.uU : cZ Tryz.prog 73 = true := by kernel_rfl
theorem V.fk : cZ Tryz.prog 77 = true := by kernel_rfl
theorem V.vv : sliceB Tryz.prog 111 = some (110, 2, 16) := by kernel_rfl
theorem V.vE : sliceB Tryz.prog 127 = some (145, 2, 16) := by kernel_rfl
theorem V.df : sliceB Tryz.prog 134 = some (136, 2, 32) := by kernel_rfl
theorem V.AV : sliceB Tryz.prog 147 = some (134, 1, 24) := by kernel_rfl
theorem V.AZ : sliceB Tryz.prog 155 = some (77, 1, 24) := by kernel_rfl
theorem V.bH : sliceB Tryz.prog 22 = some (5, 1, 1) := by kernel_rfl
theorem V.Aw : sliceB Tryz.prog 30 = some (22, 1, 24) := by kernel_rfl
theorem V.aF : sliceB Tryz.prog 77 = some (3, 1, 8) := by kernel_rfl
theorem V.tV : sliceB Tryz.prog 97 = some (109, 3, 24) := by kernel_rfl
theorem V.u3 : tM Tryz.prog 3 = true := by kernel_rfl
theorem V.vl : tM Tryz.prog 38 = true := by kernel_rfl
theorem V.CS : tM Tryz.prog 48 = true := by kernel_rfl
theorem V.u5 : tM Tryz.prog 5 = true := by kernel_rfl
theorem V.MG : dc Tryz.prog 106 = some ([.slice none 0 0, .slice none 0 0, .slice none 0 0]) := by kernel_rfl
theorem V.z109 : dc Tryz.prog 109 = some ([.int .i64 0, .int .i64 0, .int .i64 0]) := by kernel_rfl
theorem V.ui : dc Tryz.prog 110 = some ([.int .i64 0, .int .i64 0]) := by kernel_rfl
theorem V.Ba : dc Tryz.prog 114 = some ([.pointer none, .slice none 0 0, .slice none 0 0]) := by kernel_rfl
theorem V.ME : dc Tryz.prog 129 = some ([.slice none 0 0, .int .i64 0, .int .i64 0, .int .i64 0, .int .i64 0, .int .i64 0, .int .i64 0, .int .i64 0, .int .i64 0, .int .i64 0, .int .i64 0, .int .i64 0, .int .i64 0, .int .i64 0, .int .i64 0, .int .i64 0, .int .i64 0, .slice none 0 0, .int .i64 0]) := by kernel_rfl
theorem V.MB : dc Tryz.prog 134 = some ([.slice none 0 0]) := by kernel_rfl
theorem V.nm : dc Tryz.prog 136 = some ([.int .i64 0, .slice none 0 0]) := by kernel_rfl
theorem V.z145 : dc Tryz.prog 145 = some ([.int .i64 0, .int .i64 0]) := by kernel_rfl
theorem V.Nt : dc Tryz.prog 22 = some ([.slice none 0 0]) := by kernel_rfl
theorem V.z24 : dc Tryz.prog 24 = some ([.int .i64 0]) := by kernel_rfl
theorem V.z3 : dc Tryz.prog 3 = some ([.int .i64 0]) := by kernel_rfl
theorem V.z5 : dc Tryz.prog 5 = some ([.int .u8 0]) := by kernel_rfl
theorem V.z59 : dc Tryz.prog 59 = some ([.slice none 0 0, .int .i64 0, .bool false, .bool false]) := by kernel_rfl
theorem V.z75 : dc Tryz.prog 75 = some ([.pointer none, .int .i64 0, .int .i64 0, .slice none 0 0, .bool false, .int .i64 0, .int .i64 0, .int .i64 0, .bool false, .pointer none, .pointer none, .int .i64 0, .int .i64 0]) := by kernel_rfl
theorem V.NK : dc Tryz.prog 77 = some ([.slice none 0 0]) := by kernel_rfl
theorem V.z85 : dc Tryz.prog 85 = some ([.slice none 0 0, .slice none 0 0, .int .i64 0, .bool false]) := by kernel_rfl
theorem V.z87 : dc Tryz.prog 87 = some ([.slice none 0 0, .slice none 0 0, .int .i64 0, .int .i64 0]) := by kernel_rfl
theorem V.JF : dc Tryz.prog 89 = some ([.slice none 0 0, .slice none 0 0, .int .i64 0, .int .i64 0]) := by kernel_rfl
theorem V.z91 : dc Tryz.prog 91 = some ([]) := by kernel_rfl
theorem V.L3 : dc Tryz.prog 92 = some ([]) := by kernel_rfl
theorem V.No : dc Tryz.prog 96 = some ([.int .i64 0, .int .i64 0, .int .i64 0, .int .i64 0, .int .i64 0, .int .i64 0, .int .i64 0, .int .i64 0, .int .i64 0, .int .i64 0, .int .i64 0, .int .i64 0, .int .i64 0, .int .i64 0, .int .i64 0, .int .i64 0, .slice none 0 0, .slice none 0 0]) := by kernel_rfl
end Go.Proofs.YtmbljkghkcgejaaGreat

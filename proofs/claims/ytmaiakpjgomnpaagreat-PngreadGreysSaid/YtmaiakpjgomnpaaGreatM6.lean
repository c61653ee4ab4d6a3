/- Walks of functions that the law reaches, and what they lean on; no conditions. -/
import Derived.Test.YtmaiakpjgomnpaaGreatM0
import Derived.Test.YtmaiakpjgomnpaaGreatM4
import Derived.Test.YtmaiakpjgomnpaaGreatM2
import Derived.Test.YtmaiakpjgomnpaaGreatM1
import Derived.KernelRfl
import Derived.Test.YtmaiakpjgomnpaaGreatM5
import Derived.Test.YtmaiakpjgomnpaaGreatM3
import Derived.Laws.BytesArg
import Derived.Shelf.Sort.Plain
set_option linter.unusedVariables false
set_option linter.unusedSimpArgs false
set_option maxRecDepth 100000
namespace Go.Proofs.YtmaiakpjgomnpaaGreat
open Go.Sl 
attribute [local irreducible] ae.bb ae.tk ae.ord ae.bM ae.words ae.bY ab.gK ab.bU ab.cC ab.dp ab.hL ab.hD ab.hC ab.eG ab.told ab.fb ab.ig ab.rep ab.eo ab.dw ab.sym ab.cS af.aJ ab.dT ab.cM
set_option maxHeartbeats 2000000 in
theorem w5 (b bl : Nat) (sz mo : Int) (po : Option Addr) (no co : Nat) (li di : Value) (s : ab.St) (B : List Int) (a : Nat) (sy : Int) (h0 : 0 ≤ sy ∧ sy < 1000) (hl : B.length < 500000000) (hB : af.an B) (ha : a ≤ 8 * B.length) : aA Tryz.prog 202 [.pointer (some ⟨b, 0, none⟩), .int .i64 sy] [ai b 223 [.pointer (some ⟨bl, 0, none⟩), .int .i64 sz, .int .i64 mo, .slice po no co, .bool s.ended, .int .i64 0, .int .i64 s.kind, .int .i64 (s.left : Int), .bool s.last, li, di, .int .i64 (s.aw : Int), .int .i64 (s.bA : Int)], LW bl B a [] 0] (gB (ab.eo B sy a) (fun x v G => v = .int .i64 x.1 ∧ G = [ai b 223 [.pointer (some ⟨bl, 0, none⟩), .int .i64 sz, .int .i64 mo, .slice po no co, .bool s.ended, .int .i64 0, .int .i64 s.kind, .int .i64 (s.left : Int), .bool s.last, li, di, .int .i64 (s.aw : Int), .int .i64 (s.bA : Int)], LW bl B x.2 [] 0]) [MX b bl sz mo]) := by
 refine au [(0, _), (1, _)] Tryz.func202 rfl Tryz.ntmps202 rfl rfl ?_
 intro w0 F
 refine (QP) ?_
 rcases (Classical.em (sy < 29)) with hq | hq
 ·refine (Q4)<|(HT)<|(E7) ?_
  rintro _ _ ⟨rfl, rfl⟩
  refine (Qp) ?_
  refine aD rfl (fun h9 => ?_) (fun h9 => ?_)
  ·exact jJ TT 10 rfl (by omega)<|jU (x := (3 + sy, a)) (ab.Af h0.1 (by omega) ha) (av rfl) ⟨rfl, rfl⟩ (sub (aO .nil) ak)
  ·refine (Qs) ?_
   refine aD rfl (fun h14 => ?_) (fun h14 => ?_)
   ·exact rC TT 8 rfl<|jU (x := (258, a)) (ab.Au (by omega) ha) (av rfl) ⟨rfl, rfl⟩ (sub (aO .nil) ak)
   ·refine (Qi)<|(qc)<|(ri) ?_
    rcases (Nat.lt_or_ge (8 * B.length) (a + (ab.fD sy))) with hx | hx
    ·refine (Qa) ?_
     obtain ⟨hk1, hk2, hk3⟩ := ab.yo (s := sy) (by omega) (by omega)
     have hsh := ab.k6 (x := 4 + sy % 4) (n := ab.fD sy) (by omega) (by omega) (by omega) rfl
     have hnb := af.bF B a (ab.fD sy)
     have hnc := af.qn (show ab.fD sy ≤ 24 by omega)
     rw [hk1]
     refine wN [pz 0 [] [1], pz 1 [0] [], pz 3 [1] [], pz 0 [] [5], pz 15 [2, 3] [], pz 31 [4] [], pz 0 [] [0], pz 64 [6] [], pz 192 [7] [], pz 448 [8] [], pz 0 [] [5], pz 1984 [9, 10] [], pz 4095 [5, 11] [], pz 8191 [12] []] [⟨fun y => ai b 223 [.pointer (some ⟨bl, 0, none⟩), .int .i64 sz, .int .i64 mo, .slice po no co, .bool s.ended, .int .i64 0, .int .i64 s.kind, .int .i64 (s.left : Int), .bool s.last, li, di, .int .i64 (s.aw : Int), .int .i64 (s.bA : Int)], none, none, [9, 11]⟩, ⟨fun y => LW bl B a [] 0, none, none, [11]⟩] F V.mixed ?_
     refine nM ?_
     refine nV (fun y hA L => jW rfl rfl (by omega) (lh (by omega))) ?_
     refine nV (fun y hA L => ei rfl rfl wI) ?_
     refine nM ?_
     refine nV (fun y hA L => gA (r := (4 + sy % 4) * 2 ^ ab.fD sy) rfl rfl (by omega) hsh.1) ?_
     refine nV (fun y hA L => ei rfl rfl wI) ?_
     refine nM ?_
     refine nN ?_
     refine nG V.gv ?_
     refine nR (fun y FF hA => az V.fT rfl aB rfl) ?_
     refine nM ?_
     refine aU (undef) _ _ (fun y => rfl) rfl (fun y => rfl) (fun y FF hA => fc (fx bl B a [] 0 (ab.fD sy) hl hB (by omega) (by omega) (by omega)) V.ef rfl (.cons ax .nil) (by rintro _ _ ⟨rfl, rfl⟩; exact kr (ab.vu (by omega) (by omega) hx) PE.end_ (aM (.cons ax .nil) (by exact wg (M := FF) (F := F)) (fun w0 h hh => bQ hh)))) ?_
     refine aU (.bool true) _ _ (fun y => rfl) rfl (fun y => rfl) (fun y FF hA => (cL.fact (hA 11 (by decide)) (q := fun _ => False) rfl).elim) ?_
     refine aU (.bool true) _ _ (fun y => rfl) rfl (fun y => rfl) (fun y FF hA => (cL.fact (hA 11 (by decide)) (q := fun _ => False) rfl).elim) ?_
     refine cQ ?_
     intro y hA
     exact (cL.fact (hA 11 (by exact Nat.le_of_ble_eq_true rfl)) (q := fun _ => False) rfl).elim
    ·refine (Qa) ?_
     obtain ⟨hk1, hk2, hk3⟩ := ab.yo (s := sy) (by omega) (by omega)
     have hsh := ab.k6 (x := 4 + sy % 4) (n := ab.fD sy) (by omega) (by omega) (by omega) rfl
     have hnb := af.bF B a (ab.fD sy)
     have hnc := af.qn (show ab.fD sy ≤ 24 by omega)
     rw [hk1]
     refine wN [pz 0 [] [1], pz 1 [0] [], pz 3 [1] [], pz 0 [] [5], pz 15 [2, 3] [], pz 31 [4] [], pz 0 [] [0], pz 64 [6] [], pz 192 [7] [], pz 448 [8] [], pz 0 [] [5], pz 1984 [9, 10] [], pz 4095 [5, 11] [], pz 8191 [12] []] [⟨fun y => ai b 223 [.pointer (some ⟨bl, 0, none⟩), .int .i64 sz, .int .i64 mo, .slice po no co, .bool s.ended, .int .i64 0, .int .i64 s.kind, .int .i64 (s.left : Int), .bool s.last, li, di, .int .i64 (s.aw : Int), .int .i64 (s.bA : Int)], none, none, [9]⟩, ⟨fun y => LW bl B a [] 0, none, some 11, []⟩, ⟨fun y => LW bl B (a + (ab.fD sy)) [] 0, some 11, none, []⟩] F V.mixed ?_
     refine nM ?_
     refine nV (fun y hA L => jW rfl rfl (by omega) (lh (by omega))) ?_
     refine nV (fun y hA L => ei rfl rfl wI) ?_
     refine nM ?_
     refine nV (fun y hA L => gA (r := (4 + sy % 4) * 2 ^ ab.fD sy) rfl rfl (by omega) hsh.1) ?_
     refine nV (fun y hA L => ei rfl rfl wI) ?_
     refine nM ?_
     refine nN ?_
     refine nG V.gv ?_
     refine nR (fun y FF hA => az V.fT rfl aB rfl) ?_
     refine nM ?_
     refine nE (fun y FF hA => aV (Post := [LW bl B (a + (ab.fD sy)) [] 0]) (eQ bl B a [] 0 (ab.fD sy) hl hB (by omega) (by omega)) V.ef rfl (ao .nil) (fun v G h => by rcases h with ⟨rfl, rfl⟩; exact ⟨rfl, .refl _⟩)) ?_
     refine nV (fun y hA L => ei rfl rfl wI) ?_
     refine nA ?_
     refine cQ ?_
     intro y hA
     clear hA
     refine bj<|bD _ (.cons (d := 4) rfl (.nil _))<|a7 (M := ai b 223 [.pointer (some ⟨bl, 0, none⟩), .int .i64 sz, .int .i64 mo, .slice po no co, .bool s.ended, .int .i64 0, .int .i64 s.kind, .int .i64 (s.left : Int), .bool s.last, li, di, .int .i64 (s.aw : Int), .int .i64 (s.bA : Int)] :: LW bl B (a + (ab.fD sy)) [] 0 :: F) (fun _ _ h => h)<|(Qa) ?_
     exact jU (x := (3 + (4 + sy % 4) * 2 ^ ab.fD sy + af.aJ B a (ab.fD sy), a + ab.fD sy)) (ab.Dr (by omega) (by omega) hx) (av rfl) ⟨rfl, rfl⟩ (sub (aO .nil) ak)
 ·refine (Q4) ?_
  refine oV (bS (dR rfl rfl) hq)<|(AE) ?_
  rintro _ _ ⟨rfl, rfl⟩
  refine (cU ?_)
  exact dq (ab.CC (by omega)) (PE.no (by decide)) (aM (ao .nil) bu (fun w0 h hh => bQ hh))
set_option maxHeartbeats 2000000 in
theorem Ed (b bl : Nat) (sz mo : Int) (po : Option Addr) (no co : Nat) (li : Value) (dd : Nat) (s : ab.St) (B ds : List Int) (a : Nat) (hE : ae.bb ds = 0) (hd : 0 < ds.length) (hl : B.length < 500000000) (hB : af.an B) (ha : a ≤ 8 * B.length) : aA Tryz.prog 203 [.pointer (some ⟨b, 0, none⟩)] [ai b 223 [.pointer (some ⟨bl, 0, none⟩), .int .i64 sz, .int .i64 mo, .slice po no co, .bool s.ended, .int .i64 0, .int .i64 s.kind, .int .i64 (s.left : Int), .bool s.last, li, (.pointer (some ⟨dd, 0, none⟩)), .int .i64 (s.aw : Int), .int .i64 (s.bA : Int)], HC dd ds, LW bl B a [] 0] (gB (ab.dw B ds a) (fun x v G => v = .int .i64 x.1 ∧ G = [ai b 223 [.pointer (some ⟨bl, 0, none⟩), .int .i64 sz, .int .i64 mo, .slice po no co, .bool s.ended, .int .i64 0, .int .i64 s.kind, .int .i64 (s.left : Int), .bool s.last, li, (.pointer (some ⟨dd, 0, none⟩)), .int .i64 (s.aw : Int), .int .i64 (s.bA : Int)], HC dd ds, LW bl B x.2 [] 0]) [MX b bl sz mo]) := by
 refine au [(0, _)] Tryz.func203 rfl Tryz.ntmps203 rfl rfl ?_
 intro w0 F
 have hdl := ab.x9 hE
 refine (QP) ?_
 rcases (ab.yc (B := B) (ls := ds) (a := a) hE hd) with ⟨e, hs⟩ | ⟨sy, a3, hs, h0, h1, h2, h3⟩
 ·refine (Qa) ?_
  refine wN [pz 0 [] [0], pz 1 [0] [], pz 3 [1] [], pz 7 [2] [], pz 0 [] [0], pz 16 [4] [], pz 48 [5] [], pz 112 [6] [], pz 255 [3, 7] [], pz 511 [8] []] [⟨fun y => ai b 223 [.pointer (some ⟨bl, 0, none⟩), .int .i64 sz, .int .i64 mo, .slice po no co, .bool s.ended, .int .i64 0, .int .i64 s.kind, .int .i64 (s.left : Int), .bool s.last, li, (.pointer (some ⟨dd, 0, none⟩)), .int .i64 (s.aw : Int), .int .i64 (s.bA : Int)], none, none, [3, 7, 8]⟩, ⟨fun y => HC dd ds, none, none, [8]⟩, ⟨fun y => LW bl B a [] 0, none, none, [8]⟩] F V.mixed ?_
  refine nM ?_
  refine nN ?_
  refine nG V.uS ?_
  refine (Jp) ?_
  refine nM ?_
  refine nN ?_
  refine (mq) ?_
  refine (mv) ?_
  refine aU (undef) _ _ (fun y => rfl) rfl (fun y => rfl) (fun y FF hA => fc ((mz dd ds bl B a [] 0 hE hl hB ha).err hs) V.pX rfl (.cons ax (.cons ax .nil)) (by rintro _ _ ⟨hp, rfl⟩; exact kr (ab.CZ hs) hp (aM (ao .nil) (by exact vx (M := FF) (F := F)) (fun w0 h hh => bQ hh)))) ?_
  refine (UB) ?_
  refine (Qb) ?_
  intro y hA
  exact (cL.fact (hA 8 (by exact Nat.le_of_ble_eq_true rfl)) (q := fun _ => False) rfl).elim
 ·refine (Qa) ?_
  refine wN [pz 0 [] [0], pz 1 [0] [], pz 3 [1] [], pz 7 [2] [], pz 0 [] [0], pz 16 [4] [], pz 48 [5] [], pz 112 [6] [], pz 255 [3, 7] [], pz 511 [8] []] [⟨fun y => ai b 223 [.pointer (some ⟨bl, 0, none⟩), .int .i64 sz, .int .i64 mo, .slice po no co, .bool s.ended, .int .i64 0, .int .i64 s.kind, .int .i64 (s.left : Int), .bool s.last, li, (.pointer (some ⟨dd, 0, none⟩)), .int .i64 (s.aw : Int), .int .i64 (s.bA : Int)], none, none, [3, 7]⟩, ⟨fun y => HC dd ds, none, some 8, []⟩, ⟨fun y => LW bl B a [] 0, none, some 8, []⟩, ⟨fun y => HC dd ds, some 8, none, []⟩, ⟨fun y => LW bl B a3 [] 0, some 8, none, []⟩] F V.mixed ?_
  refine nM ?_
  refine nN ?_
  refine nG V.uS ?_
  refine (Jp) ?_
  refine nM ?_
  refine nN ?_
  refine (mq) ?_
  refine (mv) ?_
  refine nE (fun y FF hA => aV (Post := [HC dd ds, LW bl B a3 [] 0]) ((mz dd ds bl B a [] 0 hE hl hB ha).ok hs) V.pX rfl (aO .nil) (fun v G h => by rcases h with ⟨rfl, rfl⟩; exact ⟨rfl, .refl _⟩)) ?_
  refine nA ?_
  refine (Qb) ?_
  intro y hA
  clear hA
  refine bj<|bD _ (.cons (d := 0) rfl (.cons (d := 3) rfl (.nil _)))<|a7 (M := ai b 223 [.pointer (some ⟨bl, 0, none⟩), .int .i64 sz, .int .i64 mo, .slice po no co, .bool s.ended, .int .i64 0, .int .i64 s.kind, .int .i64 (s.left : Int), .bool s.last, li, (.pointer (some ⟨dd, 0, none⟩)), .int .i64 (s.aw : Int), .int .i64 (s.bA : Int)] :: HC dd ds :: LW bl B a3 [] 0 :: F) (fun _ _ h => h) ?_
  rcases (Classical.em (sy < 30)) with hq | hq
  ·refine (Q4)<|(HT)<|(E7) ?_
   rintro _ _ ⟨rfl, rfl⟩
   refine (Qn) ?_
   refine aD rfl (fun h18 => ?_) (fun h18 => ?_)
   ·exact jJ TT 9 rfl (by omega)<|jU (x := (1 + sy, a3)) (ab.yw hs h0 (by omega) h3) (av rfl) ⟨rfl, rfl⟩ (sub (eU .nil) ak)
   ·refine (Qf)<|(qc)<|(ri) ?_
    rcases (Nat.lt_or_ge (8 * B.length) (a3 + (ab.fU sy))) with hx | hx
    ·refine (Qa) ?_
     obtain ⟨hk1, hk2, hk3⟩ := ab.wQ (s := sy) (by omega) (by omega)
     have hsh := ab.k6 (x := 2 + sy % 2) (n := ab.fU sy) (by omega) (by omega) (by omega) rfl
     have hnb := af.bF B a3 (ab.fU sy)
     have hnc := af.qn (show ab.fU sy ≤ 24 by omega)
     rw [hk1]
     refine wN [pz 0 [] [3], pz 1 [0] [], pz 3 [1] [], pz 0 [] [4], pz 15 [2, 3] [], pz 31 [4] [], pz 0 [] [0], pz 64 [6] [], pz 192 [7] [], pz 448 [8] [], pz 0 [] [4], pz 1984 [9, 10] [], pz 4095 [5, 11] [], pz 8191 [12] []] [⟨fun y => ai b 223 [.pointer (some ⟨bl, 0, none⟩), .int .i64 sz, .int .i64 mo, .slice po no co, .bool s.ended, .int .i64 0, .int .i64 s.kind, .int .i64 (s.left : Int), .bool s.last, li, (.pointer (some ⟨dd, 0, none⟩)), .int .i64 (s.aw : Int), .int .i64 (s.bA : Int)], none, none, [9, 11]⟩, ⟨fun y => HC dd ds, none, none, []⟩, ⟨fun y => LW bl B a3 [] 0, none, none, [11]⟩] F V.mixed ?_
     refine nM ?_
     refine (O0) ?_
     refine (Qz) ?_
     refine nM ?_
     refine (VD) ?_
     refine (Qz) ?_
     refine nM ?_
     refine nN ?_
     refine (mq) ?_
     refine (mv) ?_
     refine nM ?_
     refine aU (undef) _ _ (fun y => rfl) rfl (fun y => rfl) (fun y FF hA => fc (fx bl B a3 [] 0 (ab.fU sy) hl hB (by omega) (by omega) (by omega)) V.ef rfl (.cons ax .nil) (by rintro _ _ ⟨rfl, rfl⟩; exact kr (ab.sQ hs (by omega) (by omega) hx) PE.end_ (aM (.cons ax .nil) (by exact wg (M := FF) (F := F)) (fun w0 h hh => bQ hh)))) ?_
     refine (Wu) ?_
     refine (Wu) ?_
     refine (Qb) ?_
     intro y hA
     exact (cL.fact (hA 11 (by exact Nat.le_of_ble_eq_true rfl)) (q := fun _ => False) rfl).elim
    ·refine (Qa) ?_
     obtain ⟨hk1, hk2, hk3⟩ := ab.wQ (s := sy) (by omega) (by omega)
     have hsh := ab.k6 (x := 2 + sy % 2) (n := ab.fU sy) (by omega) (by omega) (by omega) rfl
     have hnb := af.bF B a3 (ab.fU sy)
     have hnc := af.qn (show ab.fU sy ≤ 24 by omega)
     rw [hk1]
     refine wN [pz 0 [] [3], pz 1 [0] [], pz 3 [1] [], pz 0 [] [4], pz 15 [2, 3] [], pz 31 [4] [], pz 0 [] [0], pz 64 [6] [], pz 192 [7] [], pz 448 [8] [], pz 0 [] [4], pz 1984 [9, 10] [], pz 4095 [5, 11] [], pz 8191 [12] []] [⟨fun y => ai b 223 [.pointer (some ⟨bl, 0, none⟩), .int .i64 sz, .int .i64 mo, .slice po no co, .bool s.ended, .int .i64 0, .int .i64 s.kind, .int .i64 (s.left : Int), .bool s.last, li, (.pointer (some ⟨dd, 0, none⟩)), .int .i64 (s.aw : Int), .int .i64 (s.bA : Int)], none, none, [9]⟩, ⟨fun y => HC dd ds, none, none, []⟩, ⟨fun y => LW bl B a3 [] 0, none, some 11, []⟩, ⟨fun y => LW bl B (a3 + (ab.fU sy)) [] 0, some 11, none, []⟩] F V.mixed ?_
     refine nM ?_
     refine (O0) ?_
     refine (Qz) ?_
     refine nM ?_
     refine (VD) ?_
     refine (Qz) ?_
     refine nM ?_
     refine nN ?_
     refine (mq) ?_
     refine (mv) ?_
     refine nM ?_
     refine nE (fun y FF hA => aV (Post := [LW bl B (a3 + (ab.fU sy)) [] 0]) (eQ bl B a3 [] 0 (ab.fU sy) hl hB (by omega) (by omega)) V.ef rfl (ao .nil) (fun v G h => by rcases h with ⟨rfl, rfl⟩; exact ⟨rfl, .refl _⟩)) ?_
     refine (Qz) ?_
     refine nA ?_
     refine (Qb) ?_
     intro y hA
     clear hA
     refine bj<|(Jc) ?_
     refine a7 (M := ai b 223 [.pointer (some ⟨bl, 0, none⟩), .int .i64 sz, .int .i64 mo, .slice po no co, .bool s.ended, .int .i64 0, .int .i64 s.kind, .int .i64 (s.left : Int), .bool s.last, li, (.pointer (some ⟨dd, 0, none⟩)), .int .i64 (s.aw : Int), .int .i64 (s.bA : Int)] :: HC dd ds :: LW bl B (a3 + (ab.fU sy)) [] 0 :: F) (fun _ _ h => h)<|(Qa) ?_
     exact jU (x := (1 + (2 + sy % 2) * 2 ^ ab.fU sy + af.aJ B a3 (ab.fU sy), a3 + ab.fU sy)) (ab.zg hs (by omega) (by omega) hx) (av rfl) ⟨rfl, rfl⟩ (sub (eU .nil) ak)
  ·refine (Q4) ?_
   refine oV (bS (dR rfl rfl) hq)<|(AE) ?_
   rintro _ _ ⟨rfl, rfl⟩
   refine (cU ?_)
   exact dq (ab.zH hs (by omega)) (PE.no (by decide)) (aM (ao .nil) fV (fun w0 h hh => bQ hh))
set_option maxHeartbeats 4000000 in
theorem z7 (b bl : Nat) (sz mo : Int) (li di : Value) (s : ab.St) (B : List Int) (hl : B.length < 500000000) (hB : af.an B) (ha : s.at_ ≤ 8 * B.length) : aA Tryz.prog 180 [.pointer (some ⟨b, 0, none⟩)] [MS b bl sz mo li di s, LW bl B s.at_ [] 0] (gB (ab.cM B s) (fun s2 v G => v = .tuple #[] ∧ G = [MM b bl sz mo B s2]) [MX b bl sz mo]) := by
 refine au [(0, _)] Tryz.func180 rfl Tryz.ntmps180 rfl rfl ?_
 intro w0 F
 refine (qa) ?_
 rintro ⟨po, co⟩ _
 dsimp only
 have hn1 := af.bF B (ab.cS (s.at_ + 3)) 16
 have hn2 := af.bF B ((ab.cS (s.at_ + 3)) + 16) 16
 have hal : ab.cS (s.at_ + 3) = (s.at_ + 3 + 7) / 8 * 8 := ab.xU _
 rcases (Nat.lt_or_ge (8 * B.length) (s.at_ + 1)) with hx0 | hx0
 ·refine (QU)<|(oM) ?_
  refine dg (fx bl B s.at_ [] 0 1 hl hB (by omega) (by omega) (by omega)) V.ef rfl (.cons bo .nil) ?_
  rintro _ _ ⟨rfl, rfl⟩
  refine (cU ?_)
  exact dq (ab.BT (by omega)) PE.end_ (aM (.cons ax .nil) fV (fun w0 h hh => bQ hh))
 ·refine (QU)<|(oM) ?_
  refine aj (eQ bl B s.at_ [] 0 1 hl hB (by omega) (by omega)) V.ef  rfl (.cons bo .nil) rfl ?_
  rintro _ _ ⟨rfl, rfl⟩
  refine (Qg)<|(vo)<|(Q6) ?_
  rcases (Nat.lt_or_ge (8 * B.length) (s.at_ + 3)) with hx1 | hx1
  ·refine (Qi) ?_
   refine oV (az V.fT rfl dC rfl)<|dg (fx bl B (s.at_ + 1) [] 0 2 hl hB (by omega) (by omega) (by omega)) V.ef rfl (ao .nil) ?_
   rintro _ _ ⟨rfl, rfl⟩
   refine (cU ?_)
   exact dq (ab.BT (by omega)) PE.end_ (aM (.cons ax .nil) fV (fun w0 h hh => bQ hh))
  ·refine (Qi) ?_
   refine oV (az V.fT rfl dC rfl)<|aj (eQ bl B (s.at_ + 1) [] 0 2 hl hB (by omega) (by omega)) V.ef  rfl (ao .nil) rfl ?_
   rintro _ _ ⟨rfl, rfl⟩
   refine (Q6) ?_
   refine cA (dD V.s3 rfl rfl rfl (by exact qT) (by exact Nat.le_of_ble_eq_true rfl) rfl)<|(Qc)<|(QW)<|(Qn) ?_
   refine aD rfl (fun h26 => ?_) (fun h26 => ?_)
   ·refine (Qf) ?_
    refine oV (az V.fT rfl dC rfl)<|aj (KQ bl B (s.at_ + 3) [] 0 hl (by omega)) V.WZ  rfl (ao .nil) rfl ?_
    rintro _ _ ⟨rfl, rfl⟩
    refine (Q6) ?_
    rcases (ab.Um B.length (ab.cS (s.at_ + 3))) with hx | ⟨hx2, hx⟩ | hx
    ·refine (Qa) ?_
     have hk0 : (af.aJ B (s.at_ + 1) 2) = 0 := by omega
     refine wN [pz 0 [] [0], pz 1 [0] [], pz 3 [1] [], pz 7 [2] [], pz 15 [3] [], pz 0 [] [0], pz 32 [5] [], pz 96 [6] [], pz 224 [7] [], pz 511 [8] [], pz 1023 [4] [], pz 2047 [9] []] [⟨fun y => LW bl B (ab.cS (s.at_ + 3)) [] 0, none, none, [4]⟩, ⟨fun y => ai b 223 [.pointer (some ⟨bl, 0, none⟩), .int .i64 sz, .int .i64 mo, .slice po s.out.length co, .bool s.ended, .int .i64 0, .int .i64 (af.aJ B (s.at_ + 1) 2), .int .i64 (s.left : Int), .bool (decide (af.aJ B s.at_ 1 = 1)), li, di, .int .i64 (s.aw : Int), .int .i64 (s.bA : Int)], none, none, [3, 4, 8]⟩, ⟨fun y => Row U5 po s.out.length co s.out, none, none, []⟩] F V.mixed ?_
     refine nM ?_
     refine nN ?_
     refine (mq) ?_
     refine (mv) ?_
     refine aU (undef) _ _ (fun y => rfl) rfl (fun y => rfl) (fun y FF hA => fc (fx bl B (ab.cS (s.at_ + 3)) [] 0 16 hl hB (by omega) (by omega) (by omega)) V.ef rfl (ao .nil) (by rintro _ _ ⟨rfl, rfl⟩; exact kr (ab.xv hx1 hk0 (by omega)) PE.end_ (aM (.cons ax .nil) (by exact wg (M := FF) (F := F)) (fun w0 h hh => bQ hh)))) ?_
     refine nM ?_
     refine nN ?_
     refine (mq) ?_
     refine (mv) ?_
     refine (RD) ?_
     refine (RD) ?_
     refine (RD) ?_
     refine (Qb) ?_
     intro y hA
     exact (cL.fact (hA 4 (by exact Nat.le_of_ble_eq_true rfl)) (q := fun _ => False) rfl).elim
    ·refine (Qa) ?_
     have hk0 : (af.aJ B (s.at_ + 1) 2) = 0 := by omega
     refine wN [pz 0 [] [0], pz 1 [0] [], pz 3 [1] [], pz 7 [2] [], pz 15 [3] [], pz 0 [] [0], pz 32 [5] [], pz 96 [6] [], pz 224 [7] [], pz 511 [8] [], pz 1023 [4] [], pz 2047 [9] []] [⟨fun y => LW bl B (ab.cS (s.at_ + 3)) [] 0, none, some 4, []⟩, ⟨fun y => ai b 223 [.pointer (some ⟨bl, 0, none⟩), .int .i64 sz, .int .i64 mo, .slice po s.out.length co, .bool s.ended, .int .i64 0, .int .i64 (af.aJ B (s.at_ + 1) 2), .int .i64 (s.left : Int), .bool (decide (af.aJ B s.at_ 1 = 1)), li, di, .int .i64 (s.aw : Int), .int .i64 (s.bA : Int)], none, none, [3, 8, 9]⟩, ⟨fun y => Row U5 po s.out.length co s.out, none, none, []⟩, ⟨fun y => LW bl B ((ab.cS (s.at_ + 3)) + 16) [] 0, some 4, none, [9]⟩] F V.mixed ?_
     refine nM ?_
     refine nN ?_
     refine (mq) ?_
     refine (mv) ?_
     refine (VI) ?_
     refine nM ?_
     refine nN ?_
     refine (mq) ?_
     refine (mv) ?_
     refine aU (undef) _ _ (fun y => rfl) rfl (fun y => rfl) (fun y FF hA => fc (fx bl B ((ab.cS (s.at_ + 3)) + 16) [] 0 16 hl hB (by omega) (by omega) (by omega)) V.ef rfl (.cons ax .nil) (by rintro _ _ ⟨rfl, rfl⟩; exact kr (ab.xv hx1 hk0 (by omega)) PE.end_ (aM (.cons ax .nil) (by exact wg (M := FF) (F := F)) (fun w0 h hh => bQ hh)))) ?_
     refine (UY) ?_
     refine (UY) ?_
     refine (Qb) ?_
     intro y hA
     exact (cL.fact (hA 9 (by exact Nat.le_of_ble_eq_true rfl)) (q := fun _ => False) rfl).elim
    ·refine (Qa) ?_
     have hk0 : (af.aJ B (s.at_ + 1) 2) = 0 := by omega
     refine wN [pz 0 [] [0], pz 1 [0] [], pz 3 [1] [], pz 7 [2] [], pz 15 [3] [], pz 0 [] [0], pz 32 [5] [], pz 96 [6] [], pz 224 [7] [], pz 511 [8] [], pz 1023 [4] [], pz 2047 [9] []] [⟨fun y => LW bl B (ab.cS (s.at_ + 3)) [] 0, none, some 4, []⟩, ⟨fun y => ai b 223 [.pointer (some ⟨bl, 0, none⟩), .int .i64 sz, .int .i64 mo, .slice po s.out.length co, .bool s.ended, .int .i64 0, .int .i64 (af.aJ B (s.at_ + 1) 2), .int .i64 (s.left : Int), .bool (decide (af.aJ B s.at_ 1 = 1)), li, di, .int .i64 (s.aw : Int), .int .i64 (s.bA : Int)], none, none, [3, 8]⟩, ⟨fun y => Row U5 po s.out.length co s.out, none, none, []⟩, ⟨fun y => LW bl B ((ab.cS (s.at_ + 3)) + 16) [] 0, some 4, some 9, []⟩, ⟨fun y => LW bl B ((ab.cS (s.at_ + 3)) + 32) [] 0, some 9, none, []⟩] F V.mixed ?_
     refine nM ?_
     refine nN ?_
     refine (mq) ?_
     refine (mv) ?_
     refine (VI) ?_
     refine nM ?_
     refine nN ?_
     refine (mq) ?_
     refine (mv) ?_
     refine nE (fun y FF hA => aV (Post := [LW bl B ((ab.cS (s.at_ + 3)) + 32) [] 0]) (eQ bl B ((ab.cS (s.at_ + 3)) + 16) [] 0 16 hl hB (by omega) (by omega)) V.ef rfl (ao .nil) (fun v G h => by rcases h with ⟨rfl, rfl⟩; exact ⟨rfl, .refl _⟩)) ?_
     iterate 2 refine nA ?_
     refine (Qb) ?_
     intro y hA
     clear hA
     refine bj<|bD _ (.cons (d := 0) rfl (.cons (d := 2) rfl (.cons (d := 3) rfl (.nil _))))<|a7 (M := ai b 223 [.pointer (some ⟨bl, 0, none⟩), .int .i64 sz, .int .i64 mo, .slice po s.out.length co, .bool s.ended, .int .i64 0, .int .i64 (af.aJ B (s.at_ + 1) 2), .int .i64 (s.left : Int), .bool (decide (af.aJ B s.at_ 1 = 1)), li, di, .int .i64 (s.aw : Int), .int .i64 (s.bA : Int)] :: Row U5 po s.out.length co s.out :: LW bl B ((ab.cS (s.at_ + 3)) + 32) [] 0 :: F) (fun _ _ h => h) ?_
     rcases (Classical.em ((af.aJ B (ab.cS (s.at_ + 3)) 16) = 65535 - (af.aJ B ((ab.cS (s.at_ + 3)) + 16) 16))) with hm | hm
     ·refine (Q5)<|(Vj) ?_
      refine oV (c9 (dz rfl rfl) ((ab.HY hn1 hn2).2 hm))<|(E7) ?_
      rintro _ _ ⟨rfl, rfl⟩
      refine (Qc)<|(pY)<|(Q6) ?_
      rw [hk0, show (af.aJ B (ab.cS (s.at_ + 3)) 16) = ((((af.aJ B (ab.cS (s.at_ + 3)) 16)).toNat : Nat) : Int) from (Int.toNat_of_nonneg hn1.1).symm]
      exact gr (x := { s with at_ := ab.cS (s.at_ + 3) + 32, kind := 0, left := (af.aJ B (ab.cS (s.at_ + 3)) 16).toNat, last := (decide (af.aJ B s.at_ 1 = 1)) }) (ab.yE hx1 hk0 (by omega) hm) eH ⟨rfl, rfl⟩ ((aM (aO .nil) .refl (fun w0 h hh => cT (s := { s with at_ := ab.cS (s.at_ + 3) + 32, kind := 0, left := (af.aJ B (ab.cS (s.at_ + 3)) 16).toNat, last := (decide (af.aJ B s.at_ 1 = 1)) }) rfl hh)).trans (aM (aO .nil) ak (fun w0 h hh => mL (s := { s with at_ := ab.cS (s.at_ + 3) + 32, kind := 0, left := (af.aJ B (ab.cS (s.at_ + 3)) 16).toNat, last := (decide (af.aJ B s.at_ 1 = 1)) }) (Int.le_refl _) hh)))
     ·refine (Q5)<|(Vj) ?_
      refine oV (bS (dz rfl rfl) (fun h => hm ((ab.HY hn1 hn2).1 h)))<|(AE) ?_
      rintro _ _ ⟨rfl, rfl⟩
      refine (cU (eE ?_))
      exact dq (ab.DA hx1 hk0 (by omega) hm) (PE.no (by decide)) (aM (ao .nil) fV (fun w0 h hh => bQ hh))
   ·refine (Qi) ?_
    refine aD rfl (fun h52 => ?_) (fun h52 => ?_)
    ·refine (Q9) ?_
     refine aj (K2 b bl sz mo po s.out.length co li di { s with kind := (af.aJ B (s.at_ + 1) 2), last := (decide (af.aJ B s.at_ 1 = 1)) }) V.Xg  rfl (.cons ax .nil) rfl ?_
     rintro _ _ ⟨lb, db, rfl, rfl⟩
     refine (Q6) ?_
     have hk1 : (af.aJ B (s.at_ + 1) 2) = 1 := by omega
     rw [hk1]
     exact gr (x := { s with at_ := s.at_ + 3, kind := 1, last := (decide (af.aJ B s.at_ 1 = 1)), lits := ab.fb, dH := ab.kq }) (ab.Jb hx1 hk1) eH ⟨rfl, rfl⟩ ((aM (ao (.cons dk .nil)) .refl (fun w0 h hh => cT (s := { s with at_ := s.at_ + 3, kind := 1, last := (decide (af.aJ B s.at_ 1 = 1)), lits := ab.fb, dH := ab.kq }) rfl hh)).trans (aM (ao (.cons bo (.cons dj (.cons dj .nil)))) ak (fun w0 h hh => k9 (s := { s with at_ := s.at_ + 3, kind := 1, last := (decide (af.aJ B s.at_ 1 = 1)), lits := ab.fb, dH := ab.kq }) hh)))
    ·refine (Qi) ?_
     refine aD rfl (fun h56 => ?_) (fun h56 => ?_)
     ·rcases (ab.fF (ab.told B (s.at_ + 3))) with ⟨e, ht⟩ | ⟨⟨x3, ll, dl⟩, ht⟩
      ·refine (Q9) ?_
       refine dg ((Dc b bl sz mo po s.out.length co li di { s with kind := (af.aJ B (s.at_ + 1) 2), last := (decide (af.aJ B s.at_ 1 = 1)) } B (s.at_ + 3) hl hB (by omega)).err ht) V.P8 rfl (.cons ax (ao .nil)) ?_
       rintro _ _ ⟨hp, rfl⟩
       refine (eE ?_)
       exact dq (ab.EM hx1 (by omega) ht) hp (sub (ao .nil) bu)
      ·refine (Q9) ?_
       refine aj ((Dc b bl sz mo po s.out.length co li di { s with kind := (af.aJ B (s.at_ + 1) 2), last := (decide (af.aJ B s.at_ 1 = 1)) } B (s.at_ + 3) hl hB (by omega)).ok ht) V.P8  rfl (.cons ax (ao .nil)) rfl ?_
       rintro _ _ ⟨lb, db, rfl, rfl⟩
       refine (Q6) ?_
       have hk2 : (af.aJ B (s.at_ + 1) 2) = 2 := by omega
       rw [hk2]
       exact gr (x := { s with at_ := x3, kind := 2, last := (decide (af.aJ B s.at_ 1 = 1)), lits := ll, dH := dl }) (ab.CV hx1 hk2 ht) eH ⟨rfl, rfl⟩ ((aM (ao (.cons dk .nil)) .refl (fun w0 h hh => cT (s := { s with at_ := x3, kind := 2, last := (decide (af.aJ B s.at_ 1 = 1)), lits := ll, dH := dl }) rfl hh)).trans (aM (mf .nil) ak (fun w0 h hh => k9 (s := { s with at_ := x3, kind := 2, last := (decide (af.aJ B s.at_ 1 = 1)), lits := ll, dH := dl }) hh)))
     ·refine (Qo)<|(AE) ?_
      rintro _ _ ⟨rfl, rfl⟩
      refine (eE ?_)
      exact dq (ab.Ds hx1 (by omega) (by omega) (by omega)) (PE.no (by decide)) (aM (.cons ax .nil) fV (fun w0 h hh => bQ hh))
end Go.Proofs.YtmaiakpjgomnpaaGreat
namespace Go.Proofs.YtmaiakpjgomnpaaGreat
open Go.Sl 
attribute [local irreducible] ae.bb ae.tk ae.ord ae.bM ae.words ae.bY ab.gK ab.bU ab.cC ab.dp ab.hL ab.hD ab.hC ab.eG ab.told ab.fb ab.ig ab.rep ab.eo ab.dw ab.sym ab.cS af.aJ ab.dT ab.cM ab.dP
theorem mU (b bl : Nat) (sz mo : Int) (po : Option Addr) (co : Nat) (li di : Value) (s : ab.St) (yb : Int) (hy : 0 ≤ yb ∧ yb < 256) (hm : mo < 1000000000) : aA Tryz.prog 179 [.pointer (some ⟨b, 0, none⟩), .int .u8 yb] [ai b 223 [.pointer (some ⟨bl, 0, none⟩), .int .i64 sz, .int .i64 mo, .slice po s.out.length co, .bool s.ended, .int .i64 0, .int .i64 s.kind, .int .i64 (s.left : Int), .bool s.last, li, di, .int .i64 (s.aw : Int), .int .i64 (s.bA : Int)], Row U5 po s.out.length co s.out] (gB (ab.dP mo s yb) (fun s2 v G => v = .tuple #[] ∧ G = [MS b bl sz mo li di s2]) [MX b bl sz mo]) :=
 aA.fold (Sc b bl sz mo li di s yb hy hm) (fun w0 h hh => cT rfl hh)
set_option maxHeartbeats 4000000 in
theorem Aa (b bl : Nat) (sz mo : Int) (l d : Nat) (s : ab.St) (B : List Int) (hl : B.length < 500000000) (hB : af.an B) (hm : mo < 1000000000) (hok : ab.Ok B mo s) (hk : 0 < s.kind) : aA Tryz.prog 181 [.pointer (some ⟨b, 0, none⟩)] [MS b bl sz mo (.pointer (some ⟨l, 0, none⟩)) (.pointer (some ⟨d, 0, none⟩)) s, LW bl B s.at_ [] 0, HC l s.lits, HC d s.dH] (gB (ab.dT B mo s) (fun s2 v G => v = .tuple #[] ∧ G = [MM b bl sz mo B s2]) [MX b bl sz mo]) := by
 refine au [(0, _)] Tryz.func181 rfl Tryz.ntmps181 rfl rfl ?_
 intro w0 F
 refine (qa) ?_
 rintro ⟨po, co⟩ _
 dsimp only
 obtain ⟨hE1, hE2, hz1, hz2⟩ := hok.Iu hk
 have ha := hok.at_
 have hll := ab.x9 hE1
 have hro := hok.room
 rcases (ab.yc (B := B) (ls := s.lits) (a := s.at_) hE1 hz1) with ⟨e, hs⟩ | ⟨sy, a1, hs, hy0, hy1, ha0, ha1⟩
 ·refine rT TT 1 rfl ?_
  refine wN [pz 0 [] [0], pz 1 [0] [], pz 3 [1] [], pz 7 [2] [], pz 0 [] [0], pz 16 [4] [], pz 48 [5] [], pz 112 [6] [], pz 255 [3, 7] [], pz 511 [8] []] [⟨fun y => ai b 223 [.pointer (some ⟨bl, 0, none⟩), .int .i64 sz, .int .i64 mo, .slice po s.out.length co, .bool s.ended, .int .i64 0, .int .i64 s.kind, .int .i64 (s.left : Int), .bool s.last, (.pointer (some ⟨l, 0, none⟩)), (.pointer (some ⟨d, 0, none⟩)), .int .i64 (s.aw : Int), .int .i64 (s.bA : Int)], none, none, [3, 7, 8]⟩, ⟨fun y => Row U5 po s.out.length co s.out, none, none, []⟩, ⟨fun y => LW bl B s.at_ [] 0, none, none, [8]⟩, ⟨fun y => HC l s.lits, none, none, [8]⟩, ⟨fun y => HC d s.dH, none, none, []⟩] F V.mixed ?_
  refine nM ?_
  refine nN ?_
  refine nG V.xa ?_
  refine (Jp) ?_
  refine nM ?_
  refine nN ?_
  refine (mq) ?_
  refine (mv) ?_
  refine aU (undef) _ _ (fun y => rfl) rfl (fun y => rfl) (fun y FF hA => fc ((mz l s.lits bl B s.at_ [] 0 hE1 hl hB ha).err hs) V.pX rfl (.cons bo (.cons ax .nil)) (by rintro _ _ ⟨hp, rfl⟩; exact kr (ab.vX hs) hp (aM (ao .nil) (by exact vx (M := FF) (F := F)) (fun w0 h hh => bQ hh)))) ?_
  refine (UB) ?_
  refine (Qb) ?_
  intro y hA
  exact (cL.fact (hA 8 (by exact Nat.le_of_ble_eq_true rfl)) (q := fun _ => False) rfl).elim
 ·refine rT TT 1 rfl ?_
  refine wN [pz 0 [] [0], pz 1 [0] [], pz 3 [1] [], pz 7 [2] [], pz 0 [] [0], pz 16 [4] [], pz 48 [5] [], pz 112 [6] [], pz 255 [3, 7] [], pz 511 [8] []] [⟨fun y => ai b 223 [.pointer (some ⟨bl, 0, none⟩), .int .i64 sz, .int .i64 mo, .slice po s.out.length co, .bool s.ended, .int .i64 0, .int .i64 s.kind, .int .i64 (s.left : Int), .bool s.last, (.pointer (some ⟨l, 0, none⟩)), (.pointer (some ⟨d, 0, none⟩)), .int .i64 (s.aw : Int), .int .i64 (s.bA : Int)], none, none, [3, 7]⟩, ⟨fun y => Row U5 po s.out.length co s.out, none, none, []⟩, ⟨fun y => LW bl B s.at_ [] 0, none, some 8, []⟩, ⟨fun y => HC l s.lits, none, some 8, []⟩, ⟨fun y => HC d s.dH, none, none, []⟩, ⟨fun y => HC l s.lits, some 8, none, []⟩, ⟨fun y => LW bl B a1 [] 0, some 8, none, []⟩] F V.mixed ?_
  refine nM ?_
  refine nN ?_
  refine nG V.xa ?_
  refine (Jp) ?_
  refine nM ?_
  refine nN ?_
  refine (mq) ?_
  refine (mv) ?_
  refine nE (fun y FF hA => aV (Post := [HC l s.lits, LW bl B a1 [] 0]) ((mz l s.lits bl B s.at_ [] 0 hE1 hl hB ha).ok hs) V.pX rfl (.cons ax (ao .nil)) (fun v G h => by rcases h with ⟨rfl, rfl⟩; exact ⟨rfl, .refl _⟩)) ?_
  refine nA ?_
  refine (Qb) ?_
  intro y hA
  clear hA
  refine bj<|bD _ (.cons (d := 0) rfl (.cons (d := 2) rfl (.nil _)))<|a7 (M := ai b 223 [.pointer (some ⟨bl, 0, none⟩), .int .i64 sz, .int .i64 mo, .slice po s.out.length co, .bool s.ended, .int .i64 0, .int .i64 s.kind, .int .i64 (s.left : Int), .bool s.last, (.pointer (some ⟨l, 0, none⟩)), (.pointer (some ⟨d, 0, none⟩)), .int .i64 (s.aw : Int), .int .i64 (s.bA : Int)] :: Row U5 po s.out.length co s.out :: HC d s.dH :: HC l s.lits :: LW bl B a1 [] 0 :: F) (fun _ _ h => h)<|rC TT 8 rfl ?_
  refine aD rfl (fun h36 => ?_) (fun h36 => ?_)
  ·rcases (ab.fF (ab.dP mo { s with at_ := a1 } sy)) with ⟨e, hp⟩ | ⟨s2, hp⟩
   ·refine (Q4)<|(nF) ?_
    refine dg ((mU b bl sz mo po co (.pointer (some ⟨l, 0, none⟩)) (.pointer (some ⟨d, 0, none⟩)) { s with at_ := a1 } sy (by omega) hm).err hp) V.uE rfl (aO .nil) ?_
    rintro _ _ ⟨hpe, rfl⟩
    refine (eE ?_)
    exact dq ((ab.m0 hs (by omega)).trans hp) hpe (sub (ao .nil) ny)
   ·refine (Q4)<|(nF) ?_
    refine aj ((mU b bl sz mo po co (.pointer (some ⟨l, 0, none⟩)) (.pointer (some ⟨d, 0, none⟩)) { s with at_ := a1 } sy (by omega) hm).ok hp) V.uE  rfl (aO .nil) rfl ?_
    rintro _ _ ⟨rfl, rfl⟩
    refine (Q6) ?_
    obtain ⟨_, rfl⟩ := ab.pK hp
    exact gr ((ab.m0 hs (by omega)).trans hp) eH ⟨rfl, rfl⟩ (aM (ao (.cons bo (.cons ax (.cons dj .nil)))) ak (fun w0 h hh => k9 (s := { s with at_ := a1, out := s.out ++ [sy] }) hh))
  ·refine (Qs) ?_
   refine aD rfl (fun h43 => ?_) (fun h43 => ?_)
   ·refine (Q9) ?_
    refine aj (zk b bl sz mo po s.out.length co (.pointer (some ⟨l, 0, none⟩)) (.pointer (some ⟨d, 0, none⟩)) s) V.LR  rfl (ao .nil) rfl ?_
    rintro _ _ ⟨rfl, rfl⟩
    refine (Q6) ?_
    exact gr (x := { s with at_ := a1, kind := -1, ended := s.last }) (ab.qw hs (by omega)) eH ⟨rfl, rfl⟩ ((aM (aO .nil) .refl (fun w0 h hh => cT (s := { s with at_ := a1, kind := -1, ended := s.last }) rfl hh)).trans (aM (ao (.cons bo (.cons ax (.cons dj .nil)))) ak (fun w0 h hh => k9 (s := { s with at_ := a1, kind := -1, ended := s.last }) hh)))
   ·rcases (ab.Cy (B := B) (s := sy - 257) (a := a1) (by omega) ha1) with ⟨e, hn⟩ | ⟨n, a2, hn, hn0, hn1, hn2, hn3⟩
    ·refine (ET)<|(Uy) ?_
     refine dg ((w5 b bl sz mo po s.out.length co (.pointer (some ⟨l, 0, none⟩)) (.pointer (some ⟨d, 0, none⟩)) s B a1 (sy - 257) (by omega) hl hB ha1).err hn) V.Sm rfl (ao (.cons dk .nil)) ?_
     rintro _ _ ⟨hpe, rfl⟩
     refine (cU (eE ?_))
     exact dq (ab.vY hs (by omega) hn) hpe (sub (ao .nil) ny)
    ·refine (ET)<|(Uy) ?_
     refine aj ((w5 b bl sz mo po s.out.length co (.pointer (some ⟨l, 0, none⟩)) (.pointer (some ⟨d, 0, none⟩)) s B a1 (sy - 257) (by omega) hl hB ha1).ok hn) V.Sm  rfl (ao (.cons dk .nil)) rfl ?_
     rintro _ _ ⟨rfl, rfl⟩
     refine (Q6)<|(pY)<|(Q6) ?_
     rcases (ab.Ae (B := B) (ds := s.dH) (a := a2) hE2 hz2) with ⟨e, hf⟩ | ⟨f, a3, hf, hf0, hf1, hf2, hf3⟩
     ·refine (Q5) ?_
      refine dg ((Ed b bl sz mo po s.out.length co (.pointer (some ⟨l, 0, none⟩)) d { s with aw := n } B s.dH a2 hE2 hz2 hl hB hn3).err hf) V.PQ rfl (ao (.cons bo (.cons dj .nil))) ?_
      rintro _ _ ⟨hpe, rfl⟩
      refine (cU (eE ?_))
      exact dq (ab.vJ hs (by omega) hn hf) hpe (sub (ao .nil) fV)
     ·refine (Q5) ?_
      refine aj ((Ed b bl sz mo po s.out.length co (.pointer (some ⟨l, 0, none⟩)) d { s with aw := n } B s.dH a2 hE2 hz2 hl hB hn3).ok hf) V.PQ  rfl (ao (.cons bo (.cons dj .nil))) rfl ?_
      rintro _ _ ⟨rfl, rfl⟩
      refine (Q6)<|(pY)<|(Q6) ?_
      rcases (Classical.em (f ≤ s.out.length)) with hfo | hfo
      ·refine wN [pz 0 [] [0], pz 1 [0] [], pz 3 [1] [], pz 7 [2] [], pz 0 [] [0], pz 16 [4] [], pz 48 [5] [], pz 112 [6] [], pz 240 [7] [], pz 511 [3, 8] [], pz 1023 [9] []] [⟨fun y => ai b 223 [.pointer (some ⟨bl, 0, none⟩), .int .i64 sz, .int .i64 mo, .slice po s.out.length co, .bool s.ended, .int .i64 0, .int .i64 s.kind, .int .i64 (s.left : Int), .bool s.last, (.pointer (some ⟨l, 0, none⟩)), (.pointer (some ⟨d, 0, none⟩)), .int .i64 (n : Int), .int .i64 (f : Int)], none, none, [3, 7]⟩, ⟨fun y => HC d s.dH, none, none, []⟩, ⟨fun y => LW bl B a3 [] 0, none, none, []⟩, ⟨fun y => Row U5 po s.out.length co s.out, none, none, []⟩, ⟨fun y => HC l s.lits, none, none, []⟩] F V.mixed ?_
       refine nM ?_
       refine nN ?_
       refine nG V.qP ?_
       refine (Qy) ?_
       refine nM ?_
       refine nN ?_
       refine nG V.js ?_
       refine (oW) ?_
       refine (xV) ?_
       refine nV (fun y hA L => c9 (fZ rfl rfl) (by omega)) ?_
       refine nE (fun y FF hA => aV (Post := []) (m8 4) V.kO rfl .nil (fun v G h => by rcases h with ⟨rfl, rfl⟩; exact ⟨rfl, .refl _⟩)) ?_
       refine (Qb) ?_
       intro y hA
       clear hA
       show ks _ _ _ _ (ai b 223 [.pointer (some ⟨bl, 0, none⟩), .int .i64 sz, .int .i64 mo, .slice po s.out.length co, .bool s.ended, .int .i64 0, .int .i64 s.kind, .int .i64 (s.left : Int), .bool s.last, (.pointer (some ⟨l, 0, none⟩)), (.pointer (some ⟨d, 0, none⟩)), .int .i64 (n : Int), .int .i64 (f : Int)] :: HC d s.dH :: LW bl B a3 [] 0 :: Row U5 po s.out.length co s.out :: HC l s.lits :: F)
       exact jh<|gr (x := { s with at_ := a3, aw := n, bA := f }) (ab.wa hs (by omega) hn hf (by omega)) eH ⟨rfl, rfl⟩ ((aM (ao (.cons bo .nil)) .refl (fun w0 h hh => cT (s := { s with at_ := a3, aw := n, bA := f }) rfl hh)).trans (aM (ao (.cons ax (.cons ax (.cons dj .nil)))) ak (fun w0 h hh => k9 (s := { s with at_ := a3, aw := n, bA := f }) hh)))
      ·refine wN [pz 0 [] [0], pz 1 [0] [], pz 3 [1] [], pz 7 [2] [], pz 0 [] [0], pz 16 [4] [], pz 48 [5] [], pz 112 [6] [], pz 240 [7] [], pz 511 [3, 8] [], pz 1023 [9] []] [⟨fun y => ai b 223 [.pointer (some ⟨bl, 0, none⟩), .int .i64 sz, .int .i64 mo, .slice po s.out.length co, .bool s.ended, .int .i64 0, .int .i64 s.kind, .int .i64 (s.left : Int), .bool s.last, (.pointer (some ⟨l, 0, none⟩)), (.pointer (some ⟨d, 0, none⟩)), .int .i64 (n : Int), .int .i64 (f : Int)], none, none, [3, 7, 10]⟩, ⟨fun y => HC d s.dH, none, none, []⟩, ⟨fun y => LW bl B a3 [] 0, none, none, []⟩, ⟨fun y => Row U5 po s.out.length co s.out, none, none, []⟩, ⟨fun y => HC l s.lits, none, none, []⟩] F V.mixed ?_
       refine nM ?_
       refine nN ?_
       refine nG V.qP ?_
       refine (Qy) ?_
       refine nM ?_
       refine nN ?_
       refine nG V.js ?_
       refine (oW) ?_
       refine (xV) ?_
       refine nV (fun y hA L => bS (fZ rfl rfl) (by omega)) ?_
       refine aU (undef) _ _ (fun y => rfl) rfl (fun y => rfl) (fun y FF hA => fc (kI 4) V.kO rfl .nil (by rintro _ _ ⟨rfl, rfl⟩; exact kr (ab.vI hs (by omega) hn hf (by omega)) (PE.no (by decide)) (aM (ao .nil) (by exact vx (M := FF) (F := F)) (fun w0 h hh => bQ hh)))) ?_
       refine (Qb) ?_
       intro y hA
       exact (cL.fact (hA 10 (by exact Nat.le_of_ble_eq_true rfl)) (q := fun _ => False) rfl).elim
set_option maxHeartbeats 4000000 in
theorem Iy (b bl : Nat) (sz mo : Int) (s : ab.St) (B : List Int) (hl : B.length < 500000000) (hB : af.an B) (hm : mo < 1000000000) (hok : ab.Ok B mo s) : aA Tryz.prog 169 [.pointer (some ⟨b, 0, none⟩)] [MM b bl sz mo B s] (gB (ab.one B mo s) (fun s2 v G => v = .tuple #[] ∧ G = [MM b bl sz mo B s2]) [MX b bl sz mo]) := by
 refine au [(0, _)] Tryz.func169 rfl Tryz.ntmps169 rfl rfl ?_
 intro w0 F
 refine (qa) ?_
 rintro ⟨li, di⟩ _
 dsimp only
 refine (qa) ?_
 rintro ⟨po, co⟩ _
 dsimp only
 simp only [List.cons_append, List.nil_append]
 have ha := hok.at_
 have hro := hok.room
 have hcp := hok.aw
 have hlf := hok.left
 have hnb := af.bF B s.at_ 8
 refine (QU)<|(Qk)<|(Q8) ?_
 refine aD rfl (fun h17 => ?_) (fun h17 => ?_)
 ·rcases (ab.fF (ab.dP mo s (U5.g s.out ((s.out.length : Int) - (s.bA : Int))))) with ⟨e, hp⟩ | ⟨s2, hp⟩
  ·refine (Qa) ?_
   have hcs : 0 < s.aw := by omega
   have hfr := hok.bA hcs
   have hge : U5.g s.out ((s.out.length : Int) - (s.bA : Int)) = s.out.getD (s.out.length - s.bA) 0 := gE _ (by omega)
   refine wN [pz 0 [] [0], pz 0 [] [0], pz 2 [1] [], pz 6 [2] [], pz 14 [3] [], pz 0 [] [0], pz 32 [5] [], pz 96 [6] [], pz 224 [7] [], pz 480 [8] [], pz 0 [] [0], pz 1024 [10] [], pz 3072 [11] [], pz 7168 [12] [], pz 16352 [9, 13] [], pz 32766 [4, 14] [], pz 65534 [15] [], pz 131071 [0, 16] []] [⟨fun y => ai b 223 [.pointer (some ⟨bl, 0, none⟩), .int .i64 sz, .int .i64 mo, .slice po s.out.length co, .bool s.ended, .int .i64 0, .int .i64 s.kind, .int .i64 (s.left : Int), .bool s.last, li, di, .int .i64 (s.aw : Int), .int .i64 (s.bA : Int)], none, none, [4, 8, 13, 17]⟩, ⟨fun y => Row U5 po s.out.length co s.out, none, none, [15, 16, 17]⟩, ⟨fun y => LW bl B s.at_ [] 0, none, none, []⟩, ⟨fun y => CD li di s, none, none, []⟩] F V.mixed ?_
   iterate 2 refine nM ?_
   refine nN ?_
   refine nG V.js ?_
   refine (oW) ?_
   refine nM ?_
   refine nN ?_
   refine nG V.js ?_
   refine (oW) ?_
   refine (xV) ?_
   refine nM ?_
   refine nN ?_
   refine nG V.qP ?_
   refine (Qy) ?_
   refine (uV) ?_
   refine (CF) ?_
   refine (Jf) ?_
   refine aU (undef) _ _ (fun y => rfl) rfl (fun y => rfl) (fun y FF hA => fc ((mU b bl sz mo po co li di s (U5.g s.out ((s.out.length : Int) - (s.bA : Int))) (by rw [hge]; exact hok.o8.get _) hm).err hp) V.uE rfl (aO .nil) (by rintro _ _ ⟨hpe, rfl⟩; exact kr (ab.Rm hcs (by rw [← hge]; exact hp)) hpe (sub (ao .nil) (by exact vx (M := FF) (F := F))))) ?_
   refine (Qb) ?_
   intro y hA
   exact (cL.fact (hA 17 (by exact Nat.le_of_ble_eq_true rfl)) (q := fun _ => False) rfl).elim
  ·refine (Qa) ?_
   have hcs : 0 < s.aw := by omega
   have hfr := hok.bA hcs
   have hge : U5.g s.out ((s.out.length : Int) - (s.bA : Int)) = s.out.getD (s.out.length - s.bA) 0 := gE _ (by omega)
   refine wN [pz 0 [] [0], pz 0 [] [0], pz 2 [1] [], pz 6 [2] [], pz 14 [3] [], pz 0 [] [0], pz 32 [5] [], pz 96 [6] [], pz 224 [7] [], pz 480 [8] [], pz 0 [] [0], pz 1024 [10] [], pz 3072 [11] [], pz 7168 [12] [], pz 16352 [9, 13] [], pz 32766 [4, 14] [], pz 65534 [15] [], pz 131071 [0, 16] []] [⟨fun y => ai b 223 [.pointer (some ⟨bl, 0, none⟩), .int .i64 sz, .int .i64 mo, .slice po s.out.length co, .bool s.ended, .int .i64 0, .int .i64 s.kind, .int .i64 (s.left : Int), .bool s.last, li, di, .int .i64 (s.aw : Int), .int .i64 (s.bA : Int)], none, some 17, [4, 8, 13]⟩, ⟨fun y => Row U5 po s.out.length co s.out, none, some 17, [15, 16]⟩, ⟨fun y => LW bl B s.at_ [] 0, none, none, []⟩, ⟨fun y => CD li di s, none, none, []⟩, ⟨fun y => MS b bl sz mo li di s2, some 17, none, []⟩] F V.mixed ?_
   iterate 2 refine nM ?_
   refine nN ?_
   refine nG V.js ?_
   refine (oW) ?_
   refine nM ?_
   refine nN ?_
   refine nG V.js ?_
   refine (oW) ?_
   refine (xV) ?_
   refine nM ?_
   refine nN ?_
   refine nG V.qP ?_
   refine (Qy) ?_
   refine (uV) ?_
   refine (CF) ?_
   refine (Jf) ?_
   refine nE (fun y FF hA => aV (Post := [MS b bl sz mo li di s2]) ((mU b bl sz mo po co li di s (U5.g s.out ((s.out.length : Int) - (s.bA : Int))) (by rw [hge]; exact hok.o8.get _) hm).ok hp) V.uE rfl (aO .nil) (fun v G h => by rcases h with ⟨rfl, rfl⟩; exact ⟨rfl, .refl _⟩)) ?_
   refine (Qb) ?_
   intro y hA
   clear hA
   refine bj<|bD _ (.cons (d := 0) rfl (.nil _))<|a7 (M := LW bl B s.at_ [] 0 :: CD li di s :: MS b bl sz mo li di s2 :: F) (fun _ _ h => h) ?_
   obtain ⟨hroom, rfl⟩ := ab.pK hp
   refine k5 bo (fun h hh => qH hh) ?_
   rintro ⟨po2, co2⟩ _
   dsimp only
   simp only [List.cons_append, List.nil_append]
   refine (Q5)<|(Qk) ?_
   refine iD TT 3 rfl (by omega)<|(pY)<|(Q6) ?_
   rw [show (s.aw : Int) - 1 = ((s.aw - 1 : Nat) : Int) from by omega]
   exact gr (x := { s with aw := s.aw - 1, out := s.out ++ [(U5.g s.out ((s.out.length : Int) - (s.bA : Int)))] }) (by rw [hge]; exact ab.Of hcs hroom) eH ⟨rfl, rfl⟩ ((aM (aO .nil) .refl (fun w0 h hh => cT (s := { s with aw := s.aw - 1, out := s.out ++ [(U5.g s.out ((s.out.length : Int) - (s.bA : Int)))] }) (by simp) hh)).trans (aM (eU .nil) ak (fun w0 h hh => fm (s := { s with aw := s.aw - 1, out := s.out ++ [(U5.g s.out ((s.out.length : Int) - (s.bA : Int)))] }) hh)))
 ·refine (Qf)<|(Qk)<|(Q8) ?_
  refine aD rfl (fun h48 => ?_) (fun h48 => ?_)
  ·rcases (ab.fF (ab.cM B s)) with ⟨e, hp⟩ | ⟨s2, hp⟩
   ·have hcs : ¬ 0 < s.aw := by omega
    have hk1 : s.kind = -1 := by omega
    refine (V7)<|(Q9) ?_
    refine dg ((z7 b bl sz mo li di s B hl hB ha).err hp) V.MH rfl (aO .nil) ?_
    rintro _ _ ⟨hpe, rfl⟩
    refine (eE ?_)
    exact dq ((ab.sL hcs hk1).trans hp) hpe (sub (ao .nil) bu)
   ·have hcs : ¬ 0 < s.aw := by omega
    have hk1 : s.kind = -1 := by omega
    refine (V7)<|(Q9) ?_
    refine aj ((z7 b bl sz mo li di s B hl hB ha).ok hp) V.MH  rfl (aO .nil) rfl ?_
    rintro _ _ ⟨rfl, rfl⟩
    refine (Q6) ?_
    exact gr ((ab.sL hcs hk1).trans hp) eH ⟨rfl, rfl⟩ (sub (ao .nil) bu)
  ·refine (Qf)<|(Qk)<|(Q8) ?_
   refine aD rfl (fun h56 => ?_) (fun h56 => ?_)
   ·rcases (ab.fF (ab.dT B mo s)) with ⟨e, hp⟩ | ⟨s2, hp⟩
    ·have hcs : ¬ 0 < s.aw := by omega
     have hk1 : ¬ s.kind = -1 := by omega
     have hk0 : s.kind ≠ 0 := by omega
     have hkp : 0 < s.kind := by have := hok.kind; omega
     refine k5 dk (fun h hh => zr hkp hh) ?_
     rintro ⟨l, d⟩ ⟨h1, h2⟩
     dsimp only at h1 h2
     subst h1
     subst h2
     simp only [List.cons_append, List.nil_append]
     refine (UD)<|(Q9) ?_
     refine dg ((Aa b bl sz mo l d s B hl hB hm hok hkp).err hp) V.OM rfl (ao (.cons bo (.cons dj (.cons dj .nil)))) ?_
     rintro _ _ ⟨hpe, rfl⟩
     refine (eE ?_)
     exact dq ((ab.wc hcs hk1 hk0).trans hp) hpe (sub (ao .nil) ak)
    ·have hcs : ¬ 0 < s.aw := by omega
     have hk1 : ¬ s.kind = -1 := by omega
     have hk0 : s.kind ≠ 0 := by omega
     have hkp : 0 < s.kind := by have := hok.kind; omega
     refine k5 dk (fun h hh => zr hkp hh) ?_
     rintro ⟨l, d⟩ ⟨h1, h2⟩
     dsimp only at h1 h2
     subst h1
     subst h2
     simp only [List.cons_append, List.nil_append]
     refine (UD)<|(Q9) ?_
     refine aj ((Aa b bl sz mo l d s B hl hB hm hok hkp).ok hp) V.OM  rfl (ao (.cons bo (.cons dj (.cons dj .nil)))) rfl ?_
     rintro _ _ ⟨rfl, rfl⟩
     refine (Q6) ?_
     exact gr ((ab.wc hcs hk1 hk0).trans hp) eH ⟨rfl, rfl⟩ (sub (ao .nil) ak)
   ·refine (Qf)<|(Qk)<|(Q8) ?_
    refine aD rfl (fun h64 => ?_) (fun h64 => ?_)
    ·have hcs : ¬ 0 < s.aw := by omega
     have hk1 : ¬ s.kind = -1 := by omega
     have hk0 : s.kind = 0 := by omega
     have hl0 : s.left = 0 := by omega
     refine (Q9) ?_
     refine aj (zk b bl sz mo po s.out.length co li di s) V.LR  rfl (ao .nil) rfl ?_
     rintro _ _ ⟨rfl, rfl⟩
     refine (Q6) ?_
     exact gr (x := { s with kind := -1, ended := s.last }) (ab.sJ hcs hk1 hk0 hl0) eH ⟨rfl, rfl⟩ ((aM (aO .nil) .refl (fun w0 h hh => cT (s := { s with kind := -1, ended := s.last }) rfl hh)).trans (aM (aO .nil) bu (fun w0 h hh => mL (s := { s with kind := -1, ended := s.last }) (by show (-1 : Int) ≤ 0; decide) hh)))
    ·rcases (ab.Mh B s.at_ mo { s with at_ := s.at_ + 8 } (af.aJ B s.at_ 8)) with hx | ⟨hx, e, hp⟩ | ⟨hx, s2, hp⟩
     ·refine (Qa) ?_
      have hcs : ¬ 0 < s.aw := by omega
      have hk1 : ¬ s.kind = -1 := by omega
      have hk0 : s.kind = 0 := by omega
      have hl0 : ¬ s.left = 0 := by omega
      refine (Qf)<|(oM) ?_
      refine dg (fx bl B s.at_ [] 0 8 hl hB (by omega) (by omega) (by omega)) V.ef rfl (.cons bo .nil) ?_
      rintro _ _ ⟨rfl, rfl⟩
      refine (cU (eE ?_))
      exact dq (ab.xH hcs hk1 hk0 hl0 hx) PE.end_ (aM (.cons ax .nil) ny (fun w0 h hh => bQ hh))
     ·refine (Qa) ?_
      have hcs : ¬ 0 < s.aw := by omega
      have hk1 : ¬ s.kind = -1 := by omega
      have hk0 : s.kind = 0 := by omega
      have hl0 : ¬ s.left = 0 := by omega
      refine (Qf)<|(oM)<|(VP) ?_
      rintro _ _ ⟨rfl, rfl⟩
      refine (nF) ?_
      refine dg ((mU b bl sz mo po co li di s (af.aJ B s.at_ 8) (by omega) hm).err (ab.R4 hp)) V.uE rfl (.cons ax (.cons ax .nil)) ?_
      rintro _ _ ⟨hpe, rfl⟩
      refine (cU (eE ?_))
      exact dq (ab.one_le hcs hk1 hk0 hl0 hx hp) hpe (sub (ao .nil) fV)
     ·refine (Qa) ?_
      have hcs : ¬ 0 < s.aw := by omega
      have hk1 : ¬ s.kind = -1 := by omega
      have hk0 : s.kind = 0 := by omega
      have hl0 : ¬ s.left = 0 := by omega
      refine (Qf)<|(oM)<|(VP) ?_
      rintro _ _ ⟨rfl, rfl⟩
      refine (nF) ?_
      refine aj ((mU b bl sz mo po co li di { s with at_ := s.at_ + 8 } (af.aJ B s.at_ 8) (by omega) hm).ok hp) V.uE  rfl (.cons ax (.cons ax .nil)) rfl ?_
      rintro _ _ ⟨rfl, rfl⟩
      refine (Q6) ?_
      obtain ⟨hroom, rfl⟩ := ab.pK hp
      refine k5 dj (fun h hh => qH hh) ?_
      rintro ⟨po2, co2⟩ _
      dsimp only
      simp only [List.cons_append, List.nil_append]
      refine (Q5)<|(Qk) ?_
      refine iD TT 3 rfl (by omega)<|(pY)<|(Q6) ?_
      rw [show (s.left : Int) - 1 = ((s.left - 1 : Nat) : Int) from by omega]
      exact gr (x := { s with at_ := s.at_ + 8, left := s.left - 1, out := s.out ++ [(af.aJ B s.at_ 8)] }) (ab.CQ hcs hk1 hk0 hl0 hx hroom) eH ⟨rfl, rfl⟩ ((aM (aO .nil) .refl (fun w0 h hh => cT (s := { s with at_ := s.at_ + 8, left := s.left - 1, out := s.out ++ [(af.aJ B s.at_ 8)] }) (by simp) hh)).trans (aM (aO .nil) bu (fun w0 h hh => mL (s := { s with at_ := s.at_ + 8, left := s.left - 1, out := s.out ++ [(af.aJ B s.at_ 8)] }) (by show s.kind ≤ 0; omega) hh)))
end Go.Proofs.YtmaiakpjgomnpaaGreat
namespace Go.Sl
section
variable {C : Ctx} {E : Env} {L : List ad} {ty : TypeId}
def o7 (P : Program) (t : TypeId) : Bool := match P.underlying t with | some (.interface _) => true | _ => false
theorem yg {t T : TypeId} {is : Array (String × TypeId)} {u : Value} (ht : C.P.underlying t = some (.interface is)) (d : Nat) (w : World) : (Op.equalIn (d + 1) t (.iface T u) .nilIface).run C.P w = .ok false w := by
  simp [Op.equalIn, run_underlying ht]
theorem xC {t : TypeId} {is : Array (String × TypeId)} (ht : C.P.underlying t = some (.interface is)) (d : Nat) (w : World) : (Op.equalIn (d + 1) t .nilIface .nilIface).run C.P w = .ok true w := by
  simp [Op.equalIn, run_underlying ht]
theorem rp {x y : Operand} {t t' T : TypeId} {u : Value} (ht : o7 C.P t = true) (hx : aq E x = some (.iface T u)) (hy : aq E y = some .nilIface) : bB C (.binOp .eql t x y t') ty E L (.bool false) L :=
  cV fun d pos aft g a w ha => by
    unfold o7 at ht
    split at ht <;> try simp at ht
    rename_i is hds
    rw [iX d pos aft g (ha.eval hx) (ha.eval hy) (by simp [eqGuard])]
    have h := yg hds (T := T) (u := u) 9999 w
    simp only [binOp, Op.equal, Op.maxDepth, Sem.run_bind, h, Result.andThen_ok, Sem.run_pure]
theorem GY {x : Operand} {t t' : TypeId} (ht : o7 C.P t = true) (hx : aq E x = some .nilIface) : bB C (.binOp .eql t x (.const .nilIface) t') ty E L (.bool true) L :=
  cV fun d pos aft g a w ha => by
    unfold o7 at ht
    split at ht <;> try simp at ht
    rename_i is hds
    rw [iX d pos aft g (ha.eval hx) (ha.eval (x := .const .nilIface) rfl) (by simp [eqGuard])]
    have h := xC hds 9999 w
    simp only [binOp, Op.equal, Op.maxDepth, Sem.run_bind, h, Result.andThen_ok, Sem.run_pure]
theorem uJ {x : Operand} {xT T : TypeId} {u : Value} (hc : lC C.P T = true) (hx : aq E x = some (.iface T u)) : bB C (.typeAssert x xT T true) ty E L (.tuple #[u, .bool true]) L :=
  cV fun d pos aft g a w ha => by
    unfold lC at hc
    split at hc <;> try simp at hc
    rename_i ds hne hds
    simp only [execOp, ha.eval hx, Instr.typeAssert, Sem.run_bind, run_underlying hds, Result.andThen_ok]
    cases ds <;> first | (exact absurd rfl (hne _)) | simp [Sem.run_pure]
theorem uB {x : Operand} {xT T t : TypeId} {u z : Value} (hc : lC C.P T = true) (hz : (C.P.info? T).bind (·.zero) = some z) (hn : t ≠ T) (hx : aq E x = some (.iface t u)) : bB C (.typeAssert x xT T true) ty E L (.tuple #[z, .bool false]) L :=
  cV fun d pos aft g a w ha => by
    unfold lC at hc
    split at hc <;> try simp at hc
    rename_i ds hne hds
    obtain ⟨i, hi, hz⟩ : ∃ i, C.P.info? T = some i ∧ i.zero = some z := by
      cases h : C.P.info? T with
      | none => rw [h] at hz; cases hz
      | some i => rw [h] at hz; exact ⟨i, rfl, hz⟩
    have hzv : (zeroValue T).run C.P w = .ok z w := by simp only [zeroValue, typeInfo, Sem.run_bind, run_program, Result.andThen_ok, hi, Sem.run_pure, hz]
    simp only [execOp, ha.eval hx, Instr.typeAssert, Sem.run_bind, run_underlying hds, Result.andThen_ok]
    cases ds <;> first | (exact absurd rfl (hne _)) | simp [Sem.run_pure, hn, hzv]
end
theorem wu {C : Ctx} {c : Code} {Q : Exit → Act → List Frame → World → Prop} {a : Act} {cs : List Frame} {w : World} {E : Env} {L : List ad} (ha : fw C E a) (hi : Inv C.w0 L w) (h : Wp C c (qr C fun e a w => Q e a cs w) E L) : c.wpS C.P Q a cs w := wpS_of_wp (Jl h a w ha hi)
theorem Ee {P : Program} {w0 : World} {X : List PanicEntry → List ad → Prop} (x y : Value) : fw ⟨P, w0, 19, [], X⟩ [(6, y), (0, x)] { tmps := #[x] ++ (Array.replicate 18 undef).setIfInBounds 5 y, defers := [] } := by
  refine ⟨rfl, by simp, fun d v hd => ?_⟩
  rw [Env.ia] at hd
  split at hd
  · rename_i h; subst h; cases hd; simp
  · rw [Env.ia] at hd
    split at hd
    · rename_i h; subst h; cases hd; simp
    · simp [Env.get] at hd
end Go.Sl
namespace Go.Sl
theorem aA.Y0 {P : Program} {f : FuncId} {args : List Value} {Pre : List ad} {v0 : Value} {R : List ad → Prop} (h : aA P f args Pre (aF fun v G => v = v0 ∧ R G)) : aA P f args Pre (aF fun _ G => R G) := h.mono fun e G h => by
  rcases h with ⟨v, rfl, _, h⟩; exact ⟨v, rfl, h⟩
end Go.Sl
namespace Go.Proofs.YtmaiakpjgomnpaaGreat
open Go.Sl 
theorem V.Bu : o7 Tryz.prog 20 = true := by kernel_rfl
theorem V.Ia : (Tryz.prog.info? 194).bind (·.zero) = some (.agg #[]) := by kernel_rfl
theorem V.Ud : (Tryz.prog.info? 237).bind (·.zero) = some (.agg #[]) := by kernel_rfl
theorem o0 : ∀ (A M : List ad), eL (A ++ M) A M
  | [], M => .nil
  | a :: A, M => .cons .head (o0 A M)
theorem EU {w0 : World} {L : List ad} (b : Nat) (x e : Int) (t : TypeId) (pv : Value) (hp : PE e (jo t pv)) (older : List PanicEntry) (w : World) (hi : Inv w0 (ai b 27 [.int .i64 x] :: L) w) :
    CallsD Tryz.prog 178 #[.pointer (some ⟨b, 0, none⟩)] (.panicking ({ v := .iface t pv, recovered := false } :: older)) w fun e' u' w' =>
      e' = .returned (.tuple #[]) ∧ u' = .panicking ({ v := .iface t pv, recovered := true } :: older) ∧ Inv w0 (ai b 27 [.int .i64 e] :: L) w' := by
  refine callsD_of_wpS Tryz.func178 rfl fun c₀ cs hu => ?_
  apply wpS_seq
  apply wpS_region
  simp [wpOpsS, go_sem, recoverD, hu, Tryz.ntmps178, Exit.thenS]
  refine wu (C := ⟨Tryz.prog, w0, 19, [], fun _ _ => True⟩) (E := [(6, .iface t pv), (0, .pointer (some ⟨b, 0, none⟩))]) (Ee _ _) hi ?_
  rcases hp with ⟨h, rfl⟩ | ⟨h, rfl⟩ | ⟨h, _⟩
  · simp only [jo, List.cons.injEq, PanicEntry.mk.injEq, Value.iface.injEq, and_true] at h
    obtain ⟨rfl, rfl⟩ := h
    refine nh ?_
    refine iG (dO ?_)
    refine oV (rp V.Bu rfl rfl)<|(Ar) ?_
    refine iG (dO ?_)
    refine oV (uJ V.BU rfl) ?_
    iterate 2 refine oV (eN rfl rfl) ?_
    refine (oE) ?_
    refine m7 rfl ?_
    refine iG (dO ?_)
    refine dh V.z194 rfl ?_
    intro bz
    refine cA (bd V.a194 rfl rfl (us := []) rfl rfl .head (by exact Nat.le_of_ble_eq_true rfl) rfl)<|(oE)<|(Qo)<|(Wb) ?_
    refine c4<|jh ?_
    intro a w ha hi
    exact ⟨ha.defers, _, rfl, .tuple #[], by simp [results, Tryz.results178], rfl, rfl, hi.tail⟩
  · simp only [jo, List.cons.injEq, PanicEntry.mk.injEq, Value.iface.injEq, and_true] at h
    obtain ⟨rfl, rfl⟩ := h
    refine nh ?_
    refine iG (dO ?_)
    refine oV (rp V.Bu rfl rfl)<|(Ar) ?_
    refine iG (dO ?_)
    refine oV (uB V.BU V.Ia (by decide) rfl) ?_
    iterate 2 refine oV (eN rfl rfl) ?_
    refine (Ar) ?_
    refine iG (dO ?_)
    refine oV (uJ V.Fq rfl) ?_
    iterate 2 refine oV (eN rfl rfl) ?_
    refine (oE) ?_
    refine m7 rfl ?_
    refine iG (dO ?_)
    refine dh V.Ry rfl ?_
    intro bz
    refine cA (bd V.XS rfl rfl (us := []) rfl rfl .head (by exact Nat.le_of_ble_eq_true rfl) rfl)<|(oE)<|(Qo)<|(Wb) ?_
    refine c4<|jh ?_
    intro a w ha hi
    exact ⟨ha.defers, _, rfl, .tuple #[], by simp [results, Tryz.results178], rfl, rfl, hi.tail⟩
  · simp only [jo, List.cons.injEq, PanicEntry.mk.injEq, Value.iface.injEq, and_true] at h
    obtain ⟨rfl, rfl⟩ := h
    refine nh ?_
    refine iG (dO ?_)
    refine oV (rp V.Bu rfl rfl)<|(Ar) ?_
    refine iG (dO ?_)
    refine oV (uB V.BU V.Ia (by decide) rfl) ?_
    iterate 2 refine oV (eN rfl rfl) ?_
    refine (Ar) ?_
    refine iG (dO ?_)
    refine oV (uB V.Fq V.Ud (by decide) rfl) ?_
    iterate 2 refine oV (eN rfl rfl) ?_
    refine (Ar) ?_
    refine iG (dO ?_)
    refine oV (uJ V.C0 rfl) ?_
    iterate 2 refine oV (eN rfl rfl) ?_
    refine (oE) ?_
    refine m7 rfl ?_
    refine iG (dO ?_)
    refine (pf)<|(oE)<|(Qo)<|(Q7)<|(UT) ?_
    refine c4<|jh ?_
    intro a w ha hi
    exact ⟨ha.defers, _, rfl, .tuple #[], by simp [results, Tryz.results178], rfl, rfl, hi⟩
theorem BY {w0 : World} {L : List ad} (b : Nat) (w : World) (hi : Inv w0 L w) :
    CallsD Tryz.prog 178 #[.pointer (some ⟨b, 0, none⟩)] .returning w fun e u' w' => e = .returned (.tuple #[]) ∧ u' = .returning ∧ Inv w0 L w' := by
  refine callsD_of_wpS Tryz.func178 rfl fun c₀ cs hu => ?_
  apply wpS_seq
  apply wpS_region
  simp [wpOpsS, go_sem, recoverD, hu, Tryz.ntmps178, Exit.thenS]
  refine wu (C := ⟨Tryz.prog, w0, 19, [], fun _ _ => True⟩) (E := [(6, .nilIface), (0, .pointer (some ⟨b, 0, none⟩))]) (Ee _ _) hi<|nh ?_
  refine iG (dO ?_)
  refine oV (GY V.Bu rfl)<|(oE) ?_
  refine m7 rfl<|(Qo)<|(pf) ?_
  refine c4<|jh ?_
  intro a w ha hi
  cases c₀
  exact ⟨ha.defers, _, by simp_all, .tuple #[], by simp [results, Tryz.results178], rfl, rfl, hi⟩
theorem uT {C : Ctx} {a : Act} {E : Env} {L : List ad} {w : World} {b : Nat} {x : Int} (hP : C.P = Tryz.prog) (ha : fw C E a) (ht : E.get 2 = some (.pointer (some ⟨b, 0, none⟩))) (hi : Inv C.w0 (ai b 27 [.int .i64 x] :: L) w) :
    (results Tryz.f167 a.tmps).run Tryz.prog w = .ok (.int .i64 x) w := by
  have h1 := ha.get _ _ ht
  have h2 := hi.gY 0
  simp only [List.getElem?_cons_zero] at h2
  simp [results, Tryz.results167, h1, go_sem, h2]
theorem Hc {f : FuncId} {cs : List Value} {Pre : List ad} {R : List ad → Prop} (hS : aA Tryz.prog f cs Pre (aF fun _ G => R G)) (hb : ay Tryz.prog f = true) :
    aA Tryz.prog 167 [.func (.func f) #[] cs.toArray] Pre (aF fun v G => v = .int .i64 0 ∧ R G) := by
  refine yG [(0, _)] Tryz.func167 rfl Tryz.ntmps167 rfl rfl ?_
  intro w0 F
  refine px (dO ?_)
  refine dh V.Ut rfl ?_
  intro b2
  refine (oE) ?_
  refine w4 (caps := [.tmp 2]) rfl rfl<|px<|(Qo)<|(Q7)<|(UK) ?_
  refine KA (fs := []) (vs := []) (cs := cs) hS hb rfl rfl (o0 _ _) rfl ?_
  intro v G hR
  refine (oE) ?_
  refine px<|(Qo) ?_
  refine wo (L' := ai b2 27 [.int .i64 0] :: (G ++ F)) List.perm_middle<|(UT)<|(oE) ?_
  refine Jl (HL ?_)
  intro a w ha hi
  show Leaves _ _ _ _ a.defers _ _
  rw [ha.defers]
  refine leaves_cons (f := 178) (args := #[.pointer (some ⟨b2, 0, none⟩)]) (by simp) ?_ ?_
  · simp [invoke, fL V.R6]
  refine (BY b2 w hi).mono ?_
  rintro e u' w' ⟨rfl, rfl, hi⟩
  exact ⟨.int .i64 0, uT rfl ha rfl hi, G, hi.tail, _, rfl, rfl, hR⟩
theorem G6 {f : FuncId} {cs : List Value} {Pre : List ad} {e : Int} {R : List ad → Prop} (hS : aA Tryz.prog f cs Pre (re fun ch G => PE e ch ∧ R G)) (hb : ay Tryz.prog f = true) :
    aA Tryz.prog 167 [.func (.func f) #[] cs.toArray] Pre (aF fun v G => v = .int .i64 e ∧ R G) := by
  refine yG [(0, _)] Tryz.func167 rfl Tryz.ntmps167 rfl rfl ?_
  intro w0 F
  refine px (dO ?_)
  refine dh V.Ut rfl ?_
  intro b2
  refine (oE) ?_
  refine w4 (caps := [.tmp 2]) rfl rfl<|px<|(Qo)<|(Q7)<|(UK) ?_
  refine F0 (fs := []) (vs := []) (cs := cs) hS hb rfl rfl (o0 _ _) ?_
  rintro ch G ⟨hp, hR⟩
  refine cU ?_
  intro a w ha hi
  show Leaves _ _ _ _ a.defers _ _
  rw [ha.defers]
  have hi2 : Inv w0 (ai b2 27 [.int .i64 0] :: (G ++ F)) w := hi.perm List.perm_middle
  refine leaves_cons (f := 178) (args := #[.pointer (some ⟨b2, 0, none⟩)]) (by simp) ?_ ?_
  · simp [invoke, fL V.R6]
  obtain ⟨t, u, rfl⟩ : ∃ t u, ch = jo t u := by
    rcases hp with ⟨h, _⟩ | ⟨h, _⟩ | ⟨h, _⟩ <;> exact ⟨_, _, h⟩
  refine (EU b2 0 e t u hp [] w hi2).mono ?_
  rintro e' u' w' ⟨rfl, rfl, hi3⟩
  exact ⟨.int .i64 e, uT rfl ha rfl hi3, G, hi3.tail, _, rfl, rfl, hR⟩
end Go.Proofs.YtmaiakpjgomnpaaGreat
namespace Go.Proofs.YtmaiakpjgomnpaaGreat
open Go.Sl 
attribute [local irreducible] ae.bb ae.tk ae.ord ae.bM ae.words ae.bY ab.gK ab.bU ab.cC ab.dp ab.hL ab.hD ab.hC ab.eG ab.told ab.fb ab.ig ab.rep ab.eo ab.dw ab.sym ab.cS af.aJ ab.dT ab.cM ab.one ab.dP
theorem ua {b bl : Nat} {sz mo : Int} {B : List Int} {s : ab.St} {w0 : World} {h : Hp} (hh : MM b bl sz mo B s w0 h) : ∃ i : Pv, True ∧ bZ w0 [MS b bl sz mo i.li i.di s, LW bl B s.at_ [] 0, CD i.li i.di s] h := hh
def MD (b bl : Nat) (sz mo e : Int) : ad := fun w0 h => ∃ i : Vx, True ∧ bZ w0 [ai b 223 [.pointer (some ⟨bl, 0, none⟩), .int .i64 sz, .int .i64 mo, .slice none 0 0, .bool true, .int .i64 e, i.v6, i.v7, i.v8, i.v9, i.v10, i.v11, i.v12]] h
theorem jt {b bl : Nat} {sz mo e : Int} {v6 v7 v8 v9 v10 v11 v12 : Value} {w0 : World} {h : Hp}
  (hh : bZ w0 [ai b 223 [.pointer (some ⟨bl, 0, none⟩), .int .i64 sz, .int .i64 mo, .slice none 0 0, .bool true, .int .i64 e, v6, v7, v8, v9, v10, v11, v12]] h) : MD b bl sz mo e w0 h := ⟨⟨.nilFunc, .nilFunc, .nilFunc, v6, v7, v8, v9, v10, v11, v12⟩, trivial, hh⟩
def MJ (b bl : Nat) (sz mo : Int) (B : List Int) : ab.Jt → ad
 | .ok s => MM b bl sz mo B s
 | .error e => MD b bl sz mo e
set_option maxHeartbeats 2000000 in
theorem zW (bm bw bn b bl : Nat) (sz mo : Int) (w : Nat) (n : Int) (s0 : ab.St) (o : Except Int ab.St) (B : List Int) (hl : B.length < 500000000) (hB : af.an B) (hm : mo < 1000000000) (hw : w < 1000000000) (hok0 : ab.Ok B mo s0) (hlp0 : ab.Lp B mo w n s0 o) : aA Tryz.prog 168 [.pointer (some ⟨bm, 0, none⟩), .pointer (some ⟨bw, 0, none⟩), .pointer (some ⟨bn, 0, none⟩)] [ai bm 204 [.pointer (some ⟨b, 0, none⟩)], ai bw 3 [.int .i64 (w : Int)], ai bn 3 [.int .i64 n], MM b bl sz mo B s0] (gB o (fun s2 v G => v = .tuple #[] ∧ G = [ai bm 204 [.pointer (some ⟨b, 0, none⟩)], ai bw 3 [.int .i64 (w : Int)], ai bn 3 [.int .i64 n], MM b bl sz mo B s2]) [ai bm 204 [.pointer (some ⟨b, 0, none⟩)], ai bw 3 [.int .i64 (w : Int)], ai bn 3 [.int .i64 n], MX b bl sz mo]) := by
 refine au [(0, _), (1, _), (2, _)] Tryz.func168 rfl Tryz.ntmps168 rfl rfl ?_
 intro w0 F
 refine rT TT 1 rfl ?_
 refine cE (fun (s : ab.St) => [(0, .pointer (some ⟨bm, 0, none⟩)), (1, .pointer (some ⟨bw, 0, none⟩)), (2, .pointer (some ⟨bn, 0, none⟩))]) (fun (s : ab.St) => MM b bl sz mo B s :: ai bm 204 [.pointer (some ⟨b, 0, none⟩)] :: ai bw 3 [.int .i64 (w : Int)] :: ai bn 3 [.int .i64 n] :: F) (fun (s : ab.St) => ab.Ok B mo s ∧ ab.Lp B mo w n s o) (fun (s : ab.St) => ab.mu B s) (i1 (s0) ?_ (gL ln) (sub (.cons dk (eU .nil)) ak)) ?_
 ·exact ⟨hok0, hlp0⟩
 intro s
 rintro ⟨hok, hlp⟩
 rcases (Bool.eq_false_or_eq_true s.ended) with he | he
 ·refine rL TT 2 rfl ?_
  have hro := hok.room
  refine (vA) ?_
  rintro ⟨li, di⟩ _
  dsimp only
  simp only [List.cons_append, List.nil_append]
  refine (sZ) ?_
  rintro ⟨po, co⟩ _
  dsimp only
  simp only [List.cons_append, List.nil_append]
  refine wN [pz 0 [] [0], pz 1 [0] [], pz 3 [1] [], pz 7 [2] [], pz 15 [3] [], pz 31 [4] [], pz 63 [5] [0], pz 127 [6, 5] [], pz 255 [7, 5] [], pz 511 [8, 5] [], pz 1023 [9, 5] [], pz 63 [5] [1], pz 4095 [10, 11, 5] [], pz 63 [5] [2], pz 16383 [12, 13, 5] [], pz 32767 [5, 14] []] [⟨fun y => ai b 223 [.pointer (some ⟨bl, 0, none⟩), .int .i64 sz, .int .i64 mo, .slice po s.out.length co, .bool s.ended, .int .i64 0, .int .i64 s.kind, .int .i64 (s.left : Int), .bool s.last, li, di, .int .i64 (s.aw : Int), .int .i64 (s.bA : Int)], none, none, [3]⟩, ⟨fun y => Row U5 po s.out.length co s.out, none, none, []⟩, ⟨fun y => LW bl B s.at_ [] 0, none, none, []⟩, ⟨fun y => CD li di s, none, none, []⟩, ⟨fun y => ai bm 204 [.pointer (some ⟨b, 0, none⟩)], none, none, [0]⟩, ⟨fun y => ai bw 3 [.int .i64 (w : Int)], none, none, []⟩, ⟨fun y => ai bn 3 [.int .i64 n], none, none, []⟩] F V.mixed ?_
  refine nR (fun y FF hA => az V.r4 rfl aB rfl) ?_
  refine nN ?_
  refine nG V.xe ?_
  refine nR (fun y FF hA => cW (v := .bool true) (az V.s4 rfl aB rfl) (by rw [he])) ?_
  refine nV (fun y hA L => cW (v := .bool false) (lG rfl) rfl) ?_
  refine nM ?_
  refine (jr) ?_
  refine (jr) ?_
  refine (jr) ?_
  refine (jr) ?_
  refine (jr) ?_
  refine (jr) ?_
  refine (jr) ?_
  refine (jr) ?_
  refine (jr) ?_
  refine nV (fun y hA L => uH rfl rfl) ?_
  refine (Qb) ?_
  intro y hA
  clear hA
  refine bj<|(Vf)<|(Vb)<|(Qf) ?_
  refine (fun hs => gr (x := s) (ab.IC hlp (by exact .inl he)) eH ⟨rfl, rfl⟩ (Sl.Sub.trans ((aM (aO .nil) .refl (fun w0 h hh => cT (s := s) rfl hh)).trans (aM (eU .nil) .refl (fun w0 h hh => fm (s := s) hh))) hs)) (sub (.cons ax (.cons ax (.cons ax (ao .nil)))) ak)
 ·refine rL TT 2 rfl ?_
  have hro := hok.room
  refine (vA) ?_
  rintro ⟨li, di⟩ _
  dsimp only
  simp only [List.cons_append, List.nil_append]
  refine (sZ) ?_
  rintro ⟨po, co⟩ _
  dsimp only
  simp only [List.cons_append, List.nil_append]
  refine wN [pz 0 [] [0], pz 1 [0] [], pz 3 [1] [], pz 7 [2] [], pz 15 [3] [], pz 31 [4] [], pz 63 [5] [0], pz 127 [6, 5] [], pz 255 [7, 5] [], pz 511 [8, 5] [], pz 1023 [9, 5] [], pz 63 [5] [1], pz 4095 [10, 11, 5] [], pz 63 [5] [2], pz 16383 [12, 13, 5] [], pz 32767 [5, 14] []] [⟨fun y => ai b 223 [.pointer (some ⟨bl, 0, none⟩), .int .i64 sz, .int .i64 mo, .slice po s.out.length co, .bool s.ended, .int .i64 0, .int .i64 s.kind, .int .i64 (s.left : Int), .bool s.last, li, di, .int .i64 (s.aw : Int), .int .i64 (s.bA : Int)], none, none, [3, 9]⟩, ⟨fun y => Row U5 po s.out.length co s.out, none, none, []⟩, ⟨fun y => LW bl B s.at_ [] 0, none, none, []⟩, ⟨fun y => CD li di s, none, none, []⟩, ⟨fun y => ai bm 204 [.pointer (some ⟨b, 0, none⟩)], none, none, [0, 6]⟩, ⟨fun y => ai bw 3 [.int .i64 (w : Int)], none, none, [11]⟩, ⟨fun y => ai bn 3 [.int .i64 n], none, none, [13]⟩] F V.mixed ?_
  refine nR (fun y FF hA => az V.r4 rfl aB rfl) ?_
  refine nN ?_
  refine nG V.xe ?_
  refine nR (fun y FF hA => cW (v := .bool false) (az V.s4 rfl aB rfl) (by rw [he])) ?_
  refine nV (fun y hA L => cW (v := .bool true) (lG rfl) rfl) ?_
  refine nM ?_
  refine kT _ _ (fun y => rfl) rfl (fun y => rfl) rfl (fun y FF hA => gO rfl (de (az V.r4 rfl aB rfl) ⟨rfl, rfl⟩)) (by intros; rfl) (by intro y y2 h; rfl) ?_
  refine dm _ (fun y => rfl) rfl rfl rfl (fun y hA L => gO rfl (de (Bg rfl) ⟨rfl, rfl⟩)) (by intros; rfl) (by intro y y2 h; rfl) ?_
  refine dm _ (fun y => rfl) rfl rfl rfl (fun y hA L => gO rfl (de (bg V.js rfl) ⟨rfl, rfl⟩)) (by intros; rfl) (by intro y y2 h; rfl) ?_
  refine kT _ _ (fun y => rfl) rfl (fun y => rfl) rfl (fun y FF hA => gO rfl (de (az V.jw rfl aB rfl) ⟨rfl, rfl⟩)) (by intros; rfl) (by intro y y2 h; rfl) ?_
  refine dm _ (fun y => rfl) rfl rfl rfl (fun y hA L => gO rfl (de (ko (ty' := 0) Tryz.underlying22 rfl) ⟨rfl, rfl⟩)) (by intros; rfl) (by intro y y2 h; rfl) ?_
  refine (Wa) ?_
  refine (Ww) ?_
  refine (Wa) ?_
  refine (UU) ?_
  refine nV (fun y hA L => ns rfl rfl) ?_
  refine (Qb) ?_
  intro y hA
  clear hA
  refine bj<|(Vf)<|(Vb) ?_
  refine aD rfl (fun h18 => ?_) (fun h18 => ?_)
  ·refine (Q4) ?_
   rcases (ab.fF (ab.one B mo s)) with ⟨e, hp⟩ | ⟨s2, hp⟩
   ·refine (Uo)<|(Qo)<|(QJ) ?_
    refine dg ((Iy b bl sz mo s B hl hB hm hok).err hp) V.Nw rfl (ao .nil) ?_
    rintro _ _ ⟨hpe, rfl⟩
    refine (eE (cU (eE ?_)))
    exact dq (ab.TW hlp he (by omega) hp) hpe (sub (.cons ax (.cons ax (.cons ax (ao .nil)))) ak)
   ·refine (Uo) ?_
    have hg := ab.kS hB hok hp
    refine (Qo)<|(QJ) ?_
    refine aj ((Iy b bl sz mo s B hl hB hm hok).ok hp) V.Nw  rfl (ao .nil) rfl ?_
    rintro _ _ ⟨rfl, rfl⟩
    refine (Q6) ?_
    refine j1 (s2) ?_ (gL ln) (sub (mf .nil) ak)
    exact ⟨⟨hg.ok, ab.TX hlp he (by omega) hp⟩, hg.less⟩
  ·refine (Q5) ?_
   refine (fun hs => gr (x := s) (ab.IC hlp (by exact .inr (by omega))) eH ⟨rfl, rfl⟩ (Sl.Sub.trans ((aM (aO .nil) .refl (fun w0 h hh => cT (s := s) rfl hh)).trans (aM (eU .nil) .refl (fun w0 h hh => fm (s := s) hh))) hs)) (sub (.cons ax (.cons ax (.cons ax (ao .nil)))) ak)
end Go.Proofs.YtmaiakpjgomnpaaGreat
namespace Go.Proofs.YtmaiakpjgomnpaaGreat
open Go.Sl 
attribute [local irreducible] ae.bb ae.tk ae.ord ae.bM ae.words ae.bY ab.gK ab.bU ab.cC ab.dp ab.hL ab.hD ab.hC ab.eG ab.told ab.fb ab.ig ab.rep ab.eo ab.dw ab.sym ab.cS af.aJ ab.dT ab.cM ab.one ab.dP
set_option maxHeartbeats 2000000 in
theorem FI (b bl : Nat) (sz mo : Int) (B : List Int) (s : ab.St) (n : Int) (hok : ab.Ok B mo s) (hm : mo < 1000000000) (hx : n < 1 ∨ s.ended = true) : aA Tryz.prog 147 [.pointer (some ⟨b, 0, none⟩), .int .i64 n] [MM b bl sz mo B s] (aF fun v G => v = .bool s.ended ∧ G = [MM b bl sz mo B s]) := by
 refine (Je) ?_
 intro w0 F
 have hro := hok.room
 refine (vA) ?_
 rintro ⟨li, di⟩ _
 dsimp only
 simp only [List.cons_append, List.nil_append]
 refine (sZ) ?_
 rintro ⟨po, co⟩ _
 dsimp only
 simp only [List.cons_append, List.nil_append]
 refine (Qt)<|(tG) ?_
 intro b2
 refine (tG) ?_
 intro b3
 refine (Q1)<|(QJ)<|(zo)<|(qW)<|(QJ)<|(Qj)<|(Iw)<|(Q0)<|(Dg)<|(Q1) ?_
 rcases (Classical.em (n < 1)) with h1 | h1
 ·refine (sM) ?_
  refine oV (c9 (dR rfl rfl) h1)<|(Qp)<|(QJ)<|(Q6)<|(C3)<|(Q3) ?_
  exact ag (av rfl) ⟨rfl, rfl⟩ (Sl.Sub.trans ((aM (.cons bo (.cons bo .nil)) .refl (fun w0 h hh => cT (s := s) rfl hh)).trans (aM (ao (.cons bo (.cons bo .nil))) .refl (fun w0 h hh => fm (s := s) hh))) (sub (ao .nil) fV))
 ·refine (sM) ?_
  refine oV (bS (dR rfl rfl) h1)<|(qW)<|(QJ)<|(Qj) ?_
  refine oV (cW (v := .bool true) (az V.s4 rfl dJ rfl) (by rw [hx.resolve_left h1]))<|(Q1)<|(QJ)<|(Q6)<|(C3)<|(Q3) ?_
  exact ag (av rfl) ⟨rfl, rfl⟩ (Sl.Sub.trans ((aM (.cons bo (.cons bo .nil)) .refl (fun w0 h hh => cT (s := s) rfl hh)).trans (aM (ao (.cons bo (.cons bo .nil))) .refl (fun w0 h hh => fm (s := s) hh))) (sub (ao .nil) fV))
set_option maxHeartbeats 2000000 in
theorem Gg (b bl : Nat) (sz mo : Int) (B : List Int) (s : ab.St) (n : Int) (hl : B.length < 500000000) (hB : af.an B) (hn : 1 ≤ n) (hok : ab.Ok B mo s) (hm : mo < 1000000000) (he : s.ended = false) (s2 : ab.St) (hlp : ab.Lp B mo s.out.length n s (.ok s2)) : aA Tryz.prog 147 [.pointer (some ⟨b, 0, none⟩), .int .i64 n] [MM b bl sz mo B s] (aF fun v G => v = .bool s2.ended ∧ G = [MM b bl sz mo B s2]) := by
 refine (Je) ?_
 intro w0 F
 have hro := hok.room
 refine (vA) ?_
 rintro ⟨li, di⟩ _
 dsimp only
 simp only [List.cons_append, List.nil_append]
 refine (sZ) ?_
 rintro ⟨po, co⟩ _
 dsimp only
 simp only [List.cons_append, List.nil_append]
 refine (Qt)<|(tG) ?_
 intro b2
 refine (tG) ?_
 intro b3
 refine (Q1)<|(QJ)<|(zo)<|(qW)<|(QJ)<|(Qj)<|(Iw)<|(Q0)<|(Dg)<|(Qn)<|(Qk)<|(QE)<|(qW)<|(QJ)<|(VS)<|(Ql)<|(QJ)<|(Q6) ?_
 refine oV (az V.jw rfl dJ rfl) ?_
 refine (ow) ?_
 refine dh V.z3 rfl ?_
 intro b5
 refine (pY)<|(Qg)<|(VM)<|(Qo) ?_
 refine oV (BV (fs := []) (cs := [_, _, _]) rfl rfl)<|aj (Hc (f := 168) (cs := [.pointer (some ⟨b2, 0, none⟩), .pointer (some ⟨b5, 0, none⟩), .pointer (some ⟨b3, 0, none⟩)]) (R := fun G => G = [ai b2 204 [.pointer (some ⟨b, 0, none⟩)], ai b5 3 [.int .i64 (s.out.length : Int)], ai b3 3 [.int .i64 n], MM b bl sz mo B s2]) (aA.Y0 ((zW b2 b5 b3 b bl sz mo s.out.length n s (.ok s2) B hl hB hm (by omega) hok hlp).ok rfl)) V.NP) V.OO  rfl (.cons dk (.cons ax (.cons ax (ao .nil)))) rfl ?_
 rintro _ _ ⟨rfl, rfl⟩
 refine (Qc) ?_
 refine oV (bS (cG rfl rfl) (by decide))<|(Q1) ?_
 refine k5 dk (fun h hh => ua hh) ?_
 rintro ⟨li2, di2⟩ _
 dsimp only
 simp only [List.cons_append, List.nil_append]
 refine (sZ) ?_
 rintro ⟨po2, co2⟩ _
 dsimp only
 simp only [List.cons_append, List.nil_append]
 refine (Qo) ?_
 refine oV (az V.r4 rfl jK rfl) ?_
 refine (Q6) ?_
 refine (nf) ?_
 refine (Q8) ?_
 exact ag (av rfl) ⟨rfl, rfl⟩ (Sl.Sub.trans ((aM (aO .nil) .refl (fun w0 h hh => cT (s := s2) rfl hh)).trans (aM (eU .nil) .refl (fun w0 h hh => fm (s := s2) hh))) (sub (ao .nil) ny))
theorem JR {b bl : Nat} {sz mo : Int} {w0 : World} {h : Hp} (hh : MX b bl sz mo w0 h) : ∃ i : Vx, True ∧ bZ w0 [ai b 223 [.pointer (some ⟨bl, 0, none⟩), .int .i64 sz, .int .i64 mo, i.v3, i.v4, i.v5, i.v6, i.v7, i.v8, i.v9, i.v10, i.v11, i.v12]] h := hh
theorem AS {b bl : Nat} {sz mo e : Int} {w0 : World} {h : Hp} (hh : MD b bl sz mo e w0 h) : ∃ i : Vx, True ∧ bZ w0 [ai b 223 [.pointer (some ⟨bl, 0, none⟩), .int .i64 sz, .int .i64 mo, .slice none 0 0, .bool true, .int .i64 e, i.v6, i.v7, i.v8, i.v9, i.v10, i.v11, i.v12]] h := hh
set_option maxHeartbeats 2000000 in
theorem Gf (b bl : Nat) (sz mo : Int) (B : List Int) (s : ab.St) (n : Int) (hl : B.length < 500000000) (hB : af.an B) (hn : 1 ≤ n) (hok : ab.Ok B mo s) (hm : mo < 1000000000) (he : s.ended = false) (e : Int) (hE : e ≠ 0) (hlp : ab.Lp B mo s.out.length n s (.error e)) : aA Tryz.prog 147 [.pointer (some ⟨b, 0, none⟩), .int .i64 n] [MM b bl sz mo B s] (aF fun v G => v = .bool true ∧ G = [MD b bl sz mo e]) := by
 refine (Je) ?_
 intro w0 F
 have hro := hok.room
 refine (vA) ?_
 rintro ⟨li, di⟩ _
 dsimp only
 simp only [List.cons_append, List.nil_append]
 refine (sZ) ?_
 rintro ⟨po, co⟩ _
 dsimp only
 simp only [List.cons_append, List.nil_append]
 refine (Qt)<|(tG) ?_
 intro b2
 refine (tG) ?_
 intro b3
 refine (Q1)<|(QJ)<|(zo)<|(qW)<|(QJ)<|(Qj)<|(Iw)<|(Q0)<|(Dg)<|(Qn)<|(Qk)<|(QE)<|(qW)<|(QJ)<|(VS)<|(Ql)<|(QJ)<|(Q6) ?_
 refine oV (az V.jw rfl dJ rfl) ?_
 refine (ow) ?_
 refine dh V.z3 rfl ?_
 intro b5
 refine (pY)<|(Qg)<|(VM)<|(Qo) ?_
 refine oV (BV (fs := []) (cs := [_, _, _]) rfl rfl)<|aj (G6 (f := 168) (cs := [.pointer (some ⟨b2, 0, none⟩), .pointer (some ⟨b5, 0, none⟩), .pointer (some ⟨b3, 0, none⟩)]) (R := fun G => G = [ai b2 204 [.pointer (some ⟨b, 0, none⟩)], ai b5 3 [.int .i64 (s.out.length : Int)], ai b3 3 [.int .i64 n], MX b bl sz mo]) ((zW b2 b5 b3 b bl sz mo s.out.length n s (.error e) B hl hB hm (by omega) hok hlp).err rfl) V.NP) V.OO  rfl (.cons dk (.cons ax (.cons ax (ao .nil)))) rfl ?_
 rintro _ _ ⟨rfl, rfl⟩
 refine (Qc) ?_
 refine oV (c9 (cG rfl rfl) hE)<|(Qg) ?_
 refine k5 dk (fun h hh => JR hh) ?_
 rintro ⟨v3, v4, v5, v6, v7, v8, v9, v10, v11, v12⟩ _
 dsimp only
 simp only [List.cons_append, List.nil_append]
 refine wN [pz 0 [] [2], pz 0 [] [2], pz 0 [] [2], pz 0 [] [6], pz 1 [0] [], pz 17 [4] [], pz 49 [5] [], pz 123 [1] [], pz 251 [7] [], pz 507 [8, 3] [], pz 1023 [2] [], pz 2047 [10] [], pz 4095 [11] []] [⟨fun y => ai b 223 [.pointer (some ⟨bl, 0, none⟩), .int .i64 sz, .int .i64 mo, v3, v4, v5, v6, v7, v8, v9, v10, v11, v12], none, some 6, []⟩, ⟨fun y => ai b2 204 [.pointer (some ⟨b, 0, none⟩)], none, none, [0, 1, 2]⟩, ⟨fun y => ai b5 3 [.int .i64 (s.out.length : Int)], none, none, []⟩, ⟨fun y => ai b3 3 [.int .i64 n], none, none, []⟩, ⟨fun y => ai b 223 [.pointer (some ⟨bl, 0, none⟩), .int .i64 sz, .int .i64 mo, v3, .bool true, v5, v6, v7, v8, v9, v10, v11, v12], some 6, some 9, []⟩, ⟨fun y => ai b 223 [.pointer (some ⟨bl, 0, none⟩), .int .i64 sz, .int .i64 mo, v3, .bool true, .int .i64 e, v6, v7, v8, v9, v10, v11, v12], some 9, some 12, []⟩, ⟨fun y => ai b 223 [.pointer (some ⟨bl, 0, none⟩), .int .i64 sz, .int .i64 mo, .slice none 0 0, .bool true, .int .i64 e, v6, v7, v8, v9, v10, v11, v12], some 12, none, []⟩] F V.mixed ?_
 iterate 3 refine nR (fun y FF hA => az V.r4 rfl aB rfl) ?_
 refine nM ?_
 refine nN ?_
 refine nG V.xe ?_
 refine nE (fun y FF hA => de (dD V.s4 rfl rfl rfl (by exact fO) (by exact Nat.le_of_ble_eq_true rfl) rfl) ⟨rfl, .refl _⟩) ?_
 refine nN ?_
 refine nG V.RJ ?_
 refine nE (fun y FF hA => de (dD V.Et rfl rfl rfl (by exact fO) (by exact Nat.le_of_ble_eq_true rfl) rfl) ⟨rfl, .refl _⟩) ?_
 refine nN ?_
 refine nG V.js ?_
 refine nE (fun y FF hA => de (dD V.jw rfl rfl rfl (by exact fO) (by exact Nat.le_of_ble_eq_true rfl) rfl) ⟨rfl, .refl _⟩) ?_
 refine (Qb) ?_
 intro y hA
 clear hA
 refine bj<|(Jc) ?_
 refine a7 (M := ai b2 204 [.pointer (some ⟨b, 0, none⟩)] :: ai b5 3 [.int .i64 (s.out.length : Int)] :: ai b3 3 [.int .i64 n] :: ai b 223 [.pointer (some ⟨bl, 0, none⟩), .int .i64 sz, .int .i64 mo, .slice none 0 0, .bool true, .int .i64 e, v6, v7, v8, v9, v10, v11, v12] :: F) (fun _ _ h => h)<|(Q9) ?_
 refine oV (az V.r4 rfl aB rfl)<|(Q6) ?_
 refine oV (az V.s4 rfl gq rfl)<|(Q8) ?_
 exact ag (av rfl) ⟨rfl, rfl⟩ (aM (.cons dk .nil) ny (fun w0 h hh => jt hh))
set_option maxHeartbeats 2000000 in
theorem FR (b bl : Nat) (sz mo : Int) (e : Int) (n : Int) : aA Tryz.prog 147 [.pointer (some ⟨b, 0, none⟩), .int .i64 n] [MD b bl sz mo e] (aF fun v G => v = .bool true ∧ G = [MD b bl sz mo e]) := by
 refine (Je) ?_
 intro w0 F
 refine (Ir) ?_
 rintro ⟨v3, v4, v5, v6, v7, v8, v9, v10, v11, v12⟩ _
 dsimp only
 simp only [List.cons_append, List.nil_append]
 refine (Qt)<|(tG) ?_
 intro b2
 refine (tG) ?_
 intro b3
 refine (Q1)<|(QJ)<|(zo)<|(qW)<|(QJ)<|(Qj)<|(Iw)<|(Q0)<|(Dg)<|(Q1) ?_
 rcases (Classical.em (n < 1)) with h1 | h1
 ·refine (sM) ?_
  refine oV (c9 (dR rfl rfl) h1)<|(Qp)<|(QJ)<|(Q6)<|(C3)<|(Q3) ?_
  exact ag (av rfl) ⟨rfl, rfl⟩ (aM (.cons bo .nil) fV (fun w0 h hh => jt hh))
 ·refine (sM) ?_
  refine oV (bS (dR rfl rfl) h1)<|(qW)<|(QJ)<|(Qj)<|(C3)<|(Q1)<|(QJ)<|(Q6)<|(C3)<|(Q3) ?_
  exact ag (av rfl) ⟨rfl, rfl⟩ (aM (.cons bo .nil) fV (fun w0 h hh => jt hh))
theorem xM (b bl : Nat) (sz mo : Int) (B : List Int) (s : ab.St) : aA Tryz.prog 146 [.pointer (some ⟨b, 0, none⟩)] [MM b bl sz mo B s] (aF fun v G => v = .bool s.ended ∧ G = [MM b bl sz mo B s]) := by
 refine au [(0, _)] Tryz.func146 rfl Tryz.ntmps146 rfl rfl ?_
 intro w0 F
 refine (vA) ?_
 rintro ⟨li, di⟩ _
 dsimp only
 simp only [List.cons_append, List.nil_append]
 refine (sZ) ?_
 rintro ⟨po, co⟩ _
 dsimp only
 simp only [List.cons_append, List.nil_append]
 refine (Vw)<|(QF)<|(nf)<|(Q3) ?_
 exact ag (av rfl) ⟨rfl, rfl⟩ (Sl.Sub.trans ((aM (aO .nil) .refl (fun w0 h hh => cT (s := s) rfl hh)).trans (aM (eU .nil) .refl (fun w0 h hh => fm (s := s) hh))) (sub (ao .nil) ak))
theorem qi (b bl : Nat) (sz mo : Int) (e : Int) : aA Tryz.prog 146 [.pointer (some ⟨b, 0, none⟩)] [MD b bl sz mo e] (aF fun v G => v = .bool true ∧ G = [MD b bl sz mo e]) := by
 refine au [(0, _)] Tryz.func146 rfl Tryz.ntmps146 rfl rfl ?_
 intro w0 F
 refine (Ir) ?_
 rintro ⟨v3, v4, v5, v6, v7, v8, v9, v10, v11, v12⟩ _
 dsimp only
 simp only [List.cons_append, List.nil_append]
 refine (Vw)<|(QF)<|(nf)<|(Q3) ?_
 exact ag (av rfl) ⟨rfl, rfl⟩ (aM (ao .nil) ak (fun w0 h hh => jt hh))
theorem Tm (b bl : Nat) (sz mo : Int) (B : List Int) (s : ab.St) : aA Tryz.prog 150 [.pointer (some ⟨b, 0, none⟩)] [MM b bl sz mo B s] (aF fun v G => v = .int .i64 0 ∧ G = [MM b bl sz mo B s]) := by
 refine au [(0, _)] Tryz.func150 rfl Tryz.ntmps150 rfl rfl ?_
 intro w0 F
 refine (vA) ?_
 rintro ⟨li, di⟩ _
 dsimp only
 simp only [List.cons_append, List.nil_append]
 refine (sZ) ?_
 rintro ⟨po, co⟩ _
 dsimp only
 simp only [List.cons_append, List.nil_append]
 refine (QV)<|(zo)<|(Qe)<|(I8)<|(Q8) ?_
 exact ag (av rfl) ⟨rfl, rfl⟩ (Sl.Sub.trans ((aM (aO .nil) .refl (fun w0 h hh => cT (s := s) rfl hh)).trans (aM (eU .nil) .refl (fun w0 h hh => fm (s := s) hh))) (sub (ao .nil) ak))
theorem Fi (b bl : Nat) (sz mo : Int) (e : Int) : aA Tryz.prog 150 [.pointer (some ⟨b, 0, none⟩)] [MD b bl sz mo e] (aF fun v G => v = .int .i64 e ∧ G = [MD b bl sz mo e]) := by
 refine au [(0, _)] Tryz.func150 rfl Tryz.ntmps150 rfl rfl ?_
 intro w0 F
 refine (Ir) ?_
 rintro ⟨v3, v4, v5, v6, v7, v8, v9, v10, v11, v12⟩ _
 dsimp only
 simp only [List.cons_append, List.nil_append]
 refine (QV)<|(zo)<|(Qe)<|(I8)<|(Q8) ?_
 exact ag (av rfl) ⟨rfl, rfl⟩ (aM (ao .nil) ak (fun w0 h hh => jt hh))
theorem J9 (b bl : Nat) (sz mo : Int) (B : List Int) (s : ab.St) (he : s.ended = false) : aA Tryz.prog 148 [.pointer (some ⟨b, 0, none⟩)] [MM b bl sz mo B s] (aF fun v G => v = .slice none 0 0 ∧ G = [MM b bl sz mo B s]) := by
 refine (N4) ?_
 intro w0 F
 refine (QV)<|(MZ) ?_
 rintro _ _ ⟨rfl, rfl⟩
 rw [he]
 refine (Qp) ?_
 exact ag (av rfl) ⟨rfl, rfl⟩ (sub (ao .nil) ak)
set_option maxHeartbeats 1000000 in
theorem FN (b bl : Nat) (sz mo : Int) (B : List Int) (s : ab.St) (hok : ab.Ok B mo s) (hm : mo < 500000000) (he : s.ended = true) : aA Tryz.prog 148 [.pointer (some ⟨b, 0, none⟩)] [MM b bl sz mo B s] (aF fun v G => ∃ q c, v = .slice q s.out.length c ∧ G = [Row U5 q s.out.length c s.out, MM b bl sz mo B s]) := by
 refine (N4) ?_
 intro w0 F
 refine (QV)<|(MZ) ?_
 rintro _ _ ⟨rfl, rfl⟩
 rw [he]
 refine (Qc) ?_
 have hro := hok.room
 refine (vA) ?_
 rintro ⟨li, di⟩ _
 dsimp only
 simp only [List.cons_append, List.nil_append]
 refine (sZ) ?_
 rintro ⟨po, co⟩ _
 dsimp only
 simp only [List.cons_append, List.nil_append]
 refine (Q5)<|(vk) ?_
 refine aj (np po co s.out (Row U5 po s.out.length co s.out) (fun _ _ hh => hh.rd) (by omega)) V.zV  rfl (.cons ax .nil) rfl ?_
 rintro _ _ ⟨q10, c10, rfl, rfl⟩
 refine (Q8) ?_
 exact ag (av rfl) ⟨q10, c10, rfl, rfl⟩ (Sl.Sub.trans ((aM (.cons bo (.cons ax .nil)) .refl (fun w0 h hh => cT (s := s) rfl hh)).trans (aM (ao (.cons ax (.cons ax .nil))) .refl (fun w0 h hh => fm (s := s) hh))) (sub (.cons ax (ao .nil)) ak))
set_option maxHeartbeats 1000000 in
theorem AK (b bl : Nat) (sz mo : Int) (e : Int) : aA Tryz.prog 148 [.pointer (some ⟨b, 0, none⟩)] [MD b bl sz mo e] (aF fun v G => ∃ q c, v = .slice q 0 c ∧ G = [Row U5 q 0 c [], MD b bl sz mo e]) := by
 refine (N4) ?_
 intro w0 F
 refine (QV) ?_
 refine aj (qi b bl sz mo e) V.ug  rfl (ao .nil) rfl ?_
 rintro _ _ ⟨rfl, rfl⟩
 refine (Qc)<|(Ir) ?_
 rintro ⟨v3, v4, v5, v6, v7, v8, v9, v10, v11, v12⟩ _
 dsimp only
 simp only [List.cons_append, List.nil_append]
 refine (xF)<|(Q5)<|(vb) ?_
 refine aj (np none 0 [] (Row U5 none 0 0 []) (fun _ _ hh => hh.rd) (by decide)) V.zV  rfl (ao .nil) rfl ?_
 rintro _ _ ⟨q10, c10, rfl, rfl⟩
 refine (Q8) ?_
 exact ag (av rfl) ⟨q10, c10, rfl, rfl⟩ (Sl.Sub.trans (aM (.cons bo .nil) .refl (fun w0 h hh => jt hh)) (sub (.cons ax (ao .nil)) bu))
theorem FG (b bl : Nat) (sz mo : Int) (B : List Int) (s : ab.St) (he : s.ended = false) : aA Tryz.prog 149 [.pointer (some ⟨b, 0, none⟩)] [MM b bl sz mo B s] (aF fun v G => v = .int .i64 0 ∧ G = [MM b bl sz mo B s]) := by
 refine (NJ) ?_
 intro w0 F
 refine (QV)<|(MZ) ?_
 rintro _ _ ⟨rfl, rfl⟩
 rw [he]
 exact rO TT 18 rfl<|ag (av rfl) ⟨rfl, rfl⟩ (sub (ao .nil) ak)
theorem zm (b bl : Nat) (sz mo : Int) (e : Int) (hE : e ≠ 0) : aA Tryz.prog 149 [.pointer (some ⟨b, 0, none⟩)] [MD b bl sz mo e] (aF fun v G => v = .int .i64 0 ∧ G = [MD b bl sz mo e]) := by
 refine (NJ) ?_
 intro w0 F
 refine (QV) ?_
 refine aj (qi b bl sz mo e) V.ug  rfl (ao .nil) rfl ?_
 rintro _ _ ⟨rfl, rfl⟩
 refine Fh dj (fun h hh => AS hh) ?_
 rintro ⟨v3, v4, v5, v6, v7, v8, v9, v10, v11, v12⟩ _
 dsimp only
 simp only [List.cons_append, List.nil_append]
 refine (Q3) ?_
 refine (Q0) ?_
 refine (I8) ?_
 refine (Q0) ?_
 refine oV (c9 (cG rfl rfl) hE) ?_
 refine (Qp) ?_
 exact ag (av rfl) ⟨rfl, rfl⟩ (aM (ao .nil) ak (fun w0 h hh => jt hh))
set_option maxHeartbeats 1000000 in
theorem Dd (b bl : Nat) (mo : Int) (B : List Int) (s : ab.St) (hl : B.length < 500000000) (hok : ab.Ok B mo s) (hm : mo < 1000000000) (he : s.ended = true) : aA Tryz.prog 149 [.pointer (some ⟨b, 0, none⟩)] [MM b bl (B.length : Int) mo B s] (aF fun v G => v = .int .i64 (((s.at_ + 7) / 8 : Nat) : Int) ∧ G = [MM b bl (B.length : Int) mo B s]) := by
 refine (NJ) ?_
 intro w0 F
 refine (QV) ?_
 refine aj (xM b bl (B.length : Int) mo B s) V.ug  rfl (ao .nil) rfl ?_
 rintro _ _ ⟨rfl, rfl⟩
 rw [he]
 refine Fh dj (fun h hh => ua hh) ?_
 rintro ⟨li, di⟩ _
 dsimp only
 simp only [List.cons_append, List.nil_append]
 refine IB (fun h hh => qH hh) ?_
 rintro ⟨po, co⟩ _
 dsimp only
 simp only [List.cons_append, List.nil_append]
 have hat := hok.at_
 refine (Q3) ?_
 refine (Q0) ?_
 refine (I8) ?_
 refine (Q0) ?_
 refine oV (bS (cG rfl rfl) (by decide)) ?_
 refine (Qc) ?_
 refine wN [pz 0 [] [0], pz 1 [0] [], pz 3 [1] [], pz 7 [2] [], pz 0 [] [0], pz 16 [4] [], pz 48 [5] [], pz 112 [6] [], pz 240 [7] [], pz 496 [8] [], pz 1023 [3, 9] [], pz 2047 [10] []] [⟨fun y => ai b 223 [.pointer (some ⟨bl, 0, none⟩), .int .i64 (B.length : Int), .int .i64 mo, .slice po s.out.length co, .bool s.ended, .int .i64 0, .int .i64 s.kind, .int .i64 (s.left : Int), .bool s.last, li, di, .int .i64 (s.aw : Int), .int .i64 (s.bA : Int)], none, none, [3, 7]⟩, ⟨fun y => Row U5 po s.out.length co s.out, none, none, []⟩, ⟨fun y => LW bl B s.at_ [] 0, none, some 8, []⟩, ⟨fun y => CD li di s, none, none, []⟩, ⟨fun y => LW bl B s.at_ [] 0, some 8, none, []⟩] F V.mixed ?_
 refine nM ?_
 refine nN ?_
 refine nG V.NQ ?_
 refine (Qy) ?_
 refine nM ?_
 refine nN ?_
 refine (mq) ?_
 refine (mv) ?_
 refine nE (fun y FF hA => aV (Post := [LW bl B s.at_ [] 0]) (M3 bl B s.at_ [] 0 hl hok.at_) V.W2 rfl (ao .nil) (fun v G h => by rcases h with ⟨rfl, rfl⟩; exact ⟨rfl, .refl _⟩)) ?_
 refine (Uz) ?_
 refine (uV) ?_
 refine nA ?_
 refine (Qb) ?_
 intro y hA
 clear hA
 refine bj<|(Jc) ?_
 refine a7 (M := ai b 223 [.pointer (some ⟨bl, 0, none⟩), .int .i64 (B.length : Int), .int .i64 mo, .slice po s.out.length co, .bool s.ended, .int .i64 0, .int .i64 s.kind, .int .i64 (s.left : Int), .bool s.last, li, di, .int .i64 (s.aw : Int), .int .i64 (s.bA : Int)] :: Row U5 po s.out.length co s.out :: CD li di s :: LW bl B s.at_ [] 0 :: F) (fun _ _ h => h)<|(Qa) ?_
 rw [show (B.length : Int) - (8 * (B.length : Int) - (s.at_ : Int)) / 8 = (((s.at_ + 7) / 8 : Nat) : Int) from by omega]
 exact ag (av rfl) ⟨rfl, rfl⟩ (Sl.Sub.trans ((aM (aO .nil) .refl (fun w0 h hh => cT (s := s) rfl hh)).trans (aM (ao (.cons ax (.cons dj .nil))) .refl (fun w0 h hh => fm (s := s) hh))) (sub (ao .nil) ak))
end Go.Proofs.YtmaiakpjgomnpaaGreat
namespace Go.Proofs.YtmaiakpjgomnpaaGreat
open Go.Sl 
attribute [local irreducible] ae.bb ae.tk ae.ord ae.bM ae.words ae.bY ab.gK ab.bU ab.cC ab.dp ab.hL ab.hD ab.hC ab.eG ab.told ab.fb ab.ig ab.rep ab.eo ab.dw ab.sym ab.cS af.aJ ab.dT ab.cM ab.one ab.dP
set_option maxHeartbeats 1000000 in
theorem SO (p : Option Addr) (cap : Nat) (B : List Int) (R : ad) (hR : ∀ w0 h, R w0 h → aE U5 p B.length B w0 h) (hl : B.length < 500000000) (mo : Int) (hm : 0 ≤ mo) : aA Tryz.prog 145 [.slice p B.length cap, .int .i64 mo] [R] (aF fun v G => ∃ b bl, v = .pointer (some ⟨b, 0, none⟩) ∧ G = [MM b bl (B.length : Int) mo B ab.start, R]) := by
 refine au [(0, _), (1, _)] Tryz.func145 rfl Tryz.ntmps145 rfl rfl ?_
 intro w0 F
 refine (VA) ?_
 rintro _ _ ⟨bl7, rfl, rfl⟩
 refine (Qg)<|(VV) ?_
 intro b12
 refine (Qc)<|(QE)<|(Q1)<|(xF)<|(Qi) ?_
 exact ag (av rfl) ⟨b12, bl7, rfl, rfl⟩ (Sl.Sub.trans (Sl.Sub.trans (aM (.cons ax (ao .nil)) .refl (fun w0 h hh => cT (s := ab.start) (li := .pointer none) (di := .pointer none) rfl hh)) (aM (aO .nil) .refl (fun w0 h hh => mL (s := ab.start) (by decide) hh))) (sub (aO .nil) ak))
set_option maxHeartbeats 1000000 in
theorem Lx (p : Option Addr) (cap : Nat) (B : List Int) (R : ad) (hR : ∀ w0 h, R w0 h → aE U5 p B.length B w0 h) (hl : B.length < 500000000) (mo : Int) (hm : mo < 0) : aA Tryz.prog 145 [.slice p B.length cap, .int .i64 mo] [R] (aF fun v G => ∃ b bl, v = .pointer (some ⟨b, 0, none⟩) ∧ G = [MD b bl (B.length : Int) mo 1, R]) := by
 refine au [(0, _), (1, _)] Tryz.func145 rfl Tryz.ntmps145 rfl rfl ?_
 intro w0 F
 refine (VA) ?_
 rintro _ _ ⟨bl7, rfl, rfl⟩
 refine (Qg)<|(VV) ?_
 intro b12
 refine (Qc)<|(QY)<|(Ql)<|(Ak)<|(Q6) ?_
 refine cA (dD V.Et rfl rfl rfl (by exact fO) (by exact Nat.le_of_ble_eq_true rfl) rfl)<|(Qn) ?_
 exact ag (av rfl) ⟨b12, bl7, rfl, rfl⟩ (Sl.Sub.trans (aM (ao .nil) .refl (fun w0 h hh => jt hh)) (sub (ao (.cons ax .nil)) bu))
theorem aA.Tz {P : Program} {f : FuncId} {args : List Value} {Pre Gs : List ad} {v0 : Value} {A : ad} (h : aA P f args Pre (aF fun v G => v = v0 ∧ G = Gs)) (hA : ∀ w0, A w0 (fun _ => none)) : aA P f args Pre (aF fun v G => v = v0 ∧ G = A :: Gs) := fun w0 F w hi => (h w0 F w hi).mono fun e w' ⟨G, h1, v, h2, h3, h4⟩ => by
 subst h2; subst h3; subst h4
 exact ⟨A :: G, h1.r8 (hA w0), _, rfl, rfl, rfl⟩
section
variable (b bl : Nat) (mo : Int) (B : List Int) (r : ab.Jt)
theorem KJ (sz : Int) : aA Tryz.prog 146 [.pointer (some ⟨b, 0, none⟩)] [MJ b bl sz mo B r] (aF fun v G => v = .bool (ab.jN r) ∧ G = [MJ b bl sz mo B r]) := by
 cases r with
 | ok s => exact xM b bl sz mo B s
 | error e => exact qi b bl sz mo e
theorem L9 (sz : Int) : aA Tryz.prog 150 [.pointer (some ⟨b, 0, none⟩)] [MJ b bl sz mo B r] (aF fun v G => v = .int .i64 (ab.Cd r) ∧ G = [MJ b bl sz mo B r]) := by
 cases r with
 | ok s => exact Tm b bl sz mo B s
 | error e => exact Fi b bl sz mo e
theorem Jx (hl : B.length < 500000000) (hm : mo < 500000000) (hok : ab.vG B mo r) : aA Tryz.prog 149 [.pointer (some ⟨b, 0, none⟩)] [MJ b bl (B.length : Int) mo B r] (aF fun v G => v = .int .i64 (ab.qk r) ∧ G = [MJ b bl (B.length : Int) mo B r]) := by
 cases r with
 | ok s =>
  cases he : s.ended with
  | true => rw [show ab.qk (.ok s) = (((s.at_ + 7) / 8 : Nat) : Int) from if_pos he]; exact Dd b bl mo B s hl hok (by omega) he
  | false => rw [show ab.qk (.ok s) = 0 from if_neg (by rw [he]; decide)]; exact FG b bl (B.length : Int) mo B s he
 | error e => exact zm b bl (B.length : Int) mo e hok
theorem Ms (sz : Int) (hm : mo < 500000000) (hok : ab.vG B mo r) : aA Tryz.prog 148 [.pointer (some ⟨b, 0, none⟩)] [MJ b bl sz mo B r] (aF fun v G => ∃ q c, v = .slice q (ab.pJ r).length c ∧ G = [Row U5 q (ab.pJ r).length c (ab.pJ r), MJ b bl sz mo B r]) := by
 cases r with
 | ok s =>
  cases he : s.ended with
  | true => rw [show ab.pJ (.ok s) = s.out from if_pos he]; exact FN b bl sz mo B s hok hm he
  | false => rw [show ab.pJ (.ok s) = [] from if_neg (by rw [he]; decide)]; exact (aA.Tz (J9 b bl sz mo B s he) (A := Row U5 none 0 0 []) (fun w0 => Row.nil U5 w0 _)).mono fun e G ⟨v, h1, h2, h3⟩ => ⟨v, h1, none, 0, h2, h3⟩
 | error e => exact AK b bl sz mo e
theorem Kx (sz n : Int) (r' : ab.Jt) (hl : B.length < 500000000) (hB : af.an B) (hm : mo < 500000000) (hok : ab.vG B mo r) (hst : ab.A5 B mo n r r') : aA Tryz.prog 147 [.pointer (some ⟨b, 0, none⟩), .int .i64 n] [MJ b bl sz mo B r] (aF fun v G => v = .bool (ab.jN r') ∧ G = [MJ b bl sz mo B r']) := by
 rcases hst with ⟨hx, rfl⟩ | ⟨hn1, s, rfl, he, hl2⟩
 ·cases r' with
  | ok s => exact FI b bl sz mo B s n hok (by omega) hx
  | error e => exact FR b bl sz mo e n
 ·cases r' with
  | ok s2 => exact Gg b bl sz mo B s n hl hB hn1 hok (by omega) he s2 hl2
  | error e => exact Gf b bl sz mo B s n hl hB hn1 hok (by omega) he e (ab.Iv hl2 rfl) hl2
end
attribute [local irreducible] ab.pJ ab.qk ab.Cd ab.jN ab.Ou
set_option maxHeartbeats 1000000 in
theorem Ka (p : Option Addr) (cap : Nat) (B : List Int) (R : ad) (hR : ∀ w0 h, R w0 h → aE U5 p B.length B w0 h) (hl : B.length < 500000000) (hB : af.an B) (mo : Int) (hm : 0 ≤ mo ∧ mo < 500000000) (q : List Int × Int × Int) (hq : ab.iR B mo q) : aA Tryz.prog 119 [.slice p B.length cap, .int .i64 mo] [R] (aF fun v G => ∃ qq cq, v = .tuple #[.slice qq q.1.length cq, .int .i64 q.2.1, .int .i64 q.2.2] ∧ G = [Row U5 qq q.1.length cq q.1, R]) := by
 refine au [(0, _), (1, _)] Tryz.func119 rfl Tryz.ntmps119 rfl rfl ?_
 intro w0 F
 refine rT TT 11 rfl<|aj (SO p cap B R hR hl mo hm.1) V.NG  rfl (ao .nil) rfl ?_
 rintro _ _ ⟨b10, bl7, rfl, rfl⟩
 refine (Q3) ?_
 refine a7 (M := MJ b10 bl7 (B.length : Int) mo B (.ok ab.start) :: R :: F) (fun _ _ h => h) ?_
 refine cE (fun (r : ab.Jt) => [(7, .pointer (some ⟨b10, 0, none⟩))]) (fun (r : ab.Jt) => MJ b10 bl7 (B.length : Int) mo B r :: R :: F) (fun (r : ab.Jt) => ab.vG B mo r ∧ ab.DV B mo ab.start r) (fun (r : ab.Jt) => ab.Er B r) (i1 (.ok ab.start) ?_ (jx ln) (sub (aO .nil) ak)) ?_
 ·exact ⟨ab.oa hm.1, ab.gw.refl _ _ _⟩
 intro r
 rintro ⟨hok, hat⟩
 refine rL TT 4 rfl<|aj (KJ b10 bl7 mo B r (B.length : Int)) V.ug  rfl (ao .nil) rfl ?_
 rintro _ _ ⟨rfl, rfl⟩
 refine oV (lG rfl)<|(Q6) ?_
 refine te rfl (fun h13 => ?_) (fun h13 => ?_)
 ·refine (Q4) ?_
  have he : ab.jN r = false := by simpa using h13
  obtain ⟨r2, hst⟩ := ab.Fv hB hok 1048576
  have hgj := ab.BG hB hok hat hst
  refine (Q9) ?_
  refine aj (Kx b10 bl7 mo B r (B.length : Int) 1048576 r2 hl hB hm.2 hok hst) V.WT  rfl (ao .nil) rfl ?_
  rintro _ _ ⟨rfl, rfl⟩
  refine (Q6) ?_
  refine j1 (r2) ?_ (jx ln) (sub (aO .nil) ak)
  exact ⟨⟨hgj.ok, hgj.at_⟩, hgj.less he (by decide)⟩
 ·refine (Qi) ?_
  have he : ab.jN r = true := by simpa using h13
  obtain rfl := hq.Em (ab.JX hm.1 hat he)
  refine (Q9) ?_
  refine aj (Ms b10 bl7 mo B r (B.length : Int) hm.2 hok) V.Pb  rfl (ao .nil) rfl ?_
  rintro _ _ ⟨q17, c17, rfl, rfl⟩
  refine (Q7) ?_
  refine aj (Jx b10 bl7 mo B r hl hm.2 hok) V.OP  rfl (.cons ax .nil) rfl ?_
  rintro _ _ ⟨rfl, rfl⟩
  refine (Q7) ?_
  refine aj (L9 b10 bl7 mo B r (B.length : Int)) V.Om  rfl (ao .nil) rfl ?_
  rintro _ _ ⟨rfl, rfl⟩
  refine (Q1) ?_
  exact ag (Oh rfl rfl rfl) ⟨q17, c17, rfl, rfl⟩ (sub (.cons ax (.cons ax .nil)) bu)
set_option maxHeartbeats 1000000 in
theorem JT (p : Option Addr) (cap : Nat) (B : List Int) (R : ad) (hR : ∀ w0 h, R w0 h → aE U5 p B.length B w0 h) (hl : B.length < 500000000) (mo : Int) (hm : mo < 0) (q : List Int × Int × Int) (hq : ab.iR B mo q) : aA Tryz.prog 119 [.slice p B.length cap, .int .i64 mo] [R] (aF fun v G => ∃ qq cq, v = .tuple #[.slice qq q.1.length cq, .int .i64 q.2.1, .int .i64 q.2.2] ∧ G = [Row U5 qq q.1.length cq q.1, R]) := by
 obtain rfl := hq.Em (.inl ⟨hm, rfl⟩)
 refine au [(0, _), (1, _)] Tryz.func119 rfl Tryz.ntmps119 rfl rfl ?_
 intro w0 F
 refine rT TT 11 rfl<|aj (Lx p cap B R hR hl mo hm) V.NG  rfl (ao .nil) rfl ?_
 rintro _ _ ⟨b10, bl7, rfl, rfl⟩
 refine (Q3) ?_
 refine cE (fun (z : Nat) => [(7, .pointer (some ⟨b10, 0, none⟩))]) (fun (z : Nat) => MD b10 bl7 (B.length : Int) mo 1 :: R :: F) (fun (z : Nat) => True) (fun (z : Nat) => z) (i1 (0) ?_ (jx ln) (sub (aO .nil) ak)) ?_
 ·exact trivial
 intro z
 rintro -
 refine rL TT 4 rfl<|aj (qi b10 bl7 (B.length : Int) mo 1) V.ug  rfl (ao .nil) rfl ?_
 rintro _ _ ⟨rfl, rfl⟩
 refine (QI) ?_
 refine aj (AK b10 bl7 (B.length : Int) mo 1) V.Pb  rfl (ao .nil) rfl ?_
 rintro _ _ ⟨q17, c17, rfl, rfl⟩
 refine (Q7) ?_
 refine aj (zm b10 bl7 (B.length : Int) mo 1 (by decide)) V.OP  rfl (.cons ax .nil) rfl ?_
 rintro _ _ ⟨rfl, rfl⟩
 refine (Q7) ?_
 refine aj (Fi b10 bl7 (B.length : Int) mo 1) V.Om  rfl (ao .nil) rfl ?_
 rintro _ _ ⟨rfl, rfl⟩
 refine (Q1) ?_
 exact ag (Oh rfl rfl rfl) ⟨q17, c17, rfl, rfl⟩ (sub (.cons ax (.cons ax .nil)) bu)
theorem SC (p : Option Addr) (cap : Nat) (B : List Int) (R : ad) (hR : ∀ w0 h, R w0 h → aE U5 p B.length B w0 h) (hl : B.length < 500000000) (hB : af.an B) (mo : Int) (hm : mo < 500000000) (q : List Int × Int × Int) (hq : ab.iR B mo q) : aA Tryz.prog 119 [.slice p B.length cap, .int .i64 mo] [R] (aF fun v G => ∃ qq cq, v = .tuple #[.slice qq q.1.length cq, .int .i64 q.2.1, .int .i64 q.2.2] ∧ G = [Row U5 qq q.1.length cq q.1, R]) := by
 by_cases h : mo < 0
 ·exact JT p cap B R hR hl mo h q hq
 ·exact Ka p cap B R hR hl hB mo ⟨by omega, hm⟩ q hq
end Go.Proofs.YtmaiakpjgomnpaaGreat
namespace Go.Proofs.YtmaiakpjgomnpaaGreat
open Go.Sl 
attribute [local irreducible] ae.bb ae.tk ae.ord ae.bM ae.words ae.bY ab.gM ab.gK
attribute [local irreducible] ae.wd ae.kX ae.jI ae.nD
end Go.Proofs.YtmaiakpjgomnpaaGreat
namespace Go.Proofs.YtmaiakpjgomnpaaGreat
open Go.Sl 
end Go.Proofs.YtmaiakpjgomnpaaGreat
namespace Go.Proofs.YtmaiakpjgomnpaaGreat
open Go.Sl 
attribute [local irreducible] ae.bb ae.tk ae.ord ae.bM ae.words ae.bY ae.kX ae.jI ae.nD ae.wb ae.ins ae.bits
end Go.Proofs.YtmaiakpjgomnpaaGreat
namespace Go.Sl
abbrev TK : Ec aH.c5 := ⟨245, 3, fun t => [.int .i64 t.lit, .int .i64 t.n, .int .i64 t.bA], ⟨0, 0, 0⟩, fun _ => rfl, fun _ => rfl⟩
end Go.Sl
namespace Go.Proofs.YtmaiakpjgomnpaaGreat
open Go.Sl 
attribute [local irreducible] List.replicate aH.hs aH.x3 aH.Cf aH.sU aH.OG aH.qv aH.uq aH.vT
end Go.Proofs.YtmaiakpjgomnpaaGreat
namespace Go.Proofs.YtmaiakpjgomnpaaGreat
open Go.Sl 
attribute [local irreducible] aH.sC aH.By aH.uy aH.Gj aH.FT aH.ur aH.Gq aH.GV aH.tN aH.qD ae.bb ae.wb ae.ord ae.bM ae.words ae.bY ae.kX ae.jI ae.nD
end Go.Proofs.YtmaiakpjgomnpaaGreat
namespace Go.Proofs.YtmaiakpjgomnpaaGreat
open Go.Sl 
attribute [local irreducible] aH.HA aH.Na aH.dn aH.rr aH.Hf aH.w8 aH.yR aH.xG aH.Gu aH.VY aH.Wl aH.uy aH.Gj aH.FT aH.ur aH.Gq aH.GV List.replicate
end Go.Proofs.YtmaiakpjgomnpaaGreat
namespace Go.Sl
section
variable {C : Ctx} {E : Env} {L : List ad} {ty : TypeId}
theorem Ci (l : List Int) : l.flatMap (fun x => [Value.int .u8 x]) = l.map (Value.int .u8) := by
  induction l with
  | nil => rfl
  | cons a l ih => simp [List.flatMap_cons, ih]
theorem sr {T : TypeId} {x : Operand} {src dst e : TypeId} {p : Option Addr} {n cap : Nat} {l : List Int} (hs : C.P.underlying src = some (.slice e)) (he : C.P.underlying e = some (.int .u8)) (hd : C.P.underlying dst = some .string) (hx : aq E x = some (.slice p n cap)) (H : Has C.w0 L (aC T .u8) p n l) : bB C (.convert src dst x) ty E L (.string (strOfNums l)) L :=
  fun d pos aft g a w ha hi => by
    refine ⟨w, .inl ?_, hi, fun h => by cases h⟩
    obtain ⟨R, hm, hR⟩ := H
    have hh := hi.mem hm
    have hlen : l.length = n := Has.len ⟨R, hm, hR⟩ hi
    obtain ⟨e1, e2⟩ := hi.rd hm (fun h hh => (hR h hh).2)
    have hconv : (convert src dst (.slice p n cap)).run C.P w = .ok (.string (strOfNums l)) w := by
      cases p with
      | none =>
        have h0 : n = 0 := by
          rcases e2 with h | ⟨b, o, h, _⟩
          · exact h
          · cases h
        have hl : l = [] := List.length_eq_zero_iff.1 (by omega)
        rw [run_convert_bytes_nil w src e hs he n cap dst hd, hl]
        rfl
      | some q =>
        rcases e2 with h | ⟨b, o, h, hc⟩
        · have hl : l = [] := List.length_eq_zero_iff.1 (by omega)
          subst hl
          subst h
          rw [run_convert_bytes_string w src dst e _ 0 cap hs he hd, run_bytesToString w q 0 cap [] (by simp [loadCells, loadCellsFrom])]
          rfl
        · cases h
          refine run_convert_bytes_arg w src e hs he b o n cap l hlen (fun i hi2 => ?_) dst hd
          refine hc i _ ?_
          rw [Ci]
          have hil : i < l.length := by omega
          simp [List.getElem?_map, List.getD_eq_getElem?_getD, hil]
    simp only [execOp, ha.eval hx, Sem.run_bind, hconv, Result.andThen_ok, Sem.run_pure]
theorem Im {x y : Operand} {t t' : TypeId} {s u : ByteArray} {r : Bool} (hx : aq E x = some (.string s)) (hy : aq E y = some (.string u)) (hr : (s.toList == u.toList) = r) : bB C (.binOp .eql t x y t') ty E L (.bool r) L :=
  cV fun d pos aft g a w ha => by
    rw [iX d pos aft g (ha.eval hx) (ha.eval hy) (by simp [eqGuard])]
    simp [binOp, Op.stringOp, ← hr, Sem.run_pure]
end
end Go.Sl
namespace Go.Sl
end Go.Sl
namespace Go.Sl
end Go.Sl
namespace Go.af
theorem ft (n : Int) : IntKind.u8.wrap n = n % 256 := rfl
theorem AI {n : Int} (h0 : 0 ≤ n) (h1 : n < 2 ^ 62) : IntKind.i64.wrap ((BitVec.ofInt IntKind.i64.bits (-1) ^^^ BitVec.ofInt IntKind.i64.bits n).toNat : Int) = -n - 1 := by
  obtain ⟨a, rfl⟩ : ∃ a : Nat, n = (a : Int) := ⟨n.toNat, by omega⟩
  have e : IntKind.i64.bits = 64 := rfl
  have e1 : BitVec.ofInt 64 (-1) = BitVec.allOnes 64 := by decide
  rw [e, e1, BitVec.xor_comm, BitVec.xor_allOnes, BitVec.toNat_not, cy, Nat.mod_eq_of_lt (by omega)]
  have e2 : ∀ m : Int, IntKind.i64.wrap m = if m % 18446744073709551616 ≥ 9223372036854775808 then m % 18446744073709551616 - 18446744073709551616 else m % 18446744073709551616 := fun m => by
    unfold IntKind.wrap
    have s1 : IntKind.i64.signed = true := rfl
    simp only [s1, e, Bool.true_and, decide_eq_true_eq]
    rfl
  rw [e2]
  have : a < 2 ^ 62 := by omega
  split <;> omega
end Go.af
namespace Go.Sl
section
variable {C : Ctx} {E : Env} {L : List ad} {ty : TypeId}
theorem AL {x : Operand} {t : TypeId} {n r : Int} (h : aq E x = some (.int .i64 n)) (e : IntKind.i64.wrap ((BitVec.ofInt IntKind.i64.bits (-1) ^^^ BitVec.ofInt IntKind.i64.bits n).toNat : Int) = r) : bB C (.unOp .xor t x) ty E L (.int .i64 r) L := cV fun d pos aft g a w ha => by
  rw [← e]
  have s1 : IntKind.i64.signed = true := rfl
  simp [execOp, ha.eval h, Op.unary, Op.intBits, s1]
end
end Go.Sl
namespace Go.Proofs.YtmaiakpjgomnpaaGreat
open Go.Sl 
attribute [local irreducible] aH.ie aH.gI ab.fa ab.eY ae.bb ae.ord ae.bM ae.words ae.bY ae.wb ae.nD ae.jI ae.kX aH.qD ab.gM ab.fb
theorem kK {c : Ec Int} {p : Option Addr} {n cap : Nat} {l : List Int} {R : ad} (hR : ∀ w0 h, R w0 h → aE c p n l w0 h) (k : Nat) (hk : k ≤ n) : ∀ w0 h, R w0 h → aE c p k (l.take k) w0 h := fun w0 h hh => by
  have := (hR w0 h hh).sub 0 k n (Nat.zero_le _) hk hk
  rwa [mN, Nat.sub_zero, List.drop_zero] at this
theorem fQ {c : Ec Int} {p : Option Addr} {n : Nat} {l : List Int} {R : ad} (hR : ∀ w0 h, R w0 h → aE c p n l w0 h) (hl : l.length = n) (k m : Nat) (hk : k ≤ n) (hm : n ≤ m) : ∀ w0 h, R w0 h → aE c (dG p k m c.sz) (n - k) (l.drop k) w0 h := fun w0 h hh => by
  have := (hR w0 h hh).sub k n m hk (Nat.le_refl _) hm
  rwa [List.take_of_length_le (by rw [List.length_drop]; omega)] at this
end Go.Proofs.YtmaiakpjgomnpaaGreat
namespace Go.Proofs.YtmaiakpjgomnpaaGreat
open Go.Sl 
attribute [local irreducible] ae.bb ae.ord ae.bM ae.words ae.bY ae.wb ae.nD ae.jI ae.kX aH.qD ab.fb af.kH aH.jO aH.w8 aH.xG aH.fA aH.fB kC.uz
abbrev Q2 : Ec (Int × Int) := ⟨246, 2, fun x => [.int .i64 x.1, .int .i64 x.2], (0, 0), fun _ => rfl, fun _ => rfl⟩
end Go.Proofs.YtmaiakpjgomnpaaGreat
namespace Go.Sl
structure Pc where
  w : Int
  p : Option Addr
  n : Nat
  c : Nat
  s : List Int
abbrev PC : Ec Pc := ⟨267, 2, fun x => [.int .i64 x.w, .slice x.p x.n x.c], ⟨0, none, 0, 0, []⟩, fun _ => rfl, fun _ => rfl⟩
structure Sx where
  p : Option Addr
  n : Nat
  c : Nat
abbrev PS : Ec Sx := ⟨265, 1, fun x => [.slice x.p x.n x.c], ⟨none, 0, 0⟩, fun _ => rfl, fun _ => rfl⟩
abbrev QS : Ec Sx := ⟨47, 1, fun x => [.slice x.p x.n x.c], ⟨none, 0, 0⟩, fun _ => rfl, fun _ => rfl⟩
def ZL (B : List Pc) : ad := fun w0 h => bZ w0 (B.map fun x => Row I3 x.p x.n x.c x.s) h
def ZO (xs : List Sx) (k : Nat) : Nat := ((xs.take k).map Sx.n).sum
def pk (x : Pc) : kC.Pk := (x.w, x.s)
def LL (po : Option Addr) (n co : Nat) (A0 : List Pc) (pl : Option Addr) (nl cl : Nat) (l : List Pc) : ad := fun w0 h => (Row PC po n co A0 w0 h ∧ pl = po ∧ nl = n ∧ cl = co ∧ l = A0) ∨ bZ w0 [Row PC po n co A0, Row PC pl nl cl l] h
structure OkL (fr : List Int) (bV : Int) : Prop where
  m1 : 1 ≤ bV
  m2 : bV ≤ 15
  len : fr.length ≤ 320
  fre : ∀ i, i < fr.length → 0 ≤ fr.getD i 0 ∧ fr.getD i 0 ≤ 1048576
  Yi : (kC.O5 fr fr.length).length ≤ 2 ^ bV.toNat
end Go.Sl
namespace Go.Proofs.YtmaiakpjgomnpaaGreat
open Go.Sl 
end Go.Proofs.YtmaiakpjgomnpaaGreat
namespace Go.Proofs.YtmaiakpjgomnpaaGreat
open Go.Sl 
end Go.Proofs.YtmaiakpjgomnpaaGreat
namespace Go.Proofs.YtmaiakpjgomnpaaGreat
open Go.Sl 
end Go.Proofs.YtmaiakpjgomnpaaGreat
namespace Go.Proofs.YtmaiakpjgomnpaaGreat
open Go.Sl Go.Shelf
def Sn : Go.Shelf.Ren := ⟨fun | 189 => 214 | 125 => 228 | 257 => 227 | 128 => 243 | 129 => 244 | 294 => 234 | 295 => 235 | 296 => 236 | 297 => 237 | 298 => 238 | 299 => 239 | 216 => 240 | 300 => 241 | 301 => 242 | 328 => 248 | 329 => 249 | 330 => 250 | 331 => 251 | 332 => 252 | 215 => 230 | 343 => 255 | n => n, fun | 28 => 47 | 3 => 3 | 46 => 52 | 0 => 0 | 51 => 76 | 53 => 302 | 4 => 4 | 183 => 295 | 182 => 294 | 131 => 125 | 5 => 5 | 9 => 9 | 218 => 305 | 222 => 309 | 228 => 311 | 229 => 210 | n => n, fun | n => n⟩
end Go.Proofs.YtmaiakpjgomnpaaGreat
namespace Go.Proofs.YtmaiakpjgomnpaaGreat
open Go.Sl 
end Go.Proofs.YtmaiakpjgomnpaaGreat
namespace Go.Proofs.YtmaiakpjgomnpaaGreat
open Go.Sl 
attribute [local irreducible] ae.bb ae.ord ae.bM ae.words ae.bY ae.wb ae.nD ae.jI ae.kX aH.qD ab.fb af.kH aH.jO aH.w8 aH.xG aH.fA aH.fB kC.uz ae.bits aH.dA aH.dB aH.dF aH.Ur aH.F1 aH.GD aH.UH aH.cJ aH.Wy List.replicate aH.yR
end Go.Proofs.YtmaiakpjgomnpaaGreat
namespace Go.Proofs.YtmaiakpjgomnpaaGreat
open Go.Sl 
attribute [local irreducible] aH.gI aH.RM aH.Pt aH.uq aH.sN aH.mW
abbrev S8 : Ec Sx := ⟨22, 1, fun x => [.slice x.p x.n x.c], ⟨none, 0, 0⟩, fun _ => rfl, fun _ => rfl⟩
end Go.Proofs.YtmaiakpjgomnpaaGreat
namespace Go.Proofs.YtmaiakpjgomnpaaGreat
open Go.Sl 
attribute [local irreducible] aH.mW
structure Dv where
  p1 : Option Addr
  n1 : Nat
  c1 : Nat
  t : Int
  p2 : Option Addr
  c2 : Nat
def DN (b : Nat) (B : List Int) (t : Nat) : ad := fun w0 h => ∃ i : Lv, True ∧ bZ w0 [ai b 215 [.slice i.p1 B.length i.c1, .slice none 0 0, .int .i64 (t : Int), .bool false], Row U5 i.p1 B.length i.c1 B] h
def DD (b : Nat) (z : List Int) : ad := fun w0 h => ∃ i : Dv, True ∧ bZ w0 [ai b 215 [.slice i.p1 i.n1 i.c1, .slice i.p2 z.length i.c2, .int .i64 i.t, .bool true], Row U5 i.p2 z.length i.c2 z] h
def DM (b : Nat) (B : List Int) : Option Nat → ad
  | some t => DN b B t
  | none => DD b (aH.mW B)
def Zu (B : List Int) (s : Option Nat) (n : Int) : Option Nat :=
  match s with
  | none => none
  | some t => if n < 1 then some t else if (B.length : Int) ≤ t + n then none else some (t + n.toNat)
end Go.Proofs.YtmaiakpjgomnpaaGreat
namespace Go.Proofs.YtmaiakpjgomnpaaGreat
open Go.Sl 
attribute [local irreducible] aH.mW
section
variable (b : Nat) (B : List Int) (s : Option Nat)
def DOk (B : List Int) : Option Nat → Prop
  | some t => t ≤ B.length
  | none => True
def Zz (B : List Int) : Option Nat → List Int
  | some _ => []
  | none => aH.mW B
end
end Go.Proofs.YtmaiakpjgomnpaaGreat
namespace Go.Proofs.YtmaiakpjgomnpaaGreat
open Go.Sl 
attribute [local irreducible] ae.bb ae.tk ae.ord ae.bM ae.words ae.bY ab.gK ab.bU ab.cC ab.dp ab.hL ab.hD ab.hC ab.eG ab.told ab.fb ab.ig ab.rep ab.eo ab.dw ab.sym ab.cS af.aJ ab.dT ab.cM ab.one ab.dP ab.pO ab.sV ab.mr ab.mE
section
variable (b2 : Nat) (ls : List Int) (b : Nat) (p : Option Addr) (cap : Nat) (B : List Int) (R : ad) (hR : ∀ w0 h, R w0 h → aE U5 p B.length B w0 h) (sh : Bool) (a : Nat) (hE : ae.bb ls = 0) (hl : B.length < 500000000) (hB : af.an B) (ha : a ≤ 8 * B.length)
include hR hE hl hB ha
end
end Go.Proofs.YtmaiakpjgomnpaaGreat
namespace Go.Proofs.YtmaiakpjgomnpaaGreat
open Go.Sl 
attribute [local irreducible] ae.bb ae.tk ae.ord ae.bM ae.words ae.bY ab.gK ab.bU ab.cC ab.dp ab.hL ab.hD ab.hC ab.eG ab.told ab.fb ab.ig ab.rep ab.eo ab.dw ab.sym ab.cS af.aJ ab.dT ab.cM ab.one ab.dP ab.pO ab.sV ab.mr ab.mE
def PO (b : Nat) (p : Option Addr) (cap : Nat) (B : List Int) (R : ad) : Except Int ab.St → Value → List ad → Prop
 | .error e, v, G => v = .tuple #[.slice none 0 0, .int .i64 e] ∧ G = [R]
 | .ok S, v, G => ∃ q c sh, v = .tuple #[.slice q S.out.length c, .int .i64 0] ∧ G = [ai b 151 [.slice p B.length cap, .int .i64 (S.at_ : Int), .bool false, .bool sh], R, Row U5 q S.out.length c S.out]
end Go.Proofs.YtmaiakpjgomnpaaGreat
namespace Go.Proofs.YtmaiakpjgomnpaaGreat
open Go.Sl 
attribute [local irreducible] ae.bb ae.tk ae.ord ae.bM ae.words ae.bY ab.gK ab.bU ab.cC ab.dp ab.hL ab.hD ab.hC ab.eG ab.told ab.fb ab.ig ab.rep ab.eo ab.dw ab.sym ab.cS af.aJ ab.dT ab.cM ab.one ab.dP ab.pO ab.sV ab.mr ab.mE ab.oz ab.zf ab.L0 ab.kq
def PD (b : Nat) (p : Option Addr) (cap : Nat) (B : List Int) (R : ad) : Except Int (Nat × List Int × List Int) → Value → List ad → Prop
 | .error e, v, G => v = .tuple #[.pointer none, .pointer none, .int .i64 e] ∧ G = [R]
 | .ok (a, l, d), v, G => ∃ x y sh, v = .tuple #[.pointer (some ⟨x, 0, none⟩), .pointer (some ⟨y, 0, none⟩), .int .i64 0] ∧ G = [ai b 151 [.slice p B.length cap, .int .i64 (a : Int), .bool false, .bool sh], R, RC x l, RC y d]
end Go.Proofs.YtmaiakpjgomnpaaGreat
namespace Go.Proofs.YtmaiakpjgomnpaaGreat
open Go.Sl 
attribute [local irreducible] ae.bb ae.tk ae.ord ae.bM ae.words ae.bY ab.gK ab.bU ab.cC ab.dp ab.hL ab.hD ab.hC ab.eG ab.told ab.fb ab.ig ab.rep ab.eo ab.dw ab.sym ab.cS af.aJ ab.dT ab.cM ab.one ab.dP ab.pO ab.sV ab.mr ab.mE ab.kq
end Go.Proofs.YtmaiakpjgomnpaaGreat
namespace Go.Proofs.YtmaiakpjgomnpaaGreat
open Go.Sl
end Go.Proofs.YtmaiakpjgomnpaaGreat
namespace Go.Proofs.YtmaiakpjgomnpaaGreat
open Go.Sl 
attribute [local irreducible] aH.mW ab.iR aH.bV af.an aG.eV
set_option maxHeartbeats 2000000 in
theorem Mx (p : Option Addr) (c : Nat) (B : List Int) (R : ad) (hR : ∀ w0 h, R w0 h → aE U5 p B.length B w0 h) (hl : B.length < 500000000) (hB : af.an B) : aA Tryz.prog 160 [.int .u32 1, .slice p B.length c] [R] (aF fun v G => v = .int .u32 (aG.fk B) ∧ G = [R]) := by
 refine au [(0, _), (1, _)] Tryz.func160 rfl Tryz.ntmps160 rfl rfl ?_
 intro w0 F
 refine (QH) ?_
 refine oV (jk (r := 1) rfl rfl rfl)<|(Q7) ?_
 refine oV (dN (r := 0) rfl rfl (by decide) rfl)<|(Qq) ?_
 rw [show ((5 : Nat), Value.int .u32 1) = (5, .int .u32 (aG.eV (B.take 0)).1) from by rw [List.take_zero, aG.qm], show ((6 : Nat), Value.int .u32 0) = (6, .int .u32 (aG.eV (B.take 0)).2) from by rw [List.take_zero, aG.qm]]
 refine cE (fun (i : Nat) => [(5, .int .u32 (aG.eV (B.take i)).1), (6, .int .u32 (aG.eV (B.take i)).2), (13, .slice p B.length c), (14, .int .i64 (B.length : Int)), (15, .int .i64 (i : Int))]) (fun (i : Nat) => R :: F) (fun (i : Nat) => i ≤ B.length) (fun (i : Nat) => B.length - i) (i1 (0) ?_ (bP ln) (sub (ao .nil) ak)) ?_
 ·exact Nat.zero_le _
 intro i
 rintro hi
 refine (Qm) ?_
 refine aD rfl (fun h16 => ?_) (fun h16 => ?_)
 ·refine (Qi)<|(HM)<|(Ip)<|(Q8) ?_
  have hv : 0 ≤ (U5.g B (i : Int)) ∧ (U5.g B (i : Int)) < 256 := hB.get i
  have hs := aG.oF (B.take i)
  refine (Q4)<|(O6)<|(HD)<|(US)<|(Q1)<|(HD)<|(Vm)<|(QG) ?_
  have e5 : ((aG.eV (B.take i)).1 + (U5.g B (i : Int))) % 65521 = (aG.eV (B.take (i + 1))).1 := by rw [aG.n6 (by omega)]; rfl
  have e6 : ((aG.eV (B.take i)).2 + (aG.eV (B.take (i + 1))).1) % 65521 = (aG.eV (B.take (i + 1))).2 := by rw [aG.n6 (by omega)]; rfl
  rw [e5, e6]
  exact j1 (i + 1) ⟨by omega, by omega⟩ (bP ln) (sub (ao .nil) ak)
 ·refine (Qi) ?_
  obtain rfl : i = B.length := by omega
  rw [List.take_length]
  have hs := aG.oF B
  refine (Q9)<|(U4)<|(Q7)<|(Vu)<|(Q8) ?_
  exact ag (av rfl) ⟨by unfold aG.fk; rfl, rfl⟩ (sub (ao .nil) ak)
set_option maxHeartbeats 2000000 in
theorem PJ (p : Option Addr) (c : Nat) (B : List Int) (R : ad) (hR : ∀ w0 h, R w0 h → aE U5 p B.length B w0 h) (hl : B.length < 500000000) (hB : af.an B) : aA Tryz.prog 63 [.int .u32 1, .slice p B.length c] [R] (aF fun v G => v = .int .u32 (aG.fk B) ∧ G = [R]) := by
 refine au [(0, _), (1, _)] Tryz.func63 rfl Tryz.ntmps63 rfl rfl ?_
 intro w0 F
 refine (QH) ?_
 refine oV (jk (r := 1) rfl rfl rfl)<|(Q7) ?_
 refine oV (dN (r := 0) rfl rfl (by decide) rfl)<|(Qp) ?_
 rw [show ((5 : Nat), Value.int .u32 1) = (5, .int .u32 (aG.eV (B.take 0)).1) from by rw [List.take_zero, aG.qm], show ((6 : Nat), Value.int .u32 0) = (6, .int .u32 (aG.eV (B.take 0)).2) from by rw [List.take_zero, aG.qm]]
 refine cE (fun (i : Nat) => [(1, .slice p B.length c), (5, .int .u32 (aG.eV (B.take i)).1), (6, .int .u32 (aG.eV (B.take i)).2), (7, .int .i64 (i : Int))]) (fun (i : Nat) => R :: F) (fun (i : Nat) => i ≤ B.length) (fun (i : Nat) => B.length - i) (i1 (0) ?_ (eg ln) (sub (ao .nil) ak)) ?_
 ·exact Nat.zero_le _
 intro i
 rintro hi
 refine rL TT 9 rfl ?_
 refine aD rfl (fun h15 => ?_) (fun h15 => ?_)
 ·refine (Qf) ?_
  have hv : 0 ≤ (U5.g B (i : Int)) ∧ (U5.g B (i : Int)) < 256 := hB.get i
  have hs := aG.oF (B.take i)
  refine (Q5)<|(HM)<|(Ip)<|(O6)<|(HD)<|(US)<|(Q1)<|(HD)<|(Vm)<|(sY) ?_
  have e5 : ((aG.eV (B.take i)).1 + (U5.g B (i : Int))) % 65521 = (aG.eV (B.take (i + 1))).1 := by rw [aG.n6 (by omega)]; rfl
  have e6 : ((aG.eV (B.take i)).2 + (aG.eV (B.take (i + 1))).1) % 65521 = (aG.eV (B.take (i + 1))).2 := by rw [aG.n6 (by omega)]; rfl
  rw [e5, e6]
  exact j1 (i + 1) ⟨by omega, by omega⟩ (eg ln) (sub (ao .nil) ak)
 ·refine (Qi) ?_
  obtain rfl : i = B.length := by omega
  rw [List.take_length]
  have hs := aG.oF B
  refine (Q9)<|(U4)<|(Q7)<|(Vu)<|(Q8) ?_
  exact ag (av rfl) ⟨by unfold aG.fk; rfl, rfl⟩ (sub (ao .nil) ak)
theorem KN (p : Option Addr) (c : Nat) (B : List Int) (R : ad) (hR : ∀ w0 h, R w0 h → aE U5 p B.length B w0 h) (hl : B.length < 500000000) (hB : af.an B) : aA Tryz.prog 135 [.slice p B.length c] [R] (aF fun v G => v = .int .u32 (aG.fk B) ∧ G = [R]) := by
 refine au [(0, _)] Tryz.func135 rfl Tryz.ntmps135 rfl rfl ?_
 intro w0 F
 refine (QH) ?_
 refine aj (Mx p c B R hR hl hB) V.XN  rfl (ao .nil) rfl ?_
 rintro _ _ ⟨rfl, rfl⟩
 refine (Q8) ?_
 exact ag (av rfl) ⟨rfl, rfl⟩ (sub (ao .nil) ak)
set_option maxHeartbeats 2000000 in
theorem CP (p : Option Addr) (c : Nat) (B : List Int) (R : ad) (hR : ∀ w0 h, R w0 h → aE U5 p B.length B w0 h) (hl : 2 ≤ B.length) (hB : af.an B) (t : Bool) (ht : t = decide (aG.Hd (B.getD 0 0) (B.getD 1 0))) : aA Tryz.prog 118 [.slice p B.length c] [R] (aF fun v G => v = .bool t ∧ G = [R]) := by
 refine au [(0, _)] Tryz.func118 rfl Tryz.ntmps118 rfl rfl ?_
 intro w0 F
 have hv : 0 ≤ (U5.g B 0) ∧ (U5.g B 0) < 256 := hB.get 0
 have hw : 0 ≤ (U5.g B 1) ∧ (U5.g B 1) < 256 := hB.get 1
 have ht2 : t = decide (aG.Hd (U5.g B 0) (U5.g B 1)) := ht
 clear ht
 refine (QU)<|(so)<|(pg) ?_
 refine oR (xI V.bE (by exact bK hR aB))<|(Vn)<|(pg) ?_
 refine oR (xI V.bE (by exact bK hR aB))<|(Vn) ?_
 refine rR TT 2 rfl<|Rg.c4<|bj ?_
 rcases (aG.S0 (U5.g B 0) (U5.g B 1)) with h1 | ⟨h1, h2⟩ | ⟨h1, h2, h3⟩ | ⟨h1, h2, h3, h4⟩ | ⟨h1, h2, h3, h4⟩
 ·refine (Q4)<|(Es)<|(QB) ?_
  refine rO TT 22 rfl ?_
  (obtain rfl : t = false := ht2.trans (decide_eq_false (by unfold aG.Hd; intro hh; omega)); exact ag (G := [R]) (av rfl) ⟨rfl, rfl⟩ (sub (ao .nil) ak))
 ·refine (Q4) ?_
  refine (Es) ?_
  refine (Qv) ?_
  refine (Q6) ?_
  refine (Q0) ?_
  refine (HR) ?_
  refine (Q0) ?_
  refine (IF) ?_
  refine rO TT 18 rfl ?_
  (obtain rfl : t = false := ht2.trans (decide_eq_false (by unfold aG.Hd; intro hh; omega)); exact ag (G := [R]) (av rfl) ⟨rfl, rfl⟩ (sub (ao .nil) ak))
 ·refine (Q4) ?_
  refine (Es) ?_
  refine (Qv) ?_
  refine (Q6) ?_
  refine (Q0) ?_
  refine (HR) ?_
  refine (Q0) ?_
  refine (xY) ?_
  refine (Qg) ?_
  refine (Q0) ?_
  refine (Nk) ?_
  refine (Q0) ?_
  refine (Q7) ?_
  refine (Q0) ?_
  refine (RN) ?_
  refine (Q0) ?_
  refine (Mm) ?_
  refine (Q0) ?_
  refine (QB) ?_
  refine (Qe) ?_
  (obtain rfl : t = false := ht2.trans (decide_eq_false (by unfold aG.Hd; intro hh; omega)); exact ag (G := [R]) (av rfl) ⟨rfl, rfl⟩ (sub (ao .nil) ak))
 ·refine (Q4) ?_
  refine (Es) ?_
  refine (Qv) ?_
  refine (Q6) ?_
  refine (Q0) ?_
  refine (HR) ?_
  refine (Q0) ?_
  refine (xY) ?_
  refine (Qg) ?_
  refine (Q0) ?_
  refine (Nk) ?_
  refine (Q0) ?_
  refine (Q7) ?_
  refine (Q0) ?_
  refine (RN) ?_
  refine (Q0) ?_
  refine (Mm) ?_
  refine (Q0) ?_
  refine (Qv) ?_
  refine (Qg) ?_
  refine (Q0) ?_
  refine oV (jk (r := 32 * ((U5.g B 1) / 32 % 2)) rfl rfl (aG.BM hw)) ?_
  refine (Q0) ?_
  refine (QB) ?_
  refine (Q3) ?_
  (obtain rfl : t = false := ht2.trans (decide_eq_false (by unfold aG.Hd; intro hh; omega)); exact ag (G := [R]) (av rfl) ⟨rfl, rfl⟩ (sub (ao .nil) ak))
 ·refine (Q4) ?_
  refine (Es) ?_
  refine (Qv) ?_
  refine (Q6) ?_
  refine (Q0) ?_
  refine (HR) ?_
  refine (Q0) ?_
  refine (xY) ?_
  refine (Qg) ?_
  refine (Q0) ?_
  refine (Nk) ?_
  refine (Q0) ?_
  refine (Q7) ?_
  refine (Q0) ?_
  refine (RN) ?_
  refine (Q0) ?_
  refine (Mm) ?_
  refine (Q0) ?_
  refine (Qv) ?_
  refine (Qg) ?_
  refine (Q0) ?_
  refine oV (jk (r := 32 * ((U5.g B 1) / 32 % 2)) rfl rfl (aG.BM hw)) ?_
  refine (Q0) ?_
  refine (Qv) ?_
  refine (Q3) ?_
  (obtain rfl : t = true := ht2.trans (decide_eq_true (by unfold aG.Hd; exact ⟨h1, h2, h3, h4⟩)); exact ag (G := [R]) (av rfl) ⟨rfl, rfl⟩ (sub (ao .nil) ak))
set_option maxHeartbeats 2000000 in
theorem TY (p : Option Addr) (c : Nat) (B : List Int) (R : ad) (hR : ∀ w0 h, R w0 h → aE U5 p B.length B w0 h) (hl : B.length < 500000000) (hB : af.an B) : aA Tryz.prog 103 [.slice p B.length c] [R] (aF fun v G => v = .string (strOfNums (aG.jV B)) ∧ G = [R]) := by
 refine au [(0, _)] Tryz.func103 rfl Tryz.ntmps103 rfl rfl ?_
 intro w0 F
 have hn := aG.yC B
 refine (QH) ?_
 refine aj (KN p c B R hR hl hB) V.Xa  rfl (ao .nil) rfl ?_
 rintro _ _ ⟨rfl, rfl⟩
 refine (Q1) ?_
 refine oV (dN (r := aG.fk B / 2 ^ 24) rfl rfl (by decide) (aG.BC (n := 24) rfl (by decide)))<|oV (cF V.AY Tryz.underlying5 rfl ((af.ft _).trans (show (aG.fk B / 2 ^ 24) % 256 = aG.fk B / 16777216 from by omega)))<|(Q7) ?_
 refine oV (dN (r := aG.fk B / 2 ^ 16) rfl rfl (by decide) (aG.BC (n := 16) rfl (by decide)))<|oV (cF V.AY Tryz.underlying5 rfl ((af.ft _).trans (show (aG.fk B / 2 ^ 16) % 256 = aG.fk B / 65536 % 256 from by omega)))<|(Q7) ?_
 refine oV (dN (r := aG.fk B / 2 ^ 8) rfl rfl (by decide) (aG.BC (n := 8) rfl (by decide)))<|oV (cF V.AY Tryz.underlying5 rfl ((af.ft _).trans (show (aG.fk B / 2 ^ 8) % 256 = aG.fk B / 256 % 256 from by omega)))<|(Q7) ?_
 refine oV (cF V.AY Tryz.underlying5 rfl ((af.ft _).trans (show (aG.fk B) % 256 = aG.fk B % 256 from by omega)))<|cY (U5) (aG.jV B) V.bE V.z5 rfl rfl rfl rfl rfl rfl ?_
 intro OU
 refine oV (sr (T := 5) Tryz.underlying22 Tryz.underlying5 Tryz.underlying9 rfl (own aB))<|(Q8) ?_
 exact ag (av rfl) ⟨rfl, rfl⟩ (sub (.cons ax .nil) bu)
end Go.Proofs.YtmaiakpjgomnpaaGreat
namespace Go.Proofs.YtmaiakpjgomnpaaGreat
open Go.Sl 
attribute [local irreducible] aH.mW ab.iR aH.bV af.an aG.eV aG.jV aG.fk
section
variable {C : Ctx} {E : Env} {L : List ad} {ty : TypeId}
theorem mG {x y : Operand} {t t' : TypeId} {s u : ByteArray} {r : Bool} (hr : (s.toList == u.toList) = r) (hx : aq E x = some (.string s)) (hy : aq E y = some (.string u)) : bB C (.binOp .neq t x y t') ty E L (.bool (!r)) L :=
 cV fun d pos aft g a w ha => by
  rw [iX d pos aft g (ha.eval hx) (ha.eval hy) (by simp [eqGuard])]
  simp [binOp, Op.stringOp, Sem.run_pure, ← hr, bne]
end
theorem OX (p : Option Addr) (c n : Nat) (L : List Int) (R : ad) (hR : ∀ w0 h, R w0 h → aE U5 p n L w0 h) (hn : L.length = n) (hl : n < 500000000) (hB : af.an L) (mo : Int) (hm : mo < 500000000) (x : List Int) (u e : Int) (hq : ab.iR L mo (x, u, e)) : aA Tryz.prog 119 [.slice p n c, .int .i64 mo] [R] (aF fun v G => ∃ qq cq, v = .tuple #[.slice qq x.length cq, .int .i64 u, .int .i64 e] ∧ G = [Row U5 qq x.length cq x, R]) := by
 subst hn
 exact SC p c L R hR hl hB mo hm (x, u, e) hq
set_option maxHeartbeats 4000000 in
theorem Nd (p : Option Addr) (c : Nat) (B : List Int) (R : ad) (hR : ∀ w0 h, R w0 h → aE U5 p B.length B w0 h) (hcap : B.length ≤ c) (hl : B.length < 500000000) (hB : af.an B) (mo : Int) (hm : mo < 500000000) (q : List Int × Int) (hq : aG.lR B mo q) : aA Tryz.prog 84 [.slice p B.length c, .int .i64 mo] [R] (aF fun v G => ∃ qq cq, v = .tuple #[.slice qq q.1.length cq, .int .i64 q.2] ∧ G = [Row U5 qq q.1.length cq q.1, R]) := by
 refine au [(0, _), (1, _)] Tryz.func84 rfl Tryz.ntmps84 rfl rfl ?_
 intro w0 F
 refine (QH) ?_
 rcases (hq.Xe hB hm) with ⟨hb6, rfl⟩ | ⟨hb6, hhd, rfl⟩ | ⟨x, n, e, hb6, hhd, hr, hxB, hxl, hn, hws⟩
 ·refine (Q5)<|(QY)<|(Qq) ?_
  exact ag (ev rfl rfl) ⟨none, 0, rfl, rfl⟩ (Sl.Sub.trans (da (A := Row U5 none 0 0 []) (fun w0 => Row.nil U5 w0 _)) (sub (aO .nil) ak))
 ·refine (Q5)<|(QE)<|(Qc) ?_
  refine aj (CP p c B R hR (by omega) hB false (decide_eq_false hhd).symm) V.Mu  rfl (ao .nil) rfl ?_
  rintro _ _ ⟨rfl, rfl⟩
  refine (QK) ?_
  exact ag (ev rfl rfl) ⟨none, 0, rfl, rfl⟩ (Sl.Sub.trans (da (A := Row U5 none 0 0 []) (fun w0 => Row.nil U5 w0 _)) (sub (aO .nil) ak))
 ·refine (Q5)<|(QE)<|(Qc) ?_
  refine aj (CP p c B R hR (by omega) hB true (decide_eq_true hhd).symm) V.Mu  rfl (ao .nil) rfl ?_
  rintro _ _ ⟨rfl, rfl⟩
  refine (Qn) ?_
  have hB2 := aG.dQ hB 2
  have hD2 : ∀ w0 h, R w0 h → aE U5 (dG p 2 c 1) (B.length - 2) (B.drop 2) w0 h := fun w0 h hh => fQ (c := U5) hR rfl 2 c (by omega) hcap w0 h hh
  refine (Q9) ?_
  refine oV (eh 2 _ _ V.bE rfl ⟨_, rfl⟩ ⟨rfl, rfl⟩ rfl (by omega) (by omega) (by omega))<|(Q7) ?_
  refine aj (OX (dG p 2 c 1) (c - 2) (B.length - 2) (B.drop 2) R hD2 List.length_drop (by omega) hB2 mo hm x (n : Int) e hr) V.W7  rfl (ao .nil) rfl ?_
  rintro _ _ ⟨q22, c22, rfl, rfl⟩
  refine (Qe) ?_
  have hBn := aG.dQ hB (2 + n)
  have hDn : ∀ w0 h, R w0 h → aE U5 (dG p (2 + n) c 1) (B.length - (2 + n)) (B.drop (2 + n)) w0 h := fun w0 h hh => fQ (c := U5) hR rfl (2 + n) c (by omega) hcap w0 h hh
  refine (Q4) ?_
  refine oV (cW (v := .int .i64 ((2 + n : Nat) : Int)) (ei rfl rfl wI) (by congr 1))<|oV (eh (2 + n) B.length c V.bE rfl ⟨_, rfl⟩ ⟨rfl, rfl⟩ rfl (by omega) (by omega) (by omega))<|(Q3) ?_
  rcases (hws) with ⟨he, rfl⟩ | ⟨he, h4, rfl⟩ | ⟨he, h4, rfl⟩ | ⟨he, h4, hne, rfl⟩ | ⟨he, h4, heq, rfl⟩
  ·refine (Q4) ?_
   refine oV (c9 (cG rfl rfl) he)<|(QK) ?_
   exact ag (ev rfl rfl) ⟨none, 0, rfl, rfl⟩ (Sl.Sub.trans (da (A := Row U5 none 0 0 []) (fun w0 => Row.nil U5 w0 _)) (sub (ao (.cons ax .nil)) bu))
  ·refine (Q4)<|(IA)<|(Ql)<|(QY)<|(Qq) ?_
   exact ag (ev rfl rfl) ⟨none, 0, rfl, rfl⟩ (Sl.Sub.trans (da (A := Row U5 none 0 0 []) (fun w0 => Row.nil U5 w0 _)) (sub (ao (.cons ax .nil)) bu))
  ·refine (Q4) ?_
   refine (IA) ?_
   refine (Ql) ?_
   refine (QE) ?_
   refine (Ql) ?_
   refine (Qu) ?_
   refine (Qq) ?_
   exact ag (ev rfl rfl) ⟨none, 0, rfl, rfl⟩ (Sl.Sub.trans (da (A := Row U5 none 0 0 []) (fun w0 => Row.nil U5 w0 _)) (sub (ao (.cons ax .nil)) bu))
  ·refine (Q4) ?_
   refine (IA) ?_
   refine (Ql) ?_
   refine (QE) ?_
   refine (Ql) ?_
   refine (Qr) ?_
   refine (Q3) ?_
   refine (VH) ?_
   refine nM ?_
   refine (V8) ?_
   refine nM ?_
   refine (VB) ?_
   refine nV (fun y hA L => cW (v := .bool true) (mG (tq (aG.bp hBn) (aG.bp (aG.qO x)) hne) rfl rfl) rfl) ?_
   refine nA ?_
   refine (Qb) ?_
   intro y hA
   clear hA
   refine bj<|(Wg)<|(QC) ?_
   exact ag (ev rfl rfl) ⟨none, 0, rfl, rfl⟩ (Sl.Sub.trans (da (A := Row U5 none 0 0 []) (fun w0 => Row.nil U5 w0 _)) (sub (aO .nil) bu))
  ·refine (Q4) ?_
   refine (IA) ?_
   refine (Ql) ?_
   refine (QE) ?_
   refine (Ql) ?_
   refine (Qr) ?_
   refine (Q3) ?_
   refine (VH) ?_
   refine nM ?_
   refine (V8) ?_
   refine nM ?_
   refine (VB) ?_
   refine nV (fun y hA L => cW (v := .bool false) (mG (r := true) (by rw [heq]; exact beq_self_eq_true _) rfl rfl) rfl) ?_
   refine nA ?_
   refine (Qb) ?_
   intro y hA
   clear hA
   refine bj<|(Wg) ?_
   exact rC TT 12 rfl<|ag (ev rfl rfl) ⟨q22, c22, rfl, rfl⟩ (sub (.cons ax (ao .nil)) ak)
end Go.Proofs.YtmaiakpjgomnpaaGreat
namespace Go.Proofs.YtmaiakpjgomnpaaGreat
open Go.Sl
theorem V.Ji : iA Tryz.prog 173 = some (256, 76, 1) := by kernel_rfl
theorem V.WG : ay Tryz.prog 111 = true := by kernel_rfl
theorem V.N7 : ay Tryz.prog 143 = true := by kernel_rfl
theorem V.We : ay Tryz.prog 96 = true := by kernel_rfl
theorem V.Ng : a8 Tryz.prog 175 0 = some 0 := by kernel_rfl
theorem V.Uh : eF Tryz.prog 175 = some [(0, 256)] := by kernel_rfl
theorem V.UW : cg Tryz.prog 76 = true := by kernel_rfl
theorem V.z175 : cx Tryz.prog 175 = some (List.replicate 256 (.int .u32 0)) := by kernel_rfl
end Go.Proofs.YtmaiakpjgomnpaaGreat
namespace Go.Proofs.YtmaiakpjgomnpaaGreat
open Go.Sl 
attribute [local irreducible] af.an aa.fN aa.fI aa.dr aa.fu aa.eM aa.gl
set_option maxHeartbeats 1000000 in
theorem Sq (x : Int) (hx : 0 ≤ x ∧ x < 4294967296) : aA Tryz.prog 111 [.int .u32 x] [] (aF fun v G => v = .int .u32 (aa.fI x) ∧ G = []) := by
 refine au [(0, _)] Tryz.func111 rfl Tryz.ntmps111 rfl rfl ?_
 intro w0 F
 refine rT TT 12 rfl ?_
 rw [show ((0 : Nat), Value.int .u32 x) = (0, .int .u32 (aa.fN 0 x)) from by rw [aa.HJ hx.1]]
 refine cE (fun (k : Nat) => [(0, .int .u32 (aa.fN k x)), (3, .int .i64 (k : Int))]) (fun (k : Nat) => F) (fun (k : Nat) => k ≤ 8) (fun (k : Nat) => 8 - k) (i1 (0) ?_ (iE ln) (sub .nil ak)) ?_
 ·exact Nat.zero_le _
 intro k
 rintro hk
 have hs := aa.EG hx k
 refine (Qm) ?_
 refine aD rfl (fun h4 => ?_) (fun h4 => ?_)
 ·refine (Qs) ?_
  refine oV (jk (r := (aa.fN k x) % 2) rfl rfl (aa.vp hs))<|(Qg) ?_
  refine aD rfl (fun h7 => ?_) (fun h7 => ?_)
  ·refine (Q9)<|(UM) ?_
   refine oV (qL (r := aa.dr ((aa.fN k x) / 2) 3988292384) rfl rfl (aa.vP (by omega) (by decide)))<|(QG) ?_
   (rw [← aa.AD (by assumption)]; exact j1 (k + 1) ⟨by omega, by omega⟩ (iE ln) (sub .nil ak))
  ·refine (Q9)<|(UM)<|(QG) ?_
   (rw [← aa.yF (by assumption)]; exact j1 (k + 1) ⟨by omega, by omega⟩ (iE ln) (sub .nil ak))
 ·refine (Qi) ?_
  obtain rfl : k = 8 := by omega
  rw [aa.HB]
  refine (Qi) ?_
  exact ag (av rfl) ⟨rfl, rfl⟩ (sub .nil ak)
set_option maxHeartbeats 4000000 in
theorem TN  : aA Tryz.prog 78 [] [] (aF fun v G => ∃ b, v = .pointer (some ⟨b, 0, none⟩) ∧ G = [ai b 175 (CA [] .u32 aa.eM [])]) := by
 refine au [] Tryz.func78 rfl Tryz.ntmps78 rfl rfl ?_
 intro w0 F
 refine rT TT 7 rfl<|oV (cR V.Uh V.z175 rfl (cs := ints .u32 (List.replicate 256 0)) rfl)<|iI rfl (rK _ _) rfl ?_
 intro b4
 refine (Qe) ?_
 rw [← aa.OK]
 refine cE (fun (i : Nat) => [(1, .pointer (some ⟨b4, 0, none⟩)), (5, .int .i64 (i : Int))]) (fun (i : Nat) => ai b4 175 (CA [] .u32 (aa.gl i) []) :: F) (fun (i : Nat) => i ≤ 256) (fun (i : Nat) => 256 - i) (i1 (0) ?_ (iE ln) (sub (ao .nil) ak)) ?_
 ·exact Nat.zero_le _
 intro i
 rintro hi
 have hl := aa.xN (i := i) (by omega)
 refine (Qm) ?_
 refine aD rfl (fun h6 => ?_) (fun h6 => ?_)
 ·refine (QC) ?_
  refine wN [pz 0 [] [1], pz 0 [] [2], pz 0 [] [2], pz 4 [2] [], pz 12 [3] [], pz 1 [0] [], pz 33 [5] [], pz 127 [6, 1] [], pz 255 [7, 4] []] [⟨fun y => ai b4 175 (CA [] .u32 (aa.gl i) []), none, some 8, []⟩, ⟨fun y => ai b4 175 (CA [] .u32 ((aa.gl i).set (((i : Int)).toNat) (aa.fI (i : Int))) []), some 8, none, []⟩] F V.mixed ?_
  iterate 3 refine nM ?_
  refine nV (fun y hA L => cF V.u3 Tryz.underlying76 rfl (aG.wrap32 (by omega) (by omega))) ?_
  refine nE (fun y FF hA => aV (Post := []) (Sq (i : Int) (by omega)) V.WG rfl .nil (fun v G h => by rcases h with ⟨rfl, rfl⟩; exact ⟨rfl, .refl _⟩)) ?_
  refine nN ?_
  refine nG V.Ng ?_
  refine nV (fun y hA L => ez i rfl V.Ji rfl rfl (by omega)) ?_
  refine nE (fun y FF hA => de (z6 (i : Int) V.UW rfl rfl (by exact fO) (by (simp only [List.length_cons, List.length_nil]; omega)) (by omega) (by omega)) ⟨rfl, .refl _⟩) ?_
  refine (Qb) ?_
  intro y hA
  clear hA
  show ks _ _ _ _ (ai b4 175 (CA [] .u32 ((aa.gl i).set (((i : Int)).toNat) (aa.fI (i : Int))) []) :: F)
  refine jh<|bj<|(Qo)<|(zZ)<|(Q7) ?_
  refine c4 ?_
  rw [show List.set (aa.gl i) ((i : Int)).toNat (aa.fI (i : Int)) = aa.gl (i + 1) from aa.G0 (by omega)]
  refine j1 (i + 1) ?_ (iE ln) (sub (ao .nil) ak)
  exact ⟨by omega, by omega⟩
 ·refine (Qi) ?_
  obtain rfl : i = 256 := by omega
  rw [aa.Kd]
  refine (Qi) ?_
  exact ag (av rfl) ⟨_, rfl, rfl⟩ (sub (ao .nil) ak)
set_option maxHeartbeats 4000000 in
theorem DY (bt : Nat) (p : Option Addr) (c : Nat) (B : List Int) (R : ad) (hR : ∀ w0 h, R w0 h → aE U5 p B.length B w0 h) (hl : B.length < 500000000) (hB : af.an B) (s : Int) (hs0 : 0 ≤ s ∧ s < 4294967296) : aA Tryz.prog 143 [.pointer (some ⟨bt, 0, none⟩), .int .u32 s, .slice p B.length c] [ai bt 175 (CA [] .u32 aa.eM []), R] (aF fun v G => v = .int .u32 (aa.pG s B) ∧ G = [ai bt 175 (CA [] .u32 aa.eM []), R]) := by
 refine au [(0, _), (1, _), (2, _)] Tryz.func143 rfl Tryz.ntmps143 rfl rfl ?_
 intro w0 F
 have htl := aa.Lg
 refine (QV) ?_
 refine oV (cW (v := .bool false) (uQ Tryz.underlying131 rfl rfl) rfl)<|(Ql) ?_
 refine oV (xZ (r := 4294967295 - s) rfl rfl (aa.A7 (by omega)))<|(QI) ?_
 rw [show ((1 : Nat), Value.int .u32 (4294967295 - s)) = (1, .int .u32 (aa.fu (4294967295 - s) (B.take 0))) from by rw [List.take_zero]; unfold aa.fu; rfl]
 refine cE (fun (i : Nat) => [(0, .pointer (some ⟨bt, 0, none⟩)), (1, .int .u32 (aa.fu (4294967295 - s) (B.take i))), (13, .slice p B.length c), (14, .int .i64 (B.length : Int)), (15, .int .i64 (i : Int))]) (fun (i : Nat) => ai bt 175 (CA [] .u32 aa.eM []) :: R :: F) (fun (i : Nat) => i ≤ B.length) (fun (i : Nat) => B.length - i) (i1 (0) ?_ (bP ln) (sub (aO .nil) ak)) ?_
 ·exact Nat.zero_le _
 intro i
 rintro hi
 refine (Qm) ?_
 refine aD rfl (fun h16 => ?_) (fun h16 => ?_)
 ·refine (Qi) ?_
  refine oV (xI V.bE (by exact bK hR dC))<|oV (xL V.s5 (by exact bK hR dC))<|(Qg) ?_
  have hv : 0 ≤ (U5.g B (i : Int)) ∧ (U5.g B (i : Int)) < 256 := hB.get i
  have hs := aa.nz (l := B.take i) (s := (4294967295 - s)) (aa.fP hB i) (by omega)
  have hix := aa.Oa (a := (aa.fu (4294967295 - s) (B.take i)) % 256) (b := (U5.g B (i : Int))) (by omega) hv
  have hrw := aa.AW (x := (aa.dr ((aa.fu (4294967295 - s) (B.take i)) % 256) (U5.g B (i : Int)))) (by omega)
  refine (Q4)<|(vj)<|(Q7) ?_
  refine oV (qL (r := (aa.dr ((aa.fu (4294967295 - s) (B.take i)) % 256) (U5.g B (i : Int)))) rfl rfl (aa.W5 (by omega) hv))<|(Q6) ?_
  refine oV (ez (((aa.dr ((aa.fu (4294967295 - s) (B.take i)) % 256) (U5.g B (i : Int)))).toNat) (by omega) V.Ji rfl rfl (by omega))<|oV (jv (aa.dr ((aa.fu (4294967295 - s) (B.take i)) % 256) (U5.g B (i : Int))) V.UW rfl aB (by (simp only [List.length_cons, List.length_nil]; omega)) (by omega) (by omega)) ?_
  rw [aa.GU hix]
  refine (Q7) ?_
  refine oV (dN (r := (aa.fu (4294967295 - s) (B.take i)) / 256) rfl rfl (by decide) (aa.lD (n := 8) rfl (by decide) rfl))<|oV (qL (r := aa.dr (aa.fI (aa.dr ((aa.fu (4294967295 - s) (B.take i)) % 256) (U5.g B (i : Int)))) ((aa.fu (4294967295 - s) (B.take i)) / 256)) rfl rfl (aa.vP hrw (by omega)))<|(QG) ?_
  have ht := aa.xQ (l := B) (s := (4294967295 - s)) (i := i) (by omega)
  rw [show B.getD i 0 = (U5.g B (i : Int)) from rfl] at ht
  rw [aa.Cu hs.1 hv] at ht
  rw [← ht]
  exact j1 (i + 1) ⟨by omega, by omega⟩ (bP ln) (sub (aO .nil) ak)
 ·refine (Qi) ?_
  obtain rfl : i = B.length := by omega
  rw [List.take_length]
  have hs := aa.nz (l := B) (s := (4294967295 - s)) hB (by omega)
  refine (Q9)<|(UF)<|(Q8) ?_
  exact ag (av rfl) ⟨by unfold aa.pG; rfl, rfl⟩ (sub (aO .nil) ak)
set_option maxHeartbeats 4000000 in
theorem II (p : Option Addr) (c : Nat) (B : List Int) (R : ad) (hR : ∀ w0 h, R w0 h → aE U5 p B.length B w0 h) (hl : B.length < 500000000) (hB : af.an B) (s : Int) (hs0 : 0 ≤ s ∧ s < 4294967296) : aA Tryz.prog 96 [.int .u32 s, .slice p B.length c] [R] (aF fun v G => v = .int .u32 (aa.pG s B) ∧ G = [R]) := by
 refine au [(0, _), (1, _)] Tryz.func96 rfl Tryz.ntmps96 rfl rfl ?_
 intro w0 F
 refine (QH) ?_
 refine oV (xZ (r := 4294967295 - s) rfl rfl (aa.A7 (by omega)))<|(Qe) ?_
 rw [show ((0 : Nat), Value.int .u32 (4294967295 - s)) = (0, .int .u32 (aa.fu (4294967295 - s) (B.take 0))) from by rw [List.take_zero]; unfold aa.fu; rfl]
 refine cE (fun (i : Nat) => [(0, .int .u32 (aa.fu (4294967295 - s) (B.take i))), (1, .slice p B.length c), (5, .int .i64 (i : Int))]) (fun (i : Nat) => R :: F) (fun (i : Nat) => i ≤ B.length) (fun (i : Nat) => B.length - i) (i1 (0) ?_ (gL ln) (sub (ao .nil) ak)) ?_
 ·exact Nat.zero_le _
 intro i
 rintro hi
 refine rL TT 9 rfl ?_
 refine aD rfl (fun h13 => ?_) (fun h13 => ?_)
 ·refine (Qf) ?_
  have hv : 0 ≤ (U5.g B (i : Int)) ∧ (U5.g B (i : Int)) < 256 := hB.get i
  have hs := aa.nz (l := B.take i) (s := (4294967295 - s)) (aa.fP hB i) (by omega)
  refine (Q5)<|(HM)<|(Ip)<|(O6) ?_
  refine oV (qL (r := (aa.dr (aa.fu (4294967295 - s) (B.take i)) (U5.g B (i : Int)))) rfl rfl (aa.vP hs (by omega)))<|(Q8) ?_
  have hxc := aa.La (a := (aa.fu (4294967295 - s) (B.take i))) (b := (U5.g B (i : Int))) hs (by omega)
  refine (Qf) ?_
  rw [show ((0 : Nat), Value.int .u32 (aa.dr (aa.fu (4294967295 - s) (B.take i)) (U5.g B (i : Int)))) = (0, .int .u32 (aa.fN 0 (aa.dr (aa.fu (4294967295 - s) (B.take i)) (U5.g B (i : Int))))) from by rw [aa.HJ hxc.1]]
  refine cE (fun (k : Nat) => [(0, .int .u32 (aa.fN k (aa.dr (aa.fu (4294967295 - s) (B.take i)) (U5.g B (i : Int))))), (1, .slice p B.length c), (5, .int .i64 (i : Int)), (6, .int .i64 (k : Int))]) (fun (k : Nat) => R :: F) (fun (k : Nat) => k ≤ 8) (fun (k : Nat) => 8 - k) (i1 (0) ?_ (eg ln) (sub (ao .nil) ak)) ?_
  ·exact Nat.zero_le _
  intro k
  rintro hk
  refine rL TT 7 rfl ?_
  refine aD rfl (fun h24 => ?_) (fun h24 => ?_)
  ·refine (Qf) ?_
   have hk2 := aa.EG hxc k
   refine (Q9) ?_
   refine oV (jk (r := (aa.fN k (aa.dr (aa.fu (4294967295 - s) (B.take i)) (U5.g B (i : Int)))) % 2) rfl rfl (aa.vp hk2))<|(Q1) ?_
   refine oV (dN (r := (aa.fN k (aa.dr (aa.fu (4294967295 - s) (B.take i)) (U5.g B (i : Int)))) / 2) rfl rfl (by decide) (aa.lD (n := 1) rfl (by decide) rfl))<|(Qn) ?_
   refine aD rfl (fun h32 => ?_) (fun h32 => ?_)
   ·refine (Q9) ?_
    refine oV (qL (r := aa.dr ((aa.fN k (aa.dr (aa.fu (4294967295 - s) (B.take i)) (U5.g B (i : Int)))) / 2) 3988292384) rfl rfl (aa.vP (by omega) (by decide)))<|(sY) ?_
    (rw [← aa.AD (by assumption)]; exact j1 (k + 1) ⟨by omega, by omega⟩ (eg ln) (sub (ao .nil) ak))
   ·refine (vf) ?_
    (rw [← aa.yF (by assumption)]; exact j1 (k + 1) ⟨by omega, by omega⟩ (eg ln) (sub (ao .nil) ak))
  ·refine (Qi) ?_
   obtain rfl : k = 8 := by omega
   refine jJ TT 5 rfl (by omega) ?_
   have ht := aa.xQ (l := B) (s := (4294967295 - s)) (i := i) (by omega)
   rw [show B.getD i 0 = (U5.g B (i : Int)) from rfl] at ht
   rw [aa.HB, ← ht]
   exact j1 (i + 1) ⟨by omega, by omega⟩ (gL ln) (sub (ao .nil) ak)
 ·refine (Qi) ?_
  obtain rfl : i = B.length := by omega
  rw [List.take_length]
  have hs := aa.nz (l := B) (s := (4294967295 - s)) hB (by omega)
  refine (Q9)<|(UF)<|(Q8) ?_
  exact ag (av rfl) ⟨by unfold aa.pG; rfl, rfl⟩ (sub (ao .nil) ak)
set_option maxHeartbeats 2000000 in
theorem Ku (bt : Nat) (kk : List Int) (hk : af.an kk) (hkl : kk.length < 500000000) (p : Option Addr) (c : Nat) (B : List Int) (R : ad) (hR : ∀ w0 h, R w0 h → aE U5 p B.length B w0 h) (hl : B.length < 500000000) (hB : af.an B) : aA Tryz.prog 109 [.pointer (some ⟨bt, 0, none⟩), .string (strOfNums kk), .slice p B.length c] [ai bt 175 (CA [] .u32 aa.eM []), R] (aF fun v G => v = .int .u32 (aa.gf kk B) ∧ G = [ai bt 175 (CA [] .u32 aa.eM []), R]) := by
 refine au [(0, _), (1, _), (2, _)] Tryz.func109 rfl Tryz.ntmps109 rfl rfl ?_
 intro w0 F
 have hm := aa.sS (s := 0) (by decide) hk
 refine rT TT 10 rfl<|(V5) ?_
 intro b10 c10
 refine aj (DY bt (some ⟨b10, 0, none⟩) c10 kk (aE U5 (some ⟨b10, 0, none⟩) kk.length kk) (fun _ _ hh => hh) hkl hk 0 (by decide)) V.N7  rfl (.cons ax (ao .nil)) rfl ?_
 rintro _ _ ⟨rfl, rfl⟩
 refine (Q7) ?_
 refine aj (DY bt p c B R hR hl hB (aa.pG 0 kk) hm) V.N7  rfl (ao (.cons ax .nil)) rfl ?_
 rintro _ _ ⟨rfl, rfl⟩
 refine (Q8) ?_
 exact ag (av rfl) ⟨by unfold aa.gf; rfl, rfl⟩ (sub (aO .nil) bu)
set_option maxHeartbeats 2000000 in
theorem Lw (kk : List Int) (hk : af.an kk) (hkl : kk.length < 500000000) (p : Option Addr) (c : Nat) (B : List Int) (R : ad) (hR : ∀ w0 h, R w0 h → aE U5 p B.length B w0 h) (hl : B.length < 500000000) (hB : af.an B) : aA Tryz.prog 66 [.string (strOfNums kk), .slice p B.length c] [R] (aF fun v G => v = .int .u32 (aa.gf kk B) ∧ G = [R]) := by
 refine au [(0, _), (1, _)] Tryz.func66 rfl Tryz.ntmps66 rfl rfl ?_
 intro w0 F
 have hm := aa.sS (s := 0) (by decide) hk
 refine (QH)<|(V5) ?_
 intro b6 c6
 refine aj (II (some ⟨b6, 0, none⟩) c6 kk (aE U5 (some ⟨b6, 0, none⟩) kk.length kk) (fun _ _ hh => hh) hkl hk 0 (by decide)) V.We  rfl (ao .nil) rfl ?_
 rintro _ _ ⟨rfl, rfl⟩
 refine (Q7) ?_
 refine aj (II p c B R hR hl hB (aa.pG 0 kk) hm) V.We  rfl (.cons ax .nil) rfl ?_
 rintro _ _ ⟨rfl, rfl⟩
 refine (Q8) ?_
 exact ag (av rfl) ⟨by unfold aa.gf; rfl, rfl⟩ (sub (ao .nil) bu)
end Go.Proofs.YtmaiakpjgomnpaaGreat
namespace Go.Proofs.YtmaiakpjgomnpaaGreat
open Go.Sl
theorem V.Nn : ay Tryz.prog 142 = true := by kernel_rfl
end Go.Proofs.YtmaiakpjgomnpaaGreat
namespace Go.Proofs.YtmaiakpjgomnpaaGreat
open Go.Sl 
attribute [local irreducible] af.an aa.fN aa.fI aa.dr aa.fu aa.eM aa.gl
theorem It {l m : List Int} {t : Bool} (hl : ∀ x ∈ l, 0 ≤ x ∧ x < 256) (hm : ∀ x ∈ m, 0 ≤ x ∧ x < 256) (ht : t = decide (l = m)) : ((strOfNums l).toList == (strOfNums m).toList) = t := by
 by_cases h : l = m
 ·rw [ht, decide_eq_true h, h]; exact beq_self_eq_true _
 ·rw [ht, decide_eq_false h]; exact tq hl hm h
theorem jf {C : Ctx} {E : Env} {L : List ad} {ty : TypeId} {x y : Operand} {t t' : TypeId} {l m : List Int} {r : Bool} (hl : ∀ x ∈ l, 0 ≤ x ∧ x < 256) (hm : ∀ x ∈ m, 0 ≤ x ∧ x < 256) (hx : aq E x = some (.string (strOfNums l))) (hy : aq E y = some (.string (strOfNums m))) (ht : r = decide (l = m)) : bB C (.binOp .eql t x y t') ty E L (.bool r) L := Im hx hy (It hl hm ht)
theorem wE (x : Int) (hx : 0 ≤ x ∧ x < 256) (t : Bool) (ht : t = decide (aa.jG x)) : aA Tryz.prog 142 [.int .u8 x] [] (aF fun v G => v = .bool t ∧ G = []) := by
 refine au [(0, _)] Tryz.func142 rfl Tryz.ntmps142 rfl rfl ?_
 intro w0 F
 refine (QP) ?_
 rcases (aa.OE x) with ⟨h1, h2⟩ | ⟨h1, h2⟩ | ⟨h1, h2, h3⟩ | ⟨h1, h2, h3⟩ | ⟨h1, h2⟩
 ·refine (Q4)<|(QO)<|(Qj)<|(xY)<|(Qq) ?_
  (obtain rfl : t = true := ht.trans (decide_eq_true (by unfold aa.jG; omega)); exact ag (G := []) (av rfl) ⟨rfl, rfl⟩ (sub .nil ak))
 ·refine (Q4)<|(QO)<|(Qj)<|(IF)<|(Qd)<|(QO)<|(Qj)<|(IF)<|(Q1) ?_
  (obtain rfl : t = false := ht.trans (decide_eq_false (by unfold aa.jG; omega)); exact ag (G := []) (av rfl) ⟨rfl, rfl⟩ (sub .nil ak))
 ·refine (Q4)<|(oO)<|(Q1)<|(Q0)<|(QO)<|(Qj)<|(xY)<|(Q1) ?_
  (obtain rfl : t = true := ht.trans (decide_eq_true (by unfold aa.jG; omega)); exact ag (G := []) (av rfl) ⟨rfl, rfl⟩ (sub .nil ak))
 ·refine (Q4)<|(oO)<|(Q1)<|(Q0)<|(QO)<|(Qj)<|(IF)<|(Q1) ?_
  (obtain rfl : t = false := ht.trans (decide_eq_false (by unfold aa.jG; omega)); exact ag (G := []) (av rfl) ⟨rfl, rfl⟩ (sub .nil ak))
 ·refine (Q4)<|(oO)<|(Q1)<|(Q0)<|(oO)<|(Qn) ?_
  (obtain rfl : t = false := ht.trans (decide_eq_false (by unfold aa.jG; omega)); exact ag (G := []) (av rfl) ⟨rfl, rfl⟩ (sub .nil ak))
set_option maxHeartbeats 1000000 in
theorem lL (kk : List Int) (hk : af.an kk) (hkl : kk.length < 500000000) (t : Bool) (ht : t = decide (aa.df kk)) : aA Tryz.prog 107 [.string (strOfNums kk)] [] (aF fun v G => v = .bool t ∧ G = []) := by
 refine au [(0, _)] Tryz.func107 rfl Tryz.ntmps107 rfl rfl ?_
 intro w0 F
 refine (QV)<|(IQ)<|(Q8) ?_
 refine cE (fun (i : Nat) => [(0, .string (strOfNums kk)), (5, .int .i64 (kk.length : Int)), (6, .int .i64 (i : Int))]) (fun (i : Nat) => F) (fun (i : Nat) => i ≤ kk.length ∧ ∀ j, j < i → aa.jG (kk.getD j 0)) (fun (i : Nat) => kk.length - i) (i1 (0) ?_ (gL ln) (sub .nil ak)) ?_
 ·exact ⟨Nat.zero_le _, fun j hj => by omega⟩
 intro i
 rintro ⟨hi, hall⟩
 refine (Qm) ?_
 refine aD rfl (fun h7 => ?_) (fun h7 => ?_)
 ·refine (QC) ?_
  rcases (Classical.em (aa.jG (kk.getD i 0))) with hl1 | hl1
  ·refine (Q5)<|(Si) ?_
   refine aj (wE (kk.getD i 0) (hk.get i) true (decide_eq_true hl1).symm) V.Nn  rfl .nil rfl ?_
   rintro _ _ ⟨rfl, rfl⟩
   refine (Cw) ?_
   refine j1 (i + 1) ?_ (gL ln) (sub .nil ak)
   exact ⟨⟨by omega, fun j hj => (Nat.lt_succ_iff_lt_or_eq.1 hj).elim (hall j) (fun e => e ▸ hl1)⟩, by omega⟩
  ·refine (Q5)<|(Si) ?_
   refine aj (wE (kk.getD i 0) (hk.get i) false (decide_eq_false hl1).symm) V.Nn  rfl .nil rfl ?_
   rintro _ _ ⟨rfl, rfl⟩
   refine (QM) ?_
   obtain rfl : t = false := ht.trans (decide_eq_false (aa.ux hl1 (by omega)))
   exact ag (av rfl) ⟨rfl, rfl⟩ (sub .nil ak)
 ·refine rC TT 8 rfl<|(IQ)<|(Q3) ?_
  obtain rfl : i = kk.length := by omega
  rw [aa.Ub ht hall]
  exact ag (av rfl) ⟨rfl, rfl⟩ (sub .nil ak)
set_option maxHeartbeats 1000000 in
theorem xR (p : Option Addr) (c : Nat) (B : List Int) (R : ad) (hR : ∀ w0 h, R w0 h → aE U5 p B.length B w0 h) (hB : af.an B) (h4 : 4 ≤ B.length) (hcap : B.length ≤ c) : aA Tryz.prog 112 [.slice p B.length c] [R] (aF fun v G => v = .int .i64 (aG.cZ B) ∧ G = [R]) := by
 refine au [(0, _)] Tryz.func112 rfl Tryz.ntmps112 rfl rfl ?_
 intro w0 F
 have hT : ∀ w0 h, R w0 h → aE U5 p 4 (B.take 4) w0 h := kK (cap := 0) hR 4 h4
 refine rT TT 14 rfl<|oV (iH 4 c V.bE rfl ⟨_, rfl⟩ rfl (by omega) (by omega))<|(Q3) ?_
 refine cE (fun (i : Nat) => [(3, .int .i64 (aa.ac B i)), (7, .slice p 4 c), (8, .int .i64 4), (9, .int .i64 (i : Int))]) (fun (i : Nat) => R :: F) (fun (i : Nat) => i ≤ 4) (fun (i : Nat) => 4 - i) (i1 (0) ?_ (eg ln) (sub (ao .nil) ak)) ?_
 ·exact Nat.zero_le _
 intro i
 rintro hi
 refine (Qm) ?_
 refine aD rfl (fun h10 => ?_) (fun h10 => ?_)
 ·refine (Qf) ?_
  have hv := hB.get i
  have ha := aa.SL hB (i := i) (by omega)
  refine (Qo) ?_
  refine oV (xI V.bE (by exact bK hT aB))<|oV (xL V.s5 (by exact bK hT aB)) ?_
  rw [show U5.g (B.take 4) (i : Int) = (B.getD i 0) from aa.Dh (by omega)]
  refine (Q3) ?_
  refine oV (gA (r := (aa.ac B i) * 256) rfl rfl (by decide) (aG.FL (n := 8) rfl (by decide) rfl (by omega) (by omega)))<|(Q7)<|(QN) ?_
  refine oV (mT (r := (aa.ac B i) * 256 + (B.getD i 0)) rfl rfl (aG.uI (u := (aa.ac B i)) (n := 8) rfl ha.1 (by omega) (by omega)))<|(QG) ?_
  refine j1 (i + 1) ?_ (eg ln) (sub (ao .nil) ak)
  exact ⟨by omega, by omega⟩
 ·refine (Qi) ?_
  obtain rfl : i = 4 := by omega
  rw [aa.XF]
  refine (Qi) ?_
  exact ag (av rfl) ⟨rfl, rfl⟩ (sub (ao .nil) ak)
theorem MR  : aA Tryz.prog 76 [] [] (aF fun v G => ∃ b, v = .slice (some ⟨b, 0, none⟩) 8 8 ∧ G = [Row U5 (some ⟨b, 0, none⟩) 8 8 aa.ea]) := by
 refine au [] Tryz.func76 rfl Tryz.ntmps76 rfl rfl ?_
 intro w0 F
 refine rT TT 7 rfl<|cY (U5) aa.ea V.bE V.z5 rfl rfl rfl rfl rfl rfl ?_
 intro b1
 refine (Q8) ?_
 exact ag (av rfl) ⟨b1, rfl, rfl⟩ (sub (ao .nil) ak)
set_option maxHeartbeats 1000000 in
theorem KO (p : Option Addr) (c : Nat) (B : List Int) (R : ad) (hR : ∀ w0 h, R w0 h → aE U5 p B.length B w0 h) (hB : af.an B) (p2 : Option Addr) (c2 : Nat) (D : List Int) (R2 : ad) (hR2 : ∀ w0 h, R2 w0 h → aE U5 p2 D.length D w0 h) (hD : af.an D) (t : Bool) (ht : t = decide (B = D)) : aA Tryz.prog 110 [.slice p B.length c, .slice p2 D.length c2] [R, R2] (aF fun v G => v = .bool t ∧ G = [R, R2]) := by
 refine au [(0, _), (1, _)] Tryz.func110 rfl Tryz.ntmps110 rfl rfl ?_
 intro w0 F
 refine (QH) ?_
 refine oV (sr (T := 5) Tryz.underlying22 Tryz.underlying5 Tryz.underlying9 rfl (by exact bK hR aB))<|(Q7) ?_
 refine oV (sr (T := 5) Tryz.underlying22 Tryz.underlying5 Tryz.underlying9 rfl (by exact bK hR2 dC))<|oV (Im rfl rfl (It (aa.bp hB) (aa.bp hD) ht))<|(Q8) ?_
 exact ag (av rfl) ⟨rfl, rfl⟩ (sub (aO .nil) ak)
end Go.Proofs.YtmaiakpjgomnpaaGreat
namespace Go.Proofs.YtmaiakpjgomnpaaGreat
open Go.Sl
theorem V.oB : fX Tryz.prog 88 = some 2 := by kernel_rfl
theorem V.uD : ay Tryz.prog 107 = true := by kernel_rfl
theorem V.XU : ay Tryz.prog 109 = true := by kernel_rfl
theorem V.XA : ay Tryz.prog 110 = true := by kernel_rfl
theorem V.OS : ay Tryz.prog 112 = true := by kernel_rfl
theorem V.R3 : eF Tryz.prog 88 = some [(0, 1), (1, 1)] := by kernel_rfl
theorem V.Cl : cx Tryz.prog 88 = some ([.string .empty, .slice none 0 0]) := by kernel_rfl
end Go.Proofs.YtmaiakpjgomnpaaGreat

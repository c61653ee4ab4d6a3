/- Walks of functions that the law reaches, and what they lean on; no conditions. -/
import Derived.Test.YtmaiakpjgomnpaaGreatM0
import Derived.Test.YtmaiakpjgomnpaaGreatM4
import Derived.Test.YtmaiakpjgomnpaaGreatM2
import Derived.Test.YtmaiakpjgomnpaaGreatM1
import Derived.KernelRfl
import Derived.Test.YtmaiakpjgomnpaaGreatM5
import Derived.Test.YtmaiakpjgomnpaaGreatM3
import Derived.Laws.BytesArg
import Derived.Shelf.Sort.Plain
set_option linter.unusedVariables false
set_option linter.unusedSimpArgs false
set_option maxRecDepth 100000
namespace Go.Proofs.YtmaiakpjgomnpaaGreat
open Go.Sl 
attribute [local irreducible] ae.a7 ae.tk ae.ord ae.bJ ae.words ae.bY ab.gH ab.bR ab.cx ab.dj ab.hL ab.hD ab.hC ab.eE ab.told ab.eY ab.im ab.rep ab.ew ab.dw ab.sym ab.cI ag.aK ab.dU ab.cF
set_option maxHeartbeats 2000000 in
theorem yG (b bl : Nat) (sz mo : Int) (po : Option Addr) (no co : Nat) (li di : Value) (s : ab.St) (B : List Int) (a : Nat) (sy : Int) (h0 : 0 ≤ sy ∧ sy < 1000) (hl : B.length < 500000000) (hB : ag.an B) (ha : a ≤ 8 * B.length) : az Tryz.prog 202 [.pointer (some ⟨b, 0, none⟩), .int .i64 sy] [ai b 223 [.pointer (some ⟨bl, 0, none⟩), .int .i64 sz, .int .i64 mo, .slice po no co, .bool s.ended, .int .i64 0, .int .i64 s.kind, .int .i64 (s.left : Int), .bool s.last, li, di, .int .i64 (s.ax : Int), .int .i64 (s.bA : Int)], LW bl B a [] 0] (gD (ab.ew B sy a) (fun x v G => v = .int .i64 x.1 ∧ G = [ai b 223 [.pointer (some ⟨bl, 0, none⟩), .int .i64 sz, .int .i64 mo, .slice po no co, .bool s.ended, .int .i64 0, .int .i64 s.kind, .int .i64 (s.left : Int), .bool s.last, li, di, .int .i64 (s.ax : Int), .int .i64 (s.bA : Int)], LW bl B x.2 [] 0]) [MX b bl sz mo]) := by
 refine au [(0, _), (1, _)] Tryz.func202 rfl Tryz.ntmps202 rfl rfl ?_
 intro w0 F
 refine (QO) ?_
 rcases (Classical.em (sy < 29)) with hq | hq
 ·refine (Q5)<|(Iq)<|(D7) ?_
  rintro _ _ ⟨rfl, rfl⟩
  refine (Qp) ?_
  refine aC rfl (fun h9 => ?_) (fun h9 => ?_)
  ·exact jW TT 10 rfl (by omega)<|jU (x := (3 + sy, a)) (ab.Au h0.1 (by omega) ha) (av rfl) ⟨rfl, rfl⟩ (sub (aO .nil) ak)
  ·refine (Qs) ?_
   refine aC rfl (fun h14 => ?_) (fun h14 => ?_)
   ·exact rC TT 8 rfl<|jU (x := (258, a)) (ab.zC (by omega) ha) (av rfl) ⟨rfl, rfl⟩ (sub (aO .nil) ak)
   ·refine (Qc)<|(o8)<|(tt) ?_
    rcases (Nat.lt_or_ge (8 * B.length) (a + (ab.fz sy))) with hx | hx
    ·refine (Qa) ?_
     obtain ⟨hk1, hk2, hk3⟩ := ab.yM (s := sy) (by omega) (by omega)
     have hsh := ab.k6 (x := 4 + sy % 4) (n := ab.fz sy) (by omega) (by omega) (by omega) rfl
     have hnb := ag.bG B a (ab.fz sy)
     have hnc := ag.qN (show ab.fz sy ≤ 24 by omega)
     rw [hk1]
     refine wN [pz 0 [] [1], pz 1 [0] [], pz 3 [1] [], pz 0 [] [5], pz 15 [2, 3] [], pz 31 [4] [], pz 0 [] [0], pz 64 [6] [], pz 192 [7] [], pz 448 [8] [], pz 0 [] [5], pz 1984 [9, 10] [], pz 4095 [5, 11] [], pz 8191 [12] []] [⟨fun y => ai b 223 [.pointer (some ⟨bl, 0, none⟩), .int .i64 sz, .int .i64 mo, .slice po no co, .bool s.ended, .int .i64 0, .int .i64 s.kind, .int .i64 (s.left : Int), .bool s.last, li, di, .int .i64 (s.ax : Int), .int .i64 (s.bA : Int)], none, none, [9, 11]⟩, ⟨fun y => LW bl B a [] 0, none, none, [11]⟩] F V.mixed ?_
     refine nM ?_
     refine nV (fun y hA L => lJ rfl rfl (by omega) (oe (by omega))) ?_
     refine nV (fun y hA L => eA rfl rfl wI) ?_
     refine nM ?_
     refine nV (fun y hA L => iQ (r := (4 + sy % 4) * 2 ^ ab.fz sy) rfl rfl (by omega) hsh.1) ?_
     refine nV (fun y hA L => eA rfl rfl wI) ?_
     refine nM ?_
     refine nN ?_
     refine nG V.gu ?_
     refine nR (fun y FF hA => aA V.fW rfl aB rfl) ?_
     refine nM ?_
     refine aU (undef) _ _ (fun y => rfl) rfl (fun y => rfl) (fun y FF hA => eW (fw bl B a [] 0 (ab.fz sy) hl hB (by omega) (by omega) (by omega)) V.eg rfl (.cons aw .nil) (by rintro _ _ ⟨rfl, rfl⟩; exact ko (ab.vS (by omega) (by omega) hx) PE.end_ (aM (.cons aw .nil) (by exact zl (M := FF) (F := F)) (fun w0 h hh => bP hh)))) ?_
     refine aU (.bool true) _ _ (fun y => rfl) rfl (fun y => rfl) (fun y FF hA => (cE.fact (hA 11 (by decide)) (q := fun _ => False) rfl).elim) ?_
     refine aU (.bool true) _ _ (fun y => rfl) rfl (fun y => rfl) (fun y FF hA => (cE.fact (hA 11 (by decide)) (q := fun _ => False) rfl).elim) ?_
     refine cG ?_
     intro y hA
     exact (cE.fact (hA 11 (by exact Nat.le_of_ble_eq_true rfl)) (q := fun _ => False) rfl).elim
    ·refine (Qa) ?_
     obtain ⟨hk1, hk2, hk3⟩ := ab.yM (s := sy) (by omega) (by omega)
     have hsh := ab.k6 (x := 4 + sy % 4) (n := ab.fz sy) (by omega) (by omega) (by omega) rfl
     have hnb := ag.bG B a (ab.fz sy)
     have hnc := ag.qN (show ab.fz sy ≤ 24 by omega)
     rw [hk1]
     refine wN [pz 0 [] [1], pz 1 [0] [], pz 3 [1] [], pz 0 [] [5], pz 15 [2, 3] [], pz 31 [4] [], pz 0 [] [0], pz 64 [6] [], pz 192 [7] [], pz 448 [8] [], pz 0 [] [5], pz 1984 [9, 10] [], pz 4095 [5, 11] [], pz 8191 [12] []] [⟨fun y => ai b 223 [.pointer (some ⟨bl, 0, none⟩), .int .i64 sz, .int .i64 mo, .slice po no co, .bool s.ended, .int .i64 0, .int .i64 s.kind, .int .i64 (s.left : Int), .bool s.last, li, di, .int .i64 (s.ax : Int), .int .i64 (s.bA : Int)], none, none, [9]⟩, ⟨fun y => LW bl B a [] 0, none, some 11, []⟩, ⟨fun y => LW bl B (a + (ab.fz sy)) [] 0, some 11, none, []⟩] F V.mixed ?_
     refine nM ?_
     refine nV (fun y hA L => lJ rfl rfl (by omega) (oe (by omega))) ?_
     refine nV (fun y hA L => eA rfl rfl wI) ?_
     refine nM ?_
     refine nV (fun y hA L => iQ (r := (4 + sy % 4) * 2 ^ ab.fz sy) rfl rfl (by omega) hsh.1) ?_
     refine nV (fun y hA L => eA rfl rfl wI) ?_
     refine nM ?_
     refine nN ?_
     refine nG V.gu ?_
     refine nR (fun y FF hA => aA V.fW rfl aB rfl) ?_
     refine nM ?_
     refine nE (fun y FF hA => aV (Post := [LW bl B (a + (ab.fz sy)) [] 0]) (eN bl B a [] 0 (ab.fz sy) hl hB (by omega) (by omega)) V.eg rfl (aq .nil) (fun v G h => by rcases h with ⟨rfl, rfl⟩; exact ⟨rfl, .refl _⟩)) ?_
     refine nV (fun y hA L => eA rfl rfl wI) ?_
     refine nA ?_
     refine cG ?_
     intro y hA
     clear hA
     refine bj<|bE _ (.cons (d := 4) rfl (.nil _))<|bo (M := ai b 223 [.pointer (some ⟨bl, 0, none⟩), .int .i64 sz, .int .i64 mo, .slice po no co, .bool s.ended, .int .i64 0, .int .i64 s.kind, .int .i64 (s.left : Int), .bool s.last, li, di, .int .i64 (s.ax : Int), .int .i64 (s.bA : Int)] :: LW bl B (a + (ab.fz sy)) [] 0 :: F) (fun _ _ h => h)<|(Qa) ?_
     exact jU (x := (3 + (4 + sy % 4) * 2 ^ ab.fz sy + ag.aK B a (ab.fz sy), a + ab.fz sy)) (ab.Fx (by omega) (by omega) hx) (av rfl) ⟨rfl, rfl⟩ (sub (aO .nil) ak)
 ·refine (Q5) ?_
  refine oV (bV (dV rfl rfl) hq)<|(zH) ?_
  rintro _ _ ⟨rfl, rfl⟩
  refine (cK ?_)
  exact dk (ab.CS (by omega)) (PE.no (by decide)) (aM (aq .nil) bp (fun w0 h hh => bP hh))
set_option maxHeartbeats 2000000 in
theorem EU (b bl : Nat) (sz mo : Int) (po : Option Addr) (no co : Nat) (li : Value) (dd : Nat) (s : ab.St) (B ds : List Int) (a : Nat) (hE : ae.a7 ds = 0) (hd : 0 < ds.length) (hl : B.length < 500000000) (hB : ag.an B) (ha : a ≤ 8 * B.length) : az Tryz.prog 203 [.pointer (some ⟨b, 0, none⟩)] [ai b 223 [.pointer (some ⟨bl, 0, none⟩), .int .i64 sz, .int .i64 mo, .slice po no co, .bool s.ended, .int .i64 0, .int .i64 s.kind, .int .i64 (s.left : Int), .bool s.last, li, (.pointer (some ⟨dd, 0, none⟩)), .int .i64 (s.ax : Int), .int .i64 (s.bA : Int)], HC dd ds, LW bl B a [] 0] (gD (ab.dw B ds a) (fun x v G => v = .int .i64 x.1 ∧ G = [ai b 223 [.pointer (some ⟨bl, 0, none⟩), .int .i64 sz, .int .i64 mo, .slice po no co, .bool s.ended, .int .i64 0, .int .i64 s.kind, .int .i64 (s.left : Int), .bool s.last, li, (.pointer (some ⟨dd, 0, none⟩)), .int .i64 (s.ax : Int), .int .i64 (s.bA : Int)], HC dd ds, LW bl B x.2 [] 0]) [MX b bl sz mo]) := by
 refine au [(0, _)] Tryz.func203 rfl Tryz.ntmps203 rfl rfl ?_
 intro w0 F
 have hdl := ab.xV hE
 refine (QO) ?_
 rcases (ab.yg (B := B) (ls := ds) (a := a) hE hd) with ⟨e, hs⟩ | ⟨sy, a3, hs, h0, h1, h2, h3⟩
 ·refine (Qa) ?_
  refine wN [pz 0 [] [0], pz 1 [0] [], pz 3 [1] [], pz 7 [2] [], pz 0 [] [0], pz 16 [4] [], pz 48 [5] [], pz 112 [6] [], pz 255 [3, 7] [], pz 511 [8] []] [⟨fun y => ai b 223 [.pointer (some ⟨bl, 0, none⟩), .int .i64 sz, .int .i64 mo, .slice po no co, .bool s.ended, .int .i64 0, .int .i64 s.kind, .int .i64 (s.left : Int), .bool s.last, li, (.pointer (some ⟨dd, 0, none⟩)), .int .i64 (s.ax : Int), .int .i64 (s.bA : Int)], none, none, [3, 7, 8]⟩, ⟨fun y => HC dd ds, none, none, [8]⟩, ⟨fun y => LW bl B a [] 0, none, none, [8]⟩] F V.mixed ?_
  refine nM ?_
  refine nN ?_
  refine nG V.uP ?_
  refine (IB) ?_
  refine nM ?_
  refine nN ?_
  refine (mT) ?_
  refine (mM) ?_
  refine aU (undef) _ _ (fun y => rfl) rfl (fun y => rfl) (fun y FF hA => eW ((mS dd ds bl B a [] 0 hE hl hB ha).err hs) V.qu rfl (.cons aw (.cons aw .nil)) (by rintro _ _ ⟨hp, rfl⟩; exact ko (ab.Fi hs) hp (aM (aq .nil) (by exact vo (M := FF) (F := F)) (fun w0 h hh => bP hh)))) ?_
  refine (V0) ?_
  refine (Qb) ?_
  intro y hA
  exact (cE.fact (hA 8 (by exact Nat.le_of_ble_eq_true rfl)) (q := fun _ => False) rfl).elim
 ·refine (Qa) ?_
  refine wN [pz 0 [] [0], pz 1 [0] [], pz 3 [1] [], pz 7 [2] [], pz 0 [] [0], pz 16 [4] [], pz 48 [5] [], pz 112 [6] [], pz 255 [3, 7] [], pz 511 [8] []] [⟨fun y => ai b 223 [.pointer (some ⟨bl, 0, none⟩), .int .i64 sz, .int .i64 mo, .slice po no co, .bool s.ended, .int .i64 0, .int .i64 s.kind, .int .i64 (s.left : Int), .bool s.last, li, (.pointer (some ⟨dd, 0, none⟩)), .int .i64 (s.ax : Int), .int .i64 (s.bA : Int)], none, none, [3, 7]⟩, ⟨fun y => HC dd ds, none, some 8, []⟩, ⟨fun y => LW bl B a [] 0, none, some 8, []⟩, ⟨fun y => HC dd ds, some 8, none, []⟩, ⟨fun y => LW bl B a3 [] 0, some 8, none, []⟩] F V.mixed ?_
  refine nM ?_
  refine nN ?_
  refine nG V.uP ?_
  refine (IB) ?_
  refine nM ?_
  refine nN ?_
  refine (mT) ?_
  refine (mM) ?_
  refine nE (fun y FF hA => aV (Post := [HC dd ds, LW bl B a3 [] 0]) ((mS dd ds bl B a [] 0 hE hl hB ha).ok hs) V.qu rfl (aO .nil) (fun v G h => by rcases h with ⟨rfl, rfl⟩; exact ⟨rfl, .refl _⟩)) ?_
  refine nA ?_
  refine (Qb) ?_
  intro y hA
  clear hA
  refine bj<|bE _ (.cons (d := 0) rfl (.cons (d := 3) rfl (.nil _)))<|bo (M := ai b 223 [.pointer (some ⟨bl, 0, none⟩), .int .i64 sz, .int .i64 mo, .slice po no co, .bool s.ended, .int .i64 0, .int .i64 s.kind, .int .i64 (s.left : Int), .bool s.last, li, (.pointer (some ⟨dd, 0, none⟩)), .int .i64 (s.ax : Int), .int .i64 (s.bA : Int)] :: HC dd ds :: LW bl B a3 [] 0 :: F) (fun _ _ h => h) ?_
  rcases (Classical.em (sy < 30)) with hq | hq
  ·refine (Q5)<|(Iq)<|(D7) ?_
   rintro _ _ ⟨rfl, rfl⟩
   refine (Qn) ?_
   refine aC rfl (fun h18 => ?_) (fun h18 => ?_)
   ·exact jW TT 9 rfl (by omega)<|jU (x := (1 + sy, a3)) (ab.w5 hs h0 (by omega) h3) (av rfl) ⟨rfl, rfl⟩ (sub (fp .nil) ak)
   ·refine (Qe)<|(o8)<|(tt) ?_
    rcases (Nat.lt_or_ge (8 * B.length) (a3 + (ab.fX sy))) with hx | hx
    ·refine (Qa) ?_
     obtain ⟨hk1, hk2, hk3⟩ := ab.wY (s := sy) (by omega) (by omega)
     have hsh := ab.k6 (x := 2 + sy % 2) (n := ab.fX sy) (by omega) (by omega) (by omega) rfl
     have hnb := ag.bG B a3 (ab.fX sy)
     have hnc := ag.qN (show ab.fX sy ≤ 24 by omega)
     rw [hk1]
     refine wN [pz 0 [] [3], pz 1 [0] [], pz 3 [1] [], pz 0 [] [4], pz 15 [2, 3] [], pz 31 [4] [], pz 0 [] [0], pz 64 [6] [], pz 192 [7] [], pz 448 [8] [], pz 0 [] [4], pz 1984 [9, 10] [], pz 4095 [5, 11] [], pz 8191 [12] []] [⟨fun y => ai b 223 [.pointer (some ⟨bl, 0, none⟩), .int .i64 sz, .int .i64 mo, .slice po no co, .bool s.ended, .int .i64 0, .int .i64 s.kind, .int .i64 (s.left : Int), .bool s.last, li, (.pointer (some ⟨dd, 0, none⟩)), .int .i64 (s.ax : Int), .int .i64 (s.bA : Int)], none, none, [9, 11]⟩, ⟨fun y => HC dd ds, none, none, []⟩, ⟨fun y => LW bl B a3 [] 0, none, none, [11]⟩] F V.mixed ?_
     refine nM ?_
     refine (MU) ?_
     refine (Qy) ?_
     refine nM ?_
     refine (WC) ?_
     refine (Qy) ?_
     refine nM ?_
     refine nN ?_
     refine (mT) ?_
     refine (mM) ?_
     refine nM ?_
     refine aU (undef) _ _ (fun y => rfl) rfl (fun y => rfl) (fun y FF hA => eW (fw bl B a3 [] 0 (ab.fX sy) hl hB (by omega) (by omega) (by omega)) V.eg rfl (.cons aw .nil) (by rintro _ _ ⟨rfl, rfl⟩; exact ko (ab.tJ hs (by omega) (by omega) hx) PE.end_ (aM (.cons aw .nil) (by exact zl (M := FF) (F := F)) (fun w0 h hh => bP hh)))) ?_
     refine (U0) ?_
     refine (U0) ?_
     refine (Qb) ?_
     intro y hA
     exact (cE.fact (hA 11 (by exact Nat.le_of_ble_eq_true rfl)) (q := fun _ => False) rfl).elim
    ·refine (Qa) ?_
     obtain ⟨hk1, hk2, hk3⟩ := ab.wY (s := sy) (by omega) (by omega)
     have hsh := ab.k6 (x := 2 + sy % 2) (n := ab.fX sy) (by omega) (by omega) (by omega) rfl
     have hnb := ag.bG B a3 (ab.fX sy)
     have hnc := ag.qN (show ab.fX sy ≤ 24 by omega)
     rw [hk1]
     refine wN [pz 0 [] [3], pz 1 [0] [], pz 3 [1] [], pz 0 [] [4], pz 15 [2, 3] [], pz 31 [4] [], pz 0 [] [0], pz 64 [6] [], pz 192 [7] [], pz 448 [8] [], pz 0 [] [4], pz 1984 [9, 10] [], pz 4095 [5, 11] [], pz 8191 [12] []] [⟨fun y => ai b 223 [.pointer (some ⟨bl, 0, none⟩), .int .i64 sz, .int .i64 mo, .slice po no co, .bool s.ended, .int .i64 0, .int .i64 s.kind, .int .i64 (s.left : Int), .bool s.last, li, (.pointer (some ⟨dd, 0, none⟩)), .int .i64 (s.ax : Int), .int .i64 (s.bA : Int)], none, none, [9]⟩, ⟨fun y => HC dd ds, none, none, []⟩, ⟨fun y => LW bl B a3 [] 0, none, some 11, []⟩, ⟨fun y => LW bl B (a3 + (ab.fX sy)) [] 0, some 11, none, []⟩] F V.mixed ?_
     refine nM ?_
     refine (MU) ?_
     refine (Qy) ?_
     refine nM ?_
     refine (WC) ?_
     refine (Qy) ?_
     refine nM ?_
     refine nN ?_
     refine (mT) ?_
     refine (mM) ?_
     refine nM ?_
     refine nE (fun y FF hA => aV (Post := [LW bl B (a3 + (ab.fX sy)) [] 0]) (eN bl B a3 [] 0 (ab.fX sy) hl hB (by omega) (by omega)) V.eg rfl (aq .nil) (fun v G h => by rcases h with ⟨rfl, rfl⟩; exact ⟨rfl, .refl _⟩)) ?_
     refine (Qy) ?_
     refine nA ?_
     refine (Qb) ?_
     intro y hA
     clear hA
     refine bj<|(JM) ?_
     refine bo (M := ai b 223 [.pointer (some ⟨bl, 0, none⟩), .int .i64 sz, .int .i64 mo, .slice po no co, .bool s.ended, .int .i64 0, .int .i64 s.kind, .int .i64 (s.left : Int), .bool s.last, li, (.pointer (some ⟨dd, 0, none⟩)), .int .i64 (s.ax : Int), .int .i64 (s.bA : Int)] :: HC dd ds :: LW bl B (a3 + (ab.fX sy)) [] 0 :: F) (fun _ _ h => h)<|(Qa) ?_
     exact jU (x := (1 + (2 + sy % 2) * 2 ^ ab.fX sy + ag.aK B a3 (ab.fX sy), a3 + ab.fX sy)) (ab.A5 hs (by omega) (by omega) hx) (av rfl) ⟨rfl, rfl⟩ (sub (fp .nil) ak)
  ·refine (Q5) ?_
   refine oV (bV (dV rfl rfl) hq)<|(zH) ?_
   rintro _ _ ⟨rfl, rfl⟩
   refine (cK ?_)
   exact dk (ab.Bf hs (by omega)) (PE.no (by decide)) (aM (aq .nil) fP (fun w0 h hh => bP hh))
set_option maxHeartbeats 4000000 in
theorem zY (b bl : Nat) (sz mo : Int) (li di : Value) (s : ab.St) (B : List Int) (hl : B.length < 500000000) (hB : ag.an B) (ha : s.at_ ≤ 8 * B.length) : az Tryz.prog 180 [.pointer (some ⟨b, 0, none⟩)] [MS b bl sz mo li di s, LW bl B s.at_ [] 0] (gD (ab.cF B s) (fun s2 v G => v = .tuple #[] ∧ G = [MM b bl sz mo B s2]) [MX b bl sz mo]) := by
 refine au [(0, _)] Tryz.func180 rfl Tryz.ntmps180 rfl rfl ?_
 intro w0 F
 refine (ql) ?_
 rintro ⟨po, co⟩ _
 dsimp only
 have hn1 := ag.bG B (ab.cI (s.at_ + 3)) 16
 have hn2 := ag.bG B ((ab.cI (s.at_ + 3)) + 16) 16
 have hal : ab.cI (s.at_ + 3) = (s.at_ + 3 + 7) / 8 * 8 := ab.xG _
 rcases (Nat.lt_or_ge (8 * B.length) (s.at_ + 1)) with hx0 | hx0
 ·refine (me)<|(pL) ?_
  refine da (fw bl B s.at_ [] 0 1 hl hB (by omega) (by omega) (by omega)) V.eg rfl (.cons bg .nil) ?_
  rintro _ _ ⟨rfl, rfl⟩
  refine (cK ?_)
  exact dk (ab.BV (by omega)) PE.end_ (aM (.cons aw .nil) fP (fun w0 h hh => bP hh))
 ·refine (me)<|(pL) ?_
  refine aj (eN bl B s.at_ [] 0 1 hl hB (by omega) (by omega)) V.eg  rfl (.cons bg .nil) rfl ?_
  rintro _ _ ⟨rfl, rfl⟩
  refine (Qi)<|(vy)<|(Q6) ?_
  rcases (Nat.lt_or_ge (8 * B.length) (s.at_ + 3)) with hx1 | hx1
  ·refine (Qc) ?_
   refine oV (aA V.fW rfl dm rfl)<|da (fw bl B (s.at_ + 1) [] 0 2 hl hB (by omega) (by omega) (by omega)) V.eg rfl (aq .nil) ?_
   rintro _ _ ⟨rfl, rfl⟩
   refine (cK ?_)
   exact dk (ab.BV (by omega)) PE.end_ (aM (.cons aw .nil) fP (fun w0 h hh => bP hh))
  ·refine (Qc) ?_
   refine oV (aA V.fW rfl dm rfl)<|aj (eN bl B (s.at_ + 1) [] 0 2 hl hB (by omega) (by omega)) V.eg  rfl (aq .nil) rfl ?_
   rintro _ _ ⟨rfl, rfl⟩
   refine (Q6) ?_
   refine cy (dK V.s3 rfl rfl rfl (by exact sR) (by exact Nat.le_of_ble_eq_true rfl) rfl)<|(Qd)<|(QW)<|(Qn) ?_
   refine aC rfl (fun h26 => ?_) (fun h26 => ?_)
   ·refine (Qe) ?_
    refine oV (aA V.fW rfl dm rfl)<|aj (KR bl B (s.at_ + 3) [] 0 hl (by omega)) V.Xi  rfl (aq .nil) rfl ?_
    rintro _ _ ⟨rfl, rfl⟩
    refine (Q6) ?_
    rcases (ab.Tt B.length (ab.cI (s.at_ + 3))) with hx | ⟨hx2, hx⟩ | hx
    ·refine (Qa) ?_
     have hk0 : (ag.aK B (s.at_ + 1) 2) = 0 := by omega
     refine wN [pz 0 [] [0], pz 1 [0] [], pz 3 [1] [], pz 7 [2] [], pz 15 [3] [], pz 0 [] [0], pz 32 [5] [], pz 96 [6] [], pz 224 [7] [], pz 511 [8] [], pz 1023 [4] [], pz 2047 [9] []] [⟨fun y => LW bl B (ab.cI (s.at_ + 3)) [] 0, none, none, [4]⟩, ⟨fun y => ai b 223 [.pointer (some ⟨bl, 0, none⟩), .int .i64 sz, .int .i64 mo, .slice po s.out.length co, .bool s.ended, .int .i64 0, .int .i64 (ag.aK B (s.at_ + 1) 2), .int .i64 (s.left : Int), .bool (decide (ag.aK B s.at_ 1 = 1)), li, di, .int .i64 (s.ax : Int), .int .i64 (s.bA : Int)], none, none, [3, 4, 8]⟩, ⟨fun y => Row U5 po s.out.length co s.out, none, none, []⟩] F V.mixed ?_
     refine nM ?_
     refine nN ?_
     refine (mT) ?_
     refine (mM) ?_
     refine aU (undef) _ _ (fun y => rfl) rfl (fun y => rfl) (fun y FF hA => eW (fw bl B (ab.cI (s.at_ + 3)) [] 0 16 hl hB (by omega) (by omega) (by omega)) V.eg rfl (aq .nil) (by rintro _ _ ⟨rfl, rfl⟩; exact ko (ab.xE hx1 hk0 (by omega)) PE.end_ (aM (.cons aw .nil) (by exact zl (M := FF) (F := F)) (fun w0 h hh => bP hh)))) ?_
     refine nM ?_
     refine nN ?_
     refine (mT) ?_
     refine (mM) ?_
     refine (Nd) ?_
     refine (Nd) ?_
     refine (Nd) ?_
     refine (Qb) ?_
     intro y hA
     exact (cE.fact (hA 4 (by exact Nat.le_of_ble_eq_true rfl)) (q := fun _ => False) rfl).elim
    ·refine (Qa) ?_
     have hk0 : (ag.aK B (s.at_ + 1) 2) = 0 := by omega
     refine wN [pz 0 [] [0], pz 1 [0] [], pz 3 [1] [], pz 7 [2] [], pz 15 [3] [], pz 0 [] [0], pz 32 [5] [], pz 96 [6] [], pz 224 [7] [], pz 511 [8] [], pz 1023 [4] [], pz 2047 [9] []] [⟨fun y => LW bl B (ab.cI (s.at_ + 3)) [] 0, none, some 4, []⟩, ⟨fun y => ai b 223 [.pointer (some ⟨bl, 0, none⟩), .int .i64 sz, .int .i64 mo, .slice po s.out.length co, .bool s.ended, .int .i64 0, .int .i64 (ag.aK B (s.at_ + 1) 2), .int .i64 (s.left : Int), .bool (decide (ag.aK B s.at_ 1 = 1)), li, di, .int .i64 (s.ax : Int), .int .i64 (s.bA : Int)], none, none, [3, 8, 9]⟩, ⟨fun y => Row U5 po s.out.length co s.out, none, none, []⟩, ⟨fun y => LW bl B ((ab.cI (s.at_ + 3)) + 16) [] 0, some 4, none, [9]⟩] F V.mixed ?_
     refine nM ?_
     refine nN ?_
     refine (mT) ?_
     refine (mM) ?_
     refine (Vd) ?_
     refine nM ?_
     refine nN ?_
     refine (mT) ?_
     refine (mM) ?_
     refine aU (undef) _ _ (fun y => rfl) rfl (fun y => rfl) (fun y FF hA => eW (fw bl B ((ab.cI (s.at_ + 3)) + 16) [] 0 16 hl hB (by omega) (by omega) (by omega)) V.eg rfl (.cons aw .nil) (by rintro _ _ ⟨rfl, rfl⟩; exact ko (ab.xE hx1 hk0 (by omega)) PE.end_ (aM (.cons aw .nil) (by exact zl (M := FF) (F := F)) (fun w0 h hh => bP hh)))) ?_
     refine (Wz) ?_
     refine (Wz) ?_
     refine (Qb) ?_
     intro y hA
     exact (cE.fact (hA 9 (by exact Nat.le_of_ble_eq_true rfl)) (q := fun _ => False) rfl).elim
    ·refine (Qa) ?_
     have hk0 : (ag.aK B (s.at_ + 1) 2) = 0 := by omega
     refine wN [pz 0 [] [0], pz 1 [0] [], pz 3 [1] [], pz 7 [2] [], pz 15 [3] [], pz 0 [] [0], pz 32 [5] [], pz 96 [6] [], pz 224 [7] [], pz 511 [8] [], pz 1023 [4] [], pz 2047 [9] []] [⟨fun y => LW bl B (ab.cI (s.at_ + 3)) [] 0, none, some 4, []⟩, ⟨fun y => ai b 223 [.pointer (some ⟨bl, 0, none⟩), .int .i64 sz, .int .i64 mo, .slice po s.out.length co, .bool s.ended, .int .i64 0, .int .i64 (ag.aK B (s.at_ + 1) 2), .int .i64 (s.left : Int), .bool (decide (ag.aK B s.at_ 1 = 1)), li, di, .int .i64 (s.ax : Int), .int .i64 (s.bA : Int)], none, none, [3, 8]⟩, ⟨fun y => Row U5 po s.out.length co s.out, none, none, []⟩, ⟨fun y => LW bl B ((ab.cI (s.at_ + 3)) + 16) [] 0, some 4, some 9, []⟩, ⟨fun y => LW bl B ((ab.cI (s.at_ + 3)) + 32) [] 0, some 9, none, []⟩] F V.mixed ?_
     refine nM ?_
     refine nN ?_
     refine (mT) ?_
     refine (mM) ?_
     refine (Vd) ?_
     refine nM ?_
     refine nN ?_
     refine (mT) ?_
     refine (mM) ?_
     refine nE (fun y FF hA => aV (Post := [LW bl B ((ab.cI (s.at_ + 3)) + 32) [] 0]) (eN bl B ((ab.cI (s.at_ + 3)) + 16) [] 0 16 hl hB (by omega) (by omega)) V.eg rfl (aq .nil) (fun v G h => by rcases h with ⟨rfl, rfl⟩; exact ⟨rfl, .refl _⟩)) ?_
     iterate 2 refine nA ?_
     refine (Qb) ?_
     intro y hA
     clear hA
     refine bj<|bE _ (.cons (d := 0) rfl (.cons (d := 2) rfl (.cons (d := 3) rfl (.nil _))))<|bo (M := ai b 223 [.pointer (some ⟨bl, 0, none⟩), .int .i64 sz, .int .i64 mo, .slice po s.out.length co, .bool s.ended, .int .i64 0, .int .i64 (ag.aK B (s.at_ + 1) 2), .int .i64 (s.left : Int), .bool (decide (ag.aK B s.at_ 1 = 1)), li, di, .int .i64 (s.ax : Int), .int .i64 (s.bA : Int)] :: Row U5 po s.out.length co s.out :: LW bl B ((ab.cI (s.at_ + 3)) + 32) [] 0 :: F) (fun _ _ h => h) ?_
     rcases (Classical.em ((ag.aK B (ab.cI (s.at_ + 3)) 16) = 65535 - (ag.aK B ((ab.cI (s.at_ + 3)) + 16) 16))) with hm | hm
     ·refine (Q4)<|(Wx) ?_
      refine oV (cQ (dE rfl rfl) ((ab.Io hn1 hn2).2 hm))<|(D7) ?_
      rintro _ _ ⟨rfl, rfl⟩
      refine (Qd)<|(nc)<|(Q6) ?_
      rw [hk0, show (ag.aK B (ab.cI (s.at_ + 3)) 16) = ((((ag.aK B (ab.cI (s.at_ + 3)) 16)).toNat : Nat) : Int) from (Int.toNat_of_nonneg hn1.1).symm]
      exact gv (x := { s with at_ := ab.cI (s.at_ + 3) + 32, kind := 0, left := (ag.aK B (ab.cI (s.at_ + 3)) 16).toNat, last := (decide (ag.aK B s.at_ 1 = 1)) }) (ab.yQ hx1 hk0 (by omega) hm) eK ⟨rfl, rfl⟩ ((aM (aO .nil) .refl (fun w0 h hh => cJ (s := { s with at_ := ab.cI (s.at_ + 3) + 32, kind := 0, left := (ag.aK B (ab.cI (s.at_ + 3)) 16).toNat, last := (decide (ag.aK B s.at_ 1 = 1)) }) rfl hh)).trans (aM (aO .nil) ak (fun w0 h hh => mH (s := { s with at_ := ab.cI (s.at_ + 3) + 32, kind := 0, left := (ag.aK B (ab.cI (s.at_ + 3)) 16).toNat, last := (decide (ag.aK B s.at_ 1 = 1)) }) (Int.le_refl _) hh)))
     ·refine (Q4)<|(Wx) ?_
      refine oV (bV (dE rfl rfl) (fun h => hm ((ab.Io hn1 hn2).1 h)))<|(zH) ?_
      rintro _ _ ⟨rfl, rfl⟩
      refine (cK (eB ?_))
      exact dk (ab.CF hx1 hk0 (by omega) hm) (PE.no (by decide)) (aM (aq .nil) fP (fun w0 h hh => bP hh))
   ·refine (Qc) ?_
    refine aC rfl (fun h52 => ?_) (fun h52 => ?_)
    ·refine (Q9) ?_
     refine aj (KD b bl sz mo po s.out.length co li di { s with kind := (ag.aK B (s.at_ + 1) 2), last := (decide (ag.aK B s.at_ 1 = 1)) }) V.WS  rfl (.cons aw .nil) rfl ?_
     rintro _ _ ⟨lb, db, rfl, rfl⟩
     refine (Q6) ?_
     have hk1 : (ag.aK B (s.at_ + 1) 2) = 1 := by omega
     rw [hk1]
     exact gv (x := { s with at_ := s.at_ + 3, kind := 1, last := (decide (ag.aK B s.at_ 1 = 1)), lits := ab.eY, dG := ab.kz }) (ab.IS hx1 hk1) eK ⟨rfl, rfl⟩ ((aM (aq (.cons c9 .nil)) .refl (fun w0 h hh => cJ (s := { s with at_ := s.at_ + 3, kind := 1, last := (decide (ag.aK B s.at_ 1 = 1)), lits := ab.eY, dG := ab.kz }) rfl hh)).trans (aM (aq (.cons bg (.cons cW (.cons cW .nil)))) ak (fun w0 h hh => lq (s := { s with at_ := s.at_ + 3, kind := 1, last := (decide (ag.aK B s.at_ 1 = 1)), lits := ab.eY, dG := ab.kz }) hh)))
    ·refine (Qc) ?_
     refine aC rfl (fun h56 => ?_) (fun h56 => ?_)
     ·rcases (ab.fF (ab.told B (s.at_ + 3))) with ⟨e, ht⟩ | ⟨⟨x3, ll, dl⟩, ht⟩
      ·refine (Q9) ?_
       refine da ((DY b bl sz mo po s.out.length co li di { s with kind := (ag.aK B (s.at_ + 1) 2), last := (decide (ag.aK B s.at_ 1 = 1)) } B (s.at_ + 3) hl hB (by omega)).err ht) V.Oh rfl (.cons aw (aq .nil)) ?_
       rintro _ _ ⟨hp, rfl⟩
       refine (eB ?_)
       exact dk (ab.El hx1 (by omega) ht) hp (sub (aq .nil) bp)
      ·refine (Q9) ?_
       refine aj ((DY b bl sz mo po s.out.length co li di { s with kind := (ag.aK B (s.at_ + 1) 2), last := (decide (ag.aK B s.at_ 1 = 1)) } B (s.at_ + 3) hl hB (by omega)).ok ht) V.Oh  rfl (.cons aw (aq .nil)) rfl ?_
       rintro _ _ ⟨lb, db, rfl, rfl⟩
       refine (Q6) ?_
       have hk2 : (ag.aK B (s.at_ + 1) 2) = 2 := by omega
       rw [hk2]
       exact gv (x := { s with at_ := x3, kind := 2, last := (decide (ag.aK B s.at_ 1 = 1)), lits := ll, dG := dl }) (ab.D0 hx1 hk2 ht) eK ⟨rfl, rfl⟩ ((aM (aq (.cons c9 .nil)) .refl (fun w0 h hh => cJ (s := { s with at_ := x3, kind := 2, last := (decide (ag.aK B s.at_ 1 = 1)), lits := ll, dG := dl }) rfl hh)).trans (aM (lZ .nil) ak (fun w0 h hh => lq (s := { s with at_ := x3, kind := 2, last := (decide (ag.aK B s.at_ 1 = 1)), lits := ll, dG := dl }) hh)))
     ·refine (Qo)<|(zH) ?_
      rintro _ _ ⟨rfl, rfl⟩
      refine (eB ?_)
      exact dk (ab.Di hx1 (by omega) (by omega) (by omega)) (PE.no (by decide)) (aM (.cons aw .nil) fP (fun w0 h hh => bP hh))
end Go.Proofs.YtmaiakpjgomnpaaGreat
namespace Go.Proofs.YtmaiakpjgomnpaaGreat
open Go.Sl 
attribute [local irreducible] ae.a7 ae.tk ae.ord ae.bJ ae.words ae.bY ab.gH ab.bR ab.cx ab.dj ab.hL ab.hD ab.hC ab.eE ab.told ab.eY ab.im ab.rep ab.ew ab.dw ab.sym ab.cI ag.aK ab.dU ab.cF ab.dS
theorem nw (b bl : Nat) (sz mo : Int) (po : Option Addr) (co : Nat) (li di : Value) (s : ab.St) (yb : Int) (hy : 0 ≤ yb ∧ yb < 256) (hm : mo < 1000000000) : az Tryz.prog 179 [.pointer (some ⟨b, 0, none⟩), .int .u8 yb] [ai b 223 [.pointer (some ⟨bl, 0, none⟩), .int .i64 sz, .int .i64 mo, .slice po s.out.length co, .bool s.ended, .int .i64 0, .int .i64 s.kind, .int .i64 (s.left : Int), .bool s.last, li, di, .int .i64 (s.ax : Int), .int .i64 (s.bA : Int)], Row U5 po s.out.length co s.out] (gD (ab.dS mo s yb) (fun s2 v G => v = .tuple #[] ∧ G = [MS b bl sz mo li di s2]) [MX b bl sz mo]) :=
 az.fold (NO b bl sz mo li di s yb hy hm) (fun w0 h hh => cJ rfl hh)
set_option maxHeartbeats 4000000 in
theorem Ag (b bl : Nat) (sz mo : Int) (l d : Nat) (s : ab.St) (B : List Int) (hl : B.length < 500000000) (hB : ag.an B) (hm : mo < 1000000000) (hok : ab.Ok B mo s) (hk : 0 < s.kind) : az Tryz.prog 181 [.pointer (some ⟨b, 0, none⟩)] [MS b bl sz mo (.pointer (some ⟨l, 0, none⟩)) (.pointer (some ⟨d, 0, none⟩)) s, LW bl B s.at_ [] 0, HC l s.lits, HC d s.dG] (gD (ab.dU B mo s) (fun s2 v G => v = .tuple #[] ∧ G = [MM b bl sz mo B s2]) [MX b bl sz mo]) := by
 refine au [(0, _)] Tryz.func181 rfl Tryz.ntmps181 rfl rfl ?_
 intro w0 F
 refine (ql) ?_
 rintro ⟨po, co⟩ _
 dsimp only
 obtain ⟨hE1, hE2, hz1, hz2⟩ := hok.Iy hk
 have ha := hok.at_
 have hll := ab.xV hE1
 have hro := hok.room
 rcases (ab.yg (B := B) (ls := s.lits) (a := s.at_) hE1 hz1) with ⟨e, hs⟩ | ⟨sy, a1, hs, hy0, hy1, ha0, ha1⟩
 ·refine rT TT 1 rfl ?_
  refine wN [pz 0 [] [0], pz 1 [0] [], pz 3 [1] [], pz 7 [2] [], pz 0 [] [0], pz 16 [4] [], pz 48 [5] [], pz 112 [6] [], pz 255 [3, 7] [], pz 511 [8] []] [⟨fun y => ai b 223 [.pointer (some ⟨bl, 0, none⟩), .int .i64 sz, .int .i64 mo, .slice po s.out.length co, .bool s.ended, .int .i64 0, .int .i64 s.kind, .int .i64 (s.left : Int), .bool s.last, (.pointer (some ⟨l, 0, none⟩)), (.pointer (some ⟨d, 0, none⟩)), .int .i64 (s.ax : Int), .int .i64 (s.bA : Int)], none, none, [3, 7, 8]⟩, ⟨fun y => Row U5 po s.out.length co s.out, none, none, []⟩, ⟨fun y => LW bl B s.at_ [] 0, none, none, [8]⟩, ⟨fun y => HC l s.lits, none, none, [8]⟩, ⟨fun y => HC d s.dG, none, none, []⟩] F V.mixed ?_
  refine nM ?_
  refine nN ?_
  refine nG V.xe ?_
  refine (IB) ?_
  refine nM ?_
  refine nN ?_
  refine (mT) ?_
  refine (mM) ?_
  refine aU (undef) _ _ (fun y => rfl) rfl (fun y => rfl) (fun y FF hA => eW ((mS l s.lits bl B s.at_ [] 0 hE1 hl hB ha).err hs) V.qu rfl (.cons bg (.cons aw .nil)) (by rintro _ _ ⟨hp, rfl⟩; exact ko (ab.wi hs) hp (aM (aq .nil) (by exact vo (M := FF) (F := F)) (fun w0 h hh => bP hh)))) ?_
  refine (V0) ?_
  refine (Qb) ?_
  intro y hA
  exact (cE.fact (hA 8 (by exact Nat.le_of_ble_eq_true rfl)) (q := fun _ => False) rfl).elim
 ·refine rT TT 1 rfl ?_
  refine wN [pz 0 [] [0], pz 1 [0] [], pz 3 [1] [], pz 7 [2] [], pz 0 [] [0], pz 16 [4] [], pz 48 [5] [], pz 112 [6] [], pz 255 [3, 7] [], pz 511 [8] []] [⟨fun y => ai b 223 [.pointer (some ⟨bl, 0, none⟩), .int .i64 sz, .int .i64 mo, .slice po s.out.length co, .bool s.ended, .int .i64 0, .int .i64 s.kind, .int .i64 (s.left : Int), .bool s.last, (.pointer (some ⟨l, 0, none⟩)), (.pointer (some ⟨d, 0, none⟩)), .int .i64 (s.ax : Int), .int .i64 (s.bA : Int)], none, none, [3, 7]⟩, ⟨fun y => Row U5 po s.out.length co s.out, none, none, []⟩, ⟨fun y => LW bl B s.at_ [] 0, none, some 8, []⟩, ⟨fun y => HC l s.lits, none, some 8, []⟩, ⟨fun y => HC d s.dG, none, none, []⟩, ⟨fun y => HC l s.lits, some 8, none, []⟩, ⟨fun y => LW bl B a1 [] 0, some 8, none, []⟩] F V.mixed ?_
  refine nM ?_
  refine nN ?_
  refine nG V.xe ?_
  refine (IB) ?_
  refine nM ?_
  refine nN ?_
  refine (mT) ?_
  refine (mM) ?_
  refine nE (fun y FF hA => aV (Post := [HC l s.lits, LW bl B a1 [] 0]) ((mS l s.lits bl B s.at_ [] 0 hE1 hl hB ha).ok hs) V.qu rfl (.cons aw (aq .nil)) (fun v G h => by rcases h with ⟨rfl, rfl⟩; exact ⟨rfl, .refl _⟩)) ?_
  refine nA ?_
  refine (Qb) ?_
  intro y hA
  clear hA
  refine bj<|bE _ (.cons (d := 0) rfl (.cons (d := 2) rfl (.nil _)))<|bo (M := ai b 223 [.pointer (some ⟨bl, 0, none⟩), .int .i64 sz, .int .i64 mo, .slice po s.out.length co, .bool s.ended, .int .i64 0, .int .i64 s.kind, .int .i64 (s.left : Int), .bool s.last, (.pointer (some ⟨l, 0, none⟩)), (.pointer (some ⟨d, 0, none⟩)), .int .i64 (s.ax : Int), .int .i64 (s.bA : Int)] :: Row U5 po s.out.length co s.out :: HC d s.dG :: HC l s.lits :: LW bl B a1 [] 0 :: F) (fun _ _ h => h)<|rC TT 8 rfl ?_
  refine aC rfl (fun h36 => ?_) (fun h36 => ?_)
  ·rcases (ab.fF (ab.dS mo { s with at_ := a1 } sy)) with ⟨e, hp⟩ | ⟨s2, hp⟩
   ·refine (Q5)<|(nu) ?_
    refine da ((nw b bl sz mo po co (.pointer (some ⟨l, 0, none⟩)) (.pointer (some ⟨d, 0, none⟩)) { s with at_ := a1 } sy (by omega) hm).err hp) V.uw rfl (aO .nil) ?_
    rintro _ _ ⟨hpe, rfl⟩
    refine (eB ?_)
    exact dk ((ab.ni hs (by omega)).trans hp) hpe (sub (aq .nil) mw)
   ·refine (Q5)<|(nu) ?_
    refine aj ((nw b bl sz mo po co (.pointer (some ⟨l, 0, none⟩)) (.pointer (some ⟨d, 0, none⟩)) { s with at_ := a1 } sy (by omega) hm).ok hp) V.uw  rfl (aO .nil) rfl ?_
    rintro _ _ ⟨rfl, rfl⟩
    refine (Q6) ?_
    obtain ⟨_, rfl⟩ := ab.qy hp
    exact gv ((ab.ni hs (by omega)).trans hp) eK ⟨rfl, rfl⟩ (aM (aq (.cons bg (.cons aw (.cons cW .nil)))) ak (fun w0 h hh => lq (s := { s with at_ := a1, out := s.out ++ [sy] }) hh))
  ·refine (Qs) ?_
   refine aC rfl (fun h43 => ?_) (fun h43 => ?_)
   ·refine (Q9) ?_
    refine aj (zx b bl sz mo po s.out.length co (.pointer (some ⟨l, 0, none⟩)) (.pointer (some ⟨d, 0, none⟩)) s) V.MW  rfl (aq .nil) rfl ?_
    rintro _ _ ⟨rfl, rfl⟩
    refine (Q6) ?_
    exact gv (x := { s with at_ := a1, kind := -1, ended := s.last }) (ab.qD hs (by omega)) eK ⟨rfl, rfl⟩ ((aM (aO .nil) .refl (fun w0 h hh => cJ (s := { s with at_ := a1, kind := -1, ended := s.last }) rfl hh)).trans (aM (aq (.cons bg (.cons aw (.cons cW .nil)))) ak (fun w0 h hh => lq (s := { s with at_ := a1, kind := -1, ended := s.last }) hh)))
   ·rcases (ab.CN (B := B) (s := sy - 257) (a := a1) (by omega) ha1) with ⟨e, hn⟩ | ⟨n, a2, hn, hn0, hn1, hn2, hn3⟩
    ·refine (C8)<|(UH) ?_
     refine da ((yG b bl sz mo po s.out.length co (.pointer (some ⟨l, 0, none⟩)) (.pointer (some ⟨d, 0, none⟩)) s B a1 (sy - 257) (by omega) hl hB ha1).err hn) V.RM rfl (aq (.cons c9 .nil)) ?_
     rintro _ _ ⟨hpe, rfl⟩
     refine (cK (eB ?_))
     exact dk (ab.wm hs (by omega) hn) hpe (sub (aq .nil) mw)
    ·refine (C8)<|(UH) ?_
     refine aj ((yG b bl sz mo po s.out.length co (.pointer (some ⟨l, 0, none⟩)) (.pointer (some ⟨d, 0, none⟩)) s B a1 (sy - 257) (by omega) hl hB ha1).ok hn) V.RM  rfl (aq (.cons c9 .nil)) rfl ?_
     rintro _ _ ⟨rfl, rfl⟩
     refine (Q6)<|(nc)<|(Q6) ?_
     rcases (ab.Af (B := B) (ds := s.dG) (a := a2) hE2 hz2) with ⟨e, hf⟩ | ⟨f, a3, hf, hf0, hf1, hf2, hf3⟩
     ·refine (Q4) ?_
      refine da ((EU b bl sz mo po s.out.length co (.pointer (some ⟨l, 0, none⟩)) d { s with ax := n } B s.dG a2 hE2 hz2 hl hB hn3).err hf) V.Mh rfl (aq (.cons bg (.cons cW .nil))) ?_
      rintro _ _ ⟨hpe, rfl⟩
      refine (cK (eB ?_))
      exact dk (ab.wy hs (by omega) hn hf) hpe (sub (aq .nil) fP)
     ·refine (Q4) ?_
      refine aj ((EU b bl sz mo po s.out.length co (.pointer (some ⟨l, 0, none⟩)) d { s with ax := n } B s.dG a2 hE2 hz2 hl hB hn3).ok hf) V.Mh  rfl (aq (.cons bg (.cons cW .nil))) rfl ?_
      rintro _ _ ⟨rfl, rfl⟩
      refine (Q6)<|(nc)<|(Q6) ?_
      rcases (Classical.em (f ≤ s.out.length)) with hfo | hfo
      ·refine wN [pz 0 [] [0], pz 1 [0] [], pz 3 [1] [], pz 7 [2] [], pz 0 [] [0], pz 16 [4] [], pz 48 [5] [], pz 112 [6] [], pz 240 [7] [], pz 511 [3, 8] [], pz 1023 [9] []] [⟨fun y => ai b 223 [.pointer (some ⟨bl, 0, none⟩), .int .i64 sz, .int .i64 mo, .slice po s.out.length co, .bool s.ended, .int .i64 0, .int .i64 s.kind, .int .i64 (s.left : Int), .bool s.last, (.pointer (some ⟨l, 0, none⟩)), (.pointer (some ⟨d, 0, none⟩)), .int .i64 (n : Int), .int .i64 (f : Int)], none, none, [3, 7]⟩, ⟨fun y => HC d s.dG, none, none, []⟩, ⟨fun y => LW bl B a3 [] 0, none, none, []⟩, ⟨fun y => Row U5 po s.out.length co s.out, none, none, []⟩, ⟨fun y => HC l s.lits, none, none, []⟩] F V.mixed ?_
       refine nM ?_
       refine nN ?_
       refine nG V.qJ ?_
       refine (Qv) ?_
       refine nM ?_
       refine nN ?_
       refine nG V.jo ?_
       refine (pY) ?_
       refine (wH) ?_
       refine nV (fun y hA L => cQ (ga rfl rfl) (by omega)) ?_
       refine nE (fun y FF hA => aV (Post := []) (nC 4) V.kJ rfl .nil (fun v G h => by rcases h with ⟨rfl, rfl⟩; exact ⟨rfl, .refl _⟩)) ?_
       refine (Qb) ?_
       intro y hA
       clear hA
       show kr _ _ _ _ (ai b 223 [.pointer (some ⟨bl, 0, none⟩), .int .i64 sz, .int .i64 mo, .slice po s.out.length co, .bool s.ended, .int .i64 0, .int .i64 s.kind, .int .i64 (s.left : Int), .bool s.last, (.pointer (some ⟨l, 0, none⟩)), (.pointer (some ⟨d, 0, none⟩)), .int .i64 (n : Int), .int .i64 (f : Int)] :: HC d s.dG :: LW bl B a3 [] 0 :: Row U5 po s.out.length co s.out :: HC l s.lits :: F)
       exact jh<|gv (x := { s with at_ := a3, ax := n, bA := f }) (ab.wv hs (by omega) hn hf (by omega)) eK ⟨rfl, rfl⟩ ((aM (aq (.cons bg .nil)) .refl (fun w0 h hh => cJ (s := { s with at_ := a3, ax := n, bA := f }) rfl hh)).trans (aM (aq (.cons aw (.cons aw (.cons cW .nil)))) ak (fun w0 h hh => lq (s := { s with at_ := a3, ax := n, bA := f }) hh)))
      ·refine wN [pz 0 [] [0], pz 1 [0] [], pz 3 [1] [], pz 7 [2] [], pz 0 [] [0], pz 16 [4] [], pz 48 [5] [], pz 112 [6] [], pz 240 [7] [], pz 511 [3, 8] [], pz 1023 [9] []] [⟨fun y => ai b 223 [.pointer (some ⟨bl, 0, none⟩), .int .i64 sz, .int .i64 mo, .slice po s.out.length co, .bool s.ended, .int .i64 0, .int .i64 s.kind, .int .i64 (s.left : Int), .bool s.last, (.pointer (some ⟨l, 0, none⟩)), (.pointer (some ⟨d, 0, none⟩)), .int .i64 (n : Int), .int .i64 (f : Int)], none, none, [3, 7, 10]⟩, ⟨fun y => HC d s.dG, none, none, []⟩, ⟨fun y => LW bl B a3 [] 0, none, none, []⟩, ⟨fun y => Row U5 po s.out.length co s.out, none, none, []⟩, ⟨fun y => HC l s.lits, none, none, []⟩] F V.mixed ?_
       refine nM ?_
       refine nN ?_
       refine nG V.qJ ?_
       refine (Qv) ?_
       refine nM ?_
       refine nN ?_
       refine nG V.jo ?_
       refine (pY) ?_
       refine (wH) ?_
       refine nV (fun y hA L => bV (ga rfl rfl) (by omega)) ?_
       refine aU (undef) _ _ (fun y => rfl) rfl (fun y => rfl) (fun y FF hA => eW (kN 4) V.kJ rfl .nil (by rintro _ _ ⟨rfl, rfl⟩; exact ko (ab.wD hs (by omega) hn hf (by omega)) (PE.no (by decide)) (aM (aq .nil) (by exact vo (M := FF) (F := F)) (fun w0 h hh => bP hh)))) ?_
       refine (Qb) ?_
       intro y hA
       exact (cE.fact (hA 10 (by exact Nat.le_of_ble_eq_true rfl)) (q := fun _ => False) rfl).elim
set_option maxHeartbeats 4000000 in
theorem Jm (b bl : Nat) (sz mo : Int) (s : ab.St) (B : List Int) (hl : B.length < 500000000) (hB : ag.an B) (hm : mo < 1000000000) (hok : ab.Ok B mo s) : az Tryz.prog 169 [.pointer (some ⟨b, 0, none⟩)] [MM b bl sz mo B s] (gD (ab.one B mo s) (fun s2 v G => v = .tuple #[] ∧ G = [MM b bl sz mo B s2]) [MX b bl sz mo]) := by
 refine au [(0, _)] Tryz.func169 rfl Tryz.ntmps169 rfl rfl ?_
 intro w0 F
 refine (ql) ?_
 rintro ⟨li, di⟩ _
 dsimp only
 refine (ql) ?_
 rintro ⟨po, co⟩ _
 dsimp only
 simp only [List.cons_append, List.nil_append]
 have ha := hok.at_
 have hro := hok.room
 have hcp := hok.ax
 have hlf := hok.left
 have hnb := ag.bG B s.at_ 8
 refine (me)<|(Qf)<|(Q8) ?_
 refine aC rfl (fun h17 => ?_) (fun h17 => ?_)
 ·rcases (ab.fF (ab.dS mo s (U5.g s.out ((s.out.length : Int) - (s.bA : Int))))) with ⟨e, hp⟩ | ⟨s2, hp⟩
  ·refine (Qa) ?_
   have hcs : 0 < s.ax := by omega
   have hfr := hok.bA hcs
   have hge : U5.g s.out ((s.out.length : Int) - (s.bA : Int)) = s.out.getD (s.out.length - s.bA) 0 := gE _ (by omega)
   refine wN [pz 0 [] [0], pz 0 [] [0], pz 2 [1] [], pz 6 [2] [], pz 14 [3] [], pz 0 [] [0], pz 32 [5] [], pz 96 [6] [], pz 224 [7] [], pz 480 [8] [], pz 0 [] [0], pz 1024 [10] [], pz 3072 [11] [], pz 7168 [12] [], pz 16352 [9, 13] [], pz 32766 [4, 14] [], pz 65534 [15] [], pz 131071 [0, 16] []] [⟨fun y => ai b 223 [.pointer (some ⟨bl, 0, none⟩), .int .i64 sz, .int .i64 mo, .slice po s.out.length co, .bool s.ended, .int .i64 0, .int .i64 s.kind, .int .i64 (s.left : Int), .bool s.last, li, di, .int .i64 (s.ax : Int), .int .i64 (s.bA : Int)], none, none, [4, 8, 13, 17]⟩, ⟨fun y => Row U5 po s.out.length co s.out, none, none, [15, 16, 17]⟩, ⟨fun y => LW bl B s.at_ [] 0, none, none, []⟩, ⟨fun y => CD li di s, none, none, []⟩] F V.mixed ?_
   iterate 2 refine nM ?_
   refine nN ?_
   refine nG V.jo ?_
   refine (pY) ?_
   refine nM ?_
   refine nN ?_
   refine nG V.jo ?_
   refine (pY) ?_
   refine (wH) ?_
   refine nM ?_
   refine nN ?_
   refine nG V.qJ ?_
   refine (Qv) ?_
   refine (ve) ?_
   refine (DG) ?_
   refine (Ic) ?_
   refine aU (undef) _ _ (fun y => rfl) rfl (fun y => rfl) (fun y FF hA => eW ((nw b bl sz mo po co li di s (U5.g s.out ((s.out.length : Int) - (s.bA : Int))) (by rw [hge]; exact hok.pS.get _) hm).err hp) V.uw rfl (aO .nil) (by rintro _ _ ⟨hpe, rfl⟩; exact ko (ab.Ra hcs (by rw [← hge]; exact hp)) hpe (sub (aq .nil) (by exact vo (M := FF) (F := F))))) ?_
   refine (Qb) ?_
   intro y hA
   exact (cE.fact (hA 17 (by exact Nat.le_of_ble_eq_true rfl)) (q := fun _ => False) rfl).elim
  ·refine (Qa) ?_
   have hcs : 0 < s.ax := by omega
   have hfr := hok.bA hcs
   have hge : U5.g s.out ((s.out.length : Int) - (s.bA : Int)) = s.out.getD (s.out.length - s.bA) 0 := gE _ (by omega)
   refine wN [pz 0 [] [0], pz 0 [] [0], pz 2 [1] [], pz 6 [2] [], pz 14 [3] [], pz 0 [] [0], pz 32 [5] [], pz 96 [6] [], pz 224 [7] [], pz 480 [8] [], pz 0 [] [0], pz 1024 [10] [], pz 3072 [11] [], pz 7168 [12] [], pz 16352 [9, 13] [], pz 32766 [4, 14] [], pz 65534 [15] [], pz 131071 [0, 16] []] [⟨fun y => ai b 223 [.pointer (some ⟨bl, 0, none⟩), .int .i64 sz, .int .i64 mo, .slice po s.out.length co, .bool s.ended, .int .i64 0, .int .i64 s.kind, .int .i64 (s.left : Int), .bool s.last, li, di, .int .i64 (s.ax : Int), .int .i64 (s.bA : Int)], none, some 17, [4, 8, 13]⟩, ⟨fun y => Row U5 po s.out.length co s.out, none, some 17, [15, 16]⟩, ⟨fun y => LW bl B s.at_ [] 0, none, none, []⟩, ⟨fun y => CD li di s, none, none, []⟩, ⟨fun y => MS b bl sz mo li di s2, some 17, none, []⟩] F V.mixed ?_
   iterate 2 refine nM ?_
   refine nN ?_
   refine nG V.jo ?_
   refine (pY) ?_
   refine nM ?_
   refine nN ?_
   refine nG V.jo ?_
   refine (pY) ?_
   refine (wH) ?_
   refine nM ?_
   refine nN ?_
   refine nG V.qJ ?_
   refine (Qv) ?_
   refine (ve) ?_
   refine (DG) ?_
   refine (Ic) ?_
   refine nE (fun y FF hA => aV (Post := [MS b bl sz mo li di s2]) ((nw b bl sz mo po co li di s (U5.g s.out ((s.out.length : Int) - (s.bA : Int))) (by rw [hge]; exact hok.pS.get _) hm).ok hp) V.uw rfl (aO .nil) (fun v G h => by rcases h with ⟨rfl, rfl⟩; exact ⟨rfl, .refl _⟩)) ?_
   refine (Qb) ?_
   intro y hA
   clear hA
   refine bj<|bE _ (.cons (d := 0) rfl (.nil _))<|bo (M := LW bl B s.at_ [] 0 :: CD li di s :: MS b bl sz mo li di s2 :: F) (fun _ _ h => h) ?_
   obtain ⟨hroom, rfl⟩ := ab.qy hp
   refine lj bg (fun h hh => re hh) ?_
   rintro ⟨po2, co2⟩ _
   dsimp only
   simp only [List.cons_append, List.nil_append]
   refine (Q4)<|(Qf)<|(CL)<|(nc)<|(Q6) ?_
   rw [show (s.ax : Int) - 1 = ((s.ax - 1 : Nat) : Int) from by omega]
   exact gv (x := { s with ax := s.ax - 1, out := s.out ++ [(U5.g s.out ((s.out.length : Int) - (s.bA : Int)))] }) (by rw [hge]; exact ab.SQ hcs hroom) eK ⟨rfl, rfl⟩ ((aM (aO .nil) .refl (fun w0 h hh => cJ (s := { s with ax := s.ax - 1, out := s.out ++ [(U5.g s.out ((s.out.length : Int) - (s.bA : Int)))] }) (by simp) hh)).trans (aM (fp .nil) ak (fun w0 h hh => fg (s := { s with ax := s.ax - 1, out := s.out ++ [(U5.g s.out ((s.out.length : Int) - (s.bA : Int)))] }) hh)))
 ·refine (Qe)<|(Qf)<|(Q8) ?_
  refine aC rfl (fun h48 => ?_) (fun h48 => ?_)
  ·rcases (ab.fF (ab.cF B s)) with ⟨e, hp⟩ | ⟨s2, hp⟩
   ·have hcs : ¬ 0 < s.ax := by omega
    have hk1 : s.kind = -1 := by omega
    refine (Wy)<|(Q9) ?_
    refine da ((zY b bl sz mo li di s B hl hB ha).err hp) V.M7 rfl (aO .nil) ?_
    rintro _ _ ⟨hpe, rfl⟩
    refine (eB ?_)
    exact dk ((ab.sZ hcs hk1).trans hp) hpe (sub (aq .nil) bp)
   ·have hcs : ¬ 0 < s.ax := by omega
    have hk1 : s.kind = -1 := by omega
    refine (Wy)<|(Q9) ?_
    refine aj ((zY b bl sz mo li di s B hl hB ha).ok hp) V.M7  rfl (aO .nil) rfl ?_
    rintro _ _ ⟨rfl, rfl⟩
    refine (Q6) ?_
    exact gv ((ab.sZ hcs hk1).trans hp) eK ⟨rfl, rfl⟩ (sub (aq .nil) bp)
  ·refine (Qe)<|(Qf)<|(Q8) ?_
   refine aC rfl (fun h56 => ?_) (fun h56 => ?_)
   ·rcases (ab.fF (ab.dU B mo s)) with ⟨e, hp⟩ | ⟨s2, hp⟩
    ·have hcs : ¬ 0 < s.ax := by omega
     have hk1 : ¬ s.kind = -1 := by omega
     have hk0 : s.kind ≠ 0 := by omega
     have hkp : 0 < s.kind := by have := hok.kind; omega
     refine lj c9 (fun h hh => zJ hkp hh) ?_
     rintro ⟨l, d⟩ ⟨h1, h2⟩
     dsimp only at h1 h2
     subst h1
     subst h2
     simp only [List.cons_append, List.nil_append]
     refine (VP)<|(Q9) ?_
     refine da ((Ag b bl sz mo l d s B hl hB hm hok hkp).err hp) V.OL rfl (aq (.cons bg (.cons cW (.cons cW .nil)))) ?_
     rintro _ _ ⟨hpe, rfl⟩
     refine (eB ?_)
     exact dk ((ab.wj hcs hk1 hk0).trans hp) hpe (sub (aq .nil) ak)
    ·have hcs : ¬ 0 < s.ax := by omega
     have hk1 : ¬ s.kind = -1 := by omega
     have hk0 : s.kind ≠ 0 := by omega
     have hkp : 0 < s.kind := by have := hok.kind; omega
     refine lj c9 (fun h hh => zJ hkp hh) ?_
     rintro ⟨l, d⟩ ⟨h1, h2⟩
     dsimp only at h1 h2
     subst h1
     subst h2
     simp only [List.cons_append, List.nil_append]
     refine (VP)<|(Q9) ?_
     refine aj ((Ag b bl sz mo l d s B hl hB hm hok hkp).ok hp) V.OL  rfl (aq (.cons bg (.cons cW (.cons cW .nil)))) rfl ?_
     rintro _ _ ⟨rfl, rfl⟩
     refine (Q6) ?_
     exact gv ((ab.wj hcs hk1 hk0).trans hp) eK ⟨rfl, rfl⟩ (sub (aq .nil) ak)
   ·refine (Qe)<|(Qf)<|(Q8) ?_
    refine aC rfl (fun h64 => ?_) (fun h64 => ?_)
    ·have hcs : ¬ 0 < s.ax := by omega
     have hk1 : ¬ s.kind = -1 := by omega
     have hk0 : s.kind = 0 := by omega
     have hl0 : s.left = 0 := by omega
     refine (Q9) ?_
     refine aj (zx b bl sz mo po s.out.length co li di s) V.MW  rfl (aq .nil) rfl ?_
     rintro _ _ ⟨rfl, rfl⟩
     refine (Q6) ?_
     exact gv (x := { s with kind := -1, ended := s.last }) (ab.sT hcs hk1 hk0 hl0) eK ⟨rfl, rfl⟩ ((aM (aO .nil) .refl (fun w0 h hh => cJ (s := { s with kind := -1, ended := s.last }) rfl hh)).trans (aM (aO .nil) bp (fun w0 h hh => mH (s := { s with kind := -1, ended := s.last }) (by show (-1 : Int) ≤ 0; decide) hh)))
    ·rcases (ab.Mn B s.at_ mo { s with at_ := s.at_ + 8 } (ag.aK B s.at_ 8)) with hx | ⟨hx, e, hp⟩ | ⟨hx, s2, hp⟩
     ·refine (Qa) ?_
      have hcs : ¬ 0 < s.ax := by omega
      have hk1 : ¬ s.kind = -1 := by omega
      have hk0 : s.kind = 0 := by omega
      have hl0 : ¬ s.left = 0 := by omega
      refine (Qe)<|(pL) ?_
      refine da (fw bl B s.at_ [] 0 8 hl hB (by omega) (by omega) (by omega)) V.eg rfl (.cons bg .nil) ?_
      rintro _ _ ⟨rfl, rfl⟩
      refine (cK (eB ?_))
      exact dk (ab.yC hcs hk1 hk0 hl0 hx) PE.end_ (aM (.cons aw .nil) mw (fun w0 h hh => bP hh))
     ·refine (Qa) ?_
      have hcs : ¬ 0 < s.ax := by omega
      have hk1 : ¬ s.kind = -1 := by omega
      have hk0 : s.kind = 0 := by omega
      have hl0 : ¬ s.left = 0 := by omega
      refine (Qe)<|(pL)<|(Ve) ?_
      rintro _ _ ⟨rfl, rfl⟩
      refine (nu) ?_
      refine da ((nw b bl sz mo po co li di s (ag.aK B s.at_ 8) (by omega) hm).err (ab.Pe hp)) V.uw rfl (.cons aw (.cons aw .nil)) ?_
      rintro _ _ ⟨hpe, rfl⟩
      refine (cK (eB ?_))
      exact dk (ab.one_le hcs hk1 hk0 hl0 hx hp) hpe (sub (aq .nil) fP)
     ·refine (Qa) ?_
      have hcs : ¬ 0 < s.ax := by omega
      have hk1 : ¬ s.kind = -1 := by omega
      have hk0 : s.kind = 0 := by omega
      have hl0 : ¬ s.left = 0 := by omega
      refine (Qe)<|(pL)<|(Ve) ?_
      rintro _ _ ⟨rfl, rfl⟩
      refine (nu) ?_
      refine aj ((nw b bl sz mo po co li di { s with at_ := s.at_ + 8 } (ag.aK B s.at_ 8) (by omega) hm).ok hp) V.uw  rfl (.cons aw (.cons aw .nil)) rfl ?_
      rintro _ _ ⟨rfl, rfl⟩
      refine (Q6) ?_
      obtain ⟨hroom, rfl⟩ := ab.qy hp
      refine lj cW (fun h hh => re hh) ?_
      rintro ⟨po2, co2⟩ _
      dsimp only
      simp only [List.cons_append, List.nil_append]
      refine (Q4)<|(Qf)<|(CL)<|(nc)<|(Q6) ?_
      rw [show (s.left : Int) - 1 = ((s.left - 1 : Nat) : Int) from by omega]
      exact gv (x := { s with at_ := s.at_ + 8, left := s.left - 1, out := s.out ++ [(ag.aK B s.at_ 8)] }) (ab.CZ hcs hk1 hk0 hl0 hx hroom) eK ⟨rfl, rfl⟩ ((aM (aO .nil) .refl (fun w0 h hh => cJ (s := { s with at_ := s.at_ + 8, left := s.left - 1, out := s.out ++ [(ag.aK B s.at_ 8)] }) (by simp) hh)).trans (aM (aO .nil) bp (fun w0 h hh => mH (s := { s with at_ := s.at_ + 8, left := s.left - 1, out := s.out ++ [(ag.aK B s.at_ 8)] }) (by show s.kind ≤ 0; omega) hh)))
end Go.Proofs.YtmaiakpjgomnpaaGreat
namespace Go.Sl
section
variable {C : Ctx} {E : Env} {L : List ad} {ty : TypeId}
def p9 (P : Program) (t : TypeId) : Bool := match P.underlying t with | some (.interface _) => true | _ => false
theorem zj {t T : TypeId} {is : Array (String × TypeId)} {u : Value} (ht : C.P.underlying t = some (.interface is)) (d : Nat) (w : World) : (Op.equalIn (d + 1) t (.iface T u) .nilIface).run C.P w = .ok false w := by
  simp [Op.equalIn, run_underlying ht]
theorem yZ {t : TypeId} {is : Array (String × TypeId)} (ht : C.P.underlying t = some (.interface is)) (d : Nat) (w : World) : (Op.equalIn (d + 1) t .nilIface .nilIface).run C.P w = .ok true w := by
  simp [Op.equalIn, run_underlying ht]
theorem rI {x y : Operand} {t t' T : TypeId} {u : Value} (ht : p9 C.P t = true) (hx : ao E x = some (.iface T u)) (hy : ao E y = some .nilIface) : bC C (.binOp .eql t x y t') ty E L (.bool false) L :=
  cM fun d pos aft g a w ha => by
    unfold p9 at ht
    split at ht <;> try simp at ht
    rename_i is hds
    rw [iZ d pos aft g (ha.eval hx) (ha.eval hy) (by simp [eqGuard])]
    have h := zj hds (T := T) (u := u) 9999 w
    simp only [binOp, Op.equal, Op.maxDepth, Sem.run_bind, h, Result.andThen_ok, Sem.run_pure]
theorem G0 {x : Operand} {t t' : TypeId} (ht : p9 C.P t = true) (hx : ao E x = some .nilIface) : bC C (.binOp .eql t x (.const .nilIface) t') ty E L (.bool true) L :=
  cM fun d pos aft g a w ha => by
    unfold p9 at ht
    split at ht <;> try simp at ht
    rename_i is hds
    rw [iZ d pos aft g (ha.eval hx) (ha.eval (x := .const .nilIface) rfl) (by simp [eqGuard])]
    have h := yZ hds 9999 w
    simp only [binOp, Op.equal, Op.maxDepth, Sem.run_bind, h, Result.andThen_ok, Sem.run_pure]
theorem uK {x : Operand} {xT T : TypeId} {u : Value} (hc : lD C.P T = true) (hx : ao E x = some (.iface T u)) : bC C (.typeAssert x xT T true) ty E L (.tuple #[u, .bool true]) L :=
  cM fun d pos aft g a w ha => by
    unfold lD at hc
    split at hc <;> try simp at hc
    rename_i ds hne hds
    simp only [execOp, ha.eval hx, Instr.typeAssert, Sem.run_bind, run_underlying hds, Result.andThen_ok]
    cases ds <;> first | (exact absurd rfl (hne _)) | simp [Sem.run_pure]
theorem uu {x : Operand} {xT T t : TypeId} {u z : Value} (hc : lD C.P T = true) (hz : (C.P.info? T).bind (·.zero) = some z) (hn : t ≠ T) (hx : ao E x = some (.iface t u)) : bC C (.typeAssert x xT T true) ty E L (.tuple #[z, .bool false]) L :=
  cM fun d pos aft g a w ha => by
    unfold lD at hc
    split at hc <;> try simp at hc
    rename_i ds hne hds
    obtain ⟨i, hi, hz⟩ : ∃ i, C.P.info? T = some i ∧ i.zero = some z := by
      cases h : C.P.info? T with
      | none => rw [h] at hz; cases hz
      | some i => rw [h] at hz; exact ⟨i, rfl, hz⟩
    have hzv : (zeroValue T).run C.P w = .ok z w := by simp only [zeroValue, typeInfo, Sem.run_bind, run_program, Result.andThen_ok, hi, Sem.run_pure, hz]
    simp only [execOp, ha.eval hx, Instr.typeAssert, Sem.run_bind, run_underlying hds, Result.andThen_ok]
    cases ds <;> first | (exact absurd rfl (hne _)) | simp [Sem.run_pure, hn, hzv]
end
theorem wV {C : Ctx} {c : Code} {Q : Exit → Act → List Frame → World → Prop} {a : Act} {cs : List Frame} {w : World} {E : Env} {L : List ad} (ha : fk C E a) (hi : Inv C.w0 L w) (h : Wp C c (qr C fun e a w => Q e a cs w) E L) : c.wpS C.P Q a cs w := wpS_of_wp (Jv h a w ha hi)
theorem Dg {P : Program} {w0 : World} {X : List PanicEntry → List ad → Prop} (x y : Value) : fk ⟨P, w0, 19, [], X⟩ [(6, y), (0, x)] { tmps := #[x] ++ (Array.replicate 18 undef).setIfInBounds 5 y, defers := [] } := by
  refine ⟨rfl, by simp, fun d v hd => ?_⟩
  rw [Env.ia] at hd
  split at hd
  · rename_i h; subst h; cases hd; simp
  · rw [Env.ia] at hd
    split at hd
    · rename_i h; subst h; cases hd; simp
    · simp [Env.get] at hd
end Go.Sl
namespace Go.Sl
theorem az.YE {P : Program} {f : FuncId} {args : List Value} {Pre : List ad} {v0 : Value} {R : List ad → Prop} (h : az P f args Pre (aG fun v G => v = v0 ∧ R G)) : az P f args Pre (aG fun _ G => R G) := h.mono fun e G h => by
  rcases h with ⟨v, rfl, _, h⟩; exact ⟨v, rfl, h⟩
end Go.Sl
namespace Go.Proofs.YtmaiakpjgomnpaaGreat
open Go.Sl 
theorem V.Bt : p9 Tryz.prog 20 = true := by kernel_rfl
theorem V.HU : (Tryz.prog.info? 194).bind (·.zero) = some (.agg #[]) := by kernel_rfl
theorem V.Tg : (Tryz.prog.info? 237).bind (·.zero) = some (.agg #[]) := by kernel_rfl
theorem pE : ∀ (A M : List ad), eI (A ++ M) A M
  | [], M => .nil
  | a :: A, M => .cons .head (pE A M)
theorem D2 {w0 : World} {L : List ad} (b : Nat) (x e : Int) (t : TypeId) (pv : Value) (hp : PE e (jz t pv)) (older : List PanicEntry) (w : World) (hi : Inv w0 (ai b 27 [.int .i64 x] :: L) w) :
    CallsD Tryz.prog 178 #[.pointer (some ⟨b, 0, none⟩)] (.panicking ({ v := .iface t pv, recovered := false } :: older)) w fun e' u' w' =>
      e' = .returned (.tuple #[]) ∧ u' = .panicking ({ v := .iface t pv, recovered := true } :: older) ∧ Inv w0 (ai b 27 [.int .i64 e] :: L) w' := by
  refine callsD_of_wpS Tryz.func178 rfl fun c₀ cs hu => ?_
  apply wpS_seq
  apply wpS_region
  simp [wpOpsS, go_sem, recoverD, hu, Tryz.ntmps178, Exit.thenS]
  refine wV (C := ⟨Tryz.prog, w0, 19, [], fun _ _ => True⟩) (E := [(6, .iface t pv), (0, .pointer (some ⟨b, 0, none⟩))]) (Dg _ _) hi ?_
  rcases hp with ⟨h, rfl⟩ | ⟨h, rfl⟩ | ⟨h, _⟩
  · simp only [jz, List.cons.injEq, PanicEntry.mk.injEq, Value.iface.injEq, and_true] at h
    obtain ⟨rfl, rfl⟩ := h
    refine nb ?_
    refine iL (dR ?_)
    refine oV (rI V.Bt rfl rfl)<|(Ax) ?_
    refine iL (dR ?_)
    refine oV (uK V.BS rfl) ?_
    iterate 2 refine oV (dQ rfl rfl) ?_
    refine (oN) ?_
    refine nJ rfl ?_
    refine iL (dR ?_)
    refine cS V.z194 rfl ?_
    intro bz
    refine cy (bb V.a194 rfl rfl (us := []) rfl rfl .head (by exact Nat.le_of_ble_eq_true rfl) rfl)<|(oN)<|(Qo)<|(VG) ?_
    refine dh<|jh ?_
    intro a w ha hi
    exact ⟨ha.defers, _, rfl, .tuple #[], by simp [results, Tryz.results178], rfl, rfl, hi.tail⟩
  · simp only [jz, List.cons.injEq, PanicEntry.mk.injEq, Value.iface.injEq, and_true] at h
    obtain ⟨rfl, rfl⟩ := h
    refine nb ?_
    refine iL (dR ?_)
    refine oV (rI V.Bt rfl rfl)<|(Ax) ?_
    refine iL (dR ?_)
    refine oV (uu V.BS V.HU (by decide) rfl) ?_
    iterate 2 refine oV (dQ rfl rfl) ?_
    refine (Ax) ?_
    refine iL (dR ?_)
    refine oV (uK V.HF rfl) ?_
    iterate 2 refine oV (dQ rfl rfl) ?_
    refine (oN) ?_
    refine nJ rfl ?_
    refine iL (dR ?_)
    refine cS V.MR rfl ?_
    intro bz
    refine cy (bb V.WZ rfl rfl (us := []) rfl rfl .head (by exact Nat.le_of_ble_eq_true rfl) rfl)<|(oN)<|(Qo)<|(VG) ?_
    refine dh<|jh ?_
    intro a w ha hi
    exact ⟨ha.defers, _, rfl, .tuple #[], by simp [results, Tryz.results178], rfl, rfl, hi.tail⟩
  · simp only [jz, List.cons.injEq, PanicEntry.mk.injEq, Value.iface.injEq, and_true] at h
    obtain ⟨rfl, rfl⟩ := h
    refine nb ?_
    refine iL (dR ?_)
    refine oV (rI V.Bt rfl rfl)<|(Ax) ?_
    refine iL (dR ?_)
    refine oV (uu V.BS V.HU (by decide) rfl) ?_
    iterate 2 refine oV (dQ rfl rfl) ?_
    refine (Ax) ?_
    refine iL (dR ?_)
    refine oV (uu V.HF V.Tg (by decide) rfl) ?_
    iterate 2 refine oV (dQ rfl rfl) ?_
    refine (Ax) ?_
    refine iL (dR ?_)
    refine oV (uK V.EM rfl) ?_
    iterate 2 refine oV (dQ rfl rfl) ?_
    refine (oN) ?_
    refine nJ rfl ?_
    refine iL (dR ?_)
    refine (pc)<|(oN)<|(Qo)<|(Q7)<|(Wd) ?_
    refine dh<|jh ?_
    intro a w ha hi
    exact ⟨ha.defers, _, rfl, .tuple #[], by simp [results, Tryz.results178], rfl, rfl, hi⟩
theorem BY {w0 : World} {L : List ad} (b : Nat) (w : World) (hi : Inv w0 L w) :
    CallsD Tryz.prog 178 #[.pointer (some ⟨b, 0, none⟩)] .returning w fun e u' w' => e = .returned (.tuple #[]) ∧ u' = .returning ∧ Inv w0 L w' := by
  refine callsD_of_wpS Tryz.func178 rfl fun c₀ cs hu => ?_
  apply wpS_seq
  apply wpS_region
  simp [wpOpsS, go_sem, recoverD, hu, Tryz.ntmps178, Exit.thenS]
  refine wV (C := ⟨Tryz.prog, w0, 19, [], fun _ _ => True⟩) (E := [(6, .nilIface), (0, .pointer (some ⟨b, 0, none⟩))]) (Dg _ _) hi<|nb ?_
  refine iL (dR ?_)
  refine oV (G0 V.Bt rfl)<|(oN) ?_
  refine nJ rfl<|(Qo)<|(pc) ?_
  refine dh<|jh ?_
  intro a w ha hi
  cases c₀
  exact ⟨ha.defers, _, by simp_all, .tuple #[], by simp [results, Tryz.results178], rfl, rfl, hi⟩
theorem vC {C : Ctx} {a : Act} {E : Env} {L : List ad} {w : World} {b : Nat} {x : Int} (hP : C.P = Tryz.prog) (ha : fk C E a) (ht : E.get 2 = some (.pointer (some ⟨b, 0, none⟩))) (hi : Inv C.w0 (ai b 27 [.int .i64 x] :: L) w) :
    (results Tryz.f167 a.tmps).run Tryz.prog w = .ok (.int .i64 x) w := by
  have h1 := ha.get _ _ ht
  have h2 := hi.hJ 0
  simp only [List.getElem?_cons_zero] at h2
  simp [results, Tryz.results167, h1, go_sem, h2]
theorem Gv {f : FuncId} {cs : List Value} {Pre : List ad} {R : List ad → Prop} (hS : az Tryz.prog f cs Pre (aG fun _ G => R G)) (hb : ay Tryz.prog f = true) :
    az Tryz.prog 167 [.func (.func f) #[] cs.toArray] Pre (aG fun v G => v = .int .i64 0 ∧ R G) := by
  refine xJ [(0, _)] Tryz.func167 rfl Tryz.ntmps167 rfl rfl ?_
  intro w0 F
  refine qi (dR ?_)
  refine cS V.UR rfl ?_
  intro b2
  refine (oN) ?_
  refine yl (caps := [.tmp 2]) rfl rfl<|qi<|(Qo)<|(Q7)<|(WL) ?_
  refine Kl (fs := []) (vs := []) (cs := cs) hS hb rfl rfl (pE _ _) rfl ?_
  intro v G hR
  refine (oN) ?_
  refine qi<|(Qo) ?_
  refine ye (L' := ai b2 27 [.int .i64 0] :: (G ++ F)) List.perm_middle<|(Wd)<|(oN) ?_
  refine Jv (Jf ?_)
  intro a w ha hi
  show Leaves _ _ _ _ a.defers _ _
  rw [ha.defers]
  refine leaves_cons (f := 178) (args := #[.pointer (some ⟨b2, 0, none⟩)]) (by simp) ?_ ?_
  · simp [invoke, fK V.RQ]
  refine (BY b2 w hi).mono ?_
  rintro e u' w' ⟨rfl, rfl, hi⟩
  exact ⟨.int .i64 0, vC rfl ha rfl hi, G, hi.tail, _, rfl, rfl, hR⟩
theorem FR {f : FuncId} {cs : List Value} {Pre : List ad} {e : Int} {R : List ad → Prop} (hS : az Tryz.prog f cs Pre (rH fun ch G => PE e ch ∧ R G)) (hb : ay Tryz.prog f = true) :
    az Tryz.prog 167 [.func (.func f) #[] cs.toArray] Pre (aG fun v G => v = .int .i64 e ∧ R G) := by
  refine xJ [(0, _)] Tryz.func167 rfl Tryz.ntmps167 rfl rfl ?_
  intro w0 F
  refine qi (dR ?_)
  refine cS V.UR rfl ?_
  intro b2
  refine (oN) ?_
  refine yl (caps := [.tmp 2]) rfl rfl<|qi<|(Qo)<|(Q7)<|(WL) ?_
  refine HH (fs := []) (vs := []) (cs := cs) hS hb rfl rfl (pE _ _) ?_
  rintro ch G ⟨hp, hR⟩
  refine cK ?_
  intro a w ha hi
  show Leaves _ _ _ _ a.defers _ _
  rw [ha.defers]
  have hi2 : Inv w0 (ai b2 27 [.int .i64 0] :: (G ++ F)) w := hi.perm List.perm_middle
  refine leaves_cons (f := 178) (args := #[.pointer (some ⟨b2, 0, none⟩)]) (by simp) ?_ ?_
  · simp [invoke, fK V.RQ]
  obtain ⟨t, u, rfl⟩ : ∃ t u, ch = jz t u := by
    rcases hp with ⟨h, _⟩ | ⟨h, _⟩ | ⟨h, _⟩ <;> exact ⟨_, _, h⟩
  refine (D2 b2 0 e t u hp [] w hi2).mono ?_
  rintro e' u' w' ⟨rfl, rfl, hi3⟩
  exact ⟨.int .i64 e, vC rfl ha rfl hi3, G, hi3.tail, _, rfl, rfl, hR⟩
end Go.Proofs.YtmaiakpjgomnpaaGreat
namespace Go.Proofs.YtmaiakpjgomnpaaGreat
open Go.Sl 
attribute [local irreducible] ae.a7 ae.tk ae.ord ae.bJ ae.words ae.bY ab.gH ab.bR ab.cx ab.dj ab.hL ab.hD ab.hC ab.eE ab.told ab.eY ab.im ab.rep ab.ew ab.dw ab.sym ab.cI ag.aK ab.dU ab.cF ab.one ab.dS
theorem um {b bl : Nat} {sz mo : Int} {B : List Int} {s : ab.St} {w0 : World} {h : Hp} (hh : MM b bl sz mo B s w0 h) : ∃ i : Pv, True ∧ bW w0 [MS b bl sz mo i.li i.di s, LW bl B s.at_ [] 0, CD i.li i.di s] h := hh
def MD (b bl : Nat) (sz mo e : Int) : ad := fun w0 h => ∃ i : Vx, True ∧ bW w0 [ai b 223 [.pointer (some ⟨bl, 0, none⟩), .int .i64 sz, .int .i64 mo, .slice none 0 0, .bool true, .int .i64 e, i.v6, i.v7, i.v8, i.v9, i.v10, i.v11, i.v12]] h
theorem jv {b bl : Nat} {sz mo e : Int} {v6 v7 v8 v9 v10 v11 v12 : Value} {w0 : World} {h : Hp}
  (hh : bW w0 [ai b 223 [.pointer (some ⟨bl, 0, none⟩), .int .i64 sz, .int .i64 mo, .slice none 0 0, .bool true, .int .i64 e, v6, v7, v8, v9, v10, v11, v12]] h) : MD b bl sz mo e w0 h := ⟨⟨.nilFunc, .nilFunc, .nilFunc, v6, v7, v8, v9, v10, v11, v12⟩, trivial, hh⟩
def MJ (b bl : Nat) (sz mo : Int) (B : List Int) : ab.Jt → ad
 | .ok s => MM b bl sz mo B s
 | .error e => MD b bl sz mo e
set_option maxHeartbeats 2000000 in
theorem Aq (bm bw bn b bl : Nat) (sz mo : Int) (w : Nat) (n : Int) (s0 : ab.St) (o : Except Int ab.St) (B : List Int) (hl : B.length < 500000000) (hB : ag.an B) (hm : mo < 1000000000) (hw : w < 1000000000) (hok0 : ab.Ok B mo s0) (hlp0 : ab.Lp B mo w n s0 o) : az Tryz.prog 168 [.pointer (some ⟨bm, 0, none⟩), .pointer (some ⟨bw, 0, none⟩), .pointer (some ⟨bn, 0, none⟩)] [ai bm 204 [.pointer (some ⟨b, 0, none⟩)], ai bw 3 [.int .i64 (w : Int)], ai bn 3 [.int .i64 n], MM b bl sz mo B s0] (gD o (fun s2 v G => v = .tuple #[] ∧ G = [ai bm 204 [.pointer (some ⟨b, 0, none⟩)], ai bw 3 [.int .i64 (w : Int)], ai bn 3 [.int .i64 n], MM b bl sz mo B s2]) [ai bm 204 [.pointer (some ⟨b, 0, none⟩)], ai bw 3 [.int .i64 (w : Int)], ai bn 3 [.int .i64 n], MX b bl sz mo]) := by
 refine au [(0, _), (1, _), (2, _)] Tryz.func168 rfl Tryz.ntmps168 rfl rfl ?_
 intro w0 F
 refine rT TT 1 rfl ?_
 refine cB (fun (s : ab.St) => [(0, .pointer (some ⟨bm, 0, none⟩)), (1, .pointer (some ⟨bw, 0, none⟩)), (2, .pointer (some ⟨bn, 0, none⟩))]) (fun (s : ab.St) => MM b bl sz mo B s :: ai bm 204 [.pointer (some ⟨b, 0, none⟩)] :: ai bw 3 [.int .i64 (w : Int)] :: ai bn 3 [.int .i64 n] :: F) (fun (s : ab.St) => ab.Ok B mo s ∧ ab.Lp B mo w n s o) (fun (s : ab.St) => ab.mu B s) (i1 (s0) ?_ (gK ln) (sub (.cons c9 (fp .nil)) ak)) ?_
 ·exact ⟨hok0, hlp0⟩
 intro s
 rintro ⟨hok, hlp⟩
 rcases (Bool.eq_false_or_eq_true s.ended) with he | he
 ·refine rL TT 2 rfl ?_
  have hro := hok.room
  refine (vj) ?_
  rintro ⟨li, di⟩ _
  dsimp only
  simp only [List.cons_append, List.nil_append]
  refine (sI) ?_
  rintro ⟨po, co⟩ _
  dsimp only
  simp only [List.cons_append, List.nil_append]
  refine wN [pz 0 [] [0], pz 1 [0] [], pz 3 [1] [], pz 7 [2] [], pz 15 [3] [], pz 31 [4] [], pz 63 [5] [0], pz 127 [6, 5] [], pz 255 [7, 5] [], pz 511 [8, 5] [], pz 1023 [9, 5] [], pz 63 [5] [1], pz 4095 [10, 11, 5] [], pz 63 [5] [2], pz 16383 [12, 13, 5] [], pz 32767 [5, 14] []] [⟨fun y => ai b 223 [.pointer (some ⟨bl, 0, none⟩), .int .i64 sz, .int .i64 mo, .slice po s.out.length co, .bool s.ended, .int .i64 0, .int .i64 s.kind, .int .i64 (s.left : Int), .bool s.last, li, di, .int .i64 (s.ax : Int), .int .i64 (s.bA : Int)], none, none, [3]⟩, ⟨fun y => Row U5 po s.out.length co s.out, none, none, []⟩, ⟨fun y => LW bl B s.at_ [] 0, none, none, []⟩, ⟨fun y => CD li di s, none, none, []⟩, ⟨fun y => ai bm 204 [.pointer (some ⟨b, 0, none⟩)], none, none, [0]⟩, ⟨fun y => ai bw 3 [.int .i64 (w : Int)], none, none, []⟩, ⟨fun y => ai bn 3 [.int .i64 n], none, none, []⟩] F V.mixed ?_
  refine nR (fun y FF hA => aA V.su rfl aB rfl) ?_
  refine nN ?_
  refine nG V.zd ?_
  refine nR (fun y FF hA => cY (v := .bool true) (aA V.s4 rfl aB rfl) (by rw [he])) ?_
  refine nV (fun y hA L => cY (v := .bool false) (lH rfl) rfl) ?_
  refine nM ?_
  refine (jl) ?_
  refine (jl) ?_
  refine (jl) ?_
  refine (jl) ?_
  refine (jl) ?_
  refine (jl) ?_
  refine (jl) ?_
  refine (jl) ?_
  refine (jl) ?_
  refine nV (fun y hA L => uI rfl rfl) ?_
  refine (Qb) ?_
  intro y hA
  clear hA
  refine bj<|(UO)<|(Wu)<|(Qe) ?_
  refine (fun hs => gv (x := s) (ab.JF hlp (by exact .inl he)) eK ⟨rfl, rfl⟩ (Sl.Sub.trans ((aM (aO .nil) .refl (fun w0 h hh => cJ (s := s) rfl hh)).trans (aM (fp .nil) .refl (fun w0 h hh => fg (s := s) hh))) hs)) (sub (.cons aw (.cons aw (.cons aw (aq .nil)))) ak)
 ·refine rL TT 2 rfl ?_
  have hro := hok.room
  refine (vj) ?_
  rintro ⟨li, di⟩ _
  dsimp only
  simp only [List.cons_append, List.nil_append]
  refine (sI) ?_
  rintro ⟨po, co⟩ _
  dsimp only
  simp only [List.cons_append, List.nil_append]
  refine wN [pz 0 [] [0], pz 1 [0] [], pz 3 [1] [], pz 7 [2] [], pz 15 [3] [], pz 31 [4] [], pz 63 [5] [0], pz 127 [6, 5] [], pz 255 [7, 5] [], pz 511 [8, 5] [], pz 1023 [9, 5] [], pz 63 [5] [1], pz 4095 [10, 11, 5] [], pz 63 [5] [2], pz 16383 [12, 13, 5] [], pz 32767 [5, 14] []] [⟨fun y => ai b 223 [.pointer (some ⟨bl, 0, none⟩), .int .i64 sz, .int .i64 mo, .slice po s.out.length co, .bool s.ended, .int .i64 0, .int .i64 s.kind, .int .i64 (s.left : Int), .bool s.last, li, di, .int .i64 (s.ax : Int), .int .i64 (s.bA : Int)], none, none, [3, 9]⟩, ⟨fun y => Row U5 po s.out.length co s.out, none, none, []⟩, ⟨fun y => LW bl B s.at_ [] 0, none, none, []⟩, ⟨fun y => CD li di s, none, none, []⟩, ⟨fun y => ai bm 204 [.pointer (some ⟨b, 0, none⟩)], none, none, [0, 6]⟩, ⟨fun y => ai bw 3 [.int .i64 (w : Int)], none, none, [11]⟩, ⟨fun y => ai bn 3 [.int .i64 n], none, none, [13]⟩] F V.mixed ?_
  refine nR (fun y FF hA => aA V.su rfl aB rfl) ?_
  refine nN ?_
  refine nG V.zd ?_
  refine nR (fun y FF hA => cY (v := .bool false) (aA V.s4 rfl aB rfl) (by rw [he])) ?_
  refine nV (fun y hA L => cY (v := .bool true) (lH rfl) rfl) ?_
  refine nM ?_
  refine kG _ _ (fun y => rfl) rfl (fun y => rfl) rfl (fun y FF hA => gO rfl (dD (aA V.su rfl aB rfl) ⟨rfl, rfl⟩)) (by intros; rfl) (by intro y y2 h; rfl) ?_
  refine ei _ (fun y => rfl) rfl rfl rfl (fun y hA L => gO rfl (dD (Bp rfl) ⟨rfl, rfl⟩)) (by intros; rfl) (by intro y y2 h; rfl) ?_
  refine ei _ (fun y => rfl) rfl rfl rfl (fun y hA L => gO rfl (dD (bd V.jo rfl) ⟨rfl, rfl⟩)) (by intros; rfl) (by intro y y2 h; rfl) ?_
  refine kG _ _ (fun y => rfl) rfl (fun y => rfl) rfl (fun y FF hA => gO rfl (dD (aA V.jV rfl aB rfl) ⟨rfl, rfl⟩)) (by intros; rfl) (by intro y y2 h; rfl) ?_
  refine ei _ (fun y => rfl) rfl rfl rfl (fun y hA L => gO rfl (dD (jZ (ty' := 0) Tryz.underlying22 rfl) ⟨rfl, rfl⟩)) (by intros; rfl) (by intro y y2 h; rfl) ?_
  refine (VA) ?_
  refine (UY) ?_
  refine (VA) ?_
  refine (Vz) ?_
  refine nV (fun y hA L => nF rfl rfl) ?_
  refine (Qb) ?_
  intro y hA
  clear hA
  refine bj<|(UO)<|(Wu) ?_
  refine aC rfl (fun h18 => ?_) (fun h18 => ?_)
  ·refine (Q5) ?_
   rcases (ab.fF (ab.one B mo s)) with ⟨e, hp⟩ | ⟨s2, hp⟩
   ·refine (We)<|(Qo)<|(QJ) ?_
    refine da ((Jm b bl sz mo s B hl hB hm hok).err hp) V.MH rfl (aq .nil) ?_
    rintro _ _ ⟨hpe, rfl⟩
    refine (eB (cK (eB ?_)))
    exact dk (ab.TE hlp he (by omega) hp) hpe (sub (.cons aw (.cons aw (.cons aw (aq .nil)))) ak)
   ·refine (We) ?_
    have hg := ab.kH hB hok hp
    refine (Qo)<|(QJ) ?_
    refine aj ((Jm b bl sz mo s B hl hB hm hok).ok hp) V.MH  rfl (aq .nil) rfl ?_
    rintro _ _ ⟨rfl, rfl⟩
    refine (Q6) ?_
    refine j1 (s2) ?_ (gK ln) (sub (lZ .nil) ak)
    exact ⟨⟨hg.ok, ab.Tl hlp he (by omega) hp⟩, hg.less⟩
  ·refine (Q4) ?_
   refine (fun hs => gv (x := s) (ab.JF hlp (by exact .inr (by omega))) eK ⟨rfl, rfl⟩ (Sl.Sub.trans ((aM (aO .nil) .refl (fun w0 h hh => cJ (s := s) rfl hh)).trans (aM (fp .nil) .refl (fun w0 h hh => fg (s := s) hh))) hs)) (sub (.cons aw (.cons aw (.cons aw (aq .nil)))) ak)
end Go.Proofs.YtmaiakpjgomnpaaGreat
namespace Go.Proofs.YtmaiakpjgomnpaaGreat
open Go.Sl 
attribute [local irreducible] ae.a7 ae.tk ae.ord ae.bJ ae.words ae.bY ab.gH ab.bR ab.cx ab.dj ab.hL ab.hD ab.hC ab.eE ab.told ab.eY ab.im ab.rep ab.ew ab.dw ab.sym ab.cI ag.aK ab.dU ab.cF ab.one ab.dS
set_option maxHeartbeats 2000000 in
theorem HP (b bl : Nat) (sz mo : Int) (B : List Int) (s : ab.St) (n : Int) (hok : ab.Ok B mo s) (hm : mo < 1000000000) (hx : n < 1 ∨ s.ended = true) : az Tryz.prog 147 [.pointer (some ⟨b, 0, none⟩), .int .i64 n] [MM b bl sz mo B s] (aG fun v G => v = .bool s.ended ∧ G = [MM b bl sz mo B s]) := by
 refine (Im) ?_
 intro w0 F
 have hro := hok.room
 refine (vj) ?_
 rintro ⟨li, di⟩ _
 dsimp only
 simp only [List.cons_append, List.nil_append]
 refine (sI) ?_
 rintro ⟨po, co⟩ _
 dsimp only
 simp only [List.cons_append, List.nil_append]
 refine (QD)<|(tg) ?_
 intro b2
 refine (tg) ?_
 intro b3
 refine (Q1)<|(QJ)<|(AW)<|(QY)<|(QJ)<|(Ql)<|(JJ)<|(Q0)<|(C3)<|(Q1) ?_
 rcases (Classical.em (n < 1)) with h1 | h1
 ·refine (tZ) ?_
  refine oV (cQ (dV rfl rfl) h1)<|(Qp)<|(QJ)<|(Q6)<|(Ed)<|(Q3) ?_
  exact af (av rfl) ⟨rfl, rfl⟩ (Sl.Sub.trans ((aM (.cons bg (.cons bg .nil)) .refl (fun w0 h hh => cJ (s := s) rfl hh)).trans (aM (aq (.cons bg (.cons bg .nil))) .refl (fun w0 h hh => fg (s := s) hh))) (sub (aq .nil) fP))
 ·refine (tZ) ?_
  refine oV (bV (dV rfl rfl) h1)<|(QY)<|(QJ)<|(Ql) ?_
  refine oV (cY (v := .bool true) (aA V.s4 rfl dW rfl) (by rw [hx.resolve_left h1]))<|(Q1)<|(QJ)<|(Q6)<|(Ed)<|(Q3) ?_
  exact af (av rfl) ⟨rfl, rfl⟩ (Sl.Sub.trans ((aM (.cons bg (.cons bg .nil)) .refl (fun w0 h hh => cJ (s := s) rfl hh)).trans (aM (aq (.cons bg (.cons bg .nil))) .refl (fun w0 h hh => fg (s := s) hh))) (sub (aq .nil) fP))
set_option maxHeartbeats 2000000 in
theorem GB (b bl : Nat) (sz mo : Int) (B : List Int) (s : ab.St) (n : Int) (hl : B.length < 500000000) (hB : ag.an B) (hn : 1 ≤ n) (hok : ab.Ok B mo s) (hm : mo < 1000000000) (he : s.ended = false) (s2 : ab.St) (hlp : ab.Lp B mo s.out.length n s (.ok s2)) : az Tryz.prog 147 [.pointer (some ⟨b, 0, none⟩), .int .i64 n] [MM b bl sz mo B s] (aG fun v G => v = .bool s2.ended ∧ G = [MM b bl sz mo B s2]) := by
 refine (Im) ?_
 intro w0 F
 have hro := hok.room
 refine (vj) ?_
 rintro ⟨li, di⟩ _
 dsimp only
 simp only [List.cons_append, List.nil_append]
 refine (sI) ?_
 rintro ⟨po, co⟩ _
 dsimp only
 simp only [List.cons_append, List.nil_append]
 refine (QD)<|(tg) ?_
 intro b2
 refine (tg) ?_
 intro b3
 refine (Q1)<|(QJ)<|(AW)<|(QY)<|(QJ)<|(Ql)<|(JJ)<|(Q0)<|(C3)<|(Qn)<|(Qf)<|(QE)<|(QY)<|(QJ)<|(Vi)<|(Qk)<|(QJ)<|(Q6) ?_
 refine oV (aA V.jV rfl dW rfl) ?_
 refine (oX) ?_
 refine cS V.z3 rfl ?_
 intro b5
 refine (nc)<|(Qi)<|(VZ)<|(Qo) ?_
 refine oV (Cf (fs := []) (cs := [_, _, _]) rfl rfl)<|aj (Gv (f := 168) (cs := [.pointer (some ⟨b2, 0, none⟩), .pointer (some ⟨b5, 0, none⟩), .pointer (some ⟨b3, 0, none⟩)]) (R := fun G => G = [ai b2 204 [.pointer (some ⟨b, 0, none⟩)], ai b5 3 [.int .i64 (s.out.length : Int)], ai b3 3 [.int .i64 n], MM b bl sz mo B s2]) (az.YE ((Aq b2 b5 b3 b bl sz mo s.out.length n s (.ok s2) B hl hB hm (by omega) hok hlp).ok rfl)) V.OE) V.MY  rfl (.cons c9 (.cons aw (.cons aw (aq .nil)))) rfl ?_
 rintro _ _ ⟨rfl, rfl⟩
 refine (Qd) ?_
 refine oV (bV (cL rfl rfl) (by decide))<|(Q1) ?_
 refine lj c9 (fun h hh => um hh) ?_
 rintro ⟨li2, di2⟩ _
 dsimp only
 simp only [List.cons_append, List.nil_append]
 refine (sI) ?_
 rintro ⟨po2, co2⟩ _
 dsimp only
 simp only [List.cons_append, List.nil_append]
 refine (Qo) ?_
 refine oV (aA V.su rfl jR rfl) ?_
 refine (Q6) ?_
 refine (oT) ?_
 refine (Q8) ?_
 exact af (av rfl) ⟨rfl, rfl⟩ (Sl.Sub.trans ((aM (aO .nil) .refl (fun w0 h hh => cJ (s := s2) rfl hh)).trans (aM (fp .nil) .refl (fun w0 h hh => fg (s := s2) hh))) (sub (aq .nil) mw))
theorem KS {b bl : Nat} {sz mo : Int} {w0 : World} {h : Hp} (hh : MX b bl sz mo w0 h) : ∃ i : Vx, True ∧ bW w0 [ai b 223 [.pointer (some ⟨bl, 0, none⟩), .int .i64 sz, .int .i64 mo, i.v3, i.v4, i.v5, i.v6, i.v7, i.v8, i.v9, i.v10, i.v11, i.v12]] h := hh
theorem A7 {b bl : Nat} {sz mo e : Int} {w0 : World} {h : Hp} (hh : MD b bl sz mo e w0 h) : ∃ i : Vx, True ∧ bW w0 [ai b 223 [.pointer (some ⟨bl, 0, none⟩), .int .i64 sz, .int .i64 mo, .slice none 0 0, .bool true, .int .i64 e, i.v6, i.v7, i.v8, i.v9, i.v10, i.v11, i.v12]] h := hh
set_option maxHeartbeats 2000000 in
theorem GQ (b bl : Nat) (sz mo : Int) (B : List Int) (s : ab.St) (n : Int) (hl : B.length < 500000000) (hB : ag.an B) (hn : 1 ≤ n) (hok : ab.Ok B mo s) (hm : mo < 1000000000) (he : s.ended = false) (e : Int) (hE : e ≠ 0) (hlp : ab.Lp B mo s.out.length n s (.error e)) : az Tryz.prog 147 [.pointer (some ⟨b, 0, none⟩), .int .i64 n] [MM b bl sz mo B s] (aG fun v G => v = .bool true ∧ G = [MD b bl sz mo e]) := by
 refine (Im) ?_
 intro w0 F
 have hro := hok.room
 refine (vj) ?_
 rintro ⟨li, di⟩ _
 dsimp only
 simp only [List.cons_append, List.nil_append]
 refine (sI) ?_
 rintro ⟨po, co⟩ _
 dsimp only
 simp only [List.cons_append, List.nil_append]
 refine (QD)<|(tg) ?_
 intro b2
 refine (tg) ?_
 intro b3
 refine (Q1)<|(QJ)<|(AW)<|(QY)<|(QJ)<|(Ql)<|(JJ)<|(Q0)<|(C3)<|(Qn)<|(Qf)<|(QE)<|(QY)<|(QJ)<|(Vi)<|(Qk)<|(QJ)<|(Q6) ?_
 refine oV (aA V.jV rfl dW rfl) ?_
 refine (oX) ?_
 refine cS V.z3 rfl ?_
 intro b5
 refine (nc)<|(Qi)<|(VZ)<|(Qo) ?_
 refine oV (Cf (fs := []) (cs := [_, _, _]) rfl rfl)<|aj (FR (f := 168) (cs := [.pointer (some ⟨b2, 0, none⟩), .pointer (some ⟨b5, 0, none⟩), .pointer (some ⟨b3, 0, none⟩)]) (R := fun G => G = [ai b2 204 [.pointer (some ⟨b, 0, none⟩)], ai b5 3 [.int .i64 (s.out.length : Int)], ai b3 3 [.int .i64 n], MX b bl sz mo]) ((Aq b2 b5 b3 b bl sz mo s.out.length n s (.error e) B hl hB hm (by omega) hok hlp).err rfl) V.OE) V.MY  rfl (.cons c9 (.cons aw (.cons aw (aq .nil)))) rfl ?_
 rintro _ _ ⟨rfl, rfl⟩
 refine (Qd) ?_
 refine oV (cQ (cL rfl rfl) hE)<|(Qi) ?_
 refine lj c9 (fun h hh => KS hh) ?_
 rintro ⟨v3, v4, v5, v6, v7, v8, v9, v10, v11, v12⟩ _
 dsimp only
 simp only [List.cons_append, List.nil_append]
 refine wN [pz 0 [] [2], pz 0 [] [2], pz 0 [] [2], pz 0 [] [6], pz 1 [0] [], pz 17 [4] [], pz 49 [5] [], pz 123 [1] [], pz 251 [7] [], pz 507 [8, 3] [], pz 1023 [2] [], pz 2047 [10] [], pz 4095 [11] []] [⟨fun y => ai b 223 [.pointer (some ⟨bl, 0, none⟩), .int .i64 sz, .int .i64 mo, v3, v4, v5, v6, v7, v8, v9, v10, v11, v12], none, some 6, []⟩, ⟨fun y => ai b2 204 [.pointer (some ⟨b, 0, none⟩)], none, none, [0, 1, 2]⟩, ⟨fun y => ai b5 3 [.int .i64 (s.out.length : Int)], none, none, []⟩, ⟨fun y => ai b3 3 [.int .i64 n], none, none, []⟩, ⟨fun y => ai b 223 [.pointer (some ⟨bl, 0, none⟩), .int .i64 sz, .int .i64 mo, v3, .bool true, v5, v6, v7, v8, v9, v10, v11, v12], some 6, some 9, []⟩, ⟨fun y => ai b 223 [.pointer (some ⟨bl, 0, none⟩), .int .i64 sz, .int .i64 mo, v3, .bool true, .int .i64 e, v6, v7, v8, v9, v10, v11, v12], some 9, some 12, []⟩, ⟨fun y => ai b 223 [.pointer (some ⟨bl, 0, none⟩), .int .i64 sz, .int .i64 mo, .slice none 0 0, .bool true, .int .i64 e, v6, v7, v8, v9, v10, v11, v12], some 12, none, []⟩] F V.mixed ?_
 iterate 3 refine nR (fun y FF hA => aA V.su rfl aB rfl) ?_
 refine nM ?_
 refine nN ?_
 refine nG V.zd ?_
 refine nE (fun y FF hA => dD (dK V.s4 rfl rfl rfl (by exact fI) (by exact Nat.le_of_ble_eq_true rfl) rfl) ⟨rfl, .refl _⟩) ?_
 refine nN ?_
 refine nG V.SJ ?_
 refine nE (fun y FF hA => dD (dK V.DC rfl rfl rfl (by exact fI) (by exact Nat.le_of_ble_eq_true rfl) rfl) ⟨rfl, .refl _⟩) ?_
 refine nN ?_
 refine nG V.jo ?_
 refine nE (fun y FF hA => dD (dK V.jV rfl rfl rfl (by exact fI) (by exact Nat.le_of_ble_eq_true rfl) rfl) ⟨rfl, .refl _⟩) ?_
 refine (Qb) ?_
 intro y hA
 clear hA
 refine bj<|(JM) ?_
 refine bo (M := ai b2 204 [.pointer (some ⟨b, 0, none⟩)] :: ai b5 3 [.int .i64 (s.out.length : Int)] :: ai b3 3 [.int .i64 n] :: ai b 223 [.pointer (some ⟨bl, 0, none⟩), .int .i64 sz, .int .i64 mo, .slice none 0 0, .bool true, .int .i64 e, v6, v7, v8, v9, v10, v11, v12] :: F) (fun _ _ h => h)<|(Q9) ?_
 refine oV (aA V.su rfl aB rfl)<|(Q6) ?_
 refine oV (aA V.s4 rfl iH rfl)<|(Q8) ?_
 exact af (av rfl) ⟨rfl, rfl⟩ (aM (.cons c9 .nil) mw (fun w0 h hh => jv hh))
set_option maxHeartbeats 2000000 in
theorem Gc (b bl : Nat) (sz mo : Int) (e : Int) (n : Int) : az Tryz.prog 147 [.pointer (some ⟨b, 0, none⟩), .int .i64 n] [MD b bl sz mo e] (aG fun v G => v = .bool true ∧ G = [MD b bl sz mo e]) := by
 refine (Im) ?_
 intro w0 F
 refine (IT) ?_
 rintro ⟨v3, v4, v5, v6, v7, v8, v9, v10, v11, v12⟩ _
 dsimp only
 simp only [List.cons_append, List.nil_append]
 refine (QD)<|(tg) ?_
 intro b2
 refine (tg) ?_
 intro b3
 refine (Q1)<|(QJ)<|(AW)<|(QY)<|(QJ)<|(Ql)<|(JJ)<|(Q0)<|(C3)<|(Q1) ?_
 rcases (Classical.em (n < 1)) with h1 | h1
 ·refine (tZ) ?_
  refine oV (cQ (dV rfl rfl) h1)<|(Qp)<|(QJ)<|(Q6)<|(Ed)<|(Q3) ?_
  exact af (av rfl) ⟨rfl, rfl⟩ (aM (.cons bg .nil) fP (fun w0 h hh => jv hh))
 ·refine (tZ) ?_
  refine oV (bV (dV rfl rfl) h1)<|(QY)<|(QJ)<|(Ql)<|(Ed)<|(Q1)<|(QJ)<|(Q6)<|(Ed)<|(Q3) ?_
  exact af (av rfl) ⟨rfl, rfl⟩ (aM (.cons bg .nil) fP (fun w0 h hh => jv hh))
theorem yT (b bl : Nat) (sz mo : Int) (B : List Int) (s : ab.St) : az Tryz.prog 146 [.pointer (some ⟨b, 0, none⟩)] [MM b bl sz mo B s] (aG fun v G => v = .bool s.ended ∧ G = [MM b bl sz mo B s]) := by
 refine au [(0, _)] Tryz.func146 rfl Tryz.ntmps146 rfl rfl ?_
 intro w0 F
 refine (vj) ?_
 rintro ⟨li, di⟩ _
 dsimp only
 simp only [List.cons_append, List.nil_append]
 refine (sI) ?_
 rintro ⟨po, co⟩ _
 dsimp only
 simp only [List.cons_append, List.nil_append]
 refine (V5)<|(QC)<|(oT)<|(Q3) ?_
 exact af (av rfl) ⟨rfl, rfl⟩ (Sl.Sub.trans ((aM (aO .nil) .refl (fun w0 h hh => cJ (s := s) rfl hh)).trans (aM (fp .nil) .refl (fun w0 h hh => fg (s := s) hh))) (sub (aq .nil) ak))
theorem q9 (b bl : Nat) (sz mo : Int) (e : Int) : az Tryz.prog 146 [.pointer (some ⟨b, 0, none⟩)] [MD b bl sz mo e] (aG fun v G => v = .bool true ∧ G = [MD b bl sz mo e]) := by
 refine au [(0, _)] Tryz.func146 rfl Tryz.ntmps146 rfl rfl ?_
 intro w0 F
 refine (IT) ?_
 rintro ⟨v3, v4, v5, v6, v7, v8, v9, v10, v11, v12⟩ _
 dsimp only
 simp only [List.cons_append, List.nil_append]
 refine (V5)<|(QC)<|(oT)<|(Q3) ?_
 exact af (av rfl) ⟨rfl, rfl⟩ (aM (aq .nil) ak (fun w0 h hh => jv hh))
theorem TQ (b bl : Nat) (sz mo : Int) (B : List Int) (s : ab.St) : az Tryz.prog 150 [.pointer (some ⟨b, 0, none⟩)] [MM b bl sz mo B s] (aG fun v G => v = .int .i64 0 ∧ G = [MM b bl sz mo B s]) := by
 refine au [(0, _)] Tryz.func150 rfl Tryz.ntmps150 rfl rfl ?_
 intro w0 F
 refine (vj) ?_
 rintro ⟨li, di⟩ _
 dsimp only
 simp only [List.cons_append, List.nil_append]
 refine (sI) ?_
 rintro ⟨po, co⟩ _
 dsimp only
 simp only [List.cons_append, List.nil_append]
 refine (QV)<|(AW)<|(Qg)<|(IN)<|(Q8) ?_
 exact af (av rfl) ⟨rfl, rfl⟩ (Sl.Sub.trans ((aM (aO .nil) .refl (fun w0 h hh => cJ (s := s) rfl hh)).trans (aM (fp .nil) .refl (fun w0 h hh => fg (s := s) hh))) (sub (aq .nil) ak))
theorem CI (b bl : Nat) (sz mo : Int) (e : Int) : az Tryz.prog 150 [.pointer (some ⟨b, 0, none⟩)] [MD b bl sz mo e] (aG fun v G => v = .int .i64 e ∧ G = [MD b bl sz mo e]) := by
 refine au [(0, _)] Tryz.func150 rfl Tryz.ntmps150 rfl rfl ?_
 intro w0 F
 refine (IT) ?_
 rintro ⟨v3, v4, v5, v6, v7, v8, v9, v10, v11, v12⟩ _
 dsimp only
 simp only [List.cons_append, List.nil_append]
 refine (QV)<|(AW)<|(Qg)<|(IN)<|(Q8) ?_
 exact af (av rfl) ⟨rfl, rfl⟩ (aM (aq .nil) ak (fun w0 h hh => jv hh))
theorem L3 (b bl : Nat) (sz mo : Int) (B : List Int) (s : ab.St) (he : s.ended = false) : az Tryz.prog 148 [.pointer (some ⟨b, 0, none⟩)] [MM b bl sz mo B s] (aG fun v G => v = .slice none 0 0 ∧ G = [MM b bl sz mo B s]) := by
 refine (RZ) ?_
 intro w0 F
 refine (QV)<|(Sg) ?_
 rintro _ _ ⟨rfl, rfl⟩
 rw [he]
 refine (Qp) ?_
 exact af (av rfl) ⟨rfl, rfl⟩ (sub (aq .nil) ak)
set_option maxHeartbeats 1000000 in
theorem F5 (b bl : Nat) (sz mo : Int) (B : List Int) (s : ab.St) (hok : ab.Ok B mo s) (hm : mo < 500000000) (he : s.ended = true) : az Tryz.prog 148 [.pointer (some ⟨b, 0, none⟩)] [MM b bl sz mo B s] (aG fun v G => ∃ q c, v = .slice q s.out.length c ∧ G = [Row U5 q s.out.length c s.out, MM b bl sz mo B s]) := by
 refine (RZ) ?_
 intro w0 F
 refine (QV)<|(Sg) ?_
 rintro _ _ ⟨rfl, rfl⟩
 rw [he]
 refine (Qd) ?_
 have hro := hok.room
 refine (vj) ?_
 rintro ⟨li, di⟩ _
 dsimp only
 simp only [List.cons_append, List.nil_append]
 refine (sI) ?_
 rintro ⟨po, co⟩ _
 dsimp only
 simp only [List.cons_append, List.nil_append]
 refine (Q4)<|(vE) ?_
 refine aj (nq po co s.out (Row U5 po s.out.length co s.out) (fun _ _ hh => hh.rd) (by omega)) V.AJ  rfl (.cons aw .nil) rfl ?_
 rintro _ _ ⟨q10, c10, rfl, rfl⟩
 refine (Q8) ?_
 exact af (av rfl) ⟨q10, c10, rfl, rfl⟩ (Sl.Sub.trans ((aM (.cons bg (.cons aw .nil)) .refl (fun w0 h hh => cJ (s := s) rfl hh)).trans (aM (aq (.cons aw (.cons aw .nil))) .refl (fun w0 h hh => fg (s := s) hh))) (sub (.cons aw (aq .nil)) ak))
set_option maxHeartbeats 1000000 in
theorem As (b bl : Nat) (sz mo : Int) (e : Int) : az Tryz.prog 148 [.pointer (some ⟨b, 0, none⟩)] [MD b bl sz mo e] (aG fun v G => ∃ q c, v = .slice q 0 c ∧ G = [Row U5 q 0 c [], MD b bl sz mo e]) := by
 refine (RZ) ?_
 intro w0 F
 refine (QV) ?_
 refine aj (q9 b bl sz mo e) V.u4  rfl (aq .nil) rfl ?_
 rintro _ _ ⟨rfl, rfl⟩
 refine (Qd)<|(IT) ?_
 rintro ⟨v3, v4, v5, v6, v7, v8, v9, v10, v11, v12⟩ _
 dsimp only
 simp only [List.cons_append, List.nil_append]
 refine (ru)<|(Q4)<|(vD) ?_
 refine aj (nq none 0 [] (Row U5 none 0 0 []) (fun _ _ hh => hh.rd) (by decide)) V.AJ  rfl (aq .nil) rfl ?_
 rintro _ _ ⟨q10, c10, rfl, rfl⟩
 refine (Q8) ?_
 exact af (av rfl) ⟨q10, c10, rfl, rfl⟩ (Sl.Sub.trans (aM (.cons bg .nil) .refl (fun w0 h hh => jv hh)) (sub (.cons aw (aq .nil)) bp))
theorem Gh (b bl : Nat) (sz mo : Int) (B : List Int) (s : ab.St) (he : s.ended = false) : az Tryz.prog 149 [.pointer (some ⟨b, 0, none⟩)] [MM b bl sz mo B s] (aG fun v G => v = .int .i64 0 ∧ G = [MM b bl sz mo B s]) := by
 refine (Pu) ?_
 intro w0 F
 refine (QV)<|(Sg) ?_
 rintro _ _ ⟨rfl, rfl⟩
 rw [he]
 exact rO TT 18 rfl<|af (av rfl) ⟨rfl, rfl⟩ (sub (aq .nil) ak)
theorem zW (b bl : Nat) (sz mo : Int) (e : Int) (hE : e ≠ 0) : az Tryz.prog 149 [.pointer (some ⟨b, 0, none⟩)] [MD b bl sz mo e] (aG fun v G => v = .int .i64 0 ∧ G = [MD b bl sz mo e]) := by
 refine (Pu) ?_
 intro w0 F
 refine (QV) ?_
 refine aj (q9 b bl sz mo e) V.u4  rfl (aq .nil) rfl ?_
 rintro _ _ ⟨rfl, rfl⟩
 refine FN cW (fun h hh => A7 hh) ?_
 rintro ⟨v3, v4, v5, v6, v7, v8, v9, v10, v11, v12⟩ _
 dsimp only
 simp only [List.cons_append, List.nil_append]
 refine (Q3) ?_
 refine (Q0) ?_
 refine (IN) ?_
 refine (Q0) ?_
 refine oV (cQ (cL rfl rfl) hE) ?_
 refine (Qp) ?_
 exact af (av rfl) ⟨rfl, rfl⟩ (aM (aq .nil) ak (fun w0 h hh => jv hh))
set_option maxHeartbeats 1000000 in
theorem Fz (b bl : Nat) (mo : Int) (B : List Int) (s : ab.St) (hl : B.length < 500000000) (hok : ab.Ok B mo s) (hm : mo < 1000000000) (he : s.ended = true) : az Tryz.prog 149 [.pointer (some ⟨b, 0, none⟩)] [MM b bl (B.length : Int) mo B s] (aG fun v G => v = .int .i64 (((s.at_ + 7) / 8 : Nat) : Int) ∧ G = [MM b bl (B.length : Int) mo B s]) := by
 refine (Pu) ?_
 intro w0 F
 refine (QV) ?_
 refine aj (yT b bl (B.length : Int) mo B s) V.u4  rfl (aq .nil) rfl ?_
 rintro _ _ ⟨rfl, rfl⟩
 rw [he]
 refine FN cW (fun h hh => um hh) ?_
 rintro ⟨li, di⟩ _
 dsimp only
 simp only [List.cons_append, List.nil_append]
 refine Jb (fun h hh => re hh) ?_
 rintro ⟨po, co⟩ _
 dsimp only
 simp only [List.cons_append, List.nil_append]
 have hat := hok.at_
 refine (Q3) ?_
 refine (Q0) ?_
 refine (IN) ?_
 refine (Q0) ?_
 refine oV (bV (cL rfl rfl) (by decide)) ?_
 refine (Qd) ?_
 refine wN [pz 0 [] [0], pz 1 [0] [], pz 3 [1] [], pz 7 [2] [], pz 0 [] [0], pz 16 [4] [], pz 48 [5] [], pz 112 [6] [], pz 240 [7] [], pz 496 [8] [], pz 1023 [3, 9] [], pz 2047 [10] []] [⟨fun y => ai b 223 [.pointer (some ⟨bl, 0, none⟩), .int .i64 (B.length : Int), .int .i64 mo, .slice po s.out.length co, .bool s.ended, .int .i64 0, .int .i64 s.kind, .int .i64 (s.left : Int), .bool s.last, li, di, .int .i64 (s.ax : Int), .int .i64 (s.bA : Int)], none, none, [3, 7]⟩, ⟨fun y => Row U5 po s.out.length co s.out, none, none, []⟩, ⟨fun y => LW bl B s.at_ [] 0, none, some 8, []⟩, ⟨fun y => CD li di s, none, none, []⟩, ⟨fun y => LW bl B s.at_ [] 0, some 8, none, []⟩] F V.mixed ?_
 refine nM ?_
 refine nN ?_
 refine nG V.RW ?_
 refine (Qv) ?_
 refine nM ?_
 refine nN ?_
 refine (mT) ?_
 refine (mM) ?_
 refine nE (fun y FF hA => aV (Post := [LW bl B s.at_ [] 0]) (OH bl B s.at_ [] 0 hl hok.at_) V.Xw rfl (aq .nil) (fun v G h => by rcases h with ⟨rfl, rfl⟩; exact ⟨rfl, .refl _⟩)) ?_
 refine (U1) ?_
 refine (ve) ?_
 refine nA ?_
 refine (Qb) ?_
 intro y hA
 clear hA
 refine bj<|(JM) ?_
 refine bo (M := ai b 223 [.pointer (some ⟨bl, 0, none⟩), .int .i64 (B.length : Int), .int .i64 mo, .slice po s.out.length co, .bool s.ended, .int .i64 0, .int .i64 s.kind, .int .i64 (s.left : Int), .bool s.last, li, di, .int .i64 (s.ax : Int), .int .i64 (s.bA : Int)] :: Row U5 po s.out.length co s.out :: CD li di s :: LW bl B s.at_ [] 0 :: F) (fun _ _ h => h)<|(Qa) ?_
 rw [show (B.length : Int) - (8 * (B.length : Int) - (s.at_ : Int)) / 8 = (((s.at_ + 7) / 8 : Nat) : Int) from by omega]
 exact af (av rfl) ⟨rfl, rfl⟩ (Sl.Sub.trans ((aM (aO .nil) .refl (fun w0 h hh => cJ (s := s) rfl hh)).trans (aM (aq (.cons aw (.cons cW .nil))) .refl (fun w0 h hh => fg (s := s) hh))) (sub (aq .nil) ak))
end Go.Proofs.YtmaiakpjgomnpaaGreat
namespace Go.Proofs.YtmaiakpjgomnpaaGreat
open Go.Sl 
attribute [local irreducible] ae.a7 ae.tk ae.ord ae.bJ ae.words ae.bY ab.gH ab.bR ab.cx ab.dj ab.hL ab.hD ab.hC ab.eE ab.told ab.eY ab.im ab.rep ab.ew ab.dw ab.sym ab.cI ag.aK ab.dU ab.cF ab.one ab.dS
set_option maxHeartbeats 1000000 in
theorem UA (p : Option Addr) (cap : Nat) (B : List Int) (R : ad) (hR : ∀ w0 h, R w0 h → aF U5 p B.length B w0 h) (hl : B.length < 500000000) (mo : Int) (hm : 0 ≤ mo) : az Tryz.prog 145 [.slice p B.length cap, .int .i64 mo] [R] (aG fun v G => ∃ b bl, v = .pointer (some ⟨b, 0, none⟩) ∧ G = [MM b bl (B.length : Int) mo B ab.start, R]) := by
 refine au [(0, _), (1, _)] Tryz.func145 rfl Tryz.ntmps145 rfl rfl ?_
 intro w0 F
 refine (UI) ?_
 rintro _ _ ⟨bl7, rfl, rfl⟩
 refine (Qi)<|(Wb) ?_
 intro b12
 refine (Qd)<|(QE)<|(Q1)<|(ru)<|(Qc) ?_
 exact af (av rfl) ⟨b12, bl7, rfl, rfl⟩ (Sl.Sub.trans (Sl.Sub.trans (aM (.cons aw (aq .nil)) .refl (fun w0 h hh => cJ (s := ab.start) (li := .pointer none) (di := .pointer none) rfl hh)) (aM (aO .nil) .refl (fun w0 h hh => mH (s := ab.start) (by decide) hh))) (sub (aO .nil) ak))
set_option maxHeartbeats 1000000 in
theorem LG (p : Option Addr) (cap : Nat) (B : List Int) (R : ad) (hR : ∀ w0 h, R w0 h → aF U5 p B.length B w0 h) (hl : B.length < 500000000) (mo : Int) (hm : mo < 0) : az Tryz.prog 145 [.slice p B.length cap, .int .i64 mo] [R] (aG fun v G => ∃ b bl, v = .pointer (some ⟨b, 0, none⟩) ∧ G = [MD b bl (B.length : Int) mo 1, R]) := by
 refine au [(0, _), (1, _)] Tryz.func145 rfl Tryz.ntmps145 rfl rfl ?_
 intro w0 F
 refine (UI) ?_
 rintro _ _ ⟨bl7, rfl, rfl⟩
 refine (Qi)<|(Wb) ?_
 intro b12
 refine (Qd)<|(mg)<|(Qk)<|(Am)<|(Q6) ?_
 refine cy (dK V.DC rfl rfl rfl (by exact fI) (by exact Nat.le_of_ble_eq_true rfl) rfl)<|(Qn) ?_
 exact af (av rfl) ⟨b12, bl7, rfl, rfl⟩ (Sl.Sub.trans (aM (aq .nil) .refl (fun w0 h hh => jv hh)) (sub (aq (.cons aw .nil)) bp))
theorem az.Tv {P : Program} {f : FuncId} {args : List Value} {Pre Gs : List ad} {v0 : Value} {A : ad} (h : az P f args Pre (aG fun v G => v = v0 ∧ G = Gs)) (hA : ∀ w0, A w0 (fun _ => none)) : az P f args Pre (aG fun v G => v = v0 ∧ G = A :: Gs) := fun w0 F w hi => (h w0 F w hi).mono fun e w' ⟨G, h1, v, h2, h3, h4⟩ => by
 subst h2; subst h3; subst h4
 exact ⟨A :: G, h1.uJ (hA w0), _, rfl, rfl, rfl⟩
section
variable (b bl : Nat) (mo : Int) (B : List Int) (r : ab.Jt)
theorem L0 (sz : Int) : az Tryz.prog 146 [.pointer (some ⟨b, 0, none⟩)] [MJ b bl sz mo B r] (aG fun v G => v = .bool (ab.jP r) ∧ G = [MJ b bl sz mo B r]) := by
 cases r with
 | ok s => exact yT b bl sz mo B s
 | error e => exact q9 b bl sz mo e
theorem Ni (sz : Int) : az Tryz.prog 150 [.pointer (some ⟨b, 0, none⟩)] [MJ b bl sz mo B r] (aG fun v G => v = .int .i64 (ab.BG r) ∧ G = [MJ b bl sz mo B r]) := by
 cases r with
 | ok s => exact TQ b bl sz mo B s
 | error e => exact CI b bl sz mo e
theorem Ku (hl : B.length < 500000000) (hm : mo < 500000000) (hok : ab.vt B mo r) : az Tryz.prog 149 [.pointer (some ⟨b, 0, none⟩)] [MJ b bl (B.length : Int) mo B r] (aG fun v G => v = .int .i64 (ab.qH r) ∧ G = [MJ b bl (B.length : Int) mo B r]) := by
 cases r with
 | ok s =>
  cases he : s.ended with
  | true => rw [show ab.qH (.ok s) = (((s.at_ + 7) / 8 : Nat) : Int) from if_pos he]; exact Fz b bl mo B s hl hok (by omega) he
  | false => rw [show ab.qH (.ok s) = 0 from if_neg (by rw [he]; decide)]; exact Gh b bl (B.length : Int) mo B s he
 | error e => exact zW b bl (B.length : Int) mo e hok
theorem Ot (sz : Int) (hm : mo < 500000000) (hok : ab.vt B mo r) : az Tryz.prog 148 [.pointer (some ⟨b, 0, none⟩)] [MJ b bl sz mo B r] (aG fun v G => ∃ q c, v = .slice q (ab.qg r).length c ∧ G = [Row U5 q (ab.qg r).length c (ab.qg r), MJ b bl sz mo B r]) := by
 cases r with
 | ok s =>
  cases he : s.ended with
  | true => rw [show ab.qg (.ok s) = s.out from if_pos he]; exact F5 b bl sz mo B s hok hm he
  | false => rw [show ab.qg (.ok s) = [] from if_neg (by rw [he]; decide)]; exact (az.Tv (L3 b bl sz mo B s he) (A := Row U5 none 0 0 []) (fun w0 => Row.nil U5 w0 _)).mono fun e G ⟨v, h1, h2, h3⟩ => ⟨v, h1, none, 0, h2, h3⟩
 | error e => exact As b bl sz mo e
theorem LN (sz n : Int) (r' : ab.Jt) (hl : B.length < 500000000) (hB : ag.an B) (hm : mo < 500000000) (hok : ab.vt B mo r) (hst : ab.Cg B mo n r r') : az Tryz.prog 147 [.pointer (some ⟨b, 0, none⟩), .int .i64 n] [MJ b bl sz mo B r] (aG fun v G => v = .bool (ab.jP r') ∧ G = [MJ b bl sz mo B r']) := by
 rcases hst with ⟨hx, rfl⟩ | ⟨hn1, s, rfl, he, hl2⟩
 ·cases r' with
  | ok s => exact HP b bl sz mo B s n hok (by omega) hx
  | error e => exact Gc b bl sz mo e n
 ·cases r' with
  | ok s2 => exact GB b bl sz mo B s n hl hB hn1 hok (by omega) he s2 hl2
  | error e => exact GQ b bl sz mo B s n hl hB hn1 hok (by omega) he e (ab.IC hl2 rfl) hl2
end
attribute [local irreducible] ab.qg ab.qH ab.BG ab.jP ab.Ou
set_option maxHeartbeats 1000000 in
theorem LQ (p : Option Addr) (cap : Nat) (B : List Int) (R : ad) (hR : ∀ w0 h, R w0 h → aF U5 p B.length B w0 h) (hl : B.length < 500000000) (hB : ag.an B) (mo : Int) (hm : 0 ≤ mo ∧ mo < 500000000) (q : List Int × Int × Int) (hq : ab.iU B mo q) : az Tryz.prog 119 [.slice p B.length cap, .int .i64 mo] [R] (aG fun v G => ∃ qq cq, v = .tuple #[.slice qq q.1.length cq, .int .i64 q.2.1, .int .i64 q.2.2] ∧ G = [Row U5 qq q.1.length cq q.1, R]) := by
 refine au [(0, _), (1, _)] Tryz.func119 rfl Tryz.ntmps119 rfl rfl ?_
 intro w0 F
 refine rT TT 11 rfl<|aj (UA p cap B R hR hl mo hm.1) V.OP  rfl (aq .nil) rfl ?_
 rintro _ _ ⟨b10, bl7, rfl, rfl⟩
 refine (Q3) ?_
 refine bo (M := MJ b10 bl7 (B.length : Int) mo B (.ok ab.start) :: R :: F) (fun _ _ h => h) ?_
 refine cB (fun (r : ab.Jt) => [(7, .pointer (some ⟨b10, 0, none⟩))]) (fun (r : ab.Jt) => MJ b10 bl7 (B.length : Int) mo B r :: R :: F) (fun (r : ab.Jt) => ab.vt B mo r ∧ ab.FH B mo ab.start r) (fun (r : ab.Jt) => ab.CM B r) (i1 (.ok ab.start) ?_ (jt ln) (sub (aO .nil) ak)) ?_
 ·exact ⟨ab.nW hm.1, ab.gy.refl _ _ _⟩
 intro r
 rintro ⟨hok, hat⟩
 refine rL TT 4 rfl<|aj (L0 b10 bl7 mo B r (B.length : Int)) V.u4  rfl (aq .nil) rfl ?_
 rintro _ _ ⟨rfl, rfl⟩
 refine oV (lH rfl)<|(Q6) ?_
 refine sS rfl (fun h13 => ?_) (fun h13 => ?_)
 ·refine (Q5) ?_
  have he : ab.jP r = false := by simpa using h13
  obtain ⟨r2, hst⟩ := ab.Hh hB hok 1048576
  have hgj := ab.BT hB hok hat hst
  refine (Q9) ?_
  refine aj (LN b10 bl7 mo B r (B.length : Int) 1048576 r2 hl hB hm.2 hok hst) V.XS  rfl (aq .nil) rfl ?_
  rintro _ _ ⟨rfl, rfl⟩
  refine (Q6) ?_
  refine j1 (r2) ?_ (jt ln) (sub (aO .nil) ak)
  exact ⟨⟨hgj.ok, hgj.at_⟩, hgj.less he (by decide)⟩
 ·refine (Qc) ?_
  have he : ab.jP r = true := by simpa using h13
  obtain rfl := hq.Fu (ab.KX hm.1 hat he)
  refine (Q9) ?_
  refine aj (Ot b10 bl7 mo B r (B.length : Int) hm.2 hok) V.P4  rfl (aq .nil) rfl ?_
  rintro _ _ ⟨q17, c17, rfl, rfl⟩
  refine (Q7) ?_
  refine aj (Ku b10 bl7 mo B r hl hm.2 hok) V.OB  rfl (.cons aw .nil) rfl ?_
  rintro _ _ ⟨rfl, rfl⟩
  refine (Q7) ?_
  refine aj (Ni b10 bl7 mo B r (B.length : Int)) V.NT  rfl (aq .nil) rfl ?_
  rintro _ _ ⟨rfl, rfl⟩
  refine (Q1) ?_
  exact af (M0 rfl rfl rfl) ⟨q17, c17, rfl, rfl⟩ (sub (.cons aw (.cons aw .nil)) bp)
set_option maxHeartbeats 1000000 in
theorem LX (p : Option Addr) (cap : Nat) (B : List Int) (R : ad) (hR : ∀ w0 h, R w0 h → aF U5 p B.length B w0 h) (hl : B.length < 500000000) (mo : Int) (hm : mo < 0) (q : List Int × Int × Int) (hq : ab.iU B mo q) : az Tryz.prog 119 [.slice p B.length cap, .int .i64 mo] [R] (aG fun v G => ∃ qq cq, v = .tuple #[.slice qq q.1.length cq, .int .i64 q.2.1, .int .i64 q.2.2] ∧ G = [Row U5 qq q.1.length cq q.1, R]) := by
 obtain rfl := hq.Fu (.inl ⟨hm, rfl⟩)
 refine au [(0, _), (1, _)] Tryz.func119 rfl Tryz.ntmps119 rfl rfl ?_
 intro w0 F
 refine rT TT 11 rfl<|aj (LG p cap B R hR hl mo hm) V.OP  rfl (aq .nil) rfl ?_
 rintro _ _ ⟨b10, bl7, rfl, rfl⟩
 refine (Q3) ?_
 refine cB (fun (z : Nat) => [(7, .pointer (some ⟨b10, 0, none⟩))]) (fun (z : Nat) => MD b10 bl7 (B.length : Int) mo 1 :: R :: F) (fun (z : Nat) => True) (fun (z : Nat) => z) (i1 (0) ?_ (jt ln) (sub (aO .nil) ak)) ?_
 ·exact trivial
 intro z
 rintro -
 refine rL TT 4 rfl<|aj (q9 b10 bl7 (B.length : Int) mo 1) V.u4  rfl (aq .nil) rfl ?_
 rintro _ _ ⟨rfl, rfl⟩
 refine (QG) ?_
 refine aj (As b10 bl7 (B.length : Int) mo 1) V.P4  rfl (aq .nil) rfl ?_
 rintro _ _ ⟨q17, c17, rfl, rfl⟩
 refine (Q7) ?_
 refine aj (zW b10 bl7 (B.length : Int) mo 1 (by decide)) V.OB  rfl (.cons aw .nil) rfl ?_
 rintro _ _ ⟨rfl, rfl⟩
 refine (Q7) ?_
 refine aj (CI b10 bl7 (B.length : Int) mo 1) V.NT  rfl (aq .nil) rfl ?_
 rintro _ _ ⟨rfl, rfl⟩
 refine (Q1) ?_
 exact af (M0 rfl rfl rfl) ⟨q17, c17, rfl, rfl⟩ (sub (.cons aw (.cons aw .nil)) bp)
theorem Tf (p : Option Addr) (cap : Nat) (B : List Int) (R : ad) (hR : ∀ w0 h, R w0 h → aF U5 p B.length B w0 h) (hl : B.length < 500000000) (hB : ag.an B) (mo : Int) (hm : mo < 500000000) (q : List Int × Int × Int) (hq : ab.iU B mo q) : az Tryz.prog 119 [.slice p B.length cap, .int .i64 mo] [R] (aG fun v G => ∃ qq cq, v = .tuple #[.slice qq q.1.length cq, .int .i64 q.2.1, .int .i64 q.2.2] ∧ G = [Row U5 qq q.1.length cq q.1, R]) := by
 by_cases h : mo < 0
 ·exact LX p cap B R hR hl mo h q hq
 ·exact LQ p cap B R hR hl hB mo ⟨by omega, hm⟩ q hq
end Go.Proofs.YtmaiakpjgomnpaaGreat
namespace Go.Proofs.YtmaiakpjgomnpaaGreat
open Go.Sl 
attribute [local irreducible] ae.a7 ae.tk ae.ord ae.bJ ae.words ae.bY ab.gM ab.gH
attribute [local irreducible] ae.wd ae.lk ae.jN ae.nm
end Go.Proofs.YtmaiakpjgomnpaaGreat
namespace Go.Proofs.YtmaiakpjgomnpaaGreat
open Go.Sl 
end Go.Proofs.YtmaiakpjgomnpaaGreat
namespace Go.Proofs.YtmaiakpjgomnpaaGreat
open Go.Sl 
attribute [local irreducible] ae.a7 ae.tk ae.ord ae.bJ ae.words ae.bY ae.lk ae.jN ae.nm ae.wb ae.ins ae.bits
end Go.Proofs.YtmaiakpjgomnpaaGreat
namespace Go.Sl
abbrev TK : Ec aJ.cU := ⟨245, 3, fun t => [.int .i64 t.lit, .int .i64 t.n, .int .i64 t.bA], ⟨0, 0, 0⟩, fun _ => rfl, fun _ => rfl⟩
end Go.Sl
namespace Go.Proofs.YtmaiakpjgomnpaaGreat
open Go.Sl 
attribute [local irreducible] List.replicate aJ.hs aJ.x3 aJ.Cp aJ.tp aJ.RD aJ.rh aJ.uS aJ.wC
end Go.Proofs.YtmaiakpjgomnpaaGreat
namespace Go.Proofs.YtmaiakpjgomnpaaGreat
open Go.Sl 
attribute [local irreducible] aJ.sM aJ.BL aJ.uC aJ.Hx aJ.HQ aJ.uy aJ.G2 aJ.GH aJ.uq aJ.ra ae.a7 ae.wb ae.ord ae.bJ ae.words ae.bY ae.lk ae.jN ae.nm
end Go.Proofs.YtmaiakpjgomnpaaGreat
namespace Go.Proofs.YtmaiakpjgomnpaaGreat
open Go.Sl 
attribute [local irreducible] aJ.Jj aJ.ON aJ.dn aJ.rr aJ.HO aJ.xl aJ.wJ aJ.yk aJ.GV aJ.Vy aJ.Wn aJ.uC aJ.Hx aJ.HQ aJ.uy aJ.G2 aJ.GH List.replicate
end Go.Proofs.YtmaiakpjgomnpaaGreat
namespace Go.Sl
section
variable {C : Ctx} {E : Env} {L : List ad} {ty : TypeId}
theorem BZ (l : List Int) : l.flatMap (fun x => [Value.int .u8 x]) = l.map (Value.int .u8) := by
  induction l with
  | nil => rfl
  | cons a l ih => simp [List.flatMap_cons, ih]
theorem tN {T : TypeId} {x : Operand} {src dst e : TypeId} {p : Option Addr} {n cap : Nat} {l : List Int} (hs : C.P.underlying src = some (.slice e)) (he : C.P.underlying e = some (.int .u8)) (hd : C.P.underlying dst = some .string) (hx : ao E x = some (.slice p n cap)) (H : Has C.w0 L (aD T .u8) p n l) : bC C (.convert src dst x) ty E L (.string (strOfNums l)) L :=
  fun d pos aft g a w ha hi => by
    refine ⟨w, .inl ?_, hi, fun h => by cases h⟩
    obtain ⟨R, hm, hR⟩ := H
    have hh := hi.mem hm
    have hlen : l.length = n := Has.len ⟨R, hm, hR⟩ hi
    obtain ⟨e1, e2⟩ := hi.rd hm (fun h hh => (hR h hh).2)
    have hconv : (convert src dst (.slice p n cap)).run C.P w = .ok (.string (strOfNums l)) w := by
      cases p with
      | none =>
        have h0 : n = 0 := by
          rcases e2 with h | ⟨b, o, h, _⟩
          · exact h
          · cases h
        have hl : l = [] := List.length_eq_zero_iff.1 (by omega)
        rw [run_convert_bytes_nil w src e hs he n cap dst hd, hl]
        rfl
      | some q =>
        rcases e2 with h | ⟨b, o, h, hc⟩
        · have hl : l = [] := List.length_eq_zero_iff.1 (by omega)
          subst hl
          subst h
          rw [run_convert_bytes_string w src dst e _ 0 cap hs he hd, run_bytesToString w q 0 cap [] (by simp [loadCells, loadCellsFrom])]
          rfl
        · cases h
          refine run_convert_bytes_arg w src e hs he b o n cap l hlen (fun i hi2 => ?_) dst hd
          refine hc i _ ?_
          rw [BZ]
          have hil : i < l.length := by omega
          simp [List.getElem?_map, List.getD_eq_getElem?_getD, hil]
    simp only [execOp, ha.eval hx, Sem.run_bind, hconv, Result.andThen_ok, Sem.run_pure]
theorem Ja {x y : Operand} {t t' : TypeId} {s u : ByteArray} {r : Bool} (hx : ao E x = some (.string s)) (hy : ao E y = some (.string u)) (hr : (s.toList == u.toList) = r) : bC C (.binOp .eql t x y t') ty E L (.bool r) L :=
  cM fun d pos aft g a w ha => by
    rw [iZ d pos aft g (ha.eval hx) (ha.eval hy) (by simp [eqGuard])]
    simp [binOp, Op.stringOp, ← hr, Sem.run_pure]
end
end Go.Sl
namespace Go.Sl
end Go.Sl
namespace Go.Sl
end Go.Sl
namespace Go.ag
theorem fm (n : Int) : IntKind.u8.wrap n = n % 256 := rfl
theorem AH {n : Int} (h0 : 0 ≤ n) (h1 : n < 2 ^ 62) : IntKind.i64.wrap ((BitVec.ofInt IntKind.i64.bits (-1) ^^^ BitVec.ofInt IntKind.i64.bits n).toNat : Int) = -n - 1 := by
  obtain ⟨a, rfl⟩ : ∃ a : Nat, n = (a : Int) := ⟨n.toNat, by omega⟩
  have e : IntKind.i64.bits = 64 := rfl
  have e1 : BitVec.ofInt 64 (-1) = BitVec.allOnes 64 := by decide
  rw [e, e1, BitVec.xor_comm, BitVec.xor_allOnes, BitVec.toNat_not, du, Nat.mod_eq_of_lt (by omega)]
  have e2 : ∀ m : Int, IntKind.i64.wrap m = if m % 18446744073709551616 ≥ 9223372036854775808 then m % 18446744073709551616 - 18446744073709551616 else m % 18446744073709551616 := fun m => by
    unfold IntKind.wrap
    have s1 : IntKind.i64.signed = true := rfl
    simp only [s1, e, Bool.true_and, decide_eq_true_eq]
    rfl
  rw [e2]
  have : a < 2 ^ 62 := by omega
  split <;> omega
end Go.ag
namespace Go.Sl
section
variable {C : Ctx} {E : Env} {L : List ad} {ty : TypeId}
theorem An {x : Operand} {t : TypeId} {n r : Int} (h : ao E x = some (.int .i64 n)) (e : IntKind.i64.wrap ((BitVec.ofInt IntKind.i64.bits (-1) ^^^ BitVec.ofInt IntKind.i64.bits n).toNat : Int) = r) : bC C (.unOp .xor t x) ty E L (.int .i64 r) L := cM fun d pos aft g a w ha => by
  rw [← e]
  have s1 : IntKind.i64.signed = true := rfl
  simp [execOp, ha.eval h, Op.unary, Op.intBits, s1]
end
end Go.Sl
namespace Go.Proofs.YtmaiakpjgomnpaaGreat
open Go.Sl 
attribute [local irreducible] aJ.ie aJ.gJ ab.eQ ab.eZ ae.a7 ae.ord ae.bJ ae.words ae.bY ae.wb ae.nm ae.jN ae.lk aJ.ra ab.gM ab.eY
theorem kK {c : Ec Int} {p : Option Addr} {n cap : Nat} {l : List Int} {R : ad} (hR : ∀ w0 h, R w0 h → aF c p n l w0 h) (k : Nat) (hk : k ≤ n) : ∀ w0 h, R w0 h → aF c p k (l.take k) w0 h := fun w0 h hh => by
  have := (hR w0 h hh).sub 0 k n (Nat.zero_le _) hk hk
  rwa [mI, Nat.sub_zero, List.drop_zero] at this
theorem fU {c : Ec Int} {p : Option Addr} {n : Nat} {l : List Int} {R : ad} (hR : ∀ w0 h, R w0 h → aF c p n l w0 h) (hl : l.length = n) (k m : Nat) (hk : k ≤ n) (hm : n ≤ m) : ∀ w0 h, R w0 h → aF c (dq p k m c.sz) (n - k) (l.drop k) w0 h := fun w0 h hh => by
  have := (hR w0 h hh).sub k n m hk (Nat.le_refl _) hm
  rwa [List.take_of_length_le (by rw [List.length_drop]; omega)] at this
end Go.Proofs.YtmaiakpjgomnpaaGreat
namespace Go.Proofs.YtmaiakpjgomnpaaGreat
open Go.Sl 
attribute [local irreducible] ae.a7 ae.ord ae.bJ ae.words ae.bY ae.wb ae.nm ae.jN ae.lk aJ.ra ab.eY ag.kR aJ.A8 aJ.xl aJ.yk aJ.fA aJ.fB kB.uL
abbrev Q2 : Ec (Int × Int) := ⟨246, 2, fun x => [.int .i64 x.1, .int .i64 x.2], (0, 0), fun _ => rfl, fun _ => rfl⟩
end Go.Proofs.YtmaiakpjgomnpaaGreat
namespace Go.Sl
structure Pc where
 w : Int
 p : Option Addr
 n : Nat
 c : Nat
 s : List Int
abbrev PC : Ec Pc := ⟨267, 2, fun x => [.int .i64 x.w, .slice x.p x.n x.c], ⟨0, none, 0, 0, []⟩, fun _ => rfl, fun _ => rfl⟩
structure Sx where
 p : Option Addr
 n : Nat
 c : Nat
abbrev PS : Ec Sx := ⟨265, 1, fun x => [.slice x.p x.n x.c], ⟨none, 0, 0⟩, fun _ => rfl, fun _ => rfl⟩
abbrev QS : Ec Sx := ⟨47, 1, fun x => [.slice x.p x.n x.c], ⟨none, 0, 0⟩, fun _ => rfl, fun _ => rfl⟩
def ZN (B : List Pc) : ad := fun w0 h => bW w0 (B.map fun x => Row I3 x.p x.n x.c x.s) h
def szs (xs : List Sx) (k : Nat) : Nat := ((xs.take k).map Sx.n).sum
def pk (x : Pc) : kB.Pk := (x.w, x.s)
def LL (po : Option Addr) (n co : Nat) (A0 : List Pc) (pl : Option Addr) (nl cl : Nat) (l : List Pc) : ad := fun w0 h => (Row PC po n co A0 w0 h ∧ pl = po ∧ nl = n ∧ cl = co ∧ l = A0) ∨ bW w0 [Row PC po n co A0, Row PC pl nl cl l] h
structure OkL (fr : List Int) (bT : Int) : Prop where
 m1 : 1 ≤ bT
 m2 : bT ≤ 15
 len : fr.length ≤ 320
 ZW : ∀ i, i < fr.length → 0 ≤ fr.getD i 0 ∧ fr.getD i 0 ≤ 1048576
 Yd : (kB.N9 fr fr.length).length ≤ 2 ^ bT.toNat
end Go.Sl
namespace Go.Proofs.YtmaiakpjgomnpaaGreat
open Go.Sl 
end Go.Proofs.YtmaiakpjgomnpaaGreat
namespace Go.Proofs.YtmaiakpjgomnpaaGreat
open Go.Sl 
end Go.Proofs.YtmaiakpjgomnpaaGreat
namespace Go.Proofs.YtmaiakpjgomnpaaGreat
open Go.Sl 
end Go.Proofs.YtmaiakpjgomnpaaGreat
namespace Go.Proofs.YtmaiakpjgomnpaaGreat
open Go.Sl Go.Shelf
def SV : Go.Shelf.Ren := ⟨fun | 189 => 214 | 125 => 228 | 257 => 227 | 128 => 243 | 129 => 244 | 294 => 234 | 295 => 235 | 296 => 236 | 297 => 237 | 298 => 238 | 299 => 239 | 216 => 240 | 300 => 241 | 301 => 242 | 328 => 248 | 329 => 249 | 330 => 250 | 331 => 251 | 332 => 252 | 215 => 230 | 343 => 255 | n => n, fun | 28 => 47 | 3 => 3 | 46 => 52 | 0 => 0 | 51 => 76 | 53 => 302 | 4 => 4 | 183 => 295 | 182 => 294 | 131 => 125 | 5 => 5 | 9 => 9 | 218 => 305 | 222 => 309 | 228 => 311 | 229 => 210 | n => n, fun | n => n⟩
end Go.Proofs.YtmaiakpjgomnpaaGreat
namespace Go.Proofs.YtmaiakpjgomnpaaGreat
open Go.Sl 
end Go.Proofs.YtmaiakpjgomnpaaGreat
namespace Go.Proofs.YtmaiakpjgomnpaaGreat
open Go.Sl 
attribute [local irreducible] ae.a7 ae.ord ae.bJ ae.words ae.bY ae.wb ae.nm ae.jN ae.lk aJ.ra ab.eY ag.kR aJ.A8 aJ.xl aJ.yk aJ.fA aJ.fB kB.uL ae.bits aJ.dA aJ.dB aJ.dF aJ.VS aJ.Hz aJ.GF aJ.U4 aJ.cD aJ.VX List.replicate aJ.wJ
end Go.Proofs.YtmaiakpjgomnpaaGreat
namespace Go.Proofs.YtmaiakpjgomnpaaGreat
open Go.Sl 
attribute [local irreducible] aJ.gJ aJ.Sq aJ.R9 aJ.uS aJ.sN aJ.m8
abbrev S8 : Ec Sx := ⟨22, 1, fun x => [.slice x.p x.n x.c], ⟨none, 0, 0⟩, fun _ => rfl, fun _ => rfl⟩
end Go.Proofs.YtmaiakpjgomnpaaGreat
namespace Go.Proofs.YtmaiakpjgomnpaaGreat
open Go.Sl 
attribute [local irreducible] aJ.m8
structure Dv where
  p1 : Option Addr
  n1 : Nat
  c1 : Nat
  t : Int
  p2 : Option Addr
  c2 : Nat
def DN (b : Nat) (B : List Int) (t : Nat) : ad := fun w0 h => ∃ i : Lv, True ∧ bW w0 [ai b 215 [.slice i.p1 B.length i.c1, .slice none 0 0, .int .i64 (t : Int), .bool false], Row U5 i.p1 B.length i.c1 B] h
def DD (b : Nat) (z : List Int) : ad := fun w0 h => ∃ i : Dv, True ∧ bW w0 [ai b 215 [.slice i.p1 i.n1 i.c1, .slice i.p2 z.length i.c2, .int .i64 i.t, .bool true], Row U5 i.p2 z.length i.c2 z] h
def DM (b : Nat) (B : List Int) : Option Nat → ad
  | some t => DN b B t
  | none => DD b (aJ.m8 B)
def Zw (B : List Int) (s : Option Nat) (n : Int) : Option Nat :=
  match s with
  | none => none
  | some t => if n < 1 then some t else if (B.length : Int) ≤ t + n then none else some (t + n.toNat)
end Go.Proofs.YtmaiakpjgomnpaaGreat
namespace Go.Proofs.YtmaiakpjgomnpaaGreat
open Go.Sl 
attribute [local irreducible] aJ.m8
section
variable (b : Nat) (B : List Int) (s : Option Nat)
def DOk (B : List Int) : Option Nat → Prop
  | some t => t ≤ B.length
  | none => True
def ZH (B : List Int) : Option Nat → List Int
  | some _ => []
  | none => aJ.m8 B
end
end Go.Proofs.YtmaiakpjgomnpaaGreat
namespace Go.Proofs.YtmaiakpjgomnpaaGreat
open Go.Sl 
attribute [local irreducible] ae.a7 ae.tk ae.ord ae.bJ ae.words ae.bY ab.gH ab.bR ab.cx ab.dj ab.hL ab.hD ab.hC ab.eE ab.told ab.eY ab.im ab.rep ab.ew ab.dw ab.sym ab.cI ag.aK ab.dU ab.cF ab.one ab.dS ab.pe ab.sJ ab.mP ab.mR
section
variable (b2 : Nat) (ls : List Int) (b : Nat) (p : Option Addr) (cap : Nat) (B : List Int) (R : ad) (hR : ∀ w0 h, R w0 h → aF U5 p B.length B w0 h) (sh : Bool) (a : Nat) (hE : ae.a7 ls = 0) (hl : B.length < 500000000) (hB : ag.an B) (ha : a ≤ 8 * B.length)
include hR hE hl hB ha
end
end Go.Proofs.YtmaiakpjgomnpaaGreat
namespace Go.Proofs.YtmaiakpjgomnpaaGreat
open Go.Sl 
attribute [local irreducible] ae.a7 ae.tk ae.ord ae.bJ ae.words ae.bY ab.gH ab.bR ab.cx ab.dj ab.hL ab.hD ab.hC ab.eE ab.told ab.eY ab.im ab.rep ab.ew ab.dw ab.sym ab.cI ag.aK ab.dU ab.cF ab.one ab.dS ab.pe ab.sJ ab.mP ab.mR
def PO (b : Nat) (p : Option Addr) (cap : Nat) (B : List Int) (R : ad) : Except Int ab.St → Value → List ad → Prop
 | .error e, v, G => v = .tuple #[.slice none 0 0, .int .i64 e] ∧ G = [R]
 | .ok S, v, G => ∃ q c sh, v = .tuple #[.slice q S.out.length c, .int .i64 0] ∧ G = [ai b 151 [.slice p B.length cap, .int .i64 (S.at_ : Int), .bool false, .bool sh], R, Row U5 q S.out.length c S.out]
end Go.Proofs.YtmaiakpjgomnpaaGreat
namespace Go.Proofs.YtmaiakpjgomnpaaGreat
open Go.Sl 
attribute [local irreducible] ae.a7 ae.tk ae.ord ae.bJ ae.words ae.bY ab.gH ab.bR ab.cx ab.dj ab.hL ab.hD ab.hC ab.eE ab.told ab.eY ab.im ab.rep ab.ew ab.dw ab.sym ab.cI ag.aK ab.dU ab.cF ab.one ab.dS ab.pe ab.sJ ab.mP ab.mR ab.oY ab.zw ab.Pn ab.kz
def PD (b : Nat) (p : Option Addr) (cap : Nat) (B : List Int) (R : ad) : Except Int (Nat × List Int × List Int) → Value → List ad → Prop
 | .error e, v, G => v = .tuple #[.pointer none, .pointer none, .int .i64 e] ∧ G = [R]
 | .ok (a, l, d), v, G => ∃ x y sh, v = .tuple #[.pointer (some ⟨x, 0, none⟩), .pointer (some ⟨y, 0, none⟩), .int .i64 0] ∧ G = [ai b 151 [.slice p B.length cap, .int .i64 (a : Int), .bool false, .bool sh], R, RC x l, RC y d]
end Go.Proofs.YtmaiakpjgomnpaaGreat
namespace Go.Proofs.YtmaiakpjgomnpaaGreat
open Go.Sl 
attribute [local irreducible] ae.a7 ae.tk ae.ord ae.bJ ae.words ae.bY ab.gH ab.bR ab.cx ab.dj ab.hL ab.hD ab.hC ab.eE ab.told ab.eY ab.im ab.rep ab.ew ab.dw ab.sym ab.cI ag.aK ab.dU ab.cF ab.one ab.dS ab.pe ab.sJ ab.mP ab.mR ab.kz
end Go.Proofs.YtmaiakpjgomnpaaGreat
namespace Go.Proofs.YtmaiakpjgomnpaaGreat
open Go.Sl
end Go.Proofs.YtmaiakpjgomnpaaGreat
namespace Go.Proofs.YtmaiakpjgomnpaaGreat
open Go.Sl 
attribute [local irreducible] aJ.m8 ab.iU aJ.bT ag.an aH.eR
set_option maxHeartbeats 2000000 in
theorem N8 (p : Option Addr) (c : Nat) (B : List Int) (R : ad) (hR : ∀ w0 h, R w0 h → aF U5 p B.length B w0 h) (hl : B.length < 500000000) (hB : ag.an B) : az Tryz.prog 160 [.int .u32 1, .slice p B.length c] [R] (aG fun v G => v = .int .u32 (aH.ff B) ∧ G = [R]) := by
 refine au [(0, _), (1, _)] Tryz.func160 rfl Tryz.ntmps160 rfl rfl ?_
 intro w0 F
 refine (QH) ?_
 refine oV (kt (r := 1) rfl rfl rfl)<|(Q7) ?_
 refine oV (dX (r := 0) rfl rfl (by decide) rfl)<|(Qq) ?_
 rw [show ((5 : Nat), Value.int .u32 1) = (5, .int .u32 (aH.eR (B.take 0)).1) from by rw [List.take_zero, aH.qE], show ((6 : Nat), Value.int .u32 0) = (6, .int .u32 (aH.eR (B.take 0)).2) from by rw [List.take_zero, aH.qE]]
 refine cB (fun (i : Nat) => [(5, .int .u32 (aH.eR (B.take i)).1), (6, .int .u32 (aH.eR (B.take i)).2), (13, .slice p B.length c), (14, .int .i64 (B.length : Int)), (15, .int .i64 (i : Int))]) (fun (i : Nat) => R :: F) (fun (i : Nat) => i ≤ B.length) (fun (i : Nat) => B.length - i) (i1 (0) ?_ (bB ln) (sub (aq .nil) ak)) ?_
 ·exact Nat.zero_le _
 intro i
 rintro hi
 refine (Qm) ?_
 refine aC rfl (fun h16 => ?_) (fun h16 => ?_)
 ·refine (Qc)<|(I2)<|(I9)<|(Q8) ?_
  have hv : 0 ≤ (U5.g B (i : Int)) ∧ (U5.g B (i : Int)) < 256 := hB.get i
  have hs := aH.pR (B.take i)
  refine (Q5)<|(Ri)<|(Jz)<|(Wm)<|(Q1)<|(Jz)<|(Vp)<|(QQ) ?_
  have e5 : ((aH.eR (B.take i)).1 + (U5.g B (i : Int))) % 65521 = (aH.eR (B.take (i + 1))).1 := by rw [aH.oG (by omega)]; rfl
  have e6 : ((aH.eR (B.take i)).2 + (aH.eR (B.take (i + 1))).1) % 65521 = (aH.eR (B.take (i + 1))).2 := by rw [aH.oG (by omega)]; rfl
  rw [e5, e6]
  exact j1 (i + 1) ⟨by omega, by omega⟩ (bB ln) (sub (aq .nil) ak)
 ·refine (Qc) ?_
  obtain rfl : i = B.length := by omega
  rw [List.take_length]
  have hs := aH.pR B
  refine (Q9)<|(U7)<|(Q7)<|(VJ)<|(Q8) ?_
  exact af (av rfl) ⟨by unfold aH.ff; rfl, rfl⟩ (sub (aq .nil) ak)
set_option maxHeartbeats 2000000 in
theorem RF (p : Option Addr) (c : Nat) (B : List Int) (R : ad) (hR : ∀ w0 h, R w0 h → aF U5 p B.length B w0 h) (hl : B.length < 500000000) (hB : ag.an B) : az Tryz.prog 63 [.int .u32 1, .slice p B.length c] [R] (aG fun v G => v = .int .u32 (aH.ff B) ∧ G = [R]) := by
 refine au [(0, _), (1, _)] Tryz.func63 rfl Tryz.ntmps63 rfl rfl ?_
 intro w0 F
 refine (QH) ?_
 refine oV (kt (r := 1) rfl rfl rfl)<|(Q7) ?_
 refine oV (dX (r := 0) rfl rfl (by decide) rfl)<|(Qp) ?_
 rw [show ((5 : Nat), Value.int .u32 1) = (5, .int .u32 (aH.eR (B.take 0)).1) from by rw [List.take_zero, aH.qE], show ((6 : Nat), Value.int .u32 0) = (6, .int .u32 (aH.eR (B.take 0)).2) from by rw [List.take_zero, aH.qE]]
 refine cB (fun (i : Nat) => [(1, .slice p B.length c), (5, .int .u32 (aH.eR (B.take i)).1), (6, .int .u32 (aH.eR (B.take i)).2), (7, .int .i64 (i : Int))]) (fun (i : Nat) => R :: F) (fun (i : Nat) => i ≤ B.length) (fun (i : Nat) => B.length - i) (i1 (0) ?_ (eG ln) (sub (aq .nil) ak)) ?_
 ·exact Nat.zero_le _
 intro i
 rintro hi
 refine rL TT 9 rfl ?_
 refine aC rfl (fun h15 => ?_) (fun h15 => ?_)
 ·refine (Qe) ?_
  have hv : 0 ≤ (U5.g B (i : Int)) ∧ (U5.g B (i : Int)) < 256 := hB.get i
  have hs := aH.pR (B.take i)
  refine (Q4)<|(I2)<|(I9)<|(Ri)<|(Jz)<|(Wm)<|(Q1)<|(Jz)<|(Vp)<|(rA) ?_
  have e5 : ((aH.eR (B.take i)).1 + (U5.g B (i : Int))) % 65521 = (aH.eR (B.take (i + 1))).1 := by rw [aH.oG (by omega)]; rfl
  have e6 : ((aH.eR (B.take i)).2 + (aH.eR (B.take (i + 1))).1) % 65521 = (aH.eR (B.take (i + 1))).2 := by rw [aH.oG (by omega)]; rfl
  rw [e5, e6]
  exact j1 (i + 1) ⟨by omega, by omega⟩ (eG ln) (sub (aq .nil) ak)
 ·refine (Qc) ?_
  obtain rfl : i = B.length := by omega
  rw [List.take_length]
  have hs := aH.pR B
  refine (Q9)<|(U7)<|(Q7)<|(VJ)<|(Q8) ?_
  exact af (av rfl) ⟨by unfold aH.ff; rfl, rfl⟩ (sub (aq .nil) ak)
theorem JR (p : Option Addr) (c : Nat) (B : List Int) (R : ad) (hR : ∀ w0 h, R w0 h → aF U5 p B.length B w0 h) (hl : B.length < 500000000) (hB : ag.an B) : az Tryz.prog 135 [.slice p B.length c] [R] (aG fun v G => v = .int .u32 (aH.ff B) ∧ G = [R]) := by
 refine au [(0, _)] Tryz.func135 rfl Tryz.ntmps135 rfl rfl ?_
 intro w0 F
 refine (QH) ?_
 refine aj (N8 p c B R hR hl hB) V.XC  rfl (aq .nil) rfl ?_
 rintro _ _ ⟨rfl, rfl⟩
 refine (Q8) ?_
 exact af (av rfl) ⟨rfl, rfl⟩ (sub (aq .nil) ak)
set_option maxHeartbeats 2000000 in
theorem D8 (p : Option Addr) (c : Nat) (B : List Int) (R : ad) (hR : ∀ w0 h, R w0 h → aF U5 p B.length B w0 h) (hl : 2 ≤ B.length) (hB : ag.an B) (t : Bool) (ht : t = decide (aH.Hd (B.getD 0 0) (B.getD 1 0))) : az Tryz.prog 118 [.slice p B.length c] [R] (aG fun v G => v = .bool t ∧ G = [R]) := by
 refine au [(0, _)] Tryz.func118 rfl Tryz.ntmps118 rfl rfl ?_
 intro w0 F
 have hv : 0 ≤ (U5.g B 0) ∧ (U5.g B 0) < 256 := hB.get 0
 have hw : 0 ≤ (U5.g B 1) ∧ (U5.g B 1) < 256 := hB.get 1
 have ht2 : t = decide (aH.Hd (U5.g B 0) (U5.g B 1)) := ht
 clear ht
 refine (me)<|(tl) ?_
 refine oR (fY rfl)<|oR (xI V.bN (by exact bM hR aB))<|(Wv) ?_
 refine oR (fY rfl)<|oR (xI V.bN (by exact bM hR aB))<|(Wv) ?_
 refine rR TT 2 rfl<|Rg.dh<|bj ?_
 rcases (aH.Ub (U5.g B 0) (U5.g B 1)) with h1 | ⟨h1, h2⟩ | ⟨h1, h2, h3⟩ | ⟨h1, h2, h3, h4⟩ | ⟨h1, h2, h3, h4⟩
 ·refine (Q5)<|(Dp)<|(QB) ?_
  refine rO TT 22 rfl ?_
  (obtain rfl : t = false := ht2.trans (decide_eq_false (by unfold aH.Hd; intro hh; omega)); exact af (G := [R]) (av rfl) ⟨rfl, rfl⟩ (sub (aq .nil) ak))
 ·refine (Q5) ?_
  refine (Dp) ?_
  refine (Qz) ?_
  refine (Q6) ?_
  refine (Q0) ?_
  refine (Jh) ?_
  refine (Q0) ?_
  refine (HY) ?_
  refine rO TT 18 rfl ?_
  (obtain rfl : t = false := ht2.trans (decide_eq_false (by unfold aH.Hd; intro hh; omega)); exact af (G := [R]) (av rfl) ⟨rfl, rfl⟩ (sub (aq .nil) ak))
 ·refine (Q5) ?_
  refine (Dp) ?_
  refine (Qz) ?_
  refine (Q6) ?_
  refine (Q0) ?_
  refine (Jh) ?_
  refine (Q0) ?_
  refine (yI) ?_
  refine (Qi) ?_
  refine (Q0) ?_
  refine (NA) ?_
  refine (Q0) ?_
  refine (Q7) ?_
  refine (Q0) ?_
  refine (Mz) ?_
  refine (Q0) ?_
  refine (OZ) ?_
  refine (Q0) ?_
  refine (QB) ?_
  refine (Qg) ?_
  (obtain rfl : t = false := ht2.trans (decide_eq_false (by unfold aH.Hd; intro hh; omega)); exact af (G := [R]) (av rfl) ⟨rfl, rfl⟩ (sub (aq .nil) ak))
 ·refine (Q5) ?_
  refine (Dp) ?_
  refine (Qz) ?_
  refine (Q6) ?_
  refine (Q0) ?_
  refine (Jh) ?_
  refine (Q0) ?_
  refine (yI) ?_
  refine (Qi) ?_
  refine (Q0) ?_
  refine (NA) ?_
  refine (Q0) ?_
  refine (Q7) ?_
  refine (Q0) ?_
  refine (Mz) ?_
  refine (Q0) ?_
  refine (OZ) ?_
  refine (Q0) ?_
  refine (Qz) ?_
  refine (Qi) ?_
  refine (Q0) ?_
  refine oV (kt (r := 32 * ((U5.g B 1) / 32 % 2)) rfl rfl (aH.Ct hw)) ?_
  refine (Q0) ?_
  refine (QB) ?_
  refine (Q3) ?_
  (obtain rfl : t = false := ht2.trans (decide_eq_false (by unfold aH.Hd; intro hh; omega)); exact af (G := [R]) (av rfl) ⟨rfl, rfl⟩ (sub (aq .nil) ak))
 ·refine (Q5) ?_
  refine (Dp) ?_
  refine (Qz) ?_
  refine (Q6) ?_
  refine (Q0) ?_
  refine (Jh) ?_
  refine (Q0) ?_
  refine (yI) ?_
  refine (Qi) ?_
  refine (Q0) ?_
  refine (NA) ?_
  refine (Q0) ?_
  refine (Q7) ?_
  refine (Q0) ?_
  refine (Mz) ?_
  refine (Q0) ?_
  refine (OZ) ?_
  refine (Q0) ?_
  refine (Qz) ?_
  refine (Qi) ?_
  refine (Q0) ?_
  refine oV (kt (r := 32 * ((U5.g B 1) / 32 % 2)) rfl rfl (aH.Ct hw)) ?_
  refine (Q0) ?_
  refine (Qz) ?_
  refine (Q3) ?_
  (obtain rfl : t = true := ht2.trans (decide_eq_true (by unfold aH.Hd; exact ⟨h1, h2, h3, h4⟩)); exact af (G := [R]) (av rfl) ⟨rfl, rfl⟩ (sub (aq .nil) ak))
set_option maxHeartbeats 2000000 in
theorem TW (p : Option Addr) (c : Nat) (B : List Int) (R : ad) (hR : ∀ w0 h, R w0 h → aF U5 p B.length B w0 h) (hl : B.length < 500000000) (hB : ag.an B) : az Tryz.prog 103 [.slice p B.length c] [R] (aG fun v G => v = .string (strOfNums (aH.jS B)) ∧ G = [R]) := by
 refine au [(0, _)] Tryz.func103 rfl Tryz.ntmps103 rfl rfl ?_
 intro w0 F
 have hn := aH.yn B
 refine (QH) ?_
 refine aj (JR p c B R hR hl hB) V.XJ  rfl (aq .nil) rfl ?_
 rintro _ _ ⟨rfl, rfl⟩
 refine (Q1) ?_
 refine oV (dX (r := aH.ff B / 2 ^ 24) rfl rfl (by decide) (aH.BU (n := 24) rfl (by decide)))<|oV (df V.Av Tryz.underlying5 rfl ((ag.fm _).trans (show (aH.ff B / 2 ^ 24) % 256 = aH.ff B / 16777216 from by omega)))<|(Q7) ?_
 refine oV (dX (r := aH.ff B / 2 ^ 16) rfl rfl (by decide) (aH.BU (n := 16) rfl (by decide)))<|oV (df V.Av Tryz.underlying5 rfl ((ag.fm _).trans (show (aH.ff B / 2 ^ 16) % 256 = aH.ff B / 65536 % 256 from by omega)))<|(Q7) ?_
 refine oV (dX (r := aH.ff B / 2 ^ 8) rfl rfl (by decide) (aH.BU (n := 8) rfl (by decide)))<|oV (df V.Av Tryz.underlying5 rfl ((ag.fm _).trans (show (aH.ff B / 2 ^ 8) % 256 = aH.ff B / 256 % 256 from by omega)))<|(Q7) ?_
 refine oV (df V.Av Tryz.underlying5 rfl ((ag.fm _).trans (show (aH.ff B) % 256 = aH.ff B % 256 from by omega)))<|cH (U5) (aH.jS B) V.bN V.z5 rfl rfl rfl rfl rfl rfl ?_
 intro Pm
 refine oV (tN (T := 5) Tryz.underlying22 Tryz.underlying5 Tryz.underlying9 rfl (own aB))<|(Q8) ?_
 exact af (av rfl) ⟨rfl, rfl⟩ (sub (.cons aw .nil) bp)
end Go.Proofs.YtmaiakpjgomnpaaGreat
namespace Go.Proofs.YtmaiakpjgomnpaaGreat
open Go.Sl 
attribute [local irreducible] aJ.m8 ab.iU aJ.bT ag.an aH.eR aH.jS aH.ff
section
variable {C : Ctx} {E : Env} {L : List ad} {ty : TypeId}
theorem mQ {x y : Operand} {t t' : TypeId} {s u : ByteArray} {r : Bool} (hr : (s.toList == u.toList) = r) (hx : ao E x = some (.string s)) (hy : ao E y = some (.string u)) : bC C (.binOp .neq t x y t') ty E L (.bool (!r)) L :=
 cM fun d pos aft g a w ha => by
  rw [iZ d pos aft g (ha.eval hx) (ha.eval hy) (by simp [eqGuard])]
  simp [binOp, Op.stringOp, Sem.run_pure, ← hr, bne]
end
theorem M9 (p : Option Addr) (c n : Nat) (L : List Int) (R : ad) (hR : ∀ w0 h, R w0 h → aF U5 p n L w0 h) (hn : L.length = n) (hl : n < 500000000) (hB : ag.an L) (mo : Int) (hm : mo < 500000000) (x : List Int) (u e : Int) (hq : ab.iU L mo (x, u, e)) : az Tryz.prog 119 [.slice p n c, .int .i64 mo] [R] (aG fun v G => ∃ qq cq, v = .tuple #[.slice qq x.length cq, .int .i64 u, .int .i64 e] ∧ G = [Row U5 qq x.length cq x, R]) := by
 subst hn
 exact Tf p c L R hR hl hB mo hm (x, u, e) hq
set_option maxHeartbeats 4000000 in
theorem Ow (p : Option Addr) (c : Nat) (B : List Int) (R : ad) (hR : ∀ w0 h, R w0 h → aF U5 p B.length B w0 h) (hcap : B.length ≤ c) (hl : B.length < 500000000) (hB : ag.an B) (mo : Int) (hm : mo < 500000000) (q : List Int × Int) (hq : aH.mv B mo q) : az Tryz.prog 84 [.slice p B.length c, .int .i64 mo] [R] (aG fun v G => ∃ qq cq, v = .tuple #[.slice qq q.1.length cq, .int .i64 q.2] ∧ G = [Row U5 qq q.1.length cq q.1, R]) := by
 refine au [(0, _), (1, _)] Tryz.func84 rfl Tryz.ntmps84 rfl rfl ?_
 intro w0 F
 refine (QH) ?_
 rcases (hq.XP hB hm) with ⟨hb6, rfl⟩ | ⟨hb6, hhd, rfl⟩ | ⟨x, n, e, hb6, hhd, hr, hxB, hxl, hn, hws⟩
 ·refine (Q4)<|(mg)<|(Qq) ?_
  exact af (ez rfl rfl) ⟨none, 0, rfl, rfl⟩ (Sl.Sub.trans (cX (A := Row U5 none 0 0 []) (fun w0 => Row.nil U5 w0 _)) (sub (aO .nil) ak))
 ·refine (Q4)<|(QE)<|(Qd) ?_
  refine aj (D8 p c B R hR (by omega) hB false (decide_eq_false hhd).symm) V.Na  rfl (aq .nil) rfl ?_
  rintro _ _ ⟨rfl, rfl⟩
  refine (QK) ?_
  exact af (ez rfl rfl) ⟨none, 0, rfl, rfl⟩ (Sl.Sub.trans (cX (A := Row U5 none 0 0 []) (fun w0 => Row.nil U5 w0 _)) (sub (aO .nil) ak))
 ·refine (Q4)<|(QE)<|(Qd) ?_
  refine aj (D8 p c B R hR (by omega) hB true (decide_eq_true hhd).symm) V.Na  rfl (aq .nil) rfl ?_
  rintro _ _ ⟨rfl, rfl⟩
  refine (Qn) ?_
  have hB2 := aH.dT hB 2
  have hD2 : ∀ w0 h, R w0 h → aF U5 (dq p 2 c 1) (B.length - 2) (B.drop 2) w0 h := fun w0 h hh => fU (c := U5) hR rfl 2 c (by omega) hcap w0 h hh
  refine (Q9) ?_
  refine oV (eb 2 _ _ V.bN rfl ⟨_, rfl⟩ ⟨rfl, rfl⟩ rfl (by omega) (by omega) (by omega))<|(Q7) ?_
  refine aj (M9 (dq p 2 c 1) (c - 2) (B.length - 2) (B.drop 2) R hD2 List.length_drop (by omega) hB2 mo hm x (n : Int) e hr) V.WU  rfl (aq .nil) rfl ?_
  rintro _ _ ⟨q22, c22, rfl, rfl⟩
  refine (Qg) ?_
  have hBn := aH.dT hB (2 + n)
  have hDn : ∀ w0 h, R w0 h → aF U5 (dq p (2 + n) c 1) (B.length - (2 + n)) (B.drop (2 + n)) w0 h := fun w0 h hh => fU (c := U5) hR rfl (2 + n) c (by omega) hcap w0 h hh
  refine (Q5) ?_
  refine oV (cY (v := .int .i64 ((2 + n : Nat) : Int)) (eA rfl rfl wI) (by congr 1))<|oV (eb (2 + n) B.length c V.bN rfl ⟨_, rfl⟩ ⟨rfl, rfl⟩ rfl (by omega) (by omega) (by omega))<|(Q3) ?_
  rcases (hws) with ⟨he, rfl⟩ | ⟨he, h4, rfl⟩ | ⟨he, h4, rfl⟩ | ⟨he, h4, hne, rfl⟩ | ⟨he, h4, heq, rfl⟩
  ·refine (Q5) ?_
   refine oV (cQ (cL rfl rfl) he)<|(QK) ?_
   exact af (ez rfl rfl) ⟨none, 0, rfl, rfl⟩ (Sl.Sub.trans (cX (A := Row U5 none 0 0 []) (fun w0 => Row.nil U5 w0 _)) (sub (aq (.cons aw .nil)) bp))
  ·refine (Q5)<|(ID)<|(Qk)<|(mg)<|(Qq) ?_
   exact af (ez rfl rfl) ⟨none, 0, rfl, rfl⟩ (Sl.Sub.trans (cX (A := Row U5 none 0 0 []) (fun w0 => Row.nil U5 w0 _)) (sub (aq (.cons aw .nil)) bp))
  ·refine (Q5) ?_
   refine (ID) ?_
   refine (Qk) ?_
   refine (QE) ?_
   refine (Qk) ?_
   refine (Qu) ?_
   refine (Qq) ?_
   exact af (ez rfl rfl) ⟨none, 0, rfl, rfl⟩ (Sl.Sub.trans (cX (A := Row U5 none 0 0 []) (fun w0 => Row.nil U5 w0 _)) (sub (aq (.cons aw .nil)) bp))
  ·refine (Q5) ?_
   refine (ID) ?_
   refine (Qk) ?_
   refine (QE) ?_
   refine (Qk) ?_
   refine (Qr) ?_
   refine (Q3) ?_
   refine (VR) ?_
   refine nM ?_
   refine (Wf) ?_
   refine nM ?_
   refine (UF) ?_
   refine nV (fun y hA L => cY (v := .bool true) (mQ (tY (aH.bu hBn) (aH.bu (aH.rm x)) hne) rfl rfl) rfl) ?_
   refine nA ?_
   refine (Qb) ?_
   intro y hA
   clear hA
   refine bj<|(Va)<|(QA) ?_
   exact af (ez rfl rfl) ⟨none, 0, rfl, rfl⟩ (Sl.Sub.trans (cX (A := Row U5 none 0 0 []) (fun w0 => Row.nil U5 w0 _)) (sub (aO .nil) bp))
  ·refine (Q5) ?_
   refine (ID) ?_
   refine (Qk) ?_
   refine (QE) ?_
   refine (Qk) ?_
   refine (Qr) ?_
   refine (Q3) ?_
   refine (VR) ?_
   refine nM ?_
   refine (Wf) ?_
   refine nM ?_
   refine (UF) ?_
   refine nV (fun y hA L => cY (v := .bool false) (mQ (r := true) (by rw [heq]; exact beq_self_eq_true _) rfl rfl) rfl) ?_
   refine nA ?_
   refine (Qb) ?_
   intro y hA
   clear hA
   refine bj<|(Va) ?_
   exact rC TT 12 rfl<|af (ez rfl rfl) ⟨q22, c22, rfl, rfl⟩ (sub (.cons aw (aq .nil)) ak)
end Go.Proofs.YtmaiakpjgomnpaaGreat
namespace Go.Proofs.YtmaiakpjgomnpaaGreat
open Go.Sl
theorem V.JA : iX Tryz.prog 173 = some (256, 76, 1) := by kernel_rfl
theorem V.W7 : ay Tryz.prog 111 = true := by kernel_rfl
theorem V.Mo : ay Tryz.prog 143 = true := by kernel_rfl
theorem V.VF : ay Tryz.prog 96 = true := by kernel_rfl
theorem V.RR : aW Tryz.prog 175 0 = some 0 := by kernel_rfl
theorem V.Uv : eC Tryz.prog 175 = some [(0, 256)] := by kernel_rfl
theorem V.VV : bZ Tryz.prog 76 = true := by kernel_rfl
theorem V.z175 : cu Tryz.prog 175 = some (List.replicate 256 (.int .u32 0)) := by kernel_rfl
end Go.Proofs.YtmaiakpjgomnpaaGreat
namespace Go.Proofs.YtmaiakpjgomnpaaGreat
open Go.Sl 
attribute [local irreducible] ag.an aa.fO aa.fG aa.dp aa.fo aa.eL aa.gA
set_option maxHeartbeats 1000000 in
theorem Um (x : Int) (hx : 0 ≤ x ∧ x < 4294967296) : az Tryz.prog 111 [.int .u32 x] [] (aG fun v G => v = .int .u32 (aa.fG x) ∧ G = []) := by
 refine au [(0, _)] Tryz.func111 rfl Tryz.ntmps111 rfl rfl ?_
 intro w0 F
 refine rT TT 12 rfl ?_
 rw [show ((0 : Nat), Value.int .u32 x) = (0, .int .u32 (aa.fO 0 x)) from by rw [aa.IQ hx.1]]
 refine cB (fun (k : Nat) => [(0, .int .u32 (aa.fO k x)), (3, .int .i64 (k : Int))]) (fun (k : Nat) => F) (fun (k : Nat) => k ≤ 8) (fun (k : Nat) => 8 - k) (i1 (0) ?_ (gI ln) (sub .nil ak)) ?_
 ·exact Nat.zero_le _
 intro k
 rintro hk
 have hs := aa.Fm hx k
 refine (Qm) ?_
 refine aC rfl (fun h4 => ?_) (fun h4 => ?_)
 ·refine (Qs) ?_
  refine oV (kt (r := (aa.fO k x) % 2) rfl rfl (aa.vr hs))<|(Qi) ?_
  refine aC rfl (fun h7 => ?_) (fun h7 => ?_)
  ·refine (Q9)<|(V2) ?_
   refine oV (qS (r := aa.dp ((aa.fO k x) / 2) 3988292384) rfl rfl (aa.wA (by omega) (by decide)))<|(QQ) ?_
   (rw [← aa.AO (by assumption)]; exact j1 (k + 1) ⟨by omega, by omega⟩ (gI ln) (sub .nil ak))
  ·refine (Q9)<|(V2)<|(QQ) ?_
   (rw [← aa.xm (by assumption)]; exact j1 (k + 1) ⟨by omega, by omega⟩ (gI ln) (sub .nil ak))
 ·refine (Qc) ?_
  obtain rfl : k = 8 := by omega
  rw [aa.Jc]
  refine (Qc) ?_
  exact af (av rfl) ⟨rfl, rfl⟩ (sub .nil ak)
set_option maxHeartbeats 4000000 in
theorem Uc  : az Tryz.prog 78 [] [] (aG fun v G => ∃ b, v = .pointer (some ⟨b, 0, none⟩) ∧ G = [ai b 175 (CA [] .u32 aa.eL [])]) := by
 refine au [] Tryz.func78 rfl Tryz.ntmps78 rfl rfl ?_
 intro w0 F
 refine rT TT 7 rfl<|oV (cn V.Uv V.z175 rfl (cs := ints .u32 (List.replicate 256 0)) rfl)<|jE rfl (wU _ _) rfl ?_
 intro b4
 refine (Qg) ?_
 rw [← aa.Og]
 refine cB (fun (i : Nat) => [(1, .pointer (some ⟨b4, 0, none⟩)), (5, .int .i64 (i : Int))]) (fun (i : Nat) => ai b4 175 (CA [] .u32 (aa.gA i) []) :: F) (fun (i : Nat) => i ≤ 256) (fun (i : Nat) => 256 - i) (i1 (0) ?_ (gI ln) (sub (aq .nil) ak)) ?_
 ·exact Nat.zero_le _
 intro i
 rintro hi
 have hl := aa.yS (i := i) (by omega)
 refine (Qm) ?_
 refine aC rfl (fun h6 => ?_) (fun h6 => ?_)
 ·refine (QA) ?_
  refine wN [pz 0 [] [1], pz 0 [] [2], pz 0 [] [2], pz 4 [2] [], pz 12 [3] [], pz 1 [0] [], pz 33 [5] [], pz 127 [6, 1] [], pz 255 [7, 4] []] [⟨fun y => ai b4 175 (CA [] .u32 (aa.gA i) []), none, some 8, []⟩, ⟨fun y => ai b4 175 (CA [] .u32 ((aa.gA i).set (((i : Int)).toNat) (aa.fG (i : Int))) []), some 8, none, []⟩] F V.mixed ?_
  iterate 3 refine nM ?_
  refine nV (fun y hA L => df V.u3 Tryz.underlying76 rfl (aH.wrap32 (by omega) (by omega))) ?_
  refine nE (fun y FF hA => aV (Post := []) (Um (i : Int) (by omega)) V.W7 rfl .nil (fun v G h => by rcases h with ⟨rfl, rfl⟩; exact ⟨rfl, .refl _⟩)) ?_
  refine nN ?_
  refine nG V.RR ?_
  refine nV (fun y hA L => fQ i rfl V.JA rfl rfl (by omega)) ?_
  refine nE (fun y FF hA => dD (zO (i : Int) V.VV rfl rfl (by exact fI) (by (simp only [List.length_cons, List.length_nil]; omega)) (by omega) (by omega)) ⟨rfl, .refl _⟩) ?_
  refine (Qb) ?_
  intro y hA
  clear hA
  show kr _ _ _ _ (ai b4 175 (CA [] .u32 ((aa.gA i).set (((i : Int)).toNat) (aa.fG (i : Int))) []) :: F)
  refine jh<|bj<|(Qo)<|(Ap)<|(Q7) ?_
  refine dh ?_
  rw [show List.set (aa.gA i) ((i : Int)).toNat (aa.fG (i : Int)) = aa.gA (i + 1) from aa.HB (by omega)]
  refine j1 (i + 1) ?_ (gI ln) (sub (aq .nil) ak)
  exact ⟨by omega, by omega⟩
 ·refine (Qc) ?_
  obtain rfl : i = 256 := by omega
  rw [aa.LZ]
  refine (Qc) ?_
  exact af (av rfl) ⟨_, rfl, rfl⟩ (sub (aq .nil) ak)
set_option maxHeartbeats 4000000 in
theorem D3 (bt : Nat) (p : Option Addr) (c : Nat) (B : List Int) (R : ad) (hR : ∀ w0 h, R w0 h → aF U5 p B.length B w0 h) (hl : B.length < 500000000) (hB : ag.an B) (s : Int) (hs0 : 0 ≤ s ∧ s < 4294967296) : az Tryz.prog 143 [.pointer (some ⟨bt, 0, none⟩), .int .u32 s, .slice p B.length c] [ai bt 175 (CA [] .u32 aa.eL []), R] (aG fun v G => v = .int .u32 (aa.o1 s B) ∧ G = [ai bt 175 (CA [] .u32 aa.eL []), R]) := by
 refine au [(0, _), (1, _), (2, _)] Tryz.func143 rfl Tryz.ntmps143 rfl rfl ?_
 intro w0 F
 have htl := aa.Lc
 refine (QV) ?_
 refine oV (cY (v := .bool false) (uZ Tryz.underlying131 rfl rfl) rfl)<|(Qk) ?_
 refine oV (xh (r := 4294967295 - s) rfl rfl (aa.Ca (by omega)))<|(QG) ?_
 rw [show ((1 : Nat), Value.int .u32 (4294967295 - s)) = (1, .int .u32 (aa.fo (4294967295 - s) (B.take 0))) from by rw [List.take_zero]; unfold aa.fo; rfl]
 refine cB (fun (i : Nat) => [(0, .pointer (some ⟨bt, 0, none⟩)), (1, .int .u32 (aa.fo (4294967295 - s) (B.take i))), (13, .slice p B.length c), (14, .int .i64 (B.length : Int)), (15, .int .i64 (i : Int))]) (fun (i : Nat) => ai bt 175 (CA [] .u32 aa.eL []) :: R :: F) (fun (i : Nat) => i ≤ B.length) (fun (i : Nat) => B.length - i) (i1 (0) ?_ (bB ln) (sub (aO .nil) ak)) ?_
 ·exact Nat.zero_le _
 intro i
 rintro hi
 refine (Qm) ?_
 refine aC rfl (fun h16 => ?_) (fun h16 => ?_)
 ·refine (Qc) ?_
  refine oV (xI V.bN (by exact bM hR dm))<|oV (xL V.s5 (by exact bM hR dm))<|(Qi) ?_
  have hv : 0 ≤ (U5.g B (i : Int)) ∧ (U5.g B (i : Int)) < 256 := hB.get i
  have hs := aa.nI (l := B.take i) (s := (4294967295 - s)) (aa.fR hB i) (by omega)
  have hix := aa.RI (a := (aa.fo (4294967295 - s) (B.take i)) % 256) (b := (U5.g B (i : Int))) (by omega) hv
  have hrw := aa.zv (x := (aa.dp ((aa.fo (4294967295 - s) (B.take i)) % 256) (U5.g B (i : Int)))) (by omega)
  refine (Q5)<|(vv)<|(Q7) ?_
  refine oV (qS (r := (aa.dp ((aa.fo (4294967295 - s) (B.take i)) % 256) (U5.g B (i : Int)))) rfl rfl (aa.Xu (by omega) hv))<|(Q6) ?_
  refine oV (fQ (((aa.dp ((aa.fo (4294967295 - s) (B.take i)) % 256) (U5.g B (i : Int)))).toNat) (by omega) V.JA rfl rfl (by omega))<|oV (nT (aa.dp ((aa.fo (4294967295 - s) (B.take i)) % 256) (U5.g B (i : Int))) V.VV rfl aB (by (simp only [List.length_cons, List.length_nil]; omega)) (by omega) (by omega)) ?_
  rw [aa.Hr hix]
  refine (Q7) ?_
  refine oV (dX (r := (aa.fo (4294967295 - s) (B.take i)) / 256) rfl rfl (by decide) (aa.lI (n := 8) rfl (by decide) rfl))<|oV (qS (r := aa.dp (aa.fG (aa.dp ((aa.fo (4294967295 - s) (B.take i)) % 256) (U5.g B (i : Int)))) ((aa.fo (4294967295 - s) (B.take i)) / 256)) rfl rfl (aa.wA hrw (by omega)))<|(QQ) ?_
  have ht := aa.yj (l := B) (s := (4294967295 - s)) (i := i) (by omega)
  rw [show B.getD i 0 = (U5.g B (i : Int)) from rfl] at ht
  rw [aa.Fa hs.1 hv] at ht
  rw [← ht]
  exact j1 (i + 1) ⟨by omega, by omega⟩ (bB ln) (sub (aO .nil) ak)
 ·refine (Qc) ?_
  obtain rfl : i = B.length := by omega
  rw [List.take_length]
  have hs := aa.nI (l := B) (s := (4294967295 - s)) hB (by omega)
  refine (Q9)<|(UX)<|(Q8) ?_
  exact af (av rfl) ⟨by unfold aa.o1; rfl, rfl⟩ (sub (aO .nil) ak)
set_option maxHeartbeats 4000000 in
theorem JI (p : Option Addr) (c : Nat) (B : List Int) (R : ad) (hR : ∀ w0 h, R w0 h → aF U5 p B.length B w0 h) (hl : B.length < 500000000) (hB : ag.an B) (s : Int) (hs0 : 0 ≤ s ∧ s < 4294967296) : az Tryz.prog 96 [.int .u32 s, .slice p B.length c] [R] (aG fun v G => v = .int .u32 (aa.o1 s B) ∧ G = [R]) := by
 refine au [(0, _), (1, _)] Tryz.func96 rfl Tryz.ntmps96 rfl rfl ?_
 intro w0 F
 refine (QH) ?_
 refine oV (xh (r := 4294967295 - s) rfl rfl (aa.Ca (by omega)))<|(Qg) ?_
 rw [show ((0 : Nat), Value.int .u32 (4294967295 - s)) = (0, .int .u32 (aa.fo (4294967295 - s) (B.take 0))) from by rw [List.take_zero]; unfold aa.fo; rfl]
 refine cB (fun (i : Nat) => [(0, .int .u32 (aa.fo (4294967295 - s) (B.take i))), (1, .slice p B.length c), (5, .int .i64 (i : Int))]) (fun (i : Nat) => R :: F) (fun (i : Nat) => i ≤ B.length) (fun (i : Nat) => B.length - i) (i1 (0) ?_ (gK ln) (sub (aq .nil) ak)) ?_
 ·exact Nat.zero_le _
 intro i
 rintro hi
 refine rL TT 9 rfl ?_
 refine aC rfl (fun h13 => ?_) (fun h13 => ?_)
 ·refine (Qe) ?_
  have hv : 0 ≤ (U5.g B (i : Int)) ∧ (U5.g B (i : Int)) < 256 := hB.get i
  have hs := aa.nI (l := B.take i) (s := (4294967295 - s)) (aa.fR hB i) (by omega)
  refine (Q4)<|(I2)<|(I9)<|(Ri) ?_
  refine oV (qS (r := (aa.dp (aa.fo (4294967295 - s) (B.take i)) (U5.g B (i : Int)))) rfl rfl (aa.wA hs (by omega)))<|(Q8) ?_
  have hxc := aa.Ld (a := (aa.fo (4294967295 - s) (B.take i))) (b := (U5.g B (i : Int))) hs (by omega)
  refine (Qe) ?_
  rw [show ((0 : Nat), Value.int .u32 (aa.dp (aa.fo (4294967295 - s) (B.take i)) (U5.g B (i : Int)))) = (0, .int .u32 (aa.fO 0 (aa.dp (aa.fo (4294967295 - s) (B.take i)) (U5.g B (i : Int))))) from by rw [aa.IQ hxc.1]]
  refine cB (fun (k : Nat) => [(0, .int .u32 (aa.fO k (aa.dp (aa.fo (4294967295 - s) (B.take i)) (U5.g B (i : Int))))), (1, .slice p B.length c), (5, .int .i64 (i : Int)), (6, .int .i64 (k : Int))]) (fun (k : Nat) => R :: F) (fun (k : Nat) => k ≤ 8) (fun (k : Nat) => 8 - k) (i1 (0) ?_ (eG ln) (sub (aq .nil) ak)) ?_
  ·exact Nat.zero_le _
  intro k
  rintro hk
  refine rL TT 7 rfl ?_
  refine aC rfl (fun h24 => ?_) (fun h24 => ?_)
  ·refine (Qe) ?_
   have hk2 := aa.Fm hxc k
   refine (Q9) ?_
   refine oV (kt (r := (aa.fO k (aa.dp (aa.fo (4294967295 - s) (B.take i)) (U5.g B (i : Int)))) % 2) rfl rfl (aa.vr hk2))<|(Q1) ?_
   refine oV (dX (r := (aa.fO k (aa.dp (aa.fo (4294967295 - s) (B.take i)) (U5.g B (i : Int)))) / 2) rfl rfl (by decide) (aa.lI (n := 1) rfl (by decide) rfl))<|(Qn) ?_
   refine aC rfl (fun h32 => ?_) (fun h32 => ?_)
   ·refine (Q9) ?_
    refine oV (qS (r := aa.dp ((aa.fO k (aa.dp (aa.fo (4294967295 - s) (B.take i)) (U5.g B (i : Int)))) / 2) 3988292384) rfl rfl (aa.wA (by omega) (by decide)))<|(rA) ?_
    (rw [← aa.AO (by assumption)]; exact j1 (k + 1) ⟨by omega, by omega⟩ (eG ln) (sub (aq .nil) ak))
   ·refine (vz) ?_
    (rw [← aa.xm (by assumption)]; exact j1 (k + 1) ⟨by omega, by omega⟩ (eG ln) (sub (aq .nil) ak))
  ·refine (Qc) ?_
   obtain rfl : k = 8 := by omega
   refine jW TT 5 rfl (by omega) ?_
   have ht := aa.yj (l := B) (s := (4294967295 - s)) (i := i) (by omega)
   rw [show B.getD i 0 = (U5.g B (i : Int)) from rfl] at ht
   rw [aa.Jc, ← ht]
   exact j1 (i + 1) ⟨by omega, by omega⟩ (gK ln) (sub (aq .nil) ak)
 ·refine (Qc) ?_
  obtain rfl : i = B.length := by omega
  rw [List.take_length]
  have hs := aa.nI (l := B) (s := (4294967295 - s)) hB (by omega)
  refine (Q9)<|(UX)<|(Q8) ?_
  exact af (av rfl) ⟨by unfold aa.o1; rfl, rfl⟩ (sub (aq .nil) ak)
set_option maxHeartbeats 2000000 in
theorem Md (bt : Nat) (kk : List Int) (hk : ag.an kk) (hkl : kk.length < 500000000) (p : Option Addr) (c : Nat) (B : List Int) (R : ad) (hR : ∀ w0 h, R w0 h → aF U5 p B.length B w0 h) (hl : B.length < 500000000) (hB : ag.an B) : az Tryz.prog 109 [.pointer (some ⟨bt, 0, none⟩), .string (strOfNums kk), .slice p B.length c] [ai bt 175 (CA [] .u32 aa.eL []), R] (aG fun v G => v = .int .u32 (aa.gn kk B) ∧ G = [ai bt 175 (CA [] .u32 aa.eL []), R]) := by
 refine au [(0, _), (1, _), (2, _)] Tryz.func109 rfl Tryz.ntmps109 rfl rfl ?_
 intro w0 F
 have hm := aa.th (s := 0) (by decide) hk
 refine rT TT 10 rfl<|(WD) ?_
 intro b10 c10
 refine aj (D3 bt (some ⟨b10, 0, none⟩) c10 kk (aF U5 (some ⟨b10, 0, none⟩) kk.length kk) (fun _ _ hh => hh) hkl hk 0 (by decide)) V.Mo  rfl (.cons aw (aq .nil)) rfl ?_
 rintro _ _ ⟨rfl, rfl⟩
 refine (Q7) ?_
 refine aj (D3 bt p c B R hR hl hB (aa.o1 0 kk) hm) V.Mo  rfl (aq (.cons aw .nil)) rfl ?_
 rintro _ _ ⟨rfl, rfl⟩
 refine (Q8) ?_
 exact af (av rfl) ⟨by unfold aa.gn; rfl, rfl⟩ (sub (aO .nil) bp)
set_option maxHeartbeats 2000000 in
theorem Ko (kk : List Int) (hk : ag.an kk) (hkl : kk.length < 500000000) (p : Option Addr) (c : Nat) (B : List Int) (R : ad) (hR : ∀ w0 h, R w0 h → aF U5 p B.length B w0 h) (hl : B.length < 500000000) (hB : ag.an B) : az Tryz.prog 66 [.string (strOfNums kk), .slice p B.length c] [R] (aG fun v G => v = .int .u32 (aa.gn kk B) ∧ G = [R]) := by
 refine au [(0, _), (1, _)] Tryz.func66 rfl Tryz.ntmps66 rfl rfl ?_
 intro w0 F
 have hm := aa.th (s := 0) (by decide) hk
 refine (QH)<|(WD) ?_
 intro b6 c6
 refine aj (JI (some ⟨b6, 0, none⟩) c6 kk (aF U5 (some ⟨b6, 0, none⟩) kk.length kk) (fun _ _ hh => hh) hkl hk 0 (by decide)) V.VF  rfl (aq .nil) rfl ?_
 rintro _ _ ⟨rfl, rfl⟩
 refine (Q7) ?_
 refine aj (JI p c B R hR hl hB (aa.o1 0 kk) hm) V.VF  rfl (.cons aw .nil) rfl ?_
 rintro _ _ ⟨rfl, rfl⟩
 refine (Q8) ?_
 exact af (av rfl) ⟨by unfold aa.gn; rfl, rfl⟩ (sub (aq .nil) bp)
end Go.Proofs.YtmaiakpjgomnpaaGreat
namespace Go.Proofs.YtmaiakpjgomnpaaGreat
open Go.Sl
theorem V.OT : ay Tryz.prog 142 = true := by kernel_rfl
end Go.Proofs.YtmaiakpjgomnpaaGreat
namespace Go.Proofs.YtmaiakpjgomnpaaGreat
open Go.Sl 
attribute [local irreducible] ag.an aa.fO aa.fG aa.dp aa.fo aa.eL aa.gA
theorem HX {l m : List Int} {t : Bool} (hl : ∀ x ∈ l, 0 ≤ x ∧ x < 256) (hm : ∀ x ∈ m, 0 ≤ x ∧ x < 256) (ht : t = decide (l = m)) : ((strOfNums l).toList == (strOfNums m).toList) = t := by
 by_cases h : l = m
 ·rw [ht, decide_eq_true h, h]; exact beq_self_eq_true _
 ·rw [ht, decide_eq_false h]; exact tY hl hm h
theorem ji {C : Ctx} {E : Env} {L : List ad} {ty : TypeId} {x y : Operand} {t t' : TypeId} {l m : List Int} {r : Bool} (hl : ∀ x ∈ l, 0 ≤ x ∧ x < 256) (hm : ∀ x ∈ m, 0 ≤ x ∧ x < 256) (hx : ao E x = some (.string (strOfNums l))) (hy : ao E y = some (.string (strOfNums m))) (ht : r = decide (l = m)) : bC C (.binOp .eql t x y t') ty E L (.bool r) L := Ja hx hy (HX hl hm ht)
theorem wM (x : Int) (hx : 0 ≤ x ∧ x < 256) (t : Bool) (ht : t = decide (aa.jK x)) : az Tryz.prog 142 [.int .u8 x] [] (aG fun v G => v = .bool t ∧ G = []) := by
 refine au [(0, _)] Tryz.func142 rfl Tryz.ntmps142 rfl rfl ?_
 intro w0 F
 refine (QO) ?_
 rcases (aa.Oo x) with ⟨h1, h2⟩ | ⟨h1, h2⟩ | ⟨h1, h2, h3⟩ | ⟨h1, h2, h3⟩ | ⟨h1, h2⟩
 ·refine (Q5)<|(QM)<|(Ql)<|(yI)<|(Qq) ?_
  (obtain rfl : t = true := ht.trans (decide_eq_true (by unfold aa.jK; omega)); exact af (G := []) (av rfl) ⟨rfl, rfl⟩ (sub .nil ak))
 ·refine (Q5)<|(QM)<|(Ql)<|(HY)<|(Qj)<|(QM)<|(Ql)<|(HY)<|(Q1) ?_
  (obtain rfl : t = false := ht.trans (decide_eq_false (by unfold aa.jK; omega)); exact af (G := []) (av rfl) ⟨rfl, rfl⟩ (sub .nil ak))
 ·refine (Q5)<|(m9)<|(Q1)<|(Q0)<|(QM)<|(Ql)<|(yI)<|(Q1) ?_
  (obtain rfl : t = true := ht.trans (decide_eq_true (by unfold aa.jK; omega)); exact af (G := []) (av rfl) ⟨rfl, rfl⟩ (sub .nil ak))
 ·refine (Q5)<|(m9)<|(Q1)<|(Q0)<|(QM)<|(Ql)<|(HY)<|(Q1) ?_
  (obtain rfl : t = false := ht.trans (decide_eq_false (by unfold aa.jK; omega)); exact af (G := []) (av rfl) ⟨rfl, rfl⟩ (sub .nil ak))
 ·refine (Q5)<|(m9)<|(Q1)<|(Q0)<|(m9)<|(Qn) ?_
  (obtain rfl : t = false := ht.trans (decide_eq_false (by unfold aa.jK; omega)); exact af (G := []) (av rfl) ⟨rfl, rfl⟩ (sub .nil ak))
set_option maxHeartbeats 1000000 in
theorem lN (kk : List Int) (hk : ag.an kk) (hkl : kk.length < 500000000) (t : Bool) (ht : t = decide (aa.cZ kk)) : az Tryz.prog 107 [.string (strOfNums kk)] [] (aG fun v G => v = .bool t ∧ G = []) := by
 refine au [(0, _)] Tryz.func107 rfl Tryz.ntmps107 rfl rfl ?_
 intro w0 F
 refine (QV)<|(IG)<|(Q8) ?_
 refine cB (fun (i : Nat) => [(0, .string (strOfNums kk)), (5, .int .i64 (kk.length : Int)), (6, .int .i64 (i : Int))]) (fun (i : Nat) => F) (fun (i : Nat) => i ≤ kk.length ∧ ∀ j, j < i → aa.jK (kk.getD j 0)) (fun (i : Nat) => kk.length - i) (i1 (0) ?_ (gK ln) (sub .nil ak)) ?_
 ·exact ⟨Nat.zero_le _, fun j hj => by omega⟩
 intro i
 rintro ⟨hi, hall⟩
 refine (Qm) ?_
 refine aC rfl (fun h7 => ?_) (fun h7 => ?_)
 ·refine (QA) ?_
  rcases (Classical.em (aa.jK (kk.getD i 0))) with hl1 | hl1
  ·refine (Q4)<|(O3) ?_
   refine aj (wM (kk.getD i 0) (hk.get i) true (decide_eq_true hl1).symm) V.OT  rfl .nil rfl ?_
   rintro _ _ ⟨rfl, rfl⟩
   refine gV TT 11 rfl (by omega) ?_
   refine j1 (i + 1) ?_ (gK ln) (sub .nil ak)
   exact ⟨⟨by omega, fun j hj => (Nat.lt_succ_iff_lt_or_eq.1 hj).elim (hall j) (fun e => e ▸ hl1)⟩, by omega⟩
  ·refine (Q4)<|(O3) ?_
   refine aj (wM (kk.getD i 0) (hk.get i) false (decide_eq_false hl1).symm) V.OT  rfl .nil rfl ?_
   rintro _ _ ⟨rfl, rfl⟩
   refine (QI) ?_
   obtain rfl : t = false := ht.trans (decide_eq_false (aa.uM hl1 (by omega)))
   exact af (av rfl) ⟨rfl, rfl⟩ (sub .nil ak)
 ·refine rC TT 8 rfl<|(IG)<|(Q3) ?_
  obtain rfl : i = kk.length := by omega
  rw [aa.Tc ht hall]
  exact af (av rfl) ⟨rfl, rfl⟩ (sub .nil ak)
set_option maxHeartbeats 1000000 in
theorem x9 (p : Option Addr) (c : Nat) (B : List Int) (R : ad) (hR : ∀ w0 h, R w0 h → aF U5 p B.length B w0 h) (hB : ag.an B) (h4 : 4 ≤ B.length) (hcap : B.length ≤ c) : az Tryz.prog 112 [.slice p B.length c] [R] (aG fun v G => v = .int .i64 (aH.cR B) ∧ G = [R]) := by
 refine au [(0, _)] Tryz.func112 rfl Tryz.ntmps112 rfl rfl ?_
 intro w0 F
 have hT : ∀ w0 h, R w0 h → aF U5 p 4 (B.take 4) w0 h := kK (cap := 0) hR 4 h4
 refine rT TT 14 rfl<|oV (iI 4 c V.bN rfl ⟨_, rfl⟩ rfl (by omega) (by omega))<|(Q3) ?_
 refine cB (fun (i : Nat) => [(3, .int .i64 (aa.ac B i)), (7, .slice p 4 c), (8, .int .i64 4), (9, .int .i64 (i : Int))]) (fun (i : Nat) => R :: F) (fun (i : Nat) => i ≤ 4) (fun (i : Nat) => 4 - i) (i1 (0) ?_ (eG ln) (sub (aq .nil) ak)) ?_
 ·exact Nat.zero_le _
 intro i
 rintro hi
 refine (Qm) ?_
 refine aC rfl (fun h10 => ?_) (fun h10 => ?_)
 ·refine (Qe) ?_
  have hv := hB.get i
  have ha := aa.Uj hB (i := i) (by omega)
  refine (Qo) ?_
  refine oV (xI V.bN (by exact bM hT aB))<|oV (xL V.s5 (by exact bM hT aB)) ?_
  rw [show U5.g (B.take 4) (i : Int) = (B.getD i 0) from aa.DF (by omega)]
  refine (Q3) ?_
  refine oV (iQ (r := (aa.ac B i) * 256) rfl rfl (by decide) (aH.Gz (n := 8) rfl (by decide) rfl (by omega) (by omega)))<|(Q7)<|(QU) ?_
  refine oV (qb (r := (aa.ac B i) * 256 + (B.getD i 0)) rfl rfl (aH.uz (u := (aa.ac B i)) (n := 8) rfl ha.1 (by omega) (by omega)))<|(QQ) ?_
  refine j1 (i + 1) ?_ (eG ln) (sub (aq .nil) ak)
  exact ⟨by omega, by omega⟩
 ·refine (Qc) ?_
  obtain rfl : i = 4 := by omega
  rw [aa.XZ]
  refine (Qc) ?_
  exact af (av rfl) ⟨rfl, rfl⟩ (sub (aq .nil) ak)
theorem RY  : az Tryz.prog 76 [] [] (aG fun v G => ∃ b, v = .slice (some ⟨b, 0, none⟩) 8 8 ∧ G = [Row U5 (some ⟨b, 0, none⟩) 8 8 aa.ee]) := by
 refine au [] Tryz.func76 rfl Tryz.ntmps76 rfl rfl ?_
 intro w0 F
 refine rT TT 7 rfl<|cH (U5) aa.ee V.bN V.z5 rfl rfl rfl rfl rfl rfl ?_
 intro b1
 refine (Q8) ?_
 exact af (av rfl) ⟨b1, rfl, rfl⟩ (sub (aq .nil) ak)
set_option maxHeartbeats 1000000 in
theorem KV (p : Option Addr) (c : Nat) (B : List Int) (R : ad) (hR : ∀ w0 h, R w0 h → aF U5 p B.length B w0 h) (hB : ag.an B) (p2 : Option Addr) (c2 : Nat) (D : List Int) (R2 : ad) (hR2 : ∀ w0 h, R2 w0 h → aF U5 p2 D.length D w0 h) (hD : ag.an D) (t : Bool) (ht : t = decide (B = D)) : az Tryz.prog 110 [.slice p B.length c, .slice p2 D.length c2] [R, R2] (aG fun v G => v = .bool t ∧ G = [R, R2]) := by
 refine au [(0, _), (1, _)] Tryz.func110 rfl Tryz.ntmps110 rfl rfl ?_
 intro w0 F
 refine (QH) ?_
 refine oV (tN (T := 5) Tryz.underlying22 Tryz.underlying5 Tryz.underlying9 rfl (by exact bM hR aB))<|(Q7) ?_
 refine oV (tN (T := 5) Tryz.underlying22 Tryz.underlying5 Tryz.underlying9 rfl (by exact bM hR2 dm))<|oV (Ja rfl rfl (HX (aa.bu hB) (aa.bu hD) ht))<|(Q8) ?_
 exact af (av rfl) ⟨rfl, rfl⟩ (sub (aO .nil) ak)
end Go.Proofs.YtmaiakpjgomnpaaGreat
namespace Go.Proofs.YtmaiakpjgomnpaaGreat
open Go.Sl
theorem V.o0 : fT Tryz.prog 88 = some 2 := by kernel_rfl
theorem V.ui : ay Tryz.prog 107 = true := by kernel_rfl
theorem V.Xe : ay Tryz.prog 109 = true := by kernel_rfl
theorem V.Xx : ay Tryz.prog 110 = true := by kernel_rfl
theorem V.Hm : ay Tryz.prog 112 = true := by kernel_rfl
theorem V.MQ : eC Tryz.prog 88 = some [(0, 1), (1, 1)] := by kernel_rfl
theorem V.DP : cu Tryz.prog 88 = some ([.string .empty, .slice none 0 0]) := by kernel_rfl
end Go.Proofs.YtmaiakpjgomnpaaGreat

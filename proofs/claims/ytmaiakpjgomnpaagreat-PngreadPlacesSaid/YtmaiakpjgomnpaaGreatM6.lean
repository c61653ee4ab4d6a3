/- Walks of functions that the law reaches, and what they lean on; no conditions. -/
import Derived.Test.YtmaiakpjgomnpaaGreatM0
import Derived.Test.YtmaiakpjgomnpaaGreatM4
import Derived.Test.YtmaiakpjgomnpaaGreatM2
import Derived.Test.YtmaiakpjgomnpaaGreatM1
import Derived.KernelRfl
import Derived.Test.YtmaiakpjgomnpaaGreatM5
import Derived.Test.YtmaiakpjgomnpaaGreatM3
import Derived.Laws.BytesArg
import Derived.Shelf.Sort.Plain
set_option linter.unusedVariables false
set_option linter.unusedSimpArgs false
set_option maxRecDepth 100000
namespace Go.Proofs.YtmaiakpjgomnpaaGreat
open Go.Sl 
attribute [local irreducible] ae.a8 ae.tk ae.ord ae.bJ ae.words ae.bX ad.gH ad.bT ad.cx ad.dj ad.hL ad.hD ad.hC ad.eB ad.told ad.fb ad.im ad.rep ad.eo ad.dr ad.sym ad.cR af.aK ad.dV ad.cG
set_option maxHeartbeats 2000000 in
theorem wK (b bl : Nat) (sz mo : Int) (po : Option Addr) (no co : Nat) (li di : Value) (s : ad.St) (B : List Int) (a : Nat) (sy : Int) (h0 : 0 ≤ sy ∧ sy < 1000) (hl : B.length < 500000000) (hB : af.ak B) (ha : a ≤ 8 * B.length) : aC Tryz.prog 202 [.pointer (some ⟨b, 0, none⟩), .int .i64 sy] [ai b 223 [.pointer (some ⟨bl, 0, none⟩), .int .i64 sz, .int .i64 mo, .slice po no co, .bool s.ended, .int .i64 0, .int .i64 s.kind, .int .i64 (s.left : Int), .bool s.last, li, di, .int .i64 (s.ax : Int), .int .i64 (s.bA : Int)], LW bl B a [] 0] (gB (ad.eo B sy a) (fun x v G => v = .int .i64 x.1 ∧ G = [ai b 223 [.pointer (some ⟨bl, 0, none⟩), .int .i64 sz, .int .i64 mo, .slice po no co, .bool s.ended, .int .i64 0, .int .i64 s.kind, .int .i64 (s.left : Int), .bool s.last, li, di, .int .i64 (s.ax : Int), .int .i64 (s.bA : Int)], LW bl B x.2 [] 0]) [MX b bl sz mo]) := by
 refine au [(0, _), (1, _)] Tryz.func202 rfl Tryz.ntmps202 rfl rfl ?_
 intro w0 F
 refine (QI) ?_
 rcases (Classical.em (sy < 29)) with hq | hq
 ·refine (Q4)<|(H0)<|(FG) ?_
  rintro _ _ ⟨rfl, rfl⟩
  refine (Qs) ?_
  refine aF rfl (fun h9 => ?_) (fun h9 => ?_)
  ·exact jz TT 10 rfl (by omega)<|jS (x := (3 + sy, a)) (ad.zN h0.1 (by omega) ha) (aw rfl) ⟨rfl, rfl⟩ (sub (aT .nil) ao)
  ·refine (Qp) ?_
   refine aF rfl (fun h14 => ?_) (fun h14 => ?_)
   ·exact rC TT 8 rfl<|jS (x := (258, a)) (ad.zF (by omega) ha) (aw rfl) ⟨rfl, rfl⟩ (sub (aT .nil) ao)
   ·refine (Qd)<|(pT)<|(vK) ?_
    rcases (Nat.lt_or_ge (8 * B.length) (a + (ad.fD sy))) with hx | hx
    ·refine (Q9) ?_
     obtain ⟨hk1, hk2, hk3⟩ := ad.xi (s := sy) (by omega) (by omega)
     have hsh := ad.k7 (x := 4 + sy % 4) (n := ad.fD sy) (by omega) (by omega) (by omega) rfl
     have hnb := af.bF B a (ad.fD sy)
     have hnc := af.qx (show ad.fD sy ≤ 24 by omega)
     rw [hk1]
     refine wN [pz 0 [] [1], pz 1 [0] [], pz 3 [1] [], pz 0 [] [5], pz 15 [2, 3] [], pz 31 [4] [], pz 0 [] [0], pz 64 [6] [], pz 192 [7] [], pz 448 [8] [], pz 0 [] [5], pz 1984 [9, 10] [], pz 4095 [5, 11] [], pz 8191 [12] []] [⟨fun y => ai b 223 [.pointer (some ⟨bl, 0, none⟩), .int .i64 sz, .int .i64 mo, .slice po no co, .bool s.ended, .int .i64 0, .int .i64 s.kind, .int .i64 (s.left : Int), .bool s.last, li, di, .int .i64 (s.ax : Int), .int .i64 (s.bA : Int)], none, none, [9, 11]⟩, ⟨fun y => LW bl B a [] 0, none, none, [11]⟩] F V.mixed ?_
     refine nM ?_
     refine nV (fun y hA L => kX rfl rfl (by omega) (mX (by omega))) ?_
     refine nV (fun y hA L => eb rfl rfl wI) ?_
     refine nM ?_
     refine nV (fun y hA L => gS (r := (4 + sy % 4) * 2 ^ ad.fD sy) rfl rfl (by omega) hsh.1) ?_
     refine nV (fun y hA L => eb rfl rfl wI) ?_
     refine nM ?_
     refine nN ?_
     refine nG V.gy ?_
     refine nR (fun y FF hA => az V.fV rfl aA rfl) ?_
     refine nM ?_
     refine aV (undef) _ _ (fun y => rfl) rfl (fun y => rfl) (fun y FF hA => fh (fw bl B a [] 0 (ad.fD sy) hl hB (by omega) (by omega) (by omega)) V.eh rfl (.cons ay .nil) (by rintro _ _ ⟨rfl, rfl⟩; exact kt (ad.vc (by omega) (by omega) hx) PE.end_ (aM (.cons ay .nil) (by exact xu (M := FF) (F := F)) (fun w0 h hh => bO hh)))) ?_
     refine aV (.bool true) _ _ (fun y => rfl) rfl (fun y => rfl) (fun y FF hA => (cI.fact (hA 11 (by decide)) (q := fun _ => False) rfl).elim) ?_
     refine aV (.bool true) _ _ (fun y => rfl) rfl (fun y => rfl) (fun y FF hA => (cI.fact (hA 11 (by decide)) (q := fun _ => False) rfl).elim) ?_
     refine cN ?_
     intro y hA
     exact (cI.fact (hA 11 (by exact Nat.le_of_ble_eq_true rfl)) (q := fun _ => False) rfl).elim
    ·refine (Q9) ?_
     obtain ⟨hk1, hk2, hk3⟩ := ad.xi (s := sy) (by omega) (by omega)
     have hsh := ad.k7 (x := 4 + sy % 4) (n := ad.fD sy) (by omega) (by omega) (by omega) rfl
     have hnb := af.bF B a (ad.fD sy)
     have hnc := af.qx (show ad.fD sy ≤ 24 by omega)
     rw [hk1]
     refine wN [pz 0 [] [1], pz 1 [0] [], pz 3 [1] [], pz 0 [] [5], pz 15 [2, 3] [], pz 31 [4] [], pz 0 [] [0], pz 64 [6] [], pz 192 [7] [], pz 448 [8] [], pz 0 [] [5], pz 1984 [9, 10] [], pz 4095 [5, 11] [], pz 8191 [12] []] [⟨fun y => ai b 223 [.pointer (some ⟨bl, 0, none⟩), .int .i64 sz, .int .i64 mo, .slice po no co, .bool s.ended, .int .i64 0, .int .i64 s.kind, .int .i64 (s.left : Int), .bool s.last, li, di, .int .i64 (s.ax : Int), .int .i64 (s.bA : Int)], none, none, [9]⟩, ⟨fun y => LW bl B a [] 0, none, some 11, []⟩, ⟨fun y => LW bl B (a + (ad.fD sy)) [] 0, some 11, none, []⟩] F V.mixed ?_
     refine nM ?_
     refine nV (fun y hA L => kX rfl rfl (by omega) (mX (by omega))) ?_
     refine nV (fun y hA L => eb rfl rfl wI) ?_
     refine nM ?_
     refine nV (fun y hA L => gS (r := (4 + sy % 4) * 2 ^ ad.fD sy) rfl rfl (by omega) hsh.1) ?_
     refine nV (fun y hA L => eb rfl rfl wI) ?_
     refine nM ?_
     refine nN ?_
     refine nG V.gy ?_
     refine nR (fun y FF hA => az V.fV rfl aA rfl) ?_
     refine nM ?_
     refine nE (fun y FF hA => aX (Post := [LW bl B (a + (ad.fD sy)) [] 0]) (eM bl B a [] 0 (ad.fD sy) hl hB (by omega) (by omega)) V.eh rfl (aq .nil) (fun v G h => by rcases h with ⟨rfl, rfl⟩; exact ⟨rfl, .refl _⟩)) ?_
     refine nV (fun y hA L => eb rfl rfl wI) ?_
     refine nA ?_
     refine cN ?_
     intro y hA
     clear hA
     refine bg<|bD _ (.cons (d := 4) rfl (.nil _))<|bb (M := ai b 223 [.pointer (some ⟨bl, 0, none⟩), .int .i64 sz, .int .i64 mo, .slice po no co, .bool s.ended, .int .i64 0, .int .i64 s.kind, .int .i64 (s.left : Int), .bool s.last, li, di, .int .i64 (s.ax : Int), .int .i64 (s.bA : Int)] :: LW bl B (a + (ad.fD sy)) [] 0 :: F) (fun _ _ h => h)<|(Q9) ?_
     exact jS (x := (3 + (4 + sy % 4) * 2 ^ ad.fD sy + af.aK B a (ad.fD sy), a + ad.fD sy)) (ad.DQ (by omega) (by omega) hx) (aw rfl) ⟨rfl, rfl⟩ (sub (aT .nil) ao)
 ·refine (Q4) ?_
  refine oV (bR (dW rfl rfl) hq)<|(Ab) ?_
  rintro _ _ ⟨rfl, rfl⟩
  refine (cS ?_)
  exact dk (ad.EG (by omega)) (PE.no (by decide)) (aM (aq .nil) bC (fun w0 h hh => bO hh))
set_option maxHeartbeats 2000000 in
theorem Ef (b bl : Nat) (sz mo : Int) (po : Option Addr) (no co : Nat) (li : Value) (dd : Nat) (s : ad.St) (B ds : List Int) (a : Nat) (hE : ae.a8 ds = 0) (hd : 0 < ds.length) (hl : B.length < 500000000) (hB : af.ak B) (ha : a ≤ 8 * B.length) : aC Tryz.prog 203 [.pointer (some ⟨b, 0, none⟩)] [ai b 223 [.pointer (some ⟨bl, 0, none⟩), .int .i64 sz, .int .i64 mo, .slice po no co, .bool s.ended, .int .i64 0, .int .i64 s.kind, .int .i64 (s.left : Int), .bool s.last, li, (.pointer (some ⟨dd, 0, none⟩)), .int .i64 (s.ax : Int), .int .i64 (s.bA : Int)], HC dd ds, LW bl B a [] 0] (gB (ad.dr B ds a) (fun x v G => v = .int .i64 x.1 ∧ G = [ai b 223 [.pointer (some ⟨bl, 0, none⟩), .int .i64 sz, .int .i64 mo, .slice po no co, .bool s.ended, .int .i64 0, .int .i64 s.kind, .int .i64 (s.left : Int), .bool s.last, li, (.pointer (some ⟨dd, 0, none⟩)), .int .i64 (s.ax : Int), .int .i64 (s.bA : Int)], HC dd ds, LW bl B x.2 [] 0]) [MX b bl sz mo]) := by
 refine au [(0, _)] Tryz.func203 rfl Tryz.ntmps203 rfl rfl ?_
 intro w0 F
 have hdl := ad.xM hE
 refine (QI) ?_
 rcases (ad.yo (B := B) (ls := ds) (a := a) hE hd) with ⟨e, hs⟩ | ⟨sy, a3, hs, h0, h1, h2, h3⟩
 ·refine (Q9) ?_
  refine wN [pz 0 [] [0], pz 1 [0] [], pz 3 [1] [], pz 7 [2] [], pz 0 [] [0], pz 16 [4] [], pz 48 [5] [], pz 112 [6] [], pz 255 [3, 7] [], pz 511 [8] []] [⟨fun y => ai b 223 [.pointer (some ⟨bl, 0, none⟩), .int .i64 sz, .int .i64 mo, .slice po no co, .bool s.ended, .int .i64 0, .int .i64 s.kind, .int .i64 (s.left : Int), .bool s.last, li, (.pointer (some ⟨dd, 0, none⟩)), .int .i64 (s.ax : Int), .int .i64 (s.bA : Int)], none, none, [3, 7, 8]⟩, ⟨fun y => HC dd ds, none, none, [8]⟩, ⟨fun y => LW bl B a [] 0, none, none, [8]⟩] F V.mixed ?_
  refine nM ?_
  refine nN ?_
  refine nG V.uO ?_
  refine (Jw) ?_
  refine nM ?_
  refine nN ?_
  refine (mP) ?_
  refine (mA) ?_
  refine aV (undef) _ _ (fun y => rfl) rfl (fun y => rfl) (fun y FF hA => fh ((mC dd ds bl B a [] 0 hE hl hB ha).err hs) V.pq rfl (.cons ay (.cons ay .nil)) (by rintro _ _ ⟨hp, rfl⟩; exact kt (ad.E8 hs) hp (aM (aq .nil) (by exact vx (M := FF) (F := F)) (fun w0 h hh => bO hh)))) ?_
  refine (VT) ?_
  refine (Qb) ?_
  intro y hA
  exact (cI.fact (hA 8 (by exact Nat.le_of_ble_eq_true rfl)) (q := fun _ => False) rfl).elim
 ·refine (Q9) ?_
  refine wN [pz 0 [] [0], pz 1 [0] [], pz 3 [1] [], pz 7 [2] [], pz 0 [] [0], pz 16 [4] [], pz 48 [5] [], pz 112 [6] [], pz 255 [3, 7] [], pz 511 [8] []] [⟨fun y => ai b 223 [.pointer (some ⟨bl, 0, none⟩), .int .i64 sz, .int .i64 mo, .slice po no co, .bool s.ended, .int .i64 0, .int .i64 s.kind, .int .i64 (s.left : Int), .bool s.last, li, (.pointer (some ⟨dd, 0, none⟩)), .int .i64 (s.ax : Int), .int .i64 (s.bA : Int)], none, none, [3, 7]⟩, ⟨fun y => HC dd ds, none, some 8, []⟩, ⟨fun y => LW bl B a [] 0, none, some 8, []⟩, ⟨fun y => HC dd ds, some 8, none, []⟩, ⟨fun y => LW bl B a3 [] 0, some 8, none, []⟩] F V.mixed ?_
  refine nM ?_
  refine nN ?_
  refine nG V.uO ?_
  refine (Jw) ?_
  refine nM ?_
  refine nN ?_
  refine (mP) ?_
  refine (mA) ?_
  refine nE (fun y FF hA => aX (Post := [HC dd ds, LW bl B a3 [] 0]) ((mC dd ds bl B a [] 0 hE hl hB ha).ok hs) V.pq rfl (aT .nil) (fun v G h => by rcases h with ⟨rfl, rfl⟩; exact ⟨rfl, .refl _⟩)) ?_
  refine nA ?_
  refine (Qb) ?_
  intro y hA
  clear hA
  refine bg<|bD _ (.cons (d := 0) rfl (.cons (d := 3) rfl (.nil _)))<|bb (M := ai b 223 [.pointer (some ⟨bl, 0, none⟩), .int .i64 sz, .int .i64 mo, .slice po no co, .bool s.ended, .int .i64 0, .int .i64 s.kind, .int .i64 (s.left : Int), .bool s.last, li, (.pointer (some ⟨dd, 0, none⟩)), .int .i64 (s.ax : Int), .int .i64 (s.bA : Int)] :: HC dd ds :: LW bl B a3 [] 0 :: F) (fun _ _ h => h) ?_
  rcases (Classical.em (sy < 30)) with hq | hq
  ·refine (Q4)<|(H0)<|(FG) ?_
   rintro _ _ ⟨rfl, rfl⟩
   refine (Qn) ?_
   refine aF rfl (fun h18 => ?_) (fun h18 => ?_)
   ·exact jz TT 9 rfl (by omega)<|jS (x := (1 + sy, a3)) (ad.yC hs h0 (by omega) h3) (aw rfl) ⟨rfl, rfl⟩ (sub (fQ .nil) ao)
   ·refine (Qg)<|(pT)<|(vK) ?_
    rcases (Nat.lt_or_ge (8 * B.length) (a3 + (ad.fX sy))) with hx | hx
    ·refine (Q9) ?_
     obtain ⟨hk1, hk2, hk3⟩ := ad.y9 (s := sy) (by omega) (by omega)
     have hsh := ad.k7 (x := 2 + sy % 2) (n := ad.fX sy) (by omega) (by omega) (by omega) rfl
     have hnb := af.bF B a3 (ad.fX sy)
     have hnc := af.qx (show ad.fX sy ≤ 24 by omega)
     rw [hk1]
     refine wN [pz 0 [] [3], pz 1 [0] [], pz 3 [1] [], pz 0 [] [4], pz 15 [2, 3] [], pz 31 [4] [], pz 0 [] [0], pz 64 [6] [], pz 192 [7] [], pz 448 [8] [], pz 0 [] [4], pz 1984 [9, 10] [], pz 4095 [5, 11] [], pz 8191 [12] []] [⟨fun y => ai b 223 [.pointer (some ⟨bl, 0, none⟩), .int .i64 sz, .int .i64 mo, .slice po no co, .bool s.ended, .int .i64 0, .int .i64 s.kind, .int .i64 (s.left : Int), .bool s.last, li, (.pointer (some ⟨dd, 0, none⟩)), .int .i64 (s.ax : Int), .int .i64 (s.bA : Int)], none, none, [9, 11]⟩, ⟨fun y => HC dd ds, none, none, []⟩, ⟨fun y => LW bl B a3 [] 0, none, none, [11]⟩] F V.mixed ?_
     refine nM ?_
     refine (SH) ?_
     refine (Qy) ?_
     refine nM ?_
     refine (Vk) ?_
     refine (Qy) ?_
     refine nM ?_
     refine nN ?_
     refine (mP) ?_
     refine (mA) ?_
     refine nM ?_
     refine aV (undef) _ _ (fun y => rfl) rfl (fun y => rfl) (fun y FF hA => fh (fw bl B a3 [] 0 (ad.fX sy) hl hB (by omega) (by omega) (by omega)) V.eh rfl (.cons ay .nil) (by rintro _ _ ⟨rfl, rfl⟩; exact kt (ad.tp hs (by omega) (by omega) hx) PE.end_ (aM (.cons ay .nil) (by exact xu (M := FF) (F := F)) (fun w0 h hh => bO hh)))) ?_
     refine (Ve) ?_
     refine (Ve) ?_
     refine (Qb) ?_
     intro y hA
     exact (cI.fact (hA 11 (by exact Nat.le_of_ble_eq_true rfl)) (q := fun _ => False) rfl).elim
    ·refine (Q9) ?_
     obtain ⟨hk1, hk2, hk3⟩ := ad.y9 (s := sy) (by omega) (by omega)
     have hsh := ad.k7 (x := 2 + sy % 2) (n := ad.fX sy) (by omega) (by omega) (by omega) rfl
     have hnb := af.bF B a3 (ad.fX sy)
     have hnc := af.qx (show ad.fX sy ≤ 24 by omega)
     rw [hk1]
     refine wN [pz 0 [] [3], pz 1 [0] [], pz 3 [1] [], pz 0 [] [4], pz 15 [2, 3] [], pz 31 [4] [], pz 0 [] [0], pz 64 [6] [], pz 192 [7] [], pz 448 [8] [], pz 0 [] [4], pz 1984 [9, 10] [], pz 4095 [5, 11] [], pz 8191 [12] []] [⟨fun y => ai b 223 [.pointer (some ⟨bl, 0, none⟩), .int .i64 sz, .int .i64 mo, .slice po no co, .bool s.ended, .int .i64 0, .int .i64 s.kind, .int .i64 (s.left : Int), .bool s.last, li, (.pointer (some ⟨dd, 0, none⟩)), .int .i64 (s.ax : Int), .int .i64 (s.bA : Int)], none, none, [9]⟩, ⟨fun y => HC dd ds, none, none, []⟩, ⟨fun y => LW bl B a3 [] 0, none, some 11, []⟩, ⟨fun y => LW bl B (a3 + (ad.fX sy)) [] 0, some 11, none, []⟩] F V.mixed ?_
     refine nM ?_
     refine (SH) ?_
     refine (Qy) ?_
     refine nM ?_
     refine (Vk) ?_
     refine (Qy) ?_
     refine nM ?_
     refine nN ?_
     refine (mP) ?_
     refine (mA) ?_
     refine nM ?_
     refine nE (fun y FF hA => aX (Post := [LW bl B (a3 + (ad.fX sy)) [] 0]) (eM bl B a3 [] 0 (ad.fX sy) hl hB (by omega) (by omega)) V.eh rfl (aq .nil) (fun v G h => by rcases h with ⟨rfl, rfl⟩; exact ⟨rfl, .refl _⟩)) ?_
     refine (Qy) ?_
     refine nA ?_
     refine (Qb) ?_
     intro y hA
     clear hA
     refine bg<|(Jy) ?_
     refine bb (M := ai b 223 [.pointer (some ⟨bl, 0, none⟩), .int .i64 sz, .int .i64 mo, .slice po no co, .bool s.ended, .int .i64 0, .int .i64 s.kind, .int .i64 (s.left : Int), .bool s.last, li, (.pointer (some ⟨dd, 0, none⟩)), .int .i64 (s.ax : Int), .int .i64 (s.bA : Int)] :: HC dd ds :: LW bl B (a3 + (ad.fX sy)) [] 0 :: F) (fun _ _ h => h)<|(Q9) ?_
     exact jS (x := (1 + (2 + sy % 2) * 2 ^ ad.fX sy + af.aK B a3 (ad.fX sy), a3 + ad.fX sy)) (ad.Bh hs (by omega) (by omega) hx) (aw rfl) ⟨rfl, rfl⟩ (sub (fQ .nil) ao)
  ·refine (Q4) ?_
   refine oV (bR (dW rfl rfl) hq)<|(Ab) ?_
   rintro _ _ ⟨rfl, rfl⟩
   refine (cS ?_)
   exact dk (ad.Bn hs (by omega)) (PE.no (by decide)) (aM (aq .nil) fS (fun w0 h hh => bO hh))
set_option maxHeartbeats 4000000 in
theorem zu (b bl : Nat) (sz mo : Int) (li di : Value) (s : ad.St) (B : List Int) (hl : B.length < 500000000) (hB : af.ak B) (ha : s.at_ ≤ 8 * B.length) : aC Tryz.prog 180 [.pointer (some ⟨b, 0, none⟩)] [MS b bl sz mo li di s, LW bl B s.at_ [] 0] (gB (ad.cG B s) (fun s2 v G => v = .tuple #[] ∧ G = [MM b bl sz mo B s2]) [MX b bl sz mo]) := by
 refine au [(0, _)] Tryz.func180 rfl Tryz.ntmps180 rfl rfl ?_
 intro w0 F
 refine (qg) ?_
 rintro ⟨po, co⟩ _
 dsimp only
 have hn1 := af.bF B (ad.cR (s.at_ + 3)) 16
 have hn2 := af.bF B ((ad.cR (s.at_ + 3)) + 16) 16
 have hal : ad.cR (s.at_ + 3) = (s.at_ + 3 + 7) / 8 * 8 := ad.wL _
 rcases (Nat.lt_or_ge (8 * B.length) (s.at_ + 1)) with hx0 | hx0
 ·refine (QV)<|(pM) ?_
  refine c9 (fw bl B s.at_ [] 0 1 hl hB (by omega) (by omega) (by omega)) V.eh rfl (.cons bj .nil) ?_
  rintro _ _ ⟨rfl, rfl⟩
  refine (cS ?_)
  exact dk (ad.Ca (by omega)) PE.end_ (aM (.cons ay .nil) fS (fun w0 h hh => bO hh))
 ·refine (QV)<|(pM) ?_
  refine aj (eM bl B s.at_ [] 0 1 hl hB (by omega) (by omega)) V.eh  rfl (.cons bj .nil) rfl ?_
  rintro _ _ ⟨rfl, rfl⟩
  refine (Qe)<|(vH)<|(Q7) ?_
  rcases (Nat.lt_or_ge (8 * B.length) (s.at_ + 3)) with hx1 | hx1
  ·refine (Qd) ?_
   refine oV (az V.fV rfl dM rfl)<|c9 (fw bl B (s.at_ + 1) [] 0 2 hl hB (by omega) (by omega) (by omega)) V.eh rfl (aq .nil) ?_
   rintro _ _ ⟨rfl, rfl⟩
   refine (cS ?_)
   exact dk (ad.Ca (by omega)) PE.end_ (aM (.cons ay .nil) fS (fun w0 h hh => bO hh))
  ·refine (Qd) ?_
   refine oV (az V.fV rfl dM rfl)<|aj (eM bl B (s.at_ + 1) [] 0 2 hl hB (by omega) (by omega)) V.eh  rfl (aq .nil) rfl ?_
   rintro _ _ ⟨rfl, rfl⟩
   refine (Q7) ?_
   refine cu (dz V.s3 rfl rfl rfl (by exact tg) (by exact Nat.le_of_ble_eq_true rfl) rfl)<|(Qc)<|(QU)<|(Qn) ?_
   refine aF rfl (fun h26 => ?_) (fun h26 => ?_)
   ·refine (Qg) ?_
    refine oV (az V.fV rfl dM rfl)<|aj (Kg bl B (s.at_ + 3) [] 0 hl (by omega)) V.XV  rfl (aq .nil) rfl ?_
    rintro _ _ ⟨rfl, rfl⟩
    refine (Q7) ?_
    rcases (ad.T4 B.length (ad.cR (s.at_ + 3))) with hx | ⟨hx2, hx⟩ | hx
    ·refine (Q9) ?_
     have hk0 : (af.aK B (s.at_ + 1) 2) = 0 := by omega
     refine wN [pz 0 [] [0], pz 1 [0] [], pz 3 [1] [], pz 7 [2] [], pz 15 [3] [], pz 0 [] [0], pz 32 [5] [], pz 96 [6] [], pz 224 [7] [], pz 511 [8] [], pz 1023 [4] [], pz 2047 [9] []] [⟨fun y => LW bl B (ad.cR (s.at_ + 3)) [] 0, none, none, [4]⟩, ⟨fun y => ai b 223 [.pointer (some ⟨bl, 0, none⟩), .int .i64 sz, .int .i64 mo, .slice po s.out.length co, .bool s.ended, .int .i64 0, .int .i64 (af.aK B (s.at_ + 1) 2), .int .i64 (s.left : Int), .bool (decide (af.aK B s.at_ 1 = 1)), li, di, .int .i64 (s.ax : Int), .int .i64 (s.bA : Int)], none, none, [3, 4, 8]⟩, ⟨fun y => Row U5 po s.out.length co s.out, none, none, []⟩] F V.mixed ?_
     refine nM ?_
     refine nN ?_
     refine (mP) ?_
     refine (mA) ?_
     refine aV (undef) _ _ (fun y => rfl) rfl (fun y => rfl) (fun y FF hA => fh (fw bl B (ad.cR (s.at_ + 3)) [] 0 16 hl hB (by omega) (by omega) (by omega)) V.eh rfl (aq .nil) (by rintro _ _ ⟨rfl, rfl⟩; exact kt (ad.xV hx1 hk0 (by omega)) PE.end_ (aM (.cons ay .nil) (by exact xu (M := FF) (F := F)) (fun w0 h hh => bO hh)))) ?_
     refine nM ?_
     refine nN ?_
     refine (mP) ?_
     refine (mA) ?_
     refine (Pz) ?_
     refine (Pz) ?_
     refine (Pz) ?_
     refine (Qb) ?_
     intro y hA
     exact (cI.fact (hA 4 (by exact Nat.le_of_ble_eq_true rfl)) (q := fun _ => False) rfl).elim
    ·refine (Q9) ?_
     have hk0 : (af.aK B (s.at_ + 1) 2) = 0 := by omega
     refine wN [pz 0 [] [0], pz 1 [0] [], pz 3 [1] [], pz 7 [2] [], pz 15 [3] [], pz 0 [] [0], pz 32 [5] [], pz 96 [6] [], pz 224 [7] [], pz 511 [8] [], pz 1023 [4] [], pz 2047 [9] []] [⟨fun y => LW bl B (ad.cR (s.at_ + 3)) [] 0, none, some 4, []⟩, ⟨fun y => ai b 223 [.pointer (some ⟨bl, 0, none⟩), .int .i64 sz, .int .i64 mo, .slice po s.out.length co, .bool s.ended, .int .i64 0, .int .i64 (af.aK B (s.at_ + 1) 2), .int .i64 (s.left : Int), .bool (decide (af.aK B s.at_ 1 = 1)), li, di, .int .i64 (s.ax : Int), .int .i64 (s.bA : Int)], none, none, [3, 8, 9]⟩, ⟨fun y => Row U5 po s.out.length co s.out, none, none, []⟩, ⟨fun y => LW bl B ((ad.cR (s.at_ + 3)) + 16) [] 0, some 4, none, [9]⟩] F V.mixed ?_
     refine nM ?_
     refine nN ?_
     refine (mP) ?_
     refine (mA) ?_
     refine (VM) ?_
     refine nM ?_
     refine nN ?_
     refine (mP) ?_
     refine (mA) ?_
     refine aV (undef) _ _ (fun y => rfl) rfl (fun y => rfl) (fun y FF hA => fh (fw bl B ((ad.cR (s.at_ + 3)) + 16) [] 0 16 hl hB (by omega) (by omega) (by omega)) V.eh rfl (.cons ay .nil) (by rintro _ _ ⟨rfl, rfl⟩; exact kt (ad.xV hx1 hk0 (by omega)) PE.end_ (aM (.cons ay .nil) (by exact xu (M := FF) (F := F)) (fun w0 h hh => bO hh)))) ?_
     refine (UX) ?_
     refine (UX) ?_
     refine (Qb) ?_
     intro y hA
     exact (cI.fact (hA 9 (by exact Nat.le_of_ble_eq_true rfl)) (q := fun _ => False) rfl).elim
    ·refine (Q9) ?_
     have hk0 : (af.aK B (s.at_ + 1) 2) = 0 := by omega
     refine wN [pz 0 [] [0], pz 1 [0] [], pz 3 [1] [], pz 7 [2] [], pz 15 [3] [], pz 0 [] [0], pz 32 [5] [], pz 96 [6] [], pz 224 [7] [], pz 511 [8] [], pz 1023 [4] [], pz 2047 [9] []] [⟨fun y => LW bl B (ad.cR (s.at_ + 3)) [] 0, none, some 4, []⟩, ⟨fun y => ai b 223 [.pointer (some ⟨bl, 0, none⟩), .int .i64 sz, .int .i64 mo, .slice po s.out.length co, .bool s.ended, .int .i64 0, .int .i64 (af.aK B (s.at_ + 1) 2), .int .i64 (s.left : Int), .bool (decide (af.aK B s.at_ 1 = 1)), li, di, .int .i64 (s.ax : Int), .int .i64 (s.bA : Int)], none, none, [3, 8]⟩, ⟨fun y => Row U5 po s.out.length co s.out, none, none, []⟩, ⟨fun y => LW bl B ((ad.cR (s.at_ + 3)) + 16) [] 0, some 4, some 9, []⟩, ⟨fun y => LW bl B ((ad.cR (s.at_ + 3)) + 32) [] 0, some 9, none, []⟩] F V.mixed ?_
     refine nM ?_
     refine nN ?_
     refine (mP) ?_
     refine (mA) ?_
     refine (VM) ?_
     refine nM ?_
     refine nN ?_
     refine (mP) ?_
     refine (mA) ?_
     refine nE (fun y FF hA => aX (Post := [LW bl B ((ad.cR (s.at_ + 3)) + 32) [] 0]) (eM bl B ((ad.cR (s.at_ + 3)) + 16) [] 0 16 hl hB (by omega) (by omega)) V.eh rfl (aq .nil) (fun v G h => by rcases h with ⟨rfl, rfl⟩; exact ⟨rfl, .refl _⟩)) ?_
     iterate 2 refine nA ?_
     refine (Qb) ?_
     intro y hA
     clear hA
     refine bg<|bD _ (.cons (d := 0) rfl (.cons (d := 2) rfl (.cons (d := 3) rfl (.nil _))))<|bb (M := ai b 223 [.pointer (some ⟨bl, 0, none⟩), .int .i64 sz, .int .i64 mo, .slice po s.out.length co, .bool s.ended, .int .i64 0, .int .i64 (af.aK B (s.at_ + 1) 2), .int .i64 (s.left : Int), .bool (decide (af.aK B s.at_ 1 = 1)), li, di, .int .i64 (s.ax : Int), .int .i64 (s.bA : Int)] :: Row U5 po s.out.length co s.out :: LW bl B ((ad.cR (s.at_ + 3)) + 32) [] 0 :: F) (fun _ _ h => h) ?_
     rcases (Classical.em ((af.aK B (ad.cR (s.at_ + 3)) 16) = 65535 - (af.aK B ((ad.cR (s.at_ + 3)) + 16) 16))) with hm | hm
     ·refine (Q5)<|(Vg) ?_
      refine oV (cJ (da rfl rfl) ((ad.Ih hn1 hn2).2 hm))<|(FG) ?_
      rintro _ _ ⟨rfl, rfl⟩
      refine (Qc)<|(pL)<|(Q7) ?_
      rw [hk0, show (af.aK B (ad.cR (s.at_ + 3)) 16) = ((((af.aK B (ad.cR (s.at_ + 3)) 16)).toNat : Nat) : Int) from (Int.toNat_of_nonneg hn1.1).symm]
      exact gx (x := { s with at_ := ad.cR (s.at_ + 3) + 32, kind := 0, left := (af.aK B (ad.cR (s.at_ + 3)) 16).toNat, last := (decide (af.aK B s.at_ 1 = 1)) }) (ad.ye hx1 hk0 (by omega) hm) ez ⟨rfl, rfl⟩ ((aM (aT .nil) .refl (fun w0 h hh => cT (s := { s with at_ := ad.cR (s.at_ + 3) + 32, kind := 0, left := (af.aK B (ad.cR (s.at_ + 3)) 16).toNat, last := (decide (af.aK B s.at_ 1 = 1)) }) rfl hh)).trans (aM (aT .nil) ao (fun w0 h hh => mD (s := { s with at_ := ad.cR (s.at_ + 3) + 32, kind := 0, left := (af.aK B (ad.cR (s.at_ + 3)) 16).toNat, last := (decide (af.aK B s.at_ 1 = 1)) }) (Int.le_refl _) hh)))
     ·refine (Q5)<|(Vg) ?_
      refine oV (bR (da rfl rfl) (fun h => hm ((ad.Ih hn1 hn2).1 h)))<|(Ab) ?_
      rintro _ _ ⟨rfl, rfl⟩
      refine (cS (ev ?_))
      exact dk (ad.Fj hx1 hk0 (by omega) hm) (PE.no (by decide)) (aM (aq .nil) fS (fun w0 h hh => bO hh))
   ·refine (Qd) ?_
    refine aF rfl (fun h52 => ?_) (fun h52 => ?_)
    ·refine (Qa) ?_
     refine aj (LM b bl sz mo po s.out.length co li di { s with kind := (af.aK B (s.at_ + 1) 2), last := (decide (af.aK B s.at_ 1 = 1)) }) V.Xh  rfl (.cons ay .nil) rfl ?_
     rintro _ _ ⟨lb, db, rfl, rfl⟩
     refine (Q7) ?_
     have hk1 : (af.aK B (s.at_ + 1) 2) = 1 := by omega
     rw [hk1]
     exact gx (x := { s with at_ := s.at_ + 3, kind := 1, last := (decide (af.aK B s.at_ 1 = 1)), lits := ad.fb, dD := ad.kz }) (ad.I4 hx1 hk1) ez ⟨rfl, rfl⟩ ((aM (aq (.cons dw .nil)) .refl (fun w0 h hh => cT (s := { s with at_ := s.at_ + 3, kind := 1, last := (decide (af.aK B s.at_ 1 = 1)), lits := ad.fb, dD := ad.kz }) rfl hh)).trans (aM (aq (.cons bj (.cons dg (.cons dg .nil)))) ao (fun w0 h hh => lg (s := { s with at_ := s.at_ + 3, kind := 1, last := (decide (af.aK B s.at_ 1 = 1)), lits := ad.fb, dD := ad.kz }) hh)))
    ·refine (Qd) ?_
     refine aF rfl (fun h56 => ?_) (fun h56 => ?_)
     ·rcases (ad.fH (ad.told B (s.at_ + 3))) with ⟨e, ht⟩ | ⟨⟨x3, ll, dl⟩, ht⟩
      ·refine (Qa) ?_
       refine c9 ((Ez b bl sz mo po s.out.length co li di { s with kind := (af.aK B (s.at_ + 1) 2), last := (decide (af.aK B s.at_ 1 = 1)) } B (s.at_ + 3) hl hB (by omega)).err ht) V.MW rfl (.cons ay (aq .nil)) ?_
       rintro _ _ ⟨hp, rfl⟩
       refine (ev ?_)
       exact dk (ad.EF hx1 (by omega) ht) hp (sub (aq .nil) bC)
      ·refine (Qa) ?_
       refine aj ((Ez b bl sz mo po s.out.length co li di { s with kind := (af.aK B (s.at_ + 1) 2), last := (decide (af.aK B s.at_ 1 = 1)) } B (s.at_ + 3) hl hB (by omega)).ok ht) V.MW  rfl (.cons ay (aq .nil)) rfl ?_
       rintro _ _ ⟨lb, db, rfl, rfl⟩
       refine (Q7) ?_
       have hk2 : (af.aK B (s.at_ + 1) 2) = 2 := by omega
       rw [hk2]
       exact gx (x := { s with at_ := x3, kind := 2, last := (decide (af.aK B s.at_ 1 = 1)), lits := ll, dD := dl }) (ad.Fk hx1 hk2 ht) ez ⟨rfl, rfl⟩ ((aM (aq (.cons dw .nil)) .refl (fun w0 h hh => cT (s := { s with at_ := x3, kind := 2, last := (decide (af.aK B s.at_ 1 = 1)), lits := ll, dD := dl }) rfl hh)).trans (aM (mH .nil) ao (fun w0 h hh => lg (s := { s with at_ := x3, kind := 2, last := (decide (af.aK B s.at_ 1 = 1)), lits := ll, dD := dl }) hh)))
     ·refine (Qo)<|(Ab) ?_
      rintro _ _ ⟨rfl, rfl⟩
      refine (ev ?_)
      exact dk (ad.Eu hx1 (by omega) (by omega) (by omega)) (PE.no (by decide)) (aM (.cons ay .nil) fS (fun w0 h hh => bO hh))
end Go.Proofs.YtmaiakpjgomnpaaGreat
namespace Go.Proofs.YtmaiakpjgomnpaaGreat
open Go.Sl 
attribute [local irreducible] ae.a8 ae.tk ae.ord ae.bJ ae.words ae.bX ad.gH ad.bT ad.cx ad.dj ad.hL ad.hD ad.hC ad.eB ad.told ad.fb ad.im ad.rep ad.eo ad.dr ad.sym ad.cR af.aK ad.dV ad.cG ad.dU
theorem nh (b bl : Nat) (sz mo : Int) (po : Option Addr) (co : Nat) (li di : Value) (s : ad.St) (yb : Int) (hy : 0 ≤ yb ∧ yb < 256) (hm : mo < 1000000000) : aC Tryz.prog 179 [.pointer (some ⟨b, 0, none⟩), .int .u8 yb] [ai b 223 [.pointer (some ⟨bl, 0, none⟩), .int .i64 sz, .int .i64 mo, .slice po s.out.length co, .bool s.ended, .int .i64 0, .int .i64 s.kind, .int .i64 (s.left : Int), .bool s.last, li, di, .int .i64 (s.ax : Int), .int .i64 (s.bA : Int)], Row U5 po s.out.length co s.out] (gB (ad.dU mo s yb) (fun s2 v G => v = .tuple #[] ∧ G = [MS b bl sz mo li di s2]) [MX b bl sz mo]) :=
 aC.fold (M3 b bl sz mo li di s yb hy hm) (fun w0 h hh => cT rfl hh)
set_option maxHeartbeats 4000000 in
theorem Bw (b bl : Nat) (sz mo : Int) (l d : Nat) (s : ad.St) (B : List Int) (hl : B.length < 500000000) (hB : af.ak B) (hm : mo < 1000000000) (hok : ad.Ok B mo s) (hk : 0 < s.kind) : aC Tryz.prog 181 [.pointer (some ⟨b, 0, none⟩)] [MS b bl sz mo (.pointer (some ⟨l, 0, none⟩)) (.pointer (some ⟨d, 0, none⟩)) s, LW bl B s.at_ [] 0, HC l s.lits, HC d s.dD] (gB (ad.dV B mo s) (fun s2 v G => v = .tuple #[] ∧ G = [MM b bl sz mo B s2]) [MX b bl sz mo]) := by
 refine au [(0, _)] Tryz.func181 rfl Tryz.ntmps181 rfl rfl ?_
 intro w0 F
 refine (qg) ?_
 rintro ⟨po, co⟩ _
 dsimp only
 obtain ⟨hE1, hE2, hz1, hz2⟩ := hok.Jg hk
 have ha := hok.at_
 have hll := ad.xM hE1
 have hro := hok.room
 rcases (ad.yo (B := B) (ls := s.lits) (a := s.at_) hE1 hz1) with ⟨e, hs⟩ | ⟨sy, a1, hs, hy0, hy1, ha0, ha1⟩
 ·refine rT TT 1 rfl ?_
  refine wN [pz 0 [] [0], pz 1 [0] [], pz 3 [1] [], pz 7 [2] [], pz 0 [] [0], pz 16 [4] [], pz 48 [5] [], pz 112 [6] [], pz 255 [3, 7] [], pz 511 [8] []] [⟨fun y => ai b 223 [.pointer (some ⟨bl, 0, none⟩), .int .i64 sz, .int .i64 mo, .slice po s.out.length co, .bool s.ended, .int .i64 0, .int .i64 s.kind, .int .i64 (s.left : Int), .bool s.last, (.pointer (some ⟨l, 0, none⟩)), (.pointer (some ⟨d, 0, none⟩)), .int .i64 (s.ax : Int), .int .i64 (s.bA : Int)], none, none, [3, 7, 8]⟩, ⟨fun y => Row U5 po s.out.length co s.out, none, none, []⟩, ⟨fun y => LW bl B s.at_ [] 0, none, none, [8]⟩, ⟨fun y => HC l s.lits, none, none, [8]⟩, ⟨fun y => HC d s.dD, none, none, []⟩] F V.mixed ?_
  refine nM ?_
  refine nN ?_
  refine nG V.wG ?_
  refine (Jw) ?_
  refine nM ?_
  refine nN ?_
  refine (mP) ?_
  refine (mA) ?_
  refine aV (undef) _ _ (fun y => rfl) rfl (fun y => rfl) (fun y FF hA => fh ((mC l s.lits bl B s.at_ [] 0 hE1 hl hB ha).err hs) V.pq rfl (.cons bj (.cons ay .nil)) (by rintro _ _ ⟨hp, rfl⟩; exact kt (ad.wj hs) hp (aM (aq .nil) (by exact vx (M := FF) (F := F)) (fun w0 h hh => bO hh)))) ?_
  refine (VT) ?_
  refine (Qb) ?_
  intro y hA
  exact (cI.fact (hA 8 (by exact Nat.le_of_ble_eq_true rfl)) (q := fun _ => False) rfl).elim
 ·refine rT TT 1 rfl ?_
  refine wN [pz 0 [] [0], pz 1 [0] [], pz 3 [1] [], pz 7 [2] [], pz 0 [] [0], pz 16 [4] [], pz 48 [5] [], pz 112 [6] [], pz 255 [3, 7] [], pz 511 [8] []] [⟨fun y => ai b 223 [.pointer (some ⟨bl, 0, none⟩), .int .i64 sz, .int .i64 mo, .slice po s.out.length co, .bool s.ended, .int .i64 0, .int .i64 s.kind, .int .i64 (s.left : Int), .bool s.last, (.pointer (some ⟨l, 0, none⟩)), (.pointer (some ⟨d, 0, none⟩)), .int .i64 (s.ax : Int), .int .i64 (s.bA : Int)], none, none, [3, 7]⟩, ⟨fun y => Row U5 po s.out.length co s.out, none, none, []⟩, ⟨fun y => LW bl B s.at_ [] 0, none, some 8, []⟩, ⟨fun y => HC l s.lits, none, some 8, []⟩, ⟨fun y => HC d s.dD, none, none, []⟩, ⟨fun y => HC l s.lits, some 8, none, []⟩, ⟨fun y => LW bl B a1 [] 0, some 8, none, []⟩] F V.mixed ?_
  refine nM ?_
  refine nN ?_
  refine nG V.wG ?_
  refine (Jw) ?_
  refine nM ?_
  refine nN ?_
  refine (mP) ?_
  refine (mA) ?_
  refine nE (fun y FF hA => aX (Post := [HC l s.lits, LW bl B a1 [] 0]) ((mC l s.lits bl B s.at_ [] 0 hE1 hl hB ha).ok hs) V.pq rfl (.cons ay (aq .nil)) (fun v G h => by rcases h with ⟨rfl, rfl⟩; exact ⟨rfl, .refl _⟩)) ?_
  refine nA ?_
  refine (Qb) ?_
  intro y hA
  clear hA
  refine bg<|bD _ (.cons (d := 0) rfl (.cons (d := 2) rfl (.nil _)))<|bb (M := ai b 223 [.pointer (some ⟨bl, 0, none⟩), .int .i64 sz, .int .i64 mo, .slice po s.out.length co, .bool s.ended, .int .i64 0, .int .i64 s.kind, .int .i64 (s.left : Int), .bool s.last, (.pointer (some ⟨l, 0, none⟩)), (.pointer (some ⟨d, 0, none⟩)), .int .i64 (s.ax : Int), .int .i64 (s.bA : Int)] :: Row U5 po s.out.length co s.out :: HC d s.dD :: HC l s.lits :: LW bl B a1 [] 0 :: F) (fun _ _ h => h)<|rC TT 8 rfl ?_
  refine aF rfl (fun h36 => ?_) (fun h36 => ?_)
  ·rcases (ad.fH (ad.dU mo { s with at_ := a1 } sy)) with ⟨e, hp⟩ | ⟨s2, hp⟩
   ·refine (Q4)<|(pU) ?_
    refine c9 ((nh b bl sz mo po co (.pointer (some ⟨l, 0, none⟩)) (.pointer (some ⟨d, 0, none⟩)) { s with at_ := a1 } sy (by omega) hm).err hp) V.uv rfl (aT .nil) ?_
    rintro _ _ ⟨hpe, rfl⟩
    refine (ev ?_)
    exact dk ((ad.nC hs (by omega)).trans hp) hpe (sub (aq .nil) my)
   ·refine (Q4)<|(pU) ?_
    refine aj ((nh b bl sz mo po co (.pointer (some ⟨l, 0, none⟩)) (.pointer (some ⟨d, 0, none⟩)) { s with at_ := a1 } sy (by omega) hm).ok hp) V.uv  rfl (aT .nil) rfl ?_
    rintro _ _ ⟨rfl, rfl⟩
    refine (Q7) ?_
    obtain ⟨_, rfl⟩ := ad.pW hp
    exact gx ((ad.nC hs (by omega)).trans hp) ez ⟨rfl, rfl⟩ (aM (aq (.cons bj (.cons ay (.cons dg .nil)))) ao (fun w0 h hh => lg (s := { s with at_ := a1, out := s.out ++ [sy] }) hh))
  ·refine (Qp) ?_
   refine aF rfl (fun h43 => ?_) (fun h43 => ?_)
   ·refine (Qa) ?_
    refine aj (AQ b bl sz mo po s.out.length co (.pointer (some ⟨l, 0, none⟩)) (.pointer (some ⟨d, 0, none⟩)) s) V.Sk  rfl (aq .nil) rfl ?_
    rintro _ _ ⟨rfl, rfl⟩
    refine (Q7) ?_
    exact gx (x := { s with at_ := a1, kind := -1, ended := s.last }) (ad.ra hs (by omega)) ez ⟨rfl, rfl⟩ ((aM (aT .nil) .refl (fun w0 h hh => cT (s := { s with at_ := a1, kind := -1, ended := s.last }) rfl hh)).trans (aM (aq (.cons bj (.cons ay (.cons dg .nil)))) ao (fun w0 h hh => lg (s := { s with at_ := a1, kind := -1, ended := s.last }) hh)))
   ·rcases (ad.EH (B := B) (s := sy - 257) (a := a1) (by omega) ha1) with ⟨e, hn⟩ | ⟨n, a2, hn, hn0, hn1, hn2, hn3⟩
    ·refine (DP)<|(WL) ?_
     refine c9 ((wK b bl sz mo po s.out.length co (.pointer (some ⟨l, 0, none⟩)) (.pointer (some ⟨d, 0, none⟩)) s B a1 (sy - 257) (by omega) hl hB ha1).err hn) V.MH rfl (aq (.cons dw .nil)) ?_
     rintro _ _ ⟨hpe, rfl⟩
     refine (cS (ev ?_))
     exact dk (ad.wo hs (by omega) hn) hpe (sub (aq .nil) my)
    ·refine (DP)<|(WL) ?_
     refine aj ((wK b bl sz mo po s.out.length co (.pointer (some ⟨l, 0, none⟩)) (.pointer (some ⟨d, 0, none⟩)) s B a1 (sy - 257) (by omega) hl hB ha1).ok hn) V.MH  rfl (aq (.cons dw .nil)) rfl ?_
     rintro _ _ ⟨rfl, rfl⟩
     refine (Q7)<|(pL)<|(Q7) ?_
     rcases (ad.An (B := B) (ds := s.dD) (a := a2) hE2 hz2) with ⟨e, hf⟩ | ⟨f, a3, hf, hf0, hf1, hf2, hf3⟩
     ·refine (Q5) ?_
      refine c9 ((Ef b bl sz mo po s.out.length co (.pointer (some ⟨l, 0, none⟩)) d { s with ax := n } B s.dD a2 hE2 hz2 hl hB hn3).err hf) V.N7 rfl (aq (.cons bj (.cons dg .nil))) ?_
      rintro _ _ ⟨hpe, rfl⟩
      refine (cS (ev ?_))
      exact dk (ad.wx hs (by omega) hn hf) hpe (sub (aq .nil) fS)
     ·refine (Q5) ?_
      refine aj ((Ef b bl sz mo po s.out.length co (.pointer (some ⟨l, 0, none⟩)) d { s with ax := n } B s.dD a2 hE2 hz2 hl hB hn3).ok hf) V.N7  rfl (aq (.cons bj (.cons dg .nil))) rfl ?_
      rintro _ _ ⟨rfl, rfl⟩
      refine (Q7)<|(pL)<|(Q7) ?_
      rcases (Classical.em (f ≤ s.out.length)) with hfo | hfo
      ·refine wN [pz 0 [] [0], pz 1 [0] [], pz 3 [1] [], pz 7 [2] [], pz 0 [] [0], pz 16 [4] [], pz 48 [5] [], pz 112 [6] [], pz 240 [7] [], pz 511 [3, 8] [], pz 1023 [9] []] [⟨fun y => ai b 223 [.pointer (some ⟨bl, 0, none⟩), .int .i64 sz, .int .i64 mo, .slice po s.out.length co, .bool s.ended, .int .i64 0, .int .i64 s.kind, .int .i64 (s.left : Int), .bool s.last, (.pointer (some ⟨l, 0, none⟩)), (.pointer (some ⟨d, 0, none⟩)), .int .i64 (n : Int), .int .i64 (f : Int)], none, none, [3, 7]⟩, ⟨fun y => HC d s.dD, none, none, []⟩, ⟨fun y => LW bl B a3 [] 0, none, none, []⟩, ⟨fun y => Row U5 po s.out.length co s.out, none, none, []⟩, ⟨fun y => HC l s.lits, none, none, []⟩] F V.mixed ?_
       refine nM ?_
       refine nN ?_
       refine nG V.qA ?_
       refine (Qv) ?_
       refine nM ?_
       refine nN ?_
       refine nG V.jq ?_
       refine (pY) ?_
       refine (yj) ?_
       refine nV (fun y hA L => cJ (eO rfl rfl) (by omega)) ?_
       refine nE (fun y FF hA => aX (Post := []) (ny 4) V.kG rfl .nil (fun v G h => by rcases h with ⟨rfl, rfl⟩; exact ⟨rfl, .refl _⟩)) ?_
       refine (Qb) ?_
       intro y hA
       clear hA
       show kC _ _ _ _ (ai b 223 [.pointer (some ⟨bl, 0, none⟩), .int .i64 sz, .int .i64 mo, .slice po s.out.length co, .bool s.ended, .int .i64 0, .int .i64 s.kind, .int .i64 (s.left : Int), .bool s.last, (.pointer (some ⟨l, 0, none⟩)), (.pointer (some ⟨d, 0, none⟩)), .int .i64 (n : Int), .int .i64 (f : Int)] :: HC d s.dD :: LW bl B a3 [] 0 :: Row U5 po s.out.length co s.out :: HC l s.lits :: F)
       exact jD<|gx (x := { s with at_ := a3, ax := n, bA := f }) (ad.wq hs (by omega) hn hf (by omega)) ez ⟨rfl, rfl⟩ ((aM (aq (.cons bj .nil)) .refl (fun w0 h hh => cT (s := { s with at_ := a3, ax := n, bA := f }) rfl hh)).trans (aM (aq (.cons ay (.cons ay (.cons dg .nil)))) ao (fun w0 h hh => lg (s := { s with at_ := a3, ax := n, bA := f }) hh)))
      ·refine wN [pz 0 [] [0], pz 1 [0] [], pz 3 [1] [], pz 7 [2] [], pz 0 [] [0], pz 16 [4] [], pz 48 [5] [], pz 112 [6] [], pz 240 [7] [], pz 511 [3, 8] [], pz 1023 [9] []] [⟨fun y => ai b 223 [.pointer (some ⟨bl, 0, none⟩), .int .i64 sz, .int .i64 mo, .slice po s.out.length co, .bool s.ended, .int .i64 0, .int .i64 s.kind, .int .i64 (s.left : Int), .bool s.last, (.pointer (some ⟨l, 0, none⟩)), (.pointer (some ⟨d, 0, none⟩)), .int .i64 (n : Int), .int .i64 (f : Int)], none, none, [3, 7, 10]⟩, ⟨fun y => HC d s.dD, none, none, []⟩, ⟨fun y => LW bl B a3 [] 0, none, none, []⟩, ⟨fun y => Row U5 po s.out.length co s.out, none, none, []⟩, ⟨fun y => HC l s.lits, none, none, []⟩] F V.mixed ?_
       refine nM ?_
       refine nN ?_
       refine nG V.qA ?_
       refine (Qv) ?_
       refine nM ?_
       refine nN ?_
       refine nG V.jq ?_
       refine (pY) ?_
       refine (yj) ?_
       refine nV (fun y hA L => bR (eO rfl rfl) (by omega)) ?_
       refine aV (undef) _ _ (fun y => rfl) rfl (fun y => rfl) (fun y FF hA => fh (kT 4) V.kG rfl .nil (by rintro _ _ ⟨rfl, rfl⟩; exact kt (ad.wk hs (by omega) hn hf (by omega)) (PE.no (by decide)) (aM (aq .nil) (by exact vx (M := FF) (F := F)) (fun w0 h hh => bO hh)))) ?_
       refine (Qb) ?_
       intro y hA
       exact (cI.fact (hA 10 (by exact Nat.le_of_ble_eq_true rfl)) (q := fun _ => False) rfl).elim
set_option maxHeartbeats 4000000 in
theorem IQ (b bl : Nat) (sz mo : Int) (s : ad.St) (B : List Int) (hl : B.length < 500000000) (hB : af.ak B) (hm : mo < 1000000000) (hok : ad.Ok B mo s) : aC Tryz.prog 169 [.pointer (some ⟨b, 0, none⟩)] [MM b bl sz mo B s] (gB (ad.one B mo s) (fun s2 v G => v = .tuple #[] ∧ G = [MM b bl sz mo B s2]) [MX b bl sz mo]) := by
 refine au [(0, _)] Tryz.func169 rfl Tryz.ntmps169 rfl rfl ?_
 intro w0 F
 refine (qg) ?_
 rintro ⟨li, di⟩ _
 dsimp only
 refine (qg) ?_
 rintro ⟨po, co⟩ _
 dsimp only
 simp only [List.cons_append, List.nil_append]
 have ha := hok.at_
 have hro := hok.room
 have hcp := hok.ax
 have hlf := hok.left
 have hnb := af.bF B s.at_ 8
 refine (QV)<|(Ql)<|(Q8) ?_
 refine aF rfl (fun h17 => ?_) (fun h17 => ?_)
 ·rcases (ad.fH (ad.dU mo s (U5.g s.out ((s.out.length : Int) - (s.bA : Int))))) with ⟨e, hp⟩ | ⟨s2, hp⟩
  ·refine (Q9) ?_
   have hcs : 0 < s.ax := by omega
   have hfr := hok.bA hcs
   have hge : U5.g s.out ((s.out.length : Int) - (s.bA : Int)) = s.out.getD (s.out.length - s.bA) 0 := gE _ (by omega)
   refine wN [pz 0 [] [0], pz 0 [] [0], pz 2 [1] [], pz 6 [2] [], pz 14 [3] [], pz 0 [] [0], pz 32 [5] [], pz 96 [6] [], pz 224 [7] [], pz 480 [8] [], pz 0 [] [0], pz 1024 [10] [], pz 3072 [11] [], pz 7168 [12] [], pz 16352 [9, 13] [], pz 32766 [4, 14] [], pz 65534 [15] [], pz 131071 [0, 16] []] [⟨fun y => ai b 223 [.pointer (some ⟨bl, 0, none⟩), .int .i64 sz, .int .i64 mo, .slice po s.out.length co, .bool s.ended, .int .i64 0, .int .i64 s.kind, .int .i64 (s.left : Int), .bool s.last, li, di, .int .i64 (s.ax : Int), .int .i64 (s.bA : Int)], none, none, [4, 8, 13, 17]⟩, ⟨fun y => Row U5 po s.out.length co s.out, none, none, [15, 16, 17]⟩, ⟨fun y => LW bl B s.at_ [] 0, none, none, []⟩, ⟨fun y => CD li di s, none, none, []⟩] F V.mixed ?_
   iterate 2 refine nM ?_
   refine nN ?_
   refine nG V.jq ?_
   refine (pY) ?_
   refine nM ?_
   refine nN ?_
   refine nG V.jq ?_
   refine (pY) ?_
   refine (yj) ?_
   refine nM ?_
   refine nN ?_
   refine nG V.qA ?_
   refine (Qv) ?_
   refine (vF) ?_
   refine (IK) ?_
   refine nR (fun y FF hA => xL V.s5 (own aA)) ?_
   refine aV (undef) _ _ (fun y => rfl) rfl (fun y => rfl) (fun y FF hA => fh ((nh b bl sz mo po co li di s (U5.g s.out ((s.out.length : Int) - (s.bA : Int))) (by rw [hge]; exact hok.oH.get _) hm).err hp) V.uv rfl (aT .nil) (by rintro _ _ ⟨hpe, rfl⟩; exact kt (ad.OZ hcs (by rw [← hge]; exact hp)) hpe (sub (aq .nil) (by exact vx (M := FF) (F := F))))) ?_
   refine (Qb) ?_
   intro y hA
   exact (cI.fact (hA 17 (by exact Nat.le_of_ble_eq_true rfl)) (q := fun _ => False) rfl).elim
  ·refine (Q9) ?_
   have hcs : 0 < s.ax := by omega
   have hfr := hok.bA hcs
   have hge : U5.g s.out ((s.out.length : Int) - (s.bA : Int)) = s.out.getD (s.out.length - s.bA) 0 := gE _ (by omega)
   refine wN [pz 0 [] [0], pz 0 [] [0], pz 2 [1] [], pz 6 [2] [], pz 14 [3] [], pz 0 [] [0], pz 32 [5] [], pz 96 [6] [], pz 224 [7] [], pz 480 [8] [], pz 0 [] [0], pz 1024 [10] [], pz 3072 [11] [], pz 7168 [12] [], pz 16352 [9, 13] [], pz 32766 [4, 14] [], pz 65534 [15] [], pz 131071 [0, 16] []] [⟨fun y => ai b 223 [.pointer (some ⟨bl, 0, none⟩), .int .i64 sz, .int .i64 mo, .slice po s.out.length co, .bool s.ended, .int .i64 0, .int .i64 s.kind, .int .i64 (s.left : Int), .bool s.last, li, di, .int .i64 (s.ax : Int), .int .i64 (s.bA : Int)], none, some 17, [4, 8, 13]⟩, ⟨fun y => Row U5 po s.out.length co s.out, none, some 17, [15, 16]⟩, ⟨fun y => LW bl B s.at_ [] 0, none, none, []⟩, ⟨fun y => CD li di s, none, none, []⟩, ⟨fun y => MS b bl sz mo li di s2, some 17, none, []⟩] F V.mixed ?_
   iterate 2 refine nM ?_
   refine nN ?_
   refine nG V.jq ?_
   refine (pY) ?_
   refine nM ?_
   refine nN ?_
   refine nG V.jq ?_
   refine (pY) ?_
   refine (yj) ?_
   refine nM ?_
   refine nN ?_
   refine nG V.qA ?_
   refine (Qv) ?_
   refine (vF) ?_
   refine (IK) ?_
   refine nR (fun y FF hA => xL V.s5 (own aA)) ?_
   refine nE (fun y FF hA => aX (Post := [MS b bl sz mo li di s2]) ((nh b bl sz mo po co li di s (U5.g s.out ((s.out.length : Int) - (s.bA : Int))) (by rw [hge]; exact hok.oH.get _) hm).ok hp) V.uv rfl (aT .nil) (fun v G h => by rcases h with ⟨rfl, rfl⟩; exact ⟨rfl, .refl _⟩)) ?_
   refine (Qb) ?_
   intro y hA
   clear hA
   refine bg<|bD _ (.cons (d := 0) rfl (.nil _))<|bb (M := LW bl B s.at_ [] 0 :: CD li di s :: MS b bl sz mo li di s2 :: F) (fun _ _ h => h) ?_
   obtain ⟨hroom, rfl⟩ := ad.pW hp
   refine lj bj (fun h hh => qX hh) ?_
   rintro ⟨po2, co2⟩ _
   dsimp only
   simp only [List.cons_append, List.nil_append]
   refine (Q5)<|(Ql) ?_
   refine iP TT 3 rfl (by omega)<|(pL)<|(Q7) ?_
   rw [show (s.ax : Int) - 1 = ((s.ax - 1 : Nat) : Int) from by omega]
   exact gx (x := { s with ax := s.ax - 1, out := s.out ++ [(U5.g s.out ((s.out.length : Int) - (s.bA : Int)))] }) (by rw [hge]; exact ad.My hcs hroom) ez ⟨rfl, rfl⟩ ((aM (aT .nil) .refl (fun w0 h hh => cT (s := { s with ax := s.ax - 1, out := s.out ++ [(U5.g s.out ((s.out.length : Int) - (s.bA : Int)))] }) (by simp) hh)).trans (aM (fQ .nil) ao (fun w0 h hh => fm (s := { s with ax := s.ax - 1, out := s.out ++ [(U5.g s.out ((s.out.length : Int) - (s.bA : Int)))] }) hh)))
 ·refine (Qg)<|(Ql)<|(Q8) ?_
  refine aF rfl (fun h48 => ?_) (fun h48 => ?_)
  ·rcases (ad.fH (ad.cG B s)) with ⟨e, hp⟩ | ⟨s2, hp⟩
   ·have hcs : ¬ 0 < s.ax := by omega
    have hk1 : s.kind = -1 := by omega
    refine (UJ)<|(Qa) ?_
    refine c9 ((zu b bl sz mo li di s B hl hB ha).err hp) V.Rw rfl (aT .nil) ?_
    rintro _ _ ⟨hpe, rfl⟩
    refine (ev ?_)
    exact dk ((ad.ug hcs hk1).trans hp) hpe (sub (aq .nil) bC)
   ·have hcs : ¬ 0 < s.ax := by omega
    have hk1 : s.kind = -1 := by omega
    refine (UJ)<|(Qa) ?_
    refine aj ((zu b bl sz mo li di s B hl hB ha).ok hp) V.Rw  rfl (aT .nil) rfl ?_
    rintro _ _ ⟨rfl, rfl⟩
    refine (Q7) ?_
    exact gx ((ad.ug hcs hk1).trans hp) ez ⟨rfl, rfl⟩ (sub (aq .nil) bC)
  ·refine (Qg)<|(Ql)<|(Q8) ?_
   refine aF rfl (fun h56 => ?_) (fun h56 => ?_)
   ·rcases (ad.fH (ad.dV B mo s)) with ⟨e, hp⟩ | ⟨s2, hp⟩
    ·have hcs : ¬ 0 < s.ax := by omega
     have hk1 : ¬ s.kind = -1 := by omega
     have hk0 : s.kind ≠ 0 := by omega
     have hkp : 0 < s.kind := by have := hok.kind; omega
     refine lj dw (fun h hh => zP hkp hh) ?_
     rintro ⟨l, d⟩ ⟨h1, h2⟩
     dsimp only at h1 h2
     subst h1
     subst h2
     simp only [List.cons_append, List.nil_append]
     refine (U4)<|(Qa) ?_
     refine c9 ((Bw b bl sz mo l d s B hl hB hm hok hkp).err hp) V.Mu rfl (aq (.cons bj (.cons dg (.cons dg .nil)))) ?_
     rintro _ _ ⟨hpe, rfl⟩
     refine (ev ?_)
     exact dk ((ad.wi hcs hk1 hk0).trans hp) hpe (sub (aq .nil) ao)
    ·have hcs : ¬ 0 < s.ax := by omega
     have hk1 : ¬ s.kind = -1 := by omega
     have hk0 : s.kind ≠ 0 := by omega
     have hkp : 0 < s.kind := by have := hok.kind; omega
     refine lj dw (fun h hh => zP hkp hh) ?_
     rintro ⟨l, d⟩ ⟨h1, h2⟩
     dsimp only at h1 h2
     subst h1
     subst h2
     simp only [List.cons_append, List.nil_append]
     refine (U4)<|(Qa) ?_
     refine aj ((Bw b bl sz mo l d s B hl hB hm hok hkp).ok hp) V.Mu  rfl (aq (.cons bj (.cons dg (.cons dg .nil)))) rfl ?_
     rintro _ _ ⟨rfl, rfl⟩
     refine (Q7) ?_
     exact gx ((ad.wi hcs hk1 hk0).trans hp) ez ⟨rfl, rfl⟩ (sub (aq .nil) ao)
   ·refine (Qg)<|(Ql)<|(Q8) ?_
    refine aF rfl (fun h64 => ?_) (fun h64 => ?_)
    ·have hcs : ¬ 0 < s.ax := by omega
     have hk1 : ¬ s.kind = -1 := by omega
     have hk0 : s.kind = 0 := by omega
     have hl0 : s.left = 0 := by omega
     refine (Qa) ?_
     refine aj (AQ b bl sz mo po s.out.length co li di s) V.Sk  rfl (aq .nil) rfl ?_
     rintro _ _ ⟨rfl, rfl⟩
     refine (Q7) ?_
     exact gx (x := { s with kind := -1, ended := s.last }) (ad.tY hcs hk1 hk0 hl0) ez ⟨rfl, rfl⟩ ((aM (aT .nil) .refl (fun w0 h hh => cT (s := { s with kind := -1, ended := s.last }) rfl hh)).trans (aM (aT .nil) bC (fun w0 h hh => mD (s := { s with kind := -1, ended := s.last }) (by show (-1 : Int) ≤ 0; decide) hh)))
    ·rcases (ad.O0 B s.at_ mo { s with at_ := s.at_ + 8 } (af.aK B s.at_ 8)) with hx | ⟨hx, e, hp⟩ | ⟨hx, s2, hp⟩
     ·refine (Q9) ?_
      have hcs : ¬ 0 < s.ax := by omega
      have hk1 : ¬ s.kind = -1 := by omega
      have hk0 : s.kind = 0 := by omega
      have hl0 : ¬ s.left = 0 := by omega
      refine (Qg)<|(pM) ?_
      refine c9 (fw bl B s.at_ [] 0 8 hl hB (by omega) (by omega) (by omega)) V.eh rfl (.cons bj .nil) ?_
      rintro _ _ ⟨rfl, rfl⟩
      refine (cS (ev ?_))
      exact dk (ad.yB hcs hk1 hk0 hl0 hx) PE.end_ (aM (.cons ay .nil) my (fun w0 h hh => bO hh))
     ·refine (Q9) ?_
      have hcs : ¬ 0 < s.ax := by omega
      have hk1 : ¬ s.kind = -1 := by omega
      have hk0 : s.kind = 0 := by omega
      have hl0 : ¬ s.left = 0 := by omega
      refine (Qg)<|(pM)<|(Wt) ?_
      rintro _ _ ⟨rfl, rfl⟩
      refine (pU) ?_
      refine c9 ((nh b bl sz mo po co li di s (af.aK B s.at_ 8) (by omega) hm).err (ad.Sc hp)) V.uv rfl (.cons ay (.cons ay .nil)) ?_
      rintro _ _ ⟨hpe, rfl⟩
      refine (cS (ev ?_))
      exact dk (ad.one_le hcs hk1 hk0 hl0 hx hp) hpe (sub (aq .nil) fS)
     ·refine (Q9) ?_
      have hcs : ¬ 0 < s.ax := by omega
      have hk1 : ¬ s.kind = -1 := by omega
      have hk0 : s.kind = 0 := by omega
      have hl0 : ¬ s.left = 0 := by omega
      refine (Qg)<|(pM)<|(Wt) ?_
      rintro _ _ ⟨rfl, rfl⟩
      refine (pU) ?_
      refine aj ((nh b bl sz mo po co li di { s with at_ := s.at_ + 8 } (af.aK B s.at_ 8) (by omega) hm).ok hp) V.uv  rfl (.cons ay (.cons ay .nil)) rfl ?_
      rintro _ _ ⟨rfl, rfl⟩
      refine (Q7) ?_
      obtain ⟨hroom, rfl⟩ := ad.pW hp
      refine lj dg (fun h hh => qX hh) ?_
      rintro ⟨po2, co2⟩ _
      dsimp only
      simp only [List.cons_append, List.nil_append]
      refine (Q5)<|(Ql) ?_
      refine iP TT 3 rfl (by omega)<|(pL)<|(Q7) ?_
      rw [show (s.left : Int) - 1 = ((s.left - 1 : Nat) : Int) from by omega]
      exact gx (x := { s with at_ := s.at_ + 8, left := s.left - 1, out := s.out ++ [(af.aK B s.at_ 8)] }) (ad.Fu hcs hk1 hk0 hl0 hx hroom) ez ⟨rfl, rfl⟩ ((aM (aT .nil) .refl (fun w0 h hh => cT (s := { s with at_ := s.at_ + 8, left := s.left - 1, out := s.out ++ [(af.aK B s.at_ 8)] }) (by simp) hh)).trans (aM (aT .nil) bC (fun w0 h hh => mD (s := { s with at_ := s.at_ + 8, left := s.left - 1, out := s.out ++ [(af.aK B s.at_ 8)] }) (by show s.kind ≤ 0; omega) hh)))
end Go.Proofs.YtmaiakpjgomnpaaGreat
namespace Go.Sl
section
variable {C : Ctx} {E : Env} {L : List ab} {ty : TypeId}
def o7 (P : Program) (t : TypeId) : Bool := match P.underlying t with | some (.interface _) => true | _ => false
theorem yD {t T : TypeId} {is : Array (String × TypeId)} {u : Value} (ht : C.P.underlying t = some (.interface is)) (d : Nat) (w : World) : (Op.equalIn (d + 1) t (.iface T u) .nilIface).run C.P w = .ok false w := by
  simp [Op.equalIn, run_underlying ht]
theorem ya {t : TypeId} {is : Array (String × TypeId)} (ht : C.P.underlying t = some (.interface is)) (d : Nat) (w : World) : (Op.equalIn (d + 1) t .nilIface .nilIface).run C.P w = .ok true w := by
  simp [Op.equalIn, run_underlying ht]
theorem sx {x y : Operand} {t t' T : TypeId} {u : Value} (ht : o7 C.P t = true) (hx : an E x = some (.iface T u)) (hy : an E y = some .nilIface) : bB C (.binOp .eql t x y t') ty E L (.bool false) L :=
  cF fun d pos aft g a w ha => by
    unfold o7 at ht
    split at ht <;> try simp at ht
    rename_i is hds
    rw [iF d pos aft g (ha.eval hx) (ha.eval hy) (by simp [eqGuard])]
    have h := yD hds (T := T) (u := u) 9999 w
    simp only [binOp, Op.equal, Op.maxDepth, Sem.run_bind, h, Result.andThen_ok, Sem.run_pure]
theorem Hf {x : Operand} {t t' : TypeId} (ht : o7 C.P t = true) (hx : an E x = some .nilIface) : bB C (.binOp .eql t x (.const .nilIface) t') ty E L (.bool true) L :=
  cF fun d pos aft g a w ha => by
    unfold o7 at ht
    split at ht <;> try simp at ht
    rename_i is hds
    rw [iF d pos aft g (ha.eval hx) (ha.eval (x := .const .nilIface) rfl) (by simp [eqGuard])]
    have h := ya hds 9999 w
    simp only [binOp, Op.equal, Op.maxDepth, Sem.run_bind, h, Result.andThen_ok, Sem.run_pure]
theorem uD {x : Operand} {xT T : TypeId} {u : Value} (hc : lM C.P T = true) (hx : an E x = some (.iface T u)) : bB C (.typeAssert x xT T true) ty E L (.tuple #[u, .bool true]) L :=
  cF fun d pos aft g a w ha => by
    unfold lM at hc
    split at hc <;> try simp at hc
    rename_i ds hne hds
    simp only [execOp, ha.eval hx, Instr.typeAssert, Sem.run_bind, run_underlying hds, Result.andThen_ok]
    cases ds <;> first | (exact absurd rfl (hne _)) | simp [Sem.run_pure]
theorem uZ {x : Operand} {xT T t : TypeId} {u z : Value} (hc : lM C.P T = true) (hz : (C.P.info? T).bind (·.zero) = some z) (hn : t ≠ T) (hx : an E x = some (.iface t u)) : bB C (.typeAssert x xT T true) ty E L (.tuple #[z, .bool false]) L :=
  cF fun d pos aft g a w ha => by
    unfold lM at hc
    split at hc <;> try simp at hc
    rename_i ds hne hds
    obtain ⟨i, hi, hz⟩ : ∃ i, C.P.info? T = some i ∧ i.zero = some z := by
      cases h : C.P.info? T with
      | none => rw [h] at hz; cases hz
      | some i => rw [h] at hz; exact ⟨i, rfl, hz⟩
    have hzv : (zeroValue T).run C.P w = .ok z w := by simp only [zeroValue, typeInfo, Sem.run_bind, run_program, Result.andThen_ok, hi, Sem.run_pure, hz]
    simp only [execOp, ha.eval hx, Instr.typeAssert, Sem.run_bind, run_underlying hds, Result.andThen_ok]
    cases ds <;> first | (exact absurd rfl (hne _)) | simp [Sem.run_pure, hn, hzv]
end
theorem w7 {C : Ctx} {c : Code} {Q : Exit → Act → List Frame → World → Prop} {a : Act} {cs : List Frame} {w : World} {E : Env} {L : List ab} (ha : ft C E a) (hi : Inv C.w0 L w) (h : Wp C c (qr C fun e a w => Q e a cs w) E L) : c.wpS C.P Q a cs w := wpS_of_wp (IH h a w ha hi)
theorem CR {P : Program} {w0 : World} {X : List PanicEntry → List ab → Prop} (x y : Value) : ft ⟨P, w0, 19, [], X⟩ [(6, y), (0, x)] { tmps := #[x] ++ (Array.replicate 18 undef).setIfInBounds 5 y, defers := [] } := by
  refine ⟨rfl, by simp, fun d v hd => ?_⟩
  rw [Env.ic] at hd
  split at hd
  · rename_i h; subst h; cases hd; simp
  · rw [Env.ic] at hd
    split at hd
    · rename_i h; subst h; cases hd; simp
    · simp [Env.get] at hd
end Go.Sl
namespace Go.Sl
theorem aC.YC {P : Program} {f : FuncId} {args : List Value} {Pre : List ab} {v0 : Value} {R : List ab → Prop} (h : aC P f args Pre (aG fun v G => v = v0 ∧ R G)) : aC P f args Pre (aG fun _ G => R G) := h.mono fun e G h => by
  rcases h with ⟨v, rfl, _, h⟩; exact ⟨v, rfl, h⟩
end Go.Sl
namespace Go.Proofs.YtmaiakpjgomnpaaGreat
open Go.Sl 
theorem V.Cu : o7 Tryz.prog 20 = true := by kernel_rfl
theorem V.JH : (Tryz.prog.info? 194).bind (·.zero) = some (.agg #[]) := by kernel_rfl
theorem V.TF : (Tryz.prog.info? 237).bind (·.zero) = some (.agg #[]) := by kernel_rfl
theorem ql : ∀ (A M : List ab), eE (A ++ M) A M
  | [], M => .nil
  | a :: A, M => .cons .head (ql A M)
theorem CX {w0 : World} {L : List ab} (b : Nat) (x e : Int) (t : TypeId) (pv : Value) (hp : PE e (jC t pv)) (older : List PanicEntry) (w : World) (hi : Inv w0 (ai b 27 [.int .i64 x] :: L) w) :
    CallsD Tryz.prog 178 #[.pointer (some ⟨b, 0, none⟩)] (.panicking ({ v := .iface t pv, recovered := false } :: older)) w fun e' u' w' =>
      e' = .returned (.tuple #[]) ∧ u' = .panicking ({ v := .iface t pv, recovered := true } :: older) ∧ Inv w0 (ai b 27 [.int .i64 e] :: L) w' := by
  refine callsD_of_wpS Tryz.func178 rfl fun c₀ cs hu => ?_
  apply wpS_seq
  apply wpS_region
  simp [wpOpsS, go_sem, recoverD, hu, Tryz.ntmps178, Exit.thenS]
  refine w7 (C := ⟨Tryz.prog, w0, 19, [], fun _ _ => True⟩) (E := [(6, .iface t pv), (0, .pointer (some ⟨b, 0, none⟩))]) (CR _ _) hi ?_
  rcases hp with ⟨h, rfl⟩ | ⟨h, rfl⟩ | ⟨h, _⟩
  · simp only [jC, List.cons.injEq, PanicEntry.mk.injEq, Value.iface.injEq, and_true] at h
    obtain ⟨rfl, rfl⟩ := h
    refine nF ?_
    refine iN (dR ?_)
    refine oV (sx V.Cu rfl rfl)<|(AV) ?_
    refine iN (dR ?_)
    refine oV (uD V.BL rfl) ?_
    iterate 2 refine oV (dQ rfl rfl) ?_
    refine (oE) ?_
    refine nu rfl ?_
    refine iN (dR ?_)
    refine c4 V.z194 rfl ?_
    intro bz
    refine cu (bd V.a194 rfl rfl (us := []) rfl rfl .head (by exact Nat.le_of_ble_eq_true rfl) rfl)<|(oE)<|(Qo)<|(U9) ?_
    refine df<|jD ?_
    intro a w ha hi
    exact ⟨ha.defers, _, rfl, .tuple #[], by simp [results, Tryz.results178], rfl, rfl, hi.tail⟩
  · simp only [jC, List.cons.injEq, PanicEntry.mk.injEq, Value.iface.injEq, and_true] at h
    obtain ⟨rfl, rfl⟩ := h
    refine nF ?_
    refine iN (dR ?_)
    refine oV (sx V.Cu rfl rfl)<|(AV) ?_
    refine iN (dR ?_)
    refine oV (uZ V.BL V.JH (by decide) rfl) ?_
    iterate 2 refine oV (dQ rfl rfl) ?_
    refine (AV) ?_
    refine iN (dR ?_)
    refine oV (uD V.GW rfl) ?_
    iterate 2 refine oV (dQ rfl rfl) ?_
    refine (oE) ?_
    refine nu rfl ?_
    refine iN (dR ?_)
    refine c4 V.RK rfl ?_
    intro bz
    refine cu (bd V.XM rfl rfl (us := []) rfl rfl .head (by exact Nat.le_of_ble_eq_true rfl) rfl)<|(oE)<|(Qo)<|(U9) ?_
    refine df<|jD ?_
    intro a w ha hi
    exact ⟨ha.defers, _, rfl, .tuple #[], by simp [results, Tryz.results178], rfl, rfl, hi.tail⟩
  · simp only [jC, List.cons.injEq, PanicEntry.mk.injEq, Value.iface.injEq, and_true] at h
    obtain ⟨rfl, rfl⟩ := h
    refine nF ?_
    refine iN (dR ?_)
    refine oV (sx V.Cu rfl rfl)<|(AV) ?_
    refine iN (dR ?_)
    refine oV (uZ V.BL V.JH (by decide) rfl) ?_
    iterate 2 refine oV (dQ rfl rfl) ?_
    refine (AV) ?_
    refine iN (dR ?_)
    refine oV (uZ V.GW V.TF (by decide) rfl) ?_
    iterate 2 refine oV (dQ rfl rfl) ?_
    refine (AV) ?_
    refine iN (dR ?_)
    refine oV (uD V.DB rfl) ?_
    iterate 2 refine oV (dQ rfl rfl) ?_
    refine (oE) ?_
    refine nu rfl ?_
    refine iN (dR ?_)
    refine (rq)<|(oE)<|(Qo)<|(Q6)<|(VQ) ?_
    refine df<|jD ?_
    intro a w ha hi
    exact ⟨ha.defers, _, rfl, .tuple #[], by simp [results, Tryz.results178], rfl, rfl, hi⟩
theorem BD {w0 : World} {L : List ab} (b : Nat) (w : World) (hi : Inv w0 L w) :
    CallsD Tryz.prog 178 #[.pointer (some ⟨b, 0, none⟩)] .returning w fun e u' w' => e = .returned (.tuple #[]) ∧ u' = .returning ∧ Inv w0 L w' := by
  refine callsD_of_wpS Tryz.func178 rfl fun c₀ cs hu => ?_
  apply wpS_seq
  apply wpS_region
  simp [wpOpsS, go_sem, recoverD, hu, Tryz.ntmps178, Exit.thenS]
  refine w7 (C := ⟨Tryz.prog, w0, 19, [], fun _ _ => True⟩) (E := [(6, .nilIface), (0, .pointer (some ⟨b, 0, none⟩))]) (CR _ _) hi<|nF ?_
  refine iN (dR ?_)
  refine oV (Hf V.Cu rfl)<|(oE) ?_
  refine nu rfl<|(Qo)<|(rq) ?_
  refine df<|jD ?_
  intro a w ha hi
  cases c₀
  exact ⟨ha.defers, _, by simp_all, .tuple #[], by simp [results, Tryz.results178], rfl, rfl, hi⟩
theorem vW {C : Ctx} {a : Act} {E : Env} {L : List ab} {w : World} {b : Nat} {x : Int} (hP : C.P = Tryz.prog) (ha : ft C E a) (ht : E.get 2 = some (.pointer (some ⟨b, 0, none⟩))) (hi : Inv C.w0 (ai b 27 [.int .i64 x] :: L) w) :
    (results Tryz.f167 a.tmps).run Tryz.prog w = .ok (.int .i64 x) w := by
  have h1 := ha.get _ _ ht
  have h2 := hi.ie 0
  simp only [List.getElem?_cons_zero] at h2
  simp [results, Tryz.results167, h1, go_sem, h2]
theorem F8 {f : FuncId} {cs : List Value} {Pre : List ab} {R : List ab → Prop} (hS : aC Tryz.prog f cs Pre (aG fun _ G => R G)) (hb : aB Tryz.prog f = true) :
    aC Tryz.prog 167 [.func (.func f) #[] cs.toArray] Pre (aG fun v G => v = .int .i64 0 ∧ R G) := by
  refine ym [(0, _)] Tryz.func167 rfl Tryz.ntmps167 rfl rfl ?_
  intro w0 F
  refine o1 (dR ?_)
  refine c4 V.Vp rfl ?_
  intro b2
  refine (oE) ?_
  refine xQ (caps := [.tmp 2]) rfl rfl<|o1<|(Qo)<|(Q6)<|(WD) ?_
  refine J9 (fs := []) (vs := []) (cs := cs) hS hb rfl rfl (ql _ _) rfl ?_
  intro v G hR
  refine (oE) ?_
  refine o1<|(Qo) ?_
  refine ze (L' := ai b2 27 [.int .i64 0] :: (G ++ F)) List.perm_middle<|(VQ)<|(oE) ?_
  refine IH (I7 ?_)
  intro a w ha hi
  show Leaves _ _ _ _ a.defers _ _
  rw [ha.defers]
  refine leaves_cons (f := 178) (args := #[.pointer (some ⟨b2, 0, none⟩)]) (by simp) ?_ ?_
  · simp [invoke, fL V.Ng]
  refine (BD b2 w hi).mono ?_
  rintro e u' w' ⟨rfl, rfl, hi⟩
  exact ⟨.int .i64 0, vW rfl ha rfl hi, G, hi.tail, _, rfl, rfl, hR⟩
theorem He {f : FuncId} {cs : List Value} {Pre : List ab} {e : Int} {R : List ab → Prop} (hS : aC Tryz.prog f cs Pre (rE fun ch G => PE e ch ∧ R G)) (hb : aB Tryz.prog f = true) :
    aC Tryz.prog 167 [.func (.func f) #[] cs.toArray] Pre (aG fun v G => v = .int .i64 e ∧ R G) := by
  refine ym [(0, _)] Tryz.func167 rfl Tryz.ntmps167 rfl rfl ?_
  intro w0 F
  refine o1 (dR ?_)
  refine c4 V.Vp rfl ?_
  intro b2
  refine (oE) ?_
  refine xQ (caps := [.tmp 2]) rfl rfl<|o1<|(Qo)<|(Q6)<|(WD) ?_
  refine Hh (fs := []) (vs := []) (cs := cs) hS hb rfl rfl (ql _ _) ?_
  rintro ch G ⟨hp, hR⟩
  refine cS ?_
  intro a w ha hi
  show Leaves _ _ _ _ a.defers _ _
  rw [ha.defers]
  have hi2 : Inv w0 (ai b2 27 [.int .i64 0] :: (G ++ F)) w := hi.perm List.perm_middle
  refine leaves_cons (f := 178) (args := #[.pointer (some ⟨b2, 0, none⟩)]) (by simp) ?_ ?_
  · simp [invoke, fL V.Ng]
  obtain ⟨t, u, rfl⟩ : ∃ t u, ch = jC t u := by
    rcases hp with ⟨h, _⟩ | ⟨h, _⟩ | ⟨h, _⟩ <;> exact ⟨_, _, h⟩
  refine (CX b2 0 e t u hp [] w hi2).mono ?_
  rintro e' u' w' ⟨rfl, rfl, hi3⟩
  exact ⟨.int .i64 e, vW rfl ha rfl hi3, G, hi3.tail, _, rfl, rfl, hR⟩
end Go.Proofs.YtmaiakpjgomnpaaGreat
namespace Go.Proofs.YtmaiakpjgomnpaaGreat
open Go.Sl 
attribute [local irreducible] ae.a8 ae.tk ae.ord ae.bJ ae.words ae.bX ad.gH ad.bT ad.cx ad.dj ad.hL ad.hD ad.hC ad.eB ad.told ad.fb ad.im ad.rep ad.eo ad.dr ad.sym ad.cR af.aK ad.dV ad.cG ad.one ad.dU
theorem uw {b bl : Nat} {sz mo : Int} {B : List Int} {s : ad.St} {w0 : World} {h : Hp} (hh : MM b bl sz mo B s w0 h) : ∃ i : Pv, True ∧ bU w0 [MS b bl sz mo i.li i.di s, LW bl B s.at_ [] 0, CD i.li i.di s] h := hh
def MD (b bl : Nat) (sz mo e : Int) : ab := fun w0 h => ∃ i : Vx, True ∧ bU w0 [ai b 223 [.pointer (some ⟨bl, 0, none⟩), .int .i64 sz, .int .i64 mo, .slice none 0 0, .bool true, .int .i64 e, i.v6, i.v7, i.v8, i.v9, i.v10, i.v11, i.v12]] h
theorem jx {b bl : Nat} {sz mo e : Int} {v6 v7 v8 v9 v10 v11 v12 : Value} {w0 : World} {h : Hp}
  (hh : bU w0 [ai b 223 [.pointer (some ⟨bl, 0, none⟩), .int .i64 sz, .int .i64 mo, .slice none 0 0, .bool true, .int .i64 e, v6, v7, v8, v9, v10, v11, v12]] h) : MD b bl sz mo e w0 h := ⟨⟨.nilFunc, .nilFunc, .nilFunc, v6, v7, v8, v9, v10, v11, v12⟩, trivial, hh⟩
def MJ (b bl : Nat) (sz mo : Int) (B : List Int) : ad.Jt → ab
 | .ok s => MM b bl sz mo B s
 | .error e => MD b bl sz mo e
set_option maxHeartbeats 2000000 in
theorem Bt (bm bw bn b bl : Nat) (sz mo : Int) (w : Nat) (n : Int) (s0 : ad.St) (o : Except Int ad.St) (B : List Int) (hl : B.length < 500000000) (hB : af.ak B) (hm : mo < 1000000000) (hw : w < 1000000000) (hok0 : ad.Ok B mo s0) (hlp0 : ad.Lp B mo w n s0 o) : aC Tryz.prog 168 [.pointer (some ⟨bm, 0, none⟩), .pointer (some ⟨bw, 0, none⟩), .pointer (some ⟨bn, 0, none⟩)] [ai bm 204 [.pointer (some ⟨b, 0, none⟩)], ai bw 3 [.int .i64 (w : Int)], ai bn 3 [.int .i64 n], MM b bl sz mo B s0] (gB o (fun s2 v G => v = .tuple #[] ∧ G = [ai bm 204 [.pointer (some ⟨b, 0, none⟩)], ai bw 3 [.int .i64 (w : Int)], ai bn 3 [.int .i64 n], MM b bl sz mo B s2]) [ai bm 204 [.pointer (some ⟨b, 0, none⟩)], ai bw 3 [.int .i64 (w : Int)], ai bn 3 [.int .i64 n], MX b bl sz mo]) := by
 refine au [(0, _), (1, _), (2, _)] Tryz.func168 rfl Tryz.ntmps168 rfl rfl ?_
 intro w0 F
 refine rT TT 1 rfl ?_
 refine cB (fun (s : ad.St) => [(0, .pointer (some ⟨bm, 0, none⟩)), (1, .pointer (some ⟨bw, 0, none⟩)), (2, .pointer (some ⟨bn, 0, none⟩))]) (fun (s : ad.St) => MM b bl sz mo B s :: ai bm 204 [.pointer (some ⟨b, 0, none⟩)] :: ai bw 3 [.int .i64 (w : Int)] :: ai bn 3 [.int .i64 n] :: F) (fun (s : ad.St) => ad.Ok B mo s ∧ ad.Lp B mo w n s o) (fun (s : ad.St) => ad.mu B s) (i1 (s0) ?_ (fz ln) (sub (.cons dw (fQ .nil)) ao)) ?_
 ·exact ⟨hok0, hlp0⟩
 intro s
 rintro ⟨hok, hlp⟩
 rcases (Bool.eq_false_or_eq_true s.ended) with he | he
 ·refine rL TT 2 rfl ?_
  have hro := hok.room
  refine (vD) ?_
  rintro ⟨li, di⟩ _
  dsimp only
  simp only [List.cons_append, List.nil_append]
  refine (sS) ?_
  rintro ⟨po, co⟩ _
  dsimp only
  simp only [List.cons_append, List.nil_append]
  refine wN [pz 0 [] [0], pz 1 [0] [], pz 3 [1] [], pz 7 [2] [], pz 15 [3] [], pz 31 [4] [], pz 63 [5] [0], pz 127 [6, 5] [], pz 255 [7, 5] [], pz 511 [8, 5] [], pz 1023 [9, 5] [], pz 63 [5] [1], pz 4095 [10, 11, 5] [], pz 63 [5] [2], pz 16383 [12, 13, 5] [], pz 32767 [5, 14] []] [⟨fun y => ai b 223 [.pointer (some ⟨bl, 0, none⟩), .int .i64 sz, .int .i64 mo, .slice po s.out.length co, .bool s.ended, .int .i64 0, .int .i64 s.kind, .int .i64 (s.left : Int), .bool s.last, li, di, .int .i64 (s.ax : Int), .int .i64 (s.bA : Int)], none, none, [3]⟩, ⟨fun y => Row U5 po s.out.length co s.out, none, none, []⟩, ⟨fun y => LW bl B s.at_ [] 0, none, none, []⟩, ⟨fun y => CD li di s, none, none, []⟩, ⟨fun y => ai bm 204 [.pointer (some ⟨b, 0, none⟩)], none, none, [0]⟩, ⟨fun y => ai bw 3 [.int .i64 (w : Int)], none, none, []⟩, ⟨fun y => ai bn 3 [.int .i64 n], none, none, []⟩] F V.mixed ?_
  refine nR (fun y FF hA => az V.r9 rfl aA rfl) ?_
  refine nN ?_
  refine nG V.xj ?_
  refine nR (fun y FF hA => de (v := .bool true) (az V.s4 rfl aA rfl) (by rw [he])) ?_
  refine nV (fun y hA L => de (v := .bool false) (lG rfl) rfl) ?_
  refine nM ?_
  refine (jA) ?_
  refine (jA) ?_
  refine (jA) ?_
  refine (jA) ?_
  refine (jA) ?_
  refine (jA) ?_
  refine (jA) ?_
  refine (jA) ?_
  refine (jA) ?_
  refine nV (fun y hA L => um rfl rfl) ?_
  refine (Qb) ?_
  intro y hA
  clear hA
  refine bg<|(V5)<|(VN)<|(Qg) ?_
  refine (fun hs => gx (x := s) (ad.Jo hlp (by exact .inl he)) ez ⟨rfl, rfl⟩ (Sl.Sub.trans ((aM (aT .nil) .refl (fun w0 h hh => cT (s := s) rfl hh)).trans (aM (fQ .nil) .refl (fun w0 h hh => fm (s := s) hh))) hs)) (sub (.cons ay (.cons ay (.cons ay (aq .nil)))) ao)
 ·refine rL TT 2 rfl ?_
  have hro := hok.room
  refine (vD) ?_
  rintro ⟨li, di⟩ _
  dsimp only
  simp only [List.cons_append, List.nil_append]
  refine (sS) ?_
  rintro ⟨po, co⟩ _
  dsimp only
  simp only [List.cons_append, List.nil_append]
  refine wN [pz 0 [] [0], pz 1 [0] [], pz 3 [1] [], pz 7 [2] [], pz 15 [3] [], pz 31 [4] [], pz 63 [5] [0], pz 127 [6, 5] [], pz 255 [7, 5] [], pz 511 [8, 5] [], pz 1023 [9, 5] [], pz 63 [5] [1], pz 4095 [10, 11, 5] [], pz 63 [5] [2], pz 16383 [12, 13, 5] [], pz 32767 [5, 14] []] [⟨fun y => ai b 223 [.pointer (some ⟨bl, 0, none⟩), .int .i64 sz, .int .i64 mo, .slice po s.out.length co, .bool s.ended, .int .i64 0, .int .i64 s.kind, .int .i64 (s.left : Int), .bool s.last, li, di, .int .i64 (s.ax : Int), .int .i64 (s.bA : Int)], none, none, [3, 9]⟩, ⟨fun y => Row U5 po s.out.length co s.out, none, none, []⟩, ⟨fun y => LW bl B s.at_ [] 0, none, none, []⟩, ⟨fun y => CD li di s, none, none, []⟩, ⟨fun y => ai bm 204 [.pointer (some ⟨b, 0, none⟩)], none, none, [0, 6]⟩, ⟨fun y => ai bw 3 [.int .i64 (w : Int)], none, none, [11]⟩, ⟨fun y => ai bn 3 [.int .i64 n], none, none, [13]⟩] F V.mixed ?_
  refine nR (fun y FF hA => az V.r9 rfl aA rfl) ?_
  refine nN ?_
  refine nG V.xj ?_
  refine nR (fun y FF hA => de (v := .bool false) (az V.s4 rfl aA rfl) (by rw [he])) ?_
  refine nV (fun y hA L => de (v := .bool true) (lG rfl) rfl) ?_
  refine nM ?_
  refine kM _ _ (fun y => rfl) rfl (fun y => rfl) rfl (fun y FF hA => gL rfl (dE (az V.r9 rfl aA rfl) ⟨rfl, rfl⟩)) (by intros; rfl) (by intro y y2 h; rfl) ?_
  refine ei _ (fun y => rfl) rfl rfl rfl (fun y hA L => gL rfl (dE (BV rfl) ⟨rfl, rfl⟩)) (by intros; rfl) (by intro y y2 h; rfl) ?_
  refine ei _ (fun y => rfl) rfl rfl rfl (fun y hA L => gL rfl (dE (bp V.jq rfl) ⟨rfl, rfl⟩)) (by intros; rfl) (by intro y y2 h; rfl) ?_
  refine kM _ _ (fun y => rfl) rfl (fun y => rfl) rfl (fun y FF hA => gL rfl (dE (az V.jU rfl aA rfl) ⟨rfl, rfl⟩)) (by intros; rfl) (by intro y y2 h; rfl) ?_
  refine ei _ (fun y => rfl) rfl rfl rfl (fun y hA L => gL rfl (dE (jY (ty' := 0) Tryz.underlying22 rfl) ⟨rfl, rfl⟩)) (by intros; rfl) (by intro y y2 h; rfl) ?_
  refine (WR) ?_
  refine (WJ) ?_
  refine (WR) ?_
  refine (UW) ?_
  refine nV (fun y hA L => ni rfl rfl) ?_
  refine (Qb) ?_
  intro y hA
  clear hA
  refine bg<|(V5)<|(VN) ?_
  refine aF rfl (fun h18 => ?_) (fun h18 => ?_)
  ·refine (Q4) ?_
   rcases (ad.fH (ad.one B mo s)) with ⟨e, hp⟩ | ⟨s2, hp⟩
   ·refine (Vc)<|(Qo)<|(QH) ?_
    refine c9 ((IQ b bl sz mo s B hl hB hm hok).err hp) V.Rx rfl (aq .nil) ?_
    rintro _ _ ⟨hpe, rfl⟩
    refine (ev (cS (ev ?_)))
    exact dk (ad.Tf hlp he (by omega) hp) hpe (sub (.cons ay (.cons ay (.cons ay (aq .nil)))) ao)
   ·refine (Vc) ?_
    have hg := ad.kN hB hok hp
    refine (Qo)<|(QH) ?_
    refine aj ((IQ b bl sz mo s B hl hB hm hok).ok hp) V.Rx  rfl (aq .nil) rfl ?_
    rintro _ _ ⟨rfl, rfl⟩
    refine (Q7) ?_
    refine j1 (s2) ?_ (fz ln) (sub (mH .nil) ao)
    exact ⟨⟨hg.ok, ad.Tt hlp he (by omega) hp⟩, hg.less⟩
  ·refine (Q5) ?_
   refine (fun hs => gx (x := s) (ad.Jo hlp (by exact .inr (by omega))) ez ⟨rfl, rfl⟩ (Sl.Sub.trans ((aM (aT .nil) .refl (fun w0 h hh => cT (s := s) rfl hh)).trans (aM (fQ .nil) .refl (fun w0 h hh => fm (s := s) hh))) hs)) (sub (.cons ay (.cons ay (.cons ay (aq .nil)))) ao)
end Go.Proofs.YtmaiakpjgomnpaaGreat
namespace Go.Proofs.YtmaiakpjgomnpaaGreat
open Go.Sl 
attribute [local irreducible] ae.a8 ae.tk ae.ord ae.bJ ae.words ae.bX ad.gH ad.bT ad.cx ad.dj ad.hL ad.hD ad.hC ad.eB ad.told ad.fb ad.im ad.rep ad.eo ad.dr ad.sym ad.cR af.aK ad.dV ad.cG ad.one ad.dU
set_option maxHeartbeats 2000000 in
theorem GD (b bl : Nat) (sz mo : Int) (B : List Int) (s : ad.St) (n : Int) (hok : ad.Ok B mo s) (hm : mo < 1000000000) (hx : n < 1 ∨ s.ended = true) : aC Tryz.prog 147 [.pointer (some ⟨b, 0, none⟩), .int .i64 n] [MM b bl sz mo B s] (aG fun v G => v = .bool s.ended ∧ G = [MM b bl sz mo B s]) := by
 refine (Ja) ?_
 intro w0 F
 have hro := hok.room
 refine (vD) ?_
 rintro ⟨li, di⟩ _
 dsimp only
 simp only [List.cons_append, List.nil_append]
 refine (sS) ?_
 rintro ⟨po, co⟩ _
 dsimp only
 simp only [List.cons_append, List.nil_append]
 refine (Qr)<|(tw) ?_
 intro b2
 refine (tw) ?_
 intro b3
 refine (Q1)<|(QH)<|(zH)<|(rD)<|(QH)<|(Qk)<|(Ip)<|(Q0)<|(D1)<|(Q1) ?_
 rcases (Classical.em (n < 1)) with h1 | h1
 ·refine (tv) ?_
  refine oV (cJ (dW rfl rfl) h1)<|(Qs)<|(QH)<|(Q7)<|(CZ)<|(Q3) ?_
  exact ag (aw rfl) ⟨rfl, rfl⟩ (Sl.Sub.trans ((aM (.cons bj (.cons bj .nil)) .refl (fun w0 h hh => cT (s := s) rfl hh)).trans (aM (aq (.cons bj (.cons bj .nil))) .refl (fun w0 h hh => fm (s := s) hh))) (sub (aq .nil) fS))
 ·refine (tv) ?_
  refine oV (bR (dW rfl rfl) h1)<|(rD)<|(QH)<|(Qk) ?_
  refine oV (de (v := .bool true) (az V.s4 rfl dL rfl) (by rw [hx.resolve_left h1]))<|(Q1)<|(QH)<|(Q7)<|(CZ)<|(Q3) ?_
  exact ag (aw rfl) ⟨rfl, rfl⟩ (Sl.Sub.trans ((aM (.cons bj (.cons bj .nil)) .refl (fun w0 h hh => cT (s := s) rfl hh)).trans (aM (aq (.cons bj (.cons bj .nil))) .refl (fun w0 h hh => fm (s := s) hh))) (sub (aq .nil) fS))
set_option maxHeartbeats 2000000 in
theorem F3 (b bl : Nat) (sz mo : Int) (B : List Int) (s : ad.St) (n : Int) (hl : B.length < 500000000) (hB : af.ak B) (hn : 1 ≤ n) (hok : ad.Ok B mo s) (hm : mo < 1000000000) (he : s.ended = false) (s2 : ad.St) (hlp : ad.Lp B mo s.out.length n s (.ok s2)) : aC Tryz.prog 147 [.pointer (some ⟨b, 0, none⟩), .int .i64 n] [MM b bl sz mo B s] (aG fun v G => v = .bool s2.ended ∧ G = [MM b bl sz mo B s2]) := by
 refine (Ja) ?_
 intro w0 F
 have hro := hok.room
 refine (vD) ?_
 rintro ⟨li, di⟩ _
 dsimp only
 simp only [List.cons_append, List.nil_append]
 refine (sS) ?_
 rintro ⟨po, co⟩ _
 dsimp only
 simp only [List.cons_append, List.nil_append]
 refine (Qr)<|(tw) ?_
 intro b2
 refine (tw) ?_
 intro b3
 refine (Q1)<|(QH)<|(zH)<|(rD)<|(QH)<|(Qk)<|(Ip)<|(Q0)<|(D1)<|(Qn)<|(Ql)<|(QM)<|(rD)<|(QH)<|(VC)<|(Qj)<|(QH)<|(Q7) ?_
 refine oV (az V.jU rfl dL rfl) ?_
 refine (oN) ?_
 refine c4 V.z3 rfl ?_
 intro b5
 refine (pL)<|(Qe)<|(Wf)<|(Qo) ?_
 refine oV (BA (fs := []) (cs := [_, _, _]) rfl rfl)<|aj (F8 (f := 168) (cs := [.pointer (some ⟨b2, 0, none⟩), .pointer (some ⟨b5, 0, none⟩), .pointer (some ⟨b3, 0, none⟩)]) (R := fun G => G = [ai b2 204 [.pointer (some ⟨b, 0, none⟩)], ai b5 3 [.int .i64 (s.out.length : Int)], ai b3 3 [.int .i64 n], MM b bl sz mo B s2]) (aC.YC ((Bt b2 b5 b3 b bl sz mo s.out.length n s (.ok s2) B hl hB hm (by omega) hok hlp).ok rfl)) V.R4) V.Mo  rfl (.cons dw (.cons ay (.cons ay (aq .nil)))) rfl ?_
 rintro _ _ ⟨rfl, rfl⟩
 refine (Qc) ?_
 refine oV (bR (cE rfl rfl) (by decide))<|(Q1) ?_
 refine lj dw (fun h hh => uw hh) ?_
 rintro ⟨li2, di2⟩ _
 dsimp only
 simp only [List.cons_append, List.nil_append]
 refine (sS) ?_
 rintro ⟨po2, co2⟩ _
 dsimp only
 simp only [List.cons_append, List.nil_append]
 refine (Qo) ?_
 refine oV (az V.r9 rfl jB rfl) ?_
 refine (Q7) ?_
 refine (nJ) ?_
 refine (Q8) ?_
 exact ag (aw rfl) ⟨rfl, rfl⟩ (Sl.Sub.trans ((aM (aT .nil) .refl (fun w0 h hh => cT (s := s2) rfl hh)).trans (aM (fQ .nil) .refl (fun w0 h hh => fm (s := s2) hh))) (sub (aq .nil) my))
theorem Kj {b bl : Nat} {sz mo : Int} {w0 : World} {h : Hp} (hh : MX b bl sz mo w0 h) : ∃ i : Vx, True ∧ bU w0 [ai b 223 [.pointer (some ⟨bl, 0, none⟩), .int .i64 sz, .int .i64 mo, i.v3, i.v4, i.v5, i.v6, i.v7, i.v8, i.v9, i.v10, i.v11, i.v12]] h := hh
theorem Bu {b bl : Nat} {sz mo e : Int} {w0 : World} {h : Hp} (hh : MD b bl sz mo e w0 h) : ∃ i : Vx, True ∧ bU w0 [ai b 223 [.pointer (some ⟨bl, 0, none⟩), .int .i64 sz, .int .i64 mo, .slice none 0 0, .bool true, .int .i64 e, i.v6, i.v7, i.v8, i.v9, i.v10, i.v11, i.v12]] h := hh
set_option maxHeartbeats 2000000 in
theorem Hl (b bl : Nat) (sz mo : Int) (B : List Int) (s : ad.St) (n : Int) (hl : B.length < 500000000) (hB : af.ak B) (hn : 1 ≤ n) (hok : ad.Ok B mo s) (hm : mo < 1000000000) (he : s.ended = false) (e : Int) (hE : e ≠ 0) (hlp : ad.Lp B mo s.out.length n s (.error e)) : aC Tryz.prog 147 [.pointer (some ⟨b, 0, none⟩), .int .i64 n] [MM b bl sz mo B s] (aG fun v G => v = .bool true ∧ G = [MD b bl sz mo e]) := by
 refine (Ja) ?_
 intro w0 F
 have hro := hok.room
 refine (vD) ?_
 rintro ⟨li, di⟩ _
 dsimp only
 simp only [List.cons_append, List.nil_append]
 refine (sS) ?_
 rintro ⟨po, co⟩ _
 dsimp only
 simp only [List.cons_append, List.nil_append]
 refine (Qr)<|(tw) ?_
 intro b2
 refine (tw) ?_
 intro b3
 refine (Q1)<|(QH)<|(zH)<|(rD)<|(QH)<|(Qk)<|(Ip)<|(Q0)<|(D1)<|(Qn)<|(Ql)<|(QM)<|(rD)<|(QH)<|(VC)<|(Qj)<|(QH)<|(Q7) ?_
 refine oV (az V.jU rfl dL rfl) ?_
 refine (oN) ?_
 refine c4 V.z3 rfl ?_
 intro b5
 refine (pL)<|(Qe)<|(Wf)<|(Qo) ?_
 refine oV (BA (fs := []) (cs := [_, _, _]) rfl rfl)<|aj (He (f := 168) (cs := [.pointer (some ⟨b2, 0, none⟩), .pointer (some ⟨b5, 0, none⟩), .pointer (some ⟨b3, 0, none⟩)]) (R := fun G => G = [ai b2 204 [.pointer (some ⟨b, 0, none⟩)], ai b5 3 [.int .i64 (s.out.length : Int)], ai b3 3 [.int .i64 n], MX b bl sz mo]) ((Bt b2 b5 b3 b bl sz mo s.out.length n s (.error e) B hl hB hm (by omega) hok hlp).err rfl) V.R4) V.Mo  rfl (.cons dw (.cons ay (.cons ay (aq .nil)))) rfl ?_
 rintro _ _ ⟨rfl, rfl⟩
 refine (Qc) ?_
 refine oV (cJ (cE rfl rfl) hE)<|(Qe) ?_
 refine lj dw (fun h hh => Kj hh) ?_
 rintro ⟨v3, v4, v5, v6, v7, v8, v9, v10, v11, v12⟩ _
 dsimp only
 simp only [List.cons_append, List.nil_append]
 refine wN [pz 0 [] [2], pz 0 [] [2], pz 0 [] [2], pz 0 [] [6], pz 1 [0] [], pz 17 [4] [], pz 49 [5] [], pz 123 [1] [], pz 251 [7] [], pz 507 [8, 3] [], pz 1023 [2] [], pz 2047 [10] [], pz 4095 [11] []] [⟨fun y => ai b 223 [.pointer (some ⟨bl, 0, none⟩), .int .i64 sz, .int .i64 mo, v3, v4, v5, v6, v7, v8, v9, v10, v11, v12], none, some 6, []⟩, ⟨fun y => ai b2 204 [.pointer (some ⟨b, 0, none⟩)], none, none, [0, 1, 2]⟩, ⟨fun y => ai b5 3 [.int .i64 (s.out.length : Int)], none, none, []⟩, ⟨fun y => ai b3 3 [.int .i64 n], none, none, []⟩, ⟨fun y => ai b 223 [.pointer (some ⟨bl, 0, none⟩), .int .i64 sz, .int .i64 mo, v3, .bool true, v5, v6, v7, v8, v9, v10, v11, v12], some 6, some 9, []⟩, ⟨fun y => ai b 223 [.pointer (some ⟨bl, 0, none⟩), .int .i64 sz, .int .i64 mo, v3, .bool true, .int .i64 e, v6, v7, v8, v9, v10, v11, v12], some 9, some 12, []⟩, ⟨fun y => ai b 223 [.pointer (some ⟨bl, 0, none⟩), .int .i64 sz, .int .i64 mo, .slice none 0 0, .bool true, .int .i64 e, v6, v7, v8, v9, v10, v11, v12], some 12, none, []⟩] F V.mixed ?_
 iterate 3 refine nR (fun y FF hA => az V.r9 rfl aA rfl) ?_
 refine nM ?_
 refine nN ?_
 refine nG V.xj ?_
 refine nE (fun y FF hA => dE (dz V.s4 rfl rfl rfl (by exact fW) (by exact Nat.le_of_ble_eq_true rfl) rfl) ⟨rfl, .refl _⟩) ?_
 refine nN ?_
 refine nG V.Ri ?_
 refine nE (fun y FF hA => dE (dz V.C9 rfl rfl rfl (by exact fW) (by exact Nat.le_of_ble_eq_true rfl) rfl) ⟨rfl, .refl _⟩) ?_
 refine nN ?_
 refine nG V.jq ?_
 refine nE (fun y FF hA => dE (dz V.jU rfl rfl rfl (by exact fW) (by exact Nat.le_of_ble_eq_true rfl) rfl) ⟨rfl, .refl _⟩) ?_
 refine (Qb) ?_
 intro y hA
 clear hA
 refine bg<|(Jy) ?_
 refine bb (M := ai b2 204 [.pointer (some ⟨b, 0, none⟩)] :: ai b5 3 [.int .i64 (s.out.length : Int)] :: ai b3 3 [.int .i64 n] :: ai b 223 [.pointer (some ⟨bl, 0, none⟩), .int .i64 sz, .int .i64 mo, .slice none 0 0, .bool true, .int .i64 e, v6, v7, v8, v9, v10, v11, v12] :: F) (fun _ _ h => h)<|(Qa) ?_
 refine oV (az V.r9 rfl aA rfl)<|(Q7) ?_
 refine oV (az V.s4 rfl ig rfl)<|(Q8) ?_
 exact ag (aw rfl) ⟨rfl, rfl⟩ (aM (.cons dw .nil) my (fun w0 h hh => jx hh))
set_option maxHeartbeats 2000000 in
theorem HK (b bl : Nat) (sz mo : Int) (e : Int) (n : Int) : aC Tryz.prog 147 [.pointer (some ⟨b, 0, none⟩), .int .i64 n] [MD b bl sz mo e] (aG fun v G => v = .bool true ∧ G = [MD b bl sz mo e]) := by
 refine (Ja) ?_
 intro w0 F
 refine (Io) ?_
 rintro ⟨v3, v4, v5, v6, v7, v8, v9, v10, v11, v12⟩ _
 dsimp only
 simp only [List.cons_append, List.nil_append]
 refine (Qr)<|(tw) ?_
 intro b2
 refine (tw) ?_
 intro b3
 refine (Q1)<|(QH)<|(zH)<|(rD)<|(QH)<|(Qk)<|(Ip)<|(Q0)<|(D1)<|(Q1) ?_
 rcases (Classical.em (n < 1)) with h1 | h1
 ·refine (tv) ?_
  refine oV (cJ (dW rfl rfl) h1)<|(Qs)<|(QH)<|(Q7)<|(CZ)<|(Q3) ?_
  exact ag (aw rfl) ⟨rfl, rfl⟩ (aM (.cons bj .nil) fS (fun w0 h hh => jx hh))
 ·refine (tv) ?_
  refine oV (bR (dW rfl rfl) h1)<|(rD)<|(QH)<|(Qk)<|(CZ)<|(Q1)<|(QH)<|(Q7)<|(CZ)<|(Q3) ?_
  exact ag (aw rfl) ⟨rfl, rfl⟩ (aM (.cons bj .nil) fS (fun w0 h hh => jx hh))
theorem xz (b bl : Nat) (sz mo : Int) (B : List Int) (s : ad.St) : aC Tryz.prog 146 [.pointer (some ⟨b, 0, none⟩)] [MM b bl sz mo B s] (aG fun v G => v = .bool s.ended ∧ G = [MM b bl sz mo B s]) := by
 refine au [(0, _)] Tryz.func146 rfl Tryz.ntmps146 rfl rfl ?_
 intro w0 F
 refine (vD) ?_
 rintro ⟨li, di⟩ _
 dsimp only
 simp only [List.cons_append, List.nil_append]
 refine (sS) ?_
 rintro ⟨po, co⟩ _
 dsimp only
 simp only [List.cons_append, List.nil_append]
 refine (V8)<|(Qz)<|(nJ)<|(Q3) ?_
 exact ag (aw rfl) ⟨rfl, rfl⟩ (Sl.Sub.trans ((aM (aT .nil) .refl (fun w0 h hh => cT (s := s) rfl hh)).trans (aM (fQ .nil) .refl (fun w0 h hh => fm (s := s) hh))) (sub (aq .nil) ao))
theorem qZ (b bl : Nat) (sz mo : Int) (e : Int) : aC Tryz.prog 146 [.pointer (some ⟨b, 0, none⟩)] [MD b bl sz mo e] (aG fun v G => v = .bool true ∧ G = [MD b bl sz mo e]) := by
 refine au [(0, _)] Tryz.func146 rfl Tryz.ntmps146 rfl rfl ?_
 intro w0 F
 refine (Io) ?_
 rintro ⟨v3, v4, v5, v6, v7, v8, v9, v10, v11, v12⟩ _
 dsimp only
 simp only [List.cons_append, List.nil_append]
 refine (V8)<|(Qz)<|(nJ)<|(Q3) ?_
 exact ag (aw rfl) ⟨rfl, rfl⟩ (aM (aq .nil) ao (fun w0 h hh => jx hh))
theorem T9 (b bl : Nat) (sz mo : Int) (B : List Int) (s : ad.St) : aC Tryz.prog 150 [.pointer (some ⟨b, 0, none⟩)] [MM b bl sz mo B s] (aG fun v G => v = .int .i64 0 ∧ G = [MM b bl sz mo B s]) := by
 refine au [(0, _)] Tryz.func150 rfl Tryz.ntmps150 rfl rfl ?_
 intro w0 F
 refine (vD) ?_
 rintro ⟨li, di⟩ _
 dsimp only
 simp only [List.cons_append, List.nil_append]
 refine (sS) ?_
 rintro ⟨po, co⟩ _
 dsimp only
 simp only [List.cons_append, List.nil_append]
 refine (QW)<|(zH)<|(Qi)<|(Jm)<|(Q8) ?_
 exact ag (aw rfl) ⟨rfl, rfl⟩ (Sl.Sub.trans ((aM (aT .nil) .refl (fun w0 h hh => cT (s := s) rfl hh)).trans (aM (fQ .nil) .refl (fun w0 h hh => fm (s := s) hh))) (sub (aq .nil) ao))
theorem Fy (b bl : Nat) (sz mo : Int) (e : Int) : aC Tryz.prog 150 [.pointer (some ⟨b, 0, none⟩)] [MD b bl sz mo e] (aG fun v G => v = .int .i64 e ∧ G = [MD b bl sz mo e]) := by
 refine au [(0, _)] Tryz.func150 rfl Tryz.ntmps150 rfl rfl ?_
 intro w0 F
 refine (Io) ?_
 rintro ⟨v3, v4, v5, v6, v7, v8, v9, v10, v11, v12⟩ _
 dsimp only
 simp only [List.cons_append, List.nil_append]
 refine (QW)<|(zH)<|(Qi)<|(Jm)<|(Q8) ?_
 exact ag (aw rfl) ⟨rfl, rfl⟩ (aM (aq .nil) ao (fun w0 h hh => jx hh))
theorem KG (b bl : Nat) (sz mo : Int) (B : List Int) (s : ad.St) (he : s.ended = false) : aC Tryz.prog 148 [.pointer (some ⟨b, 0, none⟩)] [MM b bl sz mo B s] (aG fun v G => v = .slice none 0 0 ∧ G = [MM b bl sz mo B s]) := by
 refine (OV) ?_
 intro w0 F
 refine (QW)<|(SL) ?_
 rintro _ _ ⟨rfl, rfl⟩
 rw [he]
 refine (Qs) ?_
 exact ag (aw rfl) ⟨rfl, rfl⟩ (sub (aq .nil) ao)
set_option maxHeartbeats 1000000 in
theorem HL (b bl : Nat) (sz mo : Int) (B : List Int) (s : ad.St) (hok : ad.Ok B mo s) (hm : mo < 500000000) (he : s.ended = true) : aC Tryz.prog 148 [.pointer (some ⟨b, 0, none⟩)] [MM b bl sz mo B s] (aG fun v G => ∃ q c, v = .slice q s.out.length c ∧ G = [Row U5 q s.out.length c s.out, MM b bl sz mo B s]) := by
 refine (OV) ?_
 intro w0 F
 refine (QW)<|(SL) ?_
 rintro _ _ ⟨rfl, rfl⟩
 rw [he]
 refine (Qc) ?_
 have hro := hok.room
 refine (vD) ?_
 rintro ⟨li, di⟩ _
 dsimp only
 simp only [List.cons_append, List.nil_append]
 refine (sS) ?_
 rintro ⟨po, co⟩ _
 dsimp only
 simp only [List.cons_append, List.nil_append]
 refine (Q5)<|(vZ) ?_
 refine aj (nD po co s.out (Row U5 po s.out.length co s.out) (fun _ _ hh => hh.rd) (by omega)) V.zw  rfl (.cons ay .nil) rfl ?_
 rintro _ _ ⟨q10, c10, rfl, rfl⟩
 refine (Q8) ?_
 exact ag (aw rfl) ⟨q10, c10, rfl, rfl⟩ (Sl.Sub.trans ((aM (.cons bj (.cons ay .nil)) .refl (fun w0 h hh => cT (s := s) rfl hh)).trans (aM (aq (.cons ay (.cons ay .nil))) .refl (fun w0 h hh => fm (s := s) hh))) (sub (.cons ay (aq .nil)) ao))
set_option maxHeartbeats 1000000 in
theorem Bm (b bl : Nat) (sz mo : Int) (e : Int) : aC Tryz.prog 148 [.pointer (some ⟨b, 0, none⟩)] [MD b bl sz mo e] (aG fun v G => ∃ q c, v = .slice q 0 c ∧ G = [Row U5 q 0 c [], MD b bl sz mo e]) := by
 refine (OV) ?_
 intro w0 F
 refine (QW) ?_
 refine aj (qZ b bl sz mo e) V.uU  rfl (aq .nil) rfl ?_
 rintro _ _ ⟨rfl, rfl⟩
 refine (Qc)<|(Io) ?_
 rintro ⟨v3, v4, v5, v6, v7, v8, v9, v10, v11, v12⟩ _
 dsimp only
 simp only [List.cons_append, List.nil_append]
 refine (vg)<|(Q5)<|(vo) ?_
 refine aj (nD none 0 [] (Row U5 none 0 0 []) (fun _ _ hh => hh.rd) (by decide)) V.zw  rfl (aq .nil) rfl ?_
 rintro _ _ ⟨q10, c10, rfl, rfl⟩
 refine (Q8) ?_
 exact ag (aw rfl) ⟨q10, c10, rfl, rfl⟩ (Sl.Sub.trans (aM (.cons bj .nil) .refl (fun w0 h hh => jx hh)) (sub (.cons ay (aq .nil)) bC))
theorem GY (b bl : Nat) (sz mo : Int) (B : List Int) (s : ad.St) (he : s.ended = false) : aC Tryz.prog 149 [.pointer (some ⟨b, 0, none⟩)] [MM b bl sz mo B s] (aG fun v G => v = .int .i64 0 ∧ G = [MM b bl sz mo B s]) := by
 refine (R5) ?_
 intro w0 F
 refine (QW)<|(SL) ?_
 rintro _ _ ⟨rfl, rfl⟩
 rw [he]
 exact rO TT 18 rfl<|ag (aw rfl) ⟨rfl, rfl⟩ (sub (aq .nil) ao)
theorem zx (b bl : Nat) (sz mo : Int) (e : Int) (hE : e ≠ 0) : aC Tryz.prog 149 [.pointer (some ⟨b, 0, none⟩)] [MD b bl sz mo e] (aG fun v G => v = .int .i64 0 ∧ G = [MD b bl sz mo e]) := by
 refine (R5) ?_
 intro w0 F
 refine (QW) ?_
 refine aj (qZ b bl sz mo e) V.uU  rfl (aq .nil) rfl ?_
 rintro _ _ ⟨rfl, rfl⟩
 refine C8 dg (fun h hh => Bu hh) ?_
 rintro ⟨v3, v4, v5, v6, v7, v8, v9, v10, v11, v12⟩ _
 dsimp only
 simp only [List.cons_append, List.nil_append]
 refine (Q3) ?_
 refine (Q0) ?_
 refine (Jm) ?_
 refine (Q0) ?_
 refine oV (cJ (cE rfl rfl) hE) ?_
 refine (Qs) ?_
 exact ag (aw rfl) ⟨rfl, rfl⟩ (aM (aq .nil) ao (fun w0 h hh => jx hh))
set_option maxHeartbeats 1000000 in
theorem Db (b bl : Nat) (mo : Int) (B : List Int) (s : ad.St) (hl : B.length < 500000000) (hok : ad.Ok B mo s) (hm : mo < 1000000000) (he : s.ended = true) : aC Tryz.prog 149 [.pointer (some ⟨b, 0, none⟩)] [MM b bl (B.length : Int) mo B s] (aG fun v G => v = .int .i64 (((s.at_ + 7) / 8 : Nat) : Int) ∧ G = [MM b bl (B.length : Int) mo B s]) := by
 refine (R5) ?_
 intro w0 F
 refine (QW) ?_
 refine aj (xz b bl (B.length : Int) mo B s) V.uU  rfl (aq .nil) rfl ?_
 rintro _ _ ⟨rfl, rfl⟩
 rw [he]
 refine C8 dg (fun h hh => uw hh) ?_
 rintro ⟨li, di⟩ _
 dsimp only
 simp only [List.cons_append, List.nil_append]
 refine Js (fun h hh => qX hh) ?_
 rintro ⟨po, co⟩ _
 dsimp only
 simp only [List.cons_append, List.nil_append]
 have hat := hok.at_
 refine (Q3) ?_
 refine (Q0) ?_
 refine (Jm) ?_
 refine (Q0) ?_
 refine oV (bR (cE rfl rfl) (by decide)) ?_
 refine (Qc) ?_
 refine wN [pz 0 [] [0], pz 1 [0] [], pz 3 [1] [], pz 7 [2] [], pz 0 [] [0], pz 16 [4] [], pz 48 [5] [], pz 112 [6] [], pz 240 [7] [], pz 496 [8] [], pz 1023 [3, 9] [], pz 2047 [10] []] [⟨fun y => ai b 223 [.pointer (some ⟨bl, 0, none⟩), .int .i64 (B.length : Int), .int .i64 mo, .slice po s.out.length co, .bool s.ended, .int .i64 0, .int .i64 s.kind, .int .i64 (s.left : Int), .bool s.last, li, di, .int .i64 (s.ax : Int), .int .i64 (s.bA : Int)], none, none, [3, 7]⟩, ⟨fun y => Row U5 po s.out.length co s.out, none, none, []⟩, ⟨fun y => LW bl B s.at_ [] 0, none, some 8, []⟩, ⟨fun y => CD li di s, none, none, []⟩, ⟨fun y => LW bl B s.at_ [] 0, some 8, none, []⟩] F V.mixed ?_
 refine nM ?_
 refine nN ?_
 refine nG V.Nc ?_
 refine (Qv) ?_
 refine nM ?_
 refine nN ?_
 refine (mP) ?_
 refine (mA) ?_
 refine nE (fun y FF hA => aX (Post := [LW bl B s.at_ [] 0]) (SE bl B s.at_ [] 0 hl hok.at_) V.W2 rfl (aq .nil) (fun v G h => by rcases h with ⟨rfl, rfl⟩; exact ⟨rfl, .refl _⟩)) ?_
 refine (Vd) ?_
 refine (vF) ?_
 refine nA ?_
 refine (Qb) ?_
 intro y hA
 clear hA
 refine bg<|(Jy) ?_
 refine bb (M := ai b 223 [.pointer (some ⟨bl, 0, none⟩), .int .i64 (B.length : Int), .int .i64 mo, .slice po s.out.length co, .bool s.ended, .int .i64 0, .int .i64 s.kind, .int .i64 (s.left : Int), .bool s.last, li, di, .int .i64 (s.ax : Int), .int .i64 (s.bA : Int)] :: Row U5 po s.out.length co s.out :: CD li di s :: LW bl B s.at_ [] 0 :: F) (fun _ _ h => h)<|(Q9) ?_
 rw [show (B.length : Int) - (8 * (B.length : Int) - (s.at_ : Int)) / 8 = (((s.at_ + 7) / 8 : Nat) : Int) from by omega]
 exact ag (aw rfl) ⟨rfl, rfl⟩ (Sl.Sub.trans ((aM (aT .nil) .refl (fun w0 h hh => cT (s := s) rfl hh)).trans (aM (aq (.cons ay (.cons dg .nil))) .refl (fun w0 h hh => fm (s := s) hh))) (sub (aq .nil) ao))
end Go.Proofs.YtmaiakpjgomnpaaGreat
namespace Go.Proofs.YtmaiakpjgomnpaaGreat
open Go.Sl 
attribute [local irreducible] ae.a8 ae.tk ae.ord ae.bJ ae.words ae.bX ad.gH ad.bT ad.cx ad.dj ad.hL ad.hD ad.hC ad.eB ad.told ad.fb ad.im ad.rep ad.eo ad.dr ad.sym ad.cR af.aK ad.dV ad.cG ad.one ad.dU
set_option maxHeartbeats 1000000 in
theorem T5 (p : Option Addr) (cap : Nat) (B : List Int) (R : ab) (hR : ∀ w0 h, R w0 h → aE U5 p B.length B w0 h) (hl : B.length < 500000000) (mo : Int) (hm : 0 ≤ mo) : aC Tryz.prog 145 [.slice p B.length cap, .int .i64 mo] [R] (aG fun v G => ∃ b bl, v = .pointer (some ⟨b, 0, none⟩) ∧ G = [MM b bl (B.length : Int) mo B ad.start, R]) := by
 refine au [(0, _), (1, _)] Tryz.func145 rfl Tryz.ntmps145 rfl rfl ?_
 intro w0 F
 refine (Ww) ?_
 rintro _ _ ⟨bl7, rfl, rfl⟩
 refine (Qe)<|(Wm) ?_
 intro b12
 refine (Qc)<|(QM)<|(Q1)<|(vg)<|(Qd) ?_
 exact ag (aw rfl) ⟨b12, bl7, rfl, rfl⟩ (Sl.Sub.trans (Sl.Sub.trans (aM (.cons ay (aq .nil)) .refl (fun w0 h hh => cT (s := ad.start) (li := .pointer none) (di := .pointer none) rfl hh)) (aM (aT .nil) .refl (fun w0 h hh => mD (s := ad.start) (by decide) hh))) (sub (aT .nil) ao))
set_option maxHeartbeats 1000000 in
theorem Lh (p : Option Addr) (cap : Nat) (B : List Int) (R : ab) (hR : ∀ w0 h, R w0 h → aE U5 p B.length B w0 h) (hl : B.length < 500000000) (mo : Int) (hm : mo < 0) : aC Tryz.prog 145 [.slice p B.length cap, .int .i64 mo] [R] (aG fun v G => ∃ b bl, v = .pointer (some ⟨b, 0, none⟩) ∧ G = [MD b bl (B.length : Int) mo 1, R]) := by
 refine au [(0, _), (1, _)] Tryz.func145 rfl Tryz.ntmps145 rfl rfl ?_
 intro w0 F
 refine (Ww) ?_
 rintro _ _ ⟨bl7, rfl, rfl⟩
 refine (Qe)<|(Wm) ?_
 intro b12
 refine (Qc)<|(QO)<|(Qj)<|(zv)<|(Q7) ?_
 refine cu (dz V.C9 rfl rfl rfl (by exact fW) (by exact Nat.le_of_ble_eq_true rfl) rfl)<|(Qn) ?_
 exact ag (aw rfl) ⟨b12, bl7, rfl, rfl⟩ (Sl.Sub.trans (aM (aq .nil) .refl (fun w0 h hh => jx hh)) (sub (aq (.cons ay .nil)) bC))
theorem aC.T7 {P : Program} {f : FuncId} {args : List Value} {Pre Gs : List ab} {v0 : Value} {A : ab} (h : aC P f args Pre (aG fun v G => v = v0 ∧ G = Gs)) (hA : ∀ w0, A w0 (fun _ => none)) : aC P f args Pre (aG fun v G => v = v0 ∧ G = A :: Gs) := fun w0 F w hi => (h w0 F w hi).mono fun e w' ⟨G, h1, v, h2, h3, h4⟩ => by
 subst h2; subst h3; subst h4
 exact ⟨A :: G, h1.pV (hA w0), _, rfl, rfl, rfl⟩
section
variable (b bl : Nat) (mo : Int) (B : List Int) (r : ad.Jt)
theorem Kf (sz : Int) : aC Tryz.prog 146 [.pointer (some ⟨b, 0, none⟩)] [MJ b bl sz mo B r] (aG fun v G => v = .bool (ad.jN r) ∧ G = [MJ b bl sz mo B r]) := by
 cases r with
 | ok s => exact xz b bl sz mo B s
 | error e => exact qZ b bl sz mo e
theorem Ra (sz : Int) : aC Tryz.prog 150 [.pointer (some ⟨b, 0, none⟩)] [MJ b bl sz mo B r] (aG fun v G => v = .int .i64 (ad.Ci r) ∧ G = [MJ b bl sz mo B r]) := by
 cases r with
 | ok s => exact T9 b bl sz mo B s
 | error e => exact Fy b bl sz mo e
theorem Kt (hl : B.length < 500000000) (hm : mo < 500000000) (hok : ad.vh B mo r) : aC Tryz.prog 149 [.pointer (some ⟨b, 0, none⟩)] [MJ b bl (B.length : Int) mo B r] (aG fun v G => v = .int .i64 (ad.qS r) ∧ G = [MJ b bl (B.length : Int) mo B r]) := by
 cases r with
 | ok s =>
  cases he : s.ended with
  | true => rw [show ad.qS (.ok s) = (((s.at_ + 7) / 8 : Nat) : Int) from if_pos he]; exact Db b bl mo B s hl hok (by omega) he
  | false => rw [show ad.qS (.ok s) = 0 from if_neg (by rw [he]; decide)]; exact GY b bl (B.length : Int) mo B s he
 | error e => exact zx b bl (B.length : Int) mo e hok
theorem Mm (sz : Int) (hm : mo < 500000000) (hok : ad.vh B mo r) : aC Tryz.prog 148 [.pointer (some ⟨b, 0, none⟩)] [MJ b bl sz mo B r] (aG fun v G => ∃ q c, v = .slice q (ad.py r).length c ∧ G = [Row U5 q (ad.py r).length c (ad.py r), MJ b bl sz mo B r]) := by
 cases r with
 | ok s =>
  cases he : s.ended with
  | true => rw [show ad.py (.ok s) = s.out from if_pos he]; exact HL b bl sz mo B s hok hm he
  | false => rw [show ad.py (.ok s) = [] from if_neg (by rw [he]; decide)]; exact (aC.T7 (KG b bl sz mo B s he) (A := Row U5 none 0 0 []) (fun w0 => Row.nil U5 w0 _)).mono fun e G ⟨v, h1, h2, h3⟩ => ⟨v, h1, none, 0, h2, h3⟩
 | error e => exact Bm b bl sz mo e
theorem KL (sz n : Int) (r' : ad.Jt) (hl : B.length < 500000000) (hB : af.ak B) (hm : mo < 500000000) (hok : ad.vh B mo r) (hst : ad.Cb B mo n r r') : aC Tryz.prog 147 [.pointer (some ⟨b, 0, none⟩), .int .i64 n] [MJ b bl sz mo B r] (aG fun v G => v = .bool (ad.jN r') ∧ G = [MJ b bl sz mo B r']) := by
 rcases hst with ⟨hx, rfl⟩ | ⟨hn1, s, rfl, he, hl2⟩
 ·cases r' with
  | ok s => exact GD b bl sz mo B s n hok (by omega) hx
  | error e => exact HK b bl sz mo e n
 ·cases r' with
  | ok s2 => exact F3 b bl sz mo B s n hl hB hn1 hok (by omega) he s2 hl2
  | error e => exact Hl b bl sz mo B s n hl hB hn1 hok (by omega) he e (ad.Ju hl2 rfl) hl2
end
attribute [local irreducible] ad.py ad.qS ad.Ci ad.jN ad.Ou
set_option maxHeartbeats 1000000 in
theorem K9 (p : Option Addr) (cap : Nat) (B : List Int) (R : ab) (hR : ∀ w0 h, R w0 h → aE U5 p B.length B w0 h) (hl : B.length < 500000000) (hB : af.ak B) (mo : Int) (hm : 0 ≤ mo ∧ mo < 500000000) (q : List Int × Int × Int) (hq : ad.iS B mo q) : aC Tryz.prog 119 [.slice p B.length cap, .int .i64 mo] [R] (aG fun v G => ∃ qq cq, v = .tuple #[.slice qq q.1.length cq, .int .i64 q.2.1, .int .i64 q.2.2] ∧ G = [Row U5 qq q.1.length cq q.1, R]) := by
 refine au [(0, _), (1, _)] Tryz.func119 rfl Tryz.ntmps119 rfl rfl ?_
 intro w0 F
 refine rT TT 11 rfl<|aj (T5 p cap B R hR hl mo hm.1) V.M0  rfl (aq .nil) rfl ?_
 rintro _ _ ⟨b10, bl7, rfl, rfl⟩
 refine (Q3) ?_
 refine bb (M := MJ b10 bl7 (B.length : Int) mo B (.ok ad.start) :: R :: F) (fun _ _ h => h) ?_
 refine cB (fun (r : ad.Jt) => [(7, .pointer (some ⟨b10, 0, none⟩))]) (fun (r : ad.Jt) => MJ b10 bl7 (B.length : Int) mo B r :: R :: F) (fun (r : ad.Jt) => ad.vh B mo r ∧ ad.Dl B mo ad.start r) (fun (r : ad.Jt) => ad.Ek B r) (i1 (.ok ad.start) ?_ (jy ln) (sub (aT .nil) ao)) ?_
 ·exact ⟨ad.og hm.1, ad.gm.refl _ _ _⟩
 intro r
 rintro ⟨hok, hat⟩
 refine rL TT 4 rfl<|aj (Kf b10 bl7 mo B r (B.length : Int)) V.uU  rfl (aq .nil) rfl ?_
 rintro _ _ ⟨rfl, rfl⟩
 refine oV (lG rfl)<|(Q7) ?_
 refine tz rfl (fun h13 => ?_) (fun h13 => ?_)
 ·refine (Q4) ?_
  have he : ad.jN r = false := by simpa using h13
  obtain ⟨r2, hst⟩ := ad.F9 hB hok 1048576
  have hgj := ad.BJ hB hok hat hst
  refine (Qa) ?_
  refine aj (KL b10 bl7 mo B r (B.length : Int) 1048576 r2 hl hB hm.2 hok hst) V.W4  rfl (aq .nil) rfl ?_
  rintro _ _ ⟨rfl, rfl⟩
  refine (Q7) ?_
  refine j1 (r2) ?_ (jy ln) (sub (aT .nil) ao)
  exact ⟨⟨hgj.ok, hgj.at_⟩, hgj.less he (by decide)⟩
 ·refine (Qd) ?_
  have he : ad.jN r = true := by simpa using h13
  obtain rfl := hq.Fv (ad.KZ hm.1 hat he)
  refine (Qa) ?_
  refine aj (Mm b10 bl7 mo B r (B.length : Int) hm.2 hok) V.R7  rfl (aq .nil) rfl ?_
  rintro _ _ ⟨q17, c17, rfl, rfl⟩
  refine (Q6) ?_
  refine aj (Kt b10 bl7 mo B r hl hm.2 hok) V.Sa  rfl (.cons ay .nil) rfl ?_
  rintro _ _ ⟨rfl, rfl⟩
  refine (Q6) ?_
  refine aj (Ra b10 bl7 mo B r (B.length : Int)) V.R6  rfl (aq .nil) rfl ?_
  rintro _ _ ⟨rfl, rfl⟩
  refine (Q1) ?_
  exact ag (Ob rfl rfl rfl) ⟨q17, c17, rfl, rfl⟩ (sub (.cons ay (.cons ay .nil)) bC)
set_option maxHeartbeats 1000000 in
theorem KY (p : Option Addr) (cap : Nat) (B : List Int) (R : ab) (hR : ∀ w0 h, R w0 h → aE U5 p B.length B w0 h) (hl : B.length < 500000000) (mo : Int) (hm : mo < 0) (q : List Int × Int × Int) (hq : ad.iS B mo q) : aC Tryz.prog 119 [.slice p B.length cap, .int .i64 mo] [R] (aG fun v G => ∃ qq cq, v = .tuple #[.slice qq q.1.length cq, .int .i64 q.2.1, .int .i64 q.2.2] ∧ G = [Row U5 qq q.1.length cq q.1, R]) := by
 obtain rfl := hq.Fv (.inl ⟨hm, rfl⟩)
 refine au [(0, _), (1, _)] Tryz.func119 rfl Tryz.ntmps119 rfl rfl ?_
 intro w0 F
 refine rT TT 11 rfl<|aj (Lh p cap B R hR hl mo hm) V.M0  rfl (aq .nil) rfl ?_
 rintro _ _ ⟨b10, bl7, rfl, rfl⟩
 refine (Q3) ?_
 refine cB (fun (z : Nat) => [(7, .pointer (some ⟨b10, 0, none⟩))]) (fun (z : Nat) => MD b10 bl7 (B.length : Int) mo 1 :: R :: F) (fun (z : Nat) => True) (fun (z : Nat) => z) (i1 (0) ?_ (jy ln) (sub (aT .nil) ao)) ?_
 ·exact trivial
 intro z
 rintro -
 refine rL TT 4 rfl<|aj (qZ b10 bl7 (B.length : Int) mo 1) V.uU  rfl (aq .nil) rfl ?_
 rintro _ _ ⟨rfl, rfl⟩
 refine (QL) ?_
 refine aj (Bm b10 bl7 (B.length : Int) mo 1) V.R7  rfl (aq .nil) rfl ?_
 rintro _ _ ⟨q17, c17, rfl, rfl⟩
 refine (Q6) ?_
 refine aj (zx b10 bl7 (B.length : Int) mo 1 (by decide)) V.Sa  rfl (.cons ay .nil) rfl ?_
 rintro _ _ ⟨rfl, rfl⟩
 refine (Q6) ?_
 refine aj (Fy b10 bl7 (B.length : Int) mo 1) V.R6  rfl (aq .nil) rfl ?_
 rintro _ _ ⟨rfl, rfl⟩
 refine (Q1) ?_
 exact ag (Ob rfl rfl rfl) ⟨q17, c17, rfl, rfl⟩ (sub (.cons ay (.cons ay .nil)) bC)
theorem SZ (p : Option Addr) (cap : Nat) (B : List Int) (R : ab) (hR : ∀ w0 h, R w0 h → aE U5 p B.length B w0 h) (hl : B.length < 500000000) (hB : af.ak B) (mo : Int) (hm : mo < 500000000) (q : List Int × Int × Int) (hq : ad.iS B mo q) : aC Tryz.prog 119 [.slice p B.length cap, .int .i64 mo] [R] (aG fun v G => ∃ qq cq, v = .tuple #[.slice qq q.1.length cq, .int .i64 q.2.1, .int .i64 q.2.2] ∧ G = [Row U5 qq q.1.length cq q.1, R]) := by
 by_cases h : mo < 0
 ·exact KY p cap B R hR hl mo h q hq
 ·exact K9 p cap B R hR hl hB mo ⟨by omega, hm⟩ q hq
end Go.Proofs.YtmaiakpjgomnpaaGreat
namespace Go.Proofs.YtmaiakpjgomnpaaGreat
open Go.Sl 
attribute [local irreducible] ae.a8 ae.tk ae.ord ae.bJ ae.words ae.bX ad.gJ ad.gH
attribute [local irreducible] ae.wd ae.lq ae.jI ae.ns
end Go.Proofs.YtmaiakpjgomnpaaGreat
namespace Go.Proofs.YtmaiakpjgomnpaaGreat
open Go.Sl 
end Go.Proofs.YtmaiakpjgomnpaaGreat
namespace Go.Proofs.YtmaiakpjgomnpaaGreat
open Go.Sl 
attribute [local irreducible] ae.a8 ae.tk ae.ord ae.bJ ae.words ae.bX ae.lq ae.jI ae.ns ae.wb ae.ins ae.bits
end Go.Proofs.YtmaiakpjgomnpaaGreat
namespace Go.Sl
abbrev TK : Ec aJ.cX := ⟨245, 3, fun t => [.int .i64 t.lit, .int .i64 t.n, .int .i64 t.bA], ⟨0, 0, 0⟩, fun _ => rfl, fun _ => rfl⟩
end Go.Sl
namespace Go.Proofs.YtmaiakpjgomnpaaGreat
open Go.Sl 
attribute [local irreducible] List.replicate aJ.hs aJ.x3 aJ.CF aJ.th aJ.Nz aJ.rb aJ.uJ aJ.wD
end Go.Proofs.YtmaiakpjgomnpaaGreat
namespace Go.Proofs.YtmaiakpjgomnpaaGreat
open Go.Sl 
attribute [local irreducible] aJ.tK aJ.Cc aJ.uI aJ.Gi aJ.G3 aJ.uV aJ.Gf aJ.G5 aJ.uz aJ.qu ae.a8 ae.wb ae.ord ae.bJ ae.words ae.bX ae.lq ae.jI ae.ns
end Go.Proofs.YtmaiakpjgomnpaaGreat
namespace Go.Proofs.YtmaiakpjgomnpaaGreat
open Go.Sl 
attribute [local irreducible] aJ.JM aJ.P5 aJ.dn aJ.rr aJ.HS aJ.w4 aJ.xe aJ.yQ aJ.HJ aJ.VS aJ.WE aJ.uI aJ.Gi aJ.G3 aJ.uV aJ.Gf aJ.G5 List.replicate
end Go.Proofs.YtmaiakpjgomnpaaGreat
namespace Go.Sl
section
variable {C : Ctx} {E : Env} {L : List ab} {ty : TypeId}
theorem Cp (l : List Int) : l.flatMap (fun x => [Value.int .u8 x]) = l.map (Value.int .u8) := by
  induction l with
  | nil => rfl
  | cons a l ih => simp [List.flatMap_cons, ih]
theorem tP {T : TypeId} {x : Operand} {src dst e : TypeId} {p : Option Addr} {n cap : Nat} {l : List Int} (hs : C.P.underlying src = some (.slice e)) (he : C.P.underlying e = some (.int .u8)) (hd : C.P.underlying dst = some .string) (hx : an E x = some (.slice p n cap)) (H : Has C.w0 L (aD T .u8) p n l) : bB C (.convert src dst x) ty E L (.string (strOfNums l)) L :=
  fun d pos aft g a w ha hi => by
    refine ⟨w, .inl ?_, hi, fun h => by cases h⟩
    obtain ⟨R, hm, hR⟩ := H
    have hh := hi.mem hm
    have hlen : l.length = n := Has.len ⟨R, hm, hR⟩ hi
    obtain ⟨e1, e2⟩ := hi.rd hm (fun h hh => (hR h hh).2)
    have hconv : (convert src dst (.slice p n cap)).run C.P w = .ok (.string (strOfNums l)) w := by
      cases p with
      | none =>
        have h0 : n = 0 := by
          rcases e2 with h | ⟨b, o, h, _⟩
          · exact h
          · cases h
        have hl : l = [] := List.length_eq_zero_iff.1 (by omega)
        rw [run_convert_bytes_nil w src e hs he n cap dst hd, hl]
        rfl
      | some q =>
        rcases e2 with h | ⟨b, o, h, hc⟩
        · have hl : l = [] := List.length_eq_zero_iff.1 (by omega)
          subst hl
          subst h
          rw [run_convert_bytes_string w src dst e _ 0 cap hs he hd, run_bytesToString w q 0 cap [] (by simp [loadCells, loadCellsFrom])]
          rfl
        · cases h
          refine run_convert_bytes_arg w src e hs he b o n cap l hlen (fun i hi2 => ?_) dst hd
          refine hc i _ ?_
          rw [Cp]
          have hil : i < l.length := by omega
          simp [List.getElem?_map, List.getD_eq_getElem?_getD, hil]
    simp only [execOp, ha.eval hx, Sem.run_bind, hconv, Result.andThen_ok, Sem.run_pure]
theorem I1 {x y : Operand} {t t' : TypeId} {s u : ByteArray} {r : Bool} (hx : an E x = some (.string s)) (hy : an E y = some (.string u)) (hr : (s.toList == u.toList) = r) : bB C (.binOp .eql t x y t') ty E L (.bool r) L :=
  cF fun d pos aft g a w ha => by
    rw [iF d pos aft g (ha.eval hx) (ha.eval hy) (by simp [eqGuard])]
    simp [binOp, Op.stringOp, ← hr, Sem.run_pure]
end
end Go.Sl
namespace Go.Sl
end Go.Sl
namespace Go.Sl
end Go.Sl
namespace Go.af
theorem fY (n : Int) : IntKind.u8.wrap n = n % 256 := rfl
theorem A6 {n : Int} (h0 : 0 ≤ n) (h1 : n < 2 ^ 62) : IntKind.i64.wrap ((BitVec.ofInt IntKind.i64.bits (-1) ^^^ BitVec.ofInt IntKind.i64.bits n).toNat : Int) = -n - 1 := by
  obtain ⟨a, rfl⟩ : ∃ a : Nat, n = (a : Int) := ⟨n.toNat, by omega⟩
  have e : IntKind.i64.bits = 64 := rfl
  have e1 : BitVec.ofInt 64 (-1) = BitVec.allOnes 64 := by decide
  rw [e, e1, BitVec.xor_comm, BitVec.xor_allOnes, BitVec.toNat_not, cn, Nat.mod_eq_of_lt (by omega)]
  have e2 : ∀ m : Int, IntKind.i64.wrap m = if m % 18446744073709551616 ≥ 9223372036854775808 then m % 18446744073709551616 - 18446744073709551616 else m % 18446744073709551616 := fun m => by
    unfold IntKind.wrap
    have s1 : IntKind.i64.signed = true := rfl
    simp only [s1, e, Bool.true_and, decide_eq_true_eq]
    rfl
  rw [e2]
  have : a < 2 ^ 62 := by omega
  split <;> omega
end Go.af
namespace Go.Sl
section
variable {C : Ctx} {E : Env} {L : List ab} {ty : TypeId}
theorem AA {x : Operand} {t : TypeId} {n r : Int} (h : an E x = some (.int .i64 n)) (e : IntKind.i64.wrap ((BitVec.ofInt IntKind.i64.bits (-1) ^^^ BitVec.ofInt IntKind.i64.bits n).toNat : Int) = r) : bB C (.unOp .xor t x) ty E L (.int .i64 r) L := cF fun d pos aft g a w ha => by
  rw [← e]
  have s1 : IntKind.i64.signed = true := rfl
  simp [execOp, ha.eval h, Op.unary, Op.intBits, s1]
end
end Go.Sl
namespace Go.Proofs.YtmaiakpjgomnpaaGreat
open Go.Sl 
attribute [local irreducible] aJ.il aJ.gI ad.fg ad.fc ae.a8 ae.ord ae.bJ ae.words ae.bX ae.wb ae.ns ae.jI ae.lq aJ.qu ad.gJ ad.fb
theorem kV {c : Ec Int} {p : Option Addr} {n cap : Nat} {l : List Int} {R : ab} (hR : ∀ w0 h, R w0 h → aE c p n l w0 h) (k : Nat) (hk : k ≤ n) : ∀ w0 h, R w0 h → aE c p k (l.take k) w0 h := fun w0 h hh => by
  have := (hR w0 h hh).sub 0 k n (Nat.zero_le _) hk hk
  rwa [mU, Nat.sub_zero, List.drop_zero] at this
theorem fT {c : Ec Int} {p : Option Addr} {n : Nat} {l : List Int} {R : ab} (hR : ∀ w0 h, R w0 h → aE c p n l w0 h) (hl : l.length = n) (k m : Nat) (hk : k ≤ n) (hm : n ≤ m) : ∀ w0 h, R w0 h → aE c (dm p k m c.sz) (n - k) (l.drop k) w0 h := fun w0 h hh => by
  have := (hR w0 h hh).sub k n m hk (Nat.le_refl _) hm
  rwa [List.take_of_length_le (by rw [List.length_drop]; omega)] at this
end Go.Proofs.YtmaiakpjgomnpaaGreat
namespace Go.Proofs.YtmaiakpjgomnpaaGreat
open Go.Sl 
attribute [local irreducible] ae.a8 ae.ord ae.bJ ae.words ae.bX ae.wb ae.ns ae.jI ae.lq aJ.qu ad.fb af.kQ aJ.jW aJ.w4 aJ.yQ aJ.fA aJ.fB kB.uQ
abbrev Q2 : Ec (Int × Int) := ⟨246, 2, fun x => [.int .i64 x.1, .int .i64 x.2], (0, 0), fun _ => rfl, fun _ => rfl⟩
end Go.Proofs.YtmaiakpjgomnpaaGreat
namespace Go.Sl
structure Pc where
 w : Int
 p : Option Addr
 n : Nat
 c : Nat
 s : List Int
abbrev PC : Ec Pc := ⟨267, 2, fun x => [.int .i64 x.w, .slice x.p x.n x.c], ⟨0, none, 0, 0, []⟩, fun _ => rfl, fun _ => rfl⟩
structure Sx where
 p : Option Addr
 n : Nat
 c : Nat
abbrev PS : Ec Sx := ⟨265, 1, fun x => [.slice x.p x.n x.c], ⟨none, 0, 0⟩, fun _ => rfl, fun _ => rfl⟩
abbrev QS : Ec Sx := ⟨47, 1, fun x => [.slice x.p x.n x.c], ⟨none, 0, 0⟩, fun _ => rfl, fun _ => rfl⟩
def ZR (B : List Pc) : ab := fun w0 h => bU w0 (B.map fun x => Row I3 x.p x.n x.c x.s) h
def szs (xs : List Sx) (k : Nat) : Nat := ((xs.take k).map Sx.n).sum
def pk (x : Pc) : kB.Pk := (x.w, x.s)
def LL (po : Option Addr) (n co : Nat) (A0 : List Pc) (pl : Option Addr) (nl cl : Nat) (l : List Pc) : ab := fun w0 h => (Row PC po n co A0 w0 h ∧ pl = po ∧ nl = n ∧ cl = co ∧ l = A0) ∨ bU w0 [Row PC po n co A0, Row PC pl nl cl l] h
structure OkL (fr : List Int) (bV : Int) : Prop where
 m1 : 1 ≤ bV
 m2 : bV ≤ 15
 len : fr.length ≤ 320
 fre : ∀ i, i < fr.length → 0 ≤ fr.getD i 0 ∧ fr.getD i 0 ≤ 1048576
 Y5 : (kB.RM fr fr.length).length ≤ 2 ^ bV.toNat
end Go.Sl
namespace Go.Proofs.YtmaiakpjgomnpaaGreat
open Go.Sl 
end Go.Proofs.YtmaiakpjgomnpaaGreat
namespace Go.Proofs.YtmaiakpjgomnpaaGreat
open Go.Sl 
end Go.Proofs.YtmaiakpjgomnpaaGreat
namespace Go.Proofs.YtmaiakpjgomnpaaGreat
open Go.Sl 
end Go.Proofs.YtmaiakpjgomnpaaGreat
namespace Go.Proofs.YtmaiakpjgomnpaaGreat
open Go.Sl Go.Shelf
def SR : Go.Shelf.Ren := ⟨fun | 189 => 214 | 125 => 228 | 257 => 227 | 128 => 243 | 129 => 244 | 294 => 234 | 295 => 235 | 296 => 236 | 297 => 237 | 298 => 238 | 299 => 239 | 216 => 240 | 300 => 241 | 301 => 242 | 328 => 248 | 329 => 249 | 330 => 250 | 331 => 251 | 332 => 252 | 215 => 230 | 343 => 255 | n => n, fun | 28 => 47 | 3 => 3 | 46 => 52 | 0 => 0 | 51 => 76 | 53 => 302 | 4 => 4 | 183 => 295 | 182 => 294 | 131 => 125 | 5 => 5 | 9 => 9 | 218 => 305 | 222 => 309 | 228 => 311 | 229 => 210 | n => n, fun | n => n⟩
end Go.Proofs.YtmaiakpjgomnpaaGreat
namespace Go.Proofs.YtmaiakpjgomnpaaGreat
open Go.Sl 
end Go.Proofs.YtmaiakpjgomnpaaGreat
namespace Go.Proofs.YtmaiakpjgomnpaaGreat
open Go.Sl 
attribute [local irreducible] ae.a8 ae.ord ae.bJ ae.words ae.bX ae.wb ae.ns ae.jI ae.lq aJ.qu ad.fb af.kQ aJ.jW aJ.w4 aJ.yQ aJ.fA aJ.fB kB.uQ ae.bits aJ.dA aJ.dB aJ.dF aJ.WQ aJ.Gg aJ.GP aJ.VF aJ.cD aJ.WT List.replicate aJ.xe
end Go.Proofs.YtmaiakpjgomnpaaGreat
namespace Go.Proofs.YtmaiakpjgomnpaaGreat
open Go.Sl 
attribute [local irreducible] aJ.gI aJ.O9 aJ.O5 aJ.uJ aJ.sN aJ.nz
abbrev S8 : Ec Sx := ⟨22, 1, fun x => [.slice x.p x.n x.c], ⟨none, 0, 0⟩, fun _ => rfl, fun _ => rfl⟩
end Go.Proofs.YtmaiakpjgomnpaaGreat
namespace Go.Proofs.YtmaiakpjgomnpaaGreat
open Go.Sl 
attribute [local irreducible] aJ.nz
structure Dv where
  p1 : Option Addr
  n1 : Nat
  c1 : Nat
  t : Int
  p2 : Option Addr
  c2 : Nat
def DN (b : Nat) (B : List Int) (t : Nat) : ab := fun w0 h => ∃ i : Lv, True ∧ bU w0 [ai b 215 [.slice i.p1 B.length i.c1, .slice none 0 0, .int .i64 (t : Int), .bool false], Row U5 i.p1 B.length i.c1 B] h
def DD (b : Nat) (z : List Int) : ab := fun w0 h => ∃ i : Dv, True ∧ bU w0 [ai b 215 [.slice i.p1 i.n1 i.c1, .slice i.p2 z.length i.c2, .int .i64 i.t, .bool true], Row U5 i.p2 z.length i.c2 z] h
def DM (b : Nat) (B : List Int) : Option Nat → ab
  | some t => DN b B t
  | none => DD b (aJ.nz B)
def ZJ (B : List Int) (s : Option Nat) (n : Int) : Option Nat :=
  match s with
  | none => none
  | some t => if n < 1 then some t else if (B.length : Int) ≤ t + n then none else some (t + n.toNat)
end Go.Proofs.YtmaiakpjgomnpaaGreat
namespace Go.Proofs.YtmaiakpjgomnpaaGreat
open Go.Sl 
attribute [local irreducible] aJ.nz
section
variable (b : Nat) (B : List Int) (s : Option Nat)
def DOk (B : List Int) : Option Nat → Prop
  | some t => t ≤ B.length
  | none => True
def ZY (B : List Int) : Option Nat → List Int
  | some _ => []
  | none => aJ.nz B
end
end Go.Proofs.YtmaiakpjgomnpaaGreat
namespace Go.Proofs.YtmaiakpjgomnpaaGreat
open Go.Sl 
attribute [local irreducible] ae.a8 ae.tk ae.ord ae.bJ ae.words ae.bX ad.gH ad.bT ad.cx ad.dj ad.hL ad.hD ad.hC ad.eB ad.told ad.fb ad.im ad.rep ad.eo ad.dr ad.sym ad.cR af.aK ad.dV ad.cG ad.one ad.dU ad.o0 ad.te ad.mE ad.mT
section
variable (b2 : Nat) (ls : List Int) (b : Nat) (p : Option Addr) (cap : Nat) (B : List Int) (R : ab) (hR : ∀ w0 h, R w0 h → aE U5 p B.length B w0 h) (sh : Bool) (a : Nat) (hE : ae.a8 ls = 0) (hl : B.length < 500000000) (hB : af.ak B) (ha : a ≤ 8 * B.length)
include hR hE hl hB ha
end
end Go.Proofs.YtmaiakpjgomnpaaGreat
namespace Go.Proofs.YtmaiakpjgomnpaaGreat
open Go.Sl 
attribute [local irreducible] ae.a8 ae.tk ae.ord ae.bJ ae.words ae.bX ad.gH ad.bT ad.cx ad.dj ad.hL ad.hD ad.hC ad.eB ad.told ad.fb ad.im ad.rep ad.eo ad.dr ad.sym ad.cR af.aK ad.dV ad.cG ad.one ad.dU ad.o0 ad.te ad.mE ad.mT
def PO (b : Nat) (p : Option Addr) (cap : Nat) (B : List Int) (R : ab) : Except Int ad.St → Value → List ab → Prop
 | .error e, v, G => v = .tuple #[.slice none 0 0, .int .i64 e] ∧ G = [R]
 | .ok S, v, G => ∃ q c sh, v = .tuple #[.slice q S.out.length c, .int .i64 0] ∧ G = [ai b 151 [.slice p B.length cap, .int .i64 (S.at_ : Int), .bool false, .bool sh], R, Row U5 q S.out.length c S.out]
end Go.Proofs.YtmaiakpjgomnpaaGreat
namespace Go.Proofs.YtmaiakpjgomnpaaGreat
open Go.Sl 
attribute [local irreducible] ae.a8 ae.tk ae.ord ae.bJ ae.words ae.bX ad.gH ad.bT ad.cx ad.dj ad.hL ad.hD ad.hC ad.eB ad.told ad.fb ad.im ad.rep ad.eo ad.dr ad.sym ad.cR af.aK ad.dV ad.cG ad.one ad.dU ad.o0 ad.te ad.mE ad.mT ad.oJ ad.AW ad.Sb ad.kz
def PD (b : Nat) (p : Option Addr) (cap : Nat) (B : List Int) (R : ab) : Except Int (Nat × List Int × List Int) → Value → List ab → Prop
 | .error e, v, G => v = .tuple #[.pointer none, .pointer none, .int .i64 e] ∧ G = [R]
 | .ok (a, l, d), v, G => ∃ x y sh, v = .tuple #[.pointer (some ⟨x, 0, none⟩), .pointer (some ⟨y, 0, none⟩), .int .i64 0] ∧ G = [ai b 151 [.slice p B.length cap, .int .i64 (a : Int), .bool false, .bool sh], R, RC x l, RC y d]
end Go.Proofs.YtmaiakpjgomnpaaGreat
namespace Go.Proofs.YtmaiakpjgomnpaaGreat
open Go.Sl 
attribute [local irreducible] ae.a8 ae.tk ae.ord ae.bJ ae.words ae.bX ad.gH ad.bT ad.cx ad.dj ad.hL ad.hD ad.hC ad.eB ad.told ad.fb ad.im ad.rep ad.eo ad.dr ad.sym ad.cR af.aK ad.dV ad.cG ad.one ad.dU ad.o0 ad.te ad.mE ad.mT ad.kz
end Go.Proofs.YtmaiakpjgomnpaaGreat
namespace Go.Proofs.YtmaiakpjgomnpaaGreat
open Go.Sl
end Go.Proofs.YtmaiakpjgomnpaaGreat
namespace Go.Proofs.YtmaiakpjgomnpaaGreat
open Go.Sl 
attribute [local irreducible] aJ.nz ad.iS aJ.bV af.ak aH.e9
set_option maxHeartbeats 2000000 in
theorem SQ (p : Option Addr) (c : Nat) (B : List Int) (R : ab) (hR : ∀ w0 h, R w0 h → aE U5 p B.length B w0 h) (hl : B.length < 500000000) (hB : af.ak B) : aC Tryz.prog 160 [.int .u32 1, .slice p B.length c] [R] (aG fun v G => v = .int .u32 (aH.fk B) ∧ G = [R]) := by
 refine au [(0, _), (1, _)] Tryz.func160 rfl Tryz.ntmps160 rfl rfl ?_
 intro w0 F
 refine (QJ) ?_
 refine oV (jG (r := 1) rfl rfl rfl)<|(Q6) ?_
 refine oV (dP (r := 0) rfl rfl (by decide) rfl)<|(Qu) ?_
 rw [show ((5 : Nat), Value.int .u32 1) = (5, .int .u32 (aH.e9 (B.take 0)).1) from by rw [List.take_zero, aH.qQ], show ((6 : Nat), Value.int .u32 0) = (6, .int .u32 (aH.e9 (B.take 0)).2) from by rw [List.take_zero, aH.qQ]]
 refine cB (fun (i : Nat) => [(5, .int .u32 (aH.e9 (B.take i)).1), (6, .int .u32 (aH.e9 (B.take i)).2), (13, .slice p B.length c), (14, .int .i64 (B.length : Int)), (15, .int .i64 (i : Int))]) (fun (i : Nat) => R :: F) (fun (i : Nat) => i ≤ B.length) (fun (i : Nat) => B.length - i) (i1 (0) ?_ (bN ln) (sub (aq .nil) ao)) ?_
 ·exact Nat.zero_le _
 intro i
 rintro hi
 refine (Qm) ?_
 refine aF rfl (fun h16 => ?_) (fun h16 => ?_)
 ·refine (Qd)<|(JG)<|(JQ)<|(Q8) ?_
  have hv : 0 ≤ (U5.g B (i : Int)) ∧ (U5.g B (i : Int)) < 256 := hB.get i
  have hs := aH.oY (B.take i)
  refine (Q4)<|(PM)<|(IA)<|(UQ)<|(Q1)<|(IA)<|(Vh)<|(QG) ?_
  have e5 : ((aH.e9 (B.take i)).1 + (U5.g B (i : Int))) % 65521 = (aH.e9 (B.take (i + 1))).1 := by rw [aH.od (by omega)]; rfl
  have e6 : ((aH.e9 (B.take i)).2 + (aH.e9 (B.take (i + 1))).1) % 65521 = (aH.e9 (B.take (i + 1))).2 := by rw [aH.od (by omega)]; rfl
  rw [e5, e6]
  exact j1 (i + 1) ⟨by omega, by omega⟩ (bN ln) (sub (aq .nil) ao)
 ·refine (Qd) ?_
  obtain rfl : i = B.length := by omega
  rw [List.take_length]
  have hs := aH.oY B
  refine (Qa)<|(VR)<|(Q6)<|(UK)<|(Q8) ?_
  exact ag (aw rfl) ⟨by unfold aH.fk; rfl, rfl⟩ (sub (aq .nil) ao)
set_option maxHeartbeats 2000000 in
theorem RR (p : Option Addr) (c : Nat) (B : List Int) (R : ab) (hR : ∀ w0 h, R w0 h → aE U5 p B.length B w0 h) (hl : B.length < 500000000) (hB : af.ak B) : aC Tryz.prog 63 [.int .u32 1, .slice p B.length c] [R] (aG fun v G => v = .int .u32 (aH.fk B) ∧ G = [R]) := by
 refine au [(0, _), (1, _)] Tryz.func63 rfl Tryz.ntmps63 rfl rfl ?_
 intro w0 F
 refine (QJ) ?_
 refine oV (jG (r := 1) rfl rfl rfl)<|(Q6) ?_
 refine oV (dP (r := 0) rfl rfl (by decide) rfl)<|(Qs) ?_
 rw [show ((5 : Nat), Value.int .u32 1) = (5, .int .u32 (aH.e9 (B.take 0)).1) from by rw [List.take_zero, aH.qQ], show ((6 : Nat), Value.int .u32 0) = (6, .int .u32 (aH.e9 (B.take 0)).2) from by rw [List.take_zero, aH.qQ]]
 refine cB (fun (i : Nat) => [(1, .slice p B.length c), (5, .int .u32 (aH.e9 (B.take i)).1), (6, .int .u32 (aH.e9 (B.take i)).2), (7, .int .i64 (i : Int))]) (fun (i : Nat) => R :: F) (fun (i : Nat) => i ≤ B.length) (fun (i : Nat) => B.length - i) (i1 (0) ?_ (eQ ln) (sub (aq .nil) ao)) ?_
 ·exact Nat.zero_le _
 intro i
 rintro hi
 refine rL TT 9 rfl ?_
 refine aF rfl (fun h15 => ?_) (fun h15 => ?_)
 ·refine (Qg) ?_
  have hv : 0 ≤ (U5.g B (i : Int)) ∧ (U5.g B (i : Int)) < 256 := hB.get i
  have hs := aH.oY (B.take i)
  refine (Q5)<|(JG)<|(JQ)<|(PM)<|(IA)<|(UQ)<|(Q1)<|(IA)<|(Vh)<|(tG) ?_
  have e5 : ((aH.e9 (B.take i)).1 + (U5.g B (i : Int))) % 65521 = (aH.e9 (B.take (i + 1))).1 := by rw [aH.od (by omega)]; rfl
  have e6 : ((aH.e9 (B.take i)).2 + (aH.e9 (B.take (i + 1))).1) % 65521 = (aH.e9 (B.take (i + 1))).2 := by rw [aH.od (by omega)]; rfl
  rw [e5, e6]
  exact j1 (i + 1) ⟨by omega, by omega⟩ (eQ ln) (sub (aq .nil) ao)
 ·refine (Qd) ?_
  obtain rfl : i = B.length := by omega
  rw [List.take_length]
  have hs := aH.oY B
  refine (Qa)<|(VR)<|(Q6)<|(UK)<|(Q8) ?_
  exact ag (aw rfl) ⟨by unfold aH.fk; rfl, rfl⟩ (sub (aq .nil) ao)
theorem JV (p : Option Addr) (c : Nat) (B : List Int) (R : ab) (hR : ∀ w0 h, R w0 h → aE U5 p B.length B w0 h) (hl : B.length < 500000000) (hB : af.ak B) : aC Tryz.prog 135 [.slice p B.length c] [R] (aG fun v G => v = .int .u32 (aH.fk B) ∧ G = [R]) := by
 refine au [(0, _)] Tryz.func135 rfl Tryz.ntmps135 rfl rfl ?_
 intro w0 F
 refine (QJ) ?_
 refine aj (SQ p c B R hR hl hB) V.XA  rfl (aq .nil) rfl ?_
 rintro _ _ ⟨rfl, rfl⟩
 refine (Q8) ?_
 exact ag (aw rfl) ⟨rfl, rfl⟩ (sub (aq .nil) ao)
set_option maxHeartbeats 2000000 in
theorem C5 (p : Option Addr) (c : Nat) (B : List Int) (R : ab) (hR : ∀ w0 h, R w0 h → aE U5 p B.length B w0 h) (hl : 2 ≤ B.length) (hB : af.ak B) (t : Bool) (ht : t = decide (aH.Hd (B.getD 0 0) (B.getD 1 0))) : aC Tryz.prog 118 [.slice p B.length c] [R] (aG fun v G => v = .bool t ∧ G = [R]) := by
 refine au [(0, _)] Tryz.func118 rfl Tryz.ntmps118 rfl rfl ?_
 intro w0 F
 have hv : 0 ≤ (U5.g B 0) ∧ (U5.g B 0) < 256 := hB.get 0
 have hw : 0 ≤ (U5.g B 1) ∧ (U5.g B 1) < 256 := hB.get 1
 have ht2 : t = decide (aH.Hd (U5.g B 0) (U5.g B 1)) := ht
 clear ht
 refine (QV)<|(rJ)<|(vu) ?_
 refine oR (xI V.bK (by exact bG hR aA))<|(WM)<|(vu) ?_
 refine oR (xI V.bK (by exact bG hR aA))<|(WM) ?_
 refine rR TT 2 rfl<|Rg.df<|bg ?_
 rcases (aH.S5 (U5.g B 0) (U5.g B 1)) with h1 | ⟨h1, h2⟩ | ⟨h1, h2, h3⟩ | ⟨h1, h2, h3, h4⟩ | ⟨h1, h2, h3, h4⟩
 ·refine (Q4)<|(D6)<|(QC) ?_
  refine rO TT 22 rfl ?_
  (obtain rfl : t = false := ht2.trans (decide_eq_false (by unfold aH.Hd; intro hh; omega)); exact ag (G := [R]) (aw rfl) ⟨rfl, rfl⟩ (sub (aq .nil) ao))
 ·refine (Q4) ?_
  refine (D6) ?_
  refine (QD) ?_
  refine (Q7) ?_
  refine (Q0) ?_
  refine (IJ) ?_
  refine (Q0) ?_
  refine (Ie) ?_
  refine rO TT 18 rfl ?_
  (obtain rfl : t = false := ht2.trans (decide_eq_false (by unfold aH.Hd; intro hh; omega)); exact ag (G := [R]) (aw rfl) ⟨rfl, rfl⟩ (sub (aq .nil) ao))
 ·refine (Q4) ?_
  refine (D6) ?_
  refine (QD) ?_
  refine (Q7) ?_
  refine (Q0) ?_
  refine (IJ) ?_
  refine (Q0) ?_
  refine (yR) ?_
  refine (Qe) ?_
  refine (Q0) ?_
  refine (RE) ?_
  refine (Q0) ?_
  refine (Q6) ?_
  refine (Q0) ?_
  refine (Nf) ?_
  refine (Q0) ?_
  refine (SN) ?_
  refine (Q0) ?_
  refine (QC) ?_
  refine (Qi) ?_
  (obtain rfl : t = false := ht2.trans (decide_eq_false (by unfold aH.Hd; intro hh; omega)); exact ag (G := [R]) (aw rfl) ⟨rfl, rfl⟩ (sub (aq .nil) ao))
 ·refine (Q4) ?_
  refine (D6) ?_
  refine (QD) ?_
  refine (Q7) ?_
  refine (Q0) ?_
  refine (IJ) ?_
  refine (Q0) ?_
  refine (yR) ?_
  refine (Qe) ?_
  refine (Q0) ?_
  refine (RE) ?_
  refine (Q0) ?_
  refine (Q6) ?_
  refine (Q0) ?_
  refine (Nf) ?_
  refine (Q0) ?_
  refine (SN) ?_
  refine (Q0) ?_
  refine (QD) ?_
  refine (Qe) ?_
  refine (Q0) ?_
  refine oV (jG (r := 32 * ((U5.g B 1) / 32 % 2)) rfl rfl (aH.CC hw)) ?_
  refine (Q0) ?_
  refine (QC) ?_
  refine (Q3) ?_
  (obtain rfl : t = false := ht2.trans (decide_eq_false (by unfold aH.Hd; intro hh; omega)); exact ag (G := [R]) (aw rfl) ⟨rfl, rfl⟩ (sub (aq .nil) ao))
 ·refine (Q4) ?_
  refine (D6) ?_
  refine (QD) ?_
  refine (Q7) ?_
  refine (Q0) ?_
  refine (IJ) ?_
  refine (Q0) ?_
  refine (yR) ?_
  refine (Qe) ?_
  refine (Q0) ?_
  refine (RE) ?_
  refine (Q0) ?_
  refine (Q6) ?_
  refine (Q0) ?_
  refine (Nf) ?_
  refine (Q0) ?_
  refine (SN) ?_
  refine (Q0) ?_
  refine (QD) ?_
  refine (Qe) ?_
  refine (Q0) ?_
  refine oV (jG (r := 32 * ((U5.g B 1) / 32 % 2)) rfl rfl (aH.CC hw)) ?_
  refine (Q0) ?_
  refine (QD) ?_
  refine (Q3) ?_
  (obtain rfl : t = true := ht2.trans (decide_eq_true (by unfold aH.Hd; exact ⟨h1, h2, h3, h4⟩)); exact ag (G := [R]) (aw rfl) ⟨rfl, rfl⟩ (sub (aq .nil) ao))
set_option maxHeartbeats 2000000 in
theorem Tb (p : Option Addr) (c : Nat) (B : List Int) (R : ab) (hR : ∀ w0 h, R w0 h → aE U5 p B.length B w0 h) (hl : B.length < 500000000) (hB : af.ak B) : aC Tryz.prog 103 [.slice p B.length c] [R] (aG fun v G => v = .string (strOfNums (aH.jP B)) ∧ G = [R]) := by
 refine au [(0, _)] Tryz.func103 rfl Tryz.ntmps103 rfl rfl ?_
 intro w0 F
 have hn := aH.xf B
 refine (QJ) ?_
 refine aj (JV p c B R hR hl hB) V.W3  rfl (aq .nil) rfl ?_
 rintro _ _ ⟨rfl, rfl⟩
 refine (Q1) ?_
 refine oV (dP (r := aH.fk B / 2 ^ 24) rfl rfl (by decide) (aH.CG (n := 24) rfl (by decide)))<|oV (cW V.Bq Tryz.underlying5 rfl ((af.fY _).trans (show (aH.fk B / 2 ^ 24) % 256 = aH.fk B / 16777216 from by omega)))<|(Q6) ?_
 refine oV (dP (r := aH.fk B / 2 ^ 16) rfl rfl (by decide) (aH.CG (n := 16) rfl (by decide)))<|oV (cW V.Bq Tryz.underlying5 rfl ((af.fY _).trans (show (aH.fk B / 2 ^ 16) % 256 = aH.fk B / 65536 % 256 from by omega)))<|(Q6) ?_
 refine oV (dP (r := aH.fk B / 2 ^ 8) rfl rfl (by decide) (aH.CG (n := 8) rfl (by decide)))<|oV (cW V.Bq Tryz.underlying5 rfl ((af.fY _).trans (show (aH.fk B / 2 ^ 8) % 256 = aH.fk B / 256 % 256 from by omega)))<|(Q6) ?_
 refine oV (cW V.Bq Tryz.underlying5 rfl ((af.fY _).trans (show (aH.fk B) % 256 = aH.fk B % 256 from by omega)))<|cM (U5) (aH.jP B) V.bK V.z5 rfl rfl rfl rfl rfl rfl ?_
 intro Ol
 refine oV (tP (T := 5) Tryz.underlying22 Tryz.underlying5 Tryz.underlying9 rfl (own aA))<|(Q8) ?_
 exact ag (aw rfl) ⟨rfl, rfl⟩ (sub (.cons ay .nil) bC)
end Go.Proofs.YtmaiakpjgomnpaaGreat
namespace Go.Proofs.YtmaiakpjgomnpaaGreat
open Go.Sl 
attribute [local irreducible] aJ.nz ad.iS aJ.bV af.ak aH.e9 aH.jP aH.fk
section
variable {C : Ctx} {E : Env} {L : List ab} {ty : TypeId}
theorem mz {x y : Operand} {t t' : TypeId} {s u : ByteArray} {r : Bool} (hr : (s.toList == u.toList) = r) (hx : an E x = some (.string s)) (hy : an E y = some (.string u)) : bB C (.binOp .neq t x y t') ty E L (.bool (!r)) L :=
 cF fun d pos aft g a w ha => by
  rw [iF d pos aft g (ha.eval hx) (ha.eval hy) (by simp [eqGuard])]
  simp [binOp, Op.stringOp, Sem.run_pure, ← hr, bne]
end
theorem P3 (p : Option Addr) (c n : Nat) (L : List Int) (R : ab) (hR : ∀ w0 h, R w0 h → aE U5 p n L w0 h) (hn : L.length = n) (hl : n < 500000000) (hB : af.ak L) (mo : Int) (hm : mo < 500000000) (x : List Int) (u e : Int) (hq : ad.iS L mo (x, u, e)) : aC Tryz.prog 119 [.slice p n c, .int .i64 mo] [R] (aG fun v G => ∃ qq cq, v = .tuple #[.slice qq x.length cq, .int .i64 u, .int .i64 e] ∧ G = [Row U5 qq x.length cq x, R]) := by
 subst hn
 exact SZ p c L R hR hl hB mo hm (x, u, e) hq
set_option maxHeartbeats 4000000 in
theorem PG (p : Option Addr) (c : Nat) (B : List Int) (R : ab) (hR : ∀ w0 h, R w0 h → aE U5 p B.length B w0 h) (hcap : B.length ≤ c) (hl : B.length < 500000000) (hB : af.ak B) (mo : Int) (hm : mo < 500000000) (q : List Int × Int) (hq : aH.lZ B mo q) : aC Tryz.prog 84 [.slice p B.length c, .int .i64 mo] [R] (aG fun v G => ∃ qq cq, v = .tuple #[.slice qq q.1.length cq, .int .i64 q.2] ∧ G = [Row U5 qq q.1.length cq q.1, R]) := by
 refine au [(0, _), (1, _)] Tryz.func84 rfl Tryz.ntmps84 rfl rfl ?_
 intro w0 F
 refine (QJ) ?_
 rcases (hq.XJ hB hm) with ⟨hb6, rfl⟩ | ⟨hb6, hhd, rfl⟩ | ⟨x, n, e, hb6, hhd, hr, hxB, hxl, hn, hws⟩
 ·refine (Q5)<|(QO)<|(Qu) ?_
  exact ag (eC rfl rfl) ⟨none, 0, rfl, rfl⟩ (Sl.Sub.trans (cZ (A := Row U5 none 0 0 []) (fun w0 => Row.nil U5 w0 _)) (sub (aT .nil) ao))
 ·refine (Q5)<|(QM)<|(Qc) ?_
  refine aj (C5 p c B R hR (by omega) hB false (decide_eq_false hhd).symm) V.Nd  rfl (aq .nil) rfl ?_
  rintro _ _ ⟨rfl, rfl⟩
  refine (QP) ?_
  exact ag (eC rfl rfl) ⟨none, 0, rfl, rfl⟩ (Sl.Sub.trans (cZ (A := Row U5 none 0 0 []) (fun w0 => Row.nil U5 w0 _)) (sub (aT .nil) ao))
 ·refine (Q5)<|(QM)<|(Qc) ?_
  refine aj (C5 p c B R hR (by omega) hB true (decide_eq_true hhd).symm) V.Nd  rfl (aq .nil) rfl ?_
  rintro _ _ ⟨rfl, rfl⟩
  refine (Qn) ?_
  have hB2 := aH.dT hB 2
  have hD2 : ∀ w0 h, R w0 h → aE U5 (dm p 2 c 1) (B.length - 2) (B.drop 2) w0 h := fun w0 h hh => fT (c := U5) hR rfl 2 c (by omega) hcap w0 h hh
  refine (Qa) ?_
  refine oV (dY 2 _ _ V.bK rfl ⟨_, rfl⟩ ⟨rfl, rfl⟩ rfl (by omega) (by omega) (by omega))<|(Q6) ?_
  refine aj (P3 (dm p 2 c 1) (c - 2) (B.length - 2) (B.drop 2) R hD2 List.length_drop (by omega) hB2 mo hm x (n : Int) e hr) V.Xg  rfl (aq .nil) rfl ?_
  rintro _ _ ⟨q22, c22, rfl, rfl⟩
  refine (Qi) ?_
  have hBn := aH.dT hB (2 + n)
  have hDn : ∀ w0 h, R w0 h → aE U5 (dm p (2 + n) c 1) (B.length - (2 + n)) (B.drop (2 + n)) w0 h := fun w0 h hh => fT (c := U5) hR rfl (2 + n) c (by omega) hcap w0 h hh
  refine (Q4) ?_
  refine oV (de (v := .int .i64 ((2 + n : Nat) : Int)) (eb rfl rfl wI) (by congr 1))<|oV (dY (2 + n) B.length c V.bK rfl ⟨_, rfl⟩ ⟨rfl, rfl⟩ rfl (by omega) (by omega) (by omega))<|(Q3) ?_
  rcases (hws) with ⟨he, rfl⟩ | ⟨he, h4, rfl⟩ | ⟨he, h4, rfl⟩ | ⟨he, h4, hne, rfl⟩ | ⟨he, h4, heq, rfl⟩
  ·refine (Q4) ?_
   refine oV (cJ (cE rfl rfl) he)<|(QP) ?_
   exact ag (eC rfl rfl) ⟨none, 0, rfl, rfl⟩ (Sl.Sub.trans (cZ (A := Row U5 none 0 0 []) (fun w0 => Row.nil U5 w0 _)) (sub (aq (.cons ay .nil)) bC))
  ·refine (Q4)<|(I6)<|(Qj)<|(QO)<|(Qu) ?_
   exact ag (eC rfl rfl) ⟨none, 0, rfl, rfl⟩ (Sl.Sub.trans (cZ (A := Row U5 none 0 0 []) (fun w0 => Row.nil U5 w0 _)) (sub (aq (.cons ay .nil)) bC))
  ·refine (Q4) ?_
   refine (I6) ?_
   refine (Qj) ?_
   refine (QM) ?_
   refine (Qj) ?_
   refine (Qt) ?_
   refine (Qu) ?_
   exact ag (eC rfl rfl) ⟨none, 0, rfl, rfl⟩ (Sl.Sub.trans (cZ (A := Row U5 none 0 0 []) (fun w0 => Row.nil U5 w0 _)) (sub (aq (.cons ay .nil)) bC))
  ·refine (Q4) ?_
   refine (I6) ?_
   refine (Qj) ?_
   refine (QM) ?_
   refine (Qj) ?_
   refine (Qq) ?_
   refine (Q3) ?_
   refine (V4) ?_
   refine nM ?_
   refine (V3) ?_
   refine nM ?_
   refine (UO) ?_
   refine nV (fun y hA L => de (v := .bool true) (mz (sK (aH.bo hBn) (aH.bo (aH.q9 x)) hne) rfl rfl) rfl) ?_
   refine nA ?_
   refine (Qb) ?_
   intro y hA
   clear hA
   refine bg<|(VV)<|(QB) ?_
   exact ag (eC rfl rfl) ⟨none, 0, rfl, rfl⟩ (Sl.Sub.trans (cZ (A := Row U5 none 0 0 []) (fun w0 => Row.nil U5 w0 _)) (sub (aT .nil) bC))
  ·refine (Q4) ?_
   refine (I6) ?_
   refine (Qj) ?_
   refine (QM) ?_
   refine (Qj) ?_
   refine (Qq) ?_
   refine (Q3) ?_
   refine (V4) ?_
   refine nM ?_
   refine (V3) ?_
   refine nM ?_
   refine (UO) ?_
   refine nV (fun y hA L => de (v := .bool false) (mz (r := true) (by rw [heq]; exact beq_self_eq_true _) rfl rfl) rfl) ?_
   refine nA ?_
   refine (Qb) ?_
   intro y hA
   clear hA
   refine bg<|(VV) ?_
   exact rC TT 12 rfl<|ag (eC rfl rfl) ⟨q22, c22, rfl, rfl⟩ (sub (.cons ay (aq .nil)) ao)
end Go.Proofs.YtmaiakpjgomnpaaGreat
namespace Go.Proofs.YtmaiakpjgomnpaaGreat
open Go.Sl
theorem V.JL : gq Tryz.prog 173 = some (256, 76, 1) := by kernel_rfl
theorem V.X7 : aB Tryz.prog 111 = true := by kernel_rfl
theorem V.Ns : aB Tryz.prog 143 = true := by kernel_rfl
theorem V.sF : aB Tryz.prog 96 = true := by kernel_rfl
theorem V.NJ : a7 Tryz.prog 175 0 = some 0 := by kernel_rfl
theorem V.UB : ew Tryz.prog 175 = some [(0, 256)] := by kernel_rfl
theorem V.Wg : bP Tryz.prog 76 = true := by kernel_rfl
theorem V.z175 : cm Tryz.prog 175 = some (List.replicate 256 (.int .u32 0)) := by kernel_rfl
end Go.Proofs.YtmaiakpjgomnpaaGreat
namespace Go.Proofs.YtmaiakpjgomnpaaGreat
open Go.Sl 
attribute [local irreducible] af.ak aa.fO aa.fK aa.dp aa.fq aa.eH aa.gA
set_option maxHeartbeats 1000000 in
theorem Tz (x : Int) (hx : 0 ≤ x ∧ x < 4294967296) : aC Tryz.prog 111 [.int .u32 x] [] (aG fun v G => v = .int .u32 (aa.fK x) ∧ G = []) := by
 refine au [(0, _)] Tryz.func111 rfl Tryz.ntmps111 rfl rfl ?_
 intro w0 F
 refine rT TT 12 rfl ?_
 rw [show ((0 : Nat), Value.int .u32 x) = (0, .int .u32 (aa.fO 0 x)) from by rw [aa.Jz hx.1]]
 refine cB (fun (k : Nat) => [(0, .int .u32 (aa.fO k x)), (3, .int .i64 (k : Int))]) (fun (k : Nat) => F) (fun (k : Nat) => k ≤ 8) (fun (k : Nat) => 8 - k) (i1 (0) ?_ (jg ln) (sub .nil ao)) ?_
 ·exact Nat.zero_le _
 intro k
 rintro hk
 have hs := aa.DU hx k
 refine (Qm) ?_
 refine aF rfl (fun h4 => ?_) (fun h4 => ?_)
 ·refine (Qp) ?_
  refine oV (jG (r := (aa.fO k x) % 2) rfl rfl (aa.vO hs))<|(Qe) ?_
  refine aF rfl (fun h7 => ?_) (fun h7 => ?_)
  ·refine (Qa)<|(Wu) ?_
   refine oV (qC (r := aa.dp ((aa.fO k x) / 2) 3988292384) rfl rfl (aa.wc (by omega) (by decide)))<|(QG) ?_
   (rw [← aa.Bj (by assumption)]; exact j1 (k + 1) ⟨by omega, by omega⟩ (jg ln) (sub .nil ao))
  ·refine (Qa)<|(Wu)<|(QG) ?_
   (rw [← aa.yZ (by assumption)]; exact j1 (k + 1) ⟨by omega, by omega⟩ (jg ln) (sub .nil ao))
 ·refine (Qd) ?_
  obtain rfl : k = 8 := by omega
  rw [aa.IU]
  refine (Qd) ?_
  exact ag (aw rfl) ⟨rfl, rfl⟩ (sub .nil ao)
set_option maxHeartbeats 4000000 in
theorem Uc  : aC Tryz.prog 78 [] [] (aG fun v G => ∃ b, v = .pointer (some ⟨b, 0, none⟩) ∧ G = [ai b 175 (CA [] .u32 aa.eH [])]) := by
 refine au [] Tryz.func78 rfl Tryz.ntmps78 rfl rfl ?_
 intro w0 F
 refine rT TT 7 rfl<|oV (c5 V.UB V.z175 rfl (cs := ints .u32 (List.replicate 256 0)) rfl)<|iL rfl (yA _ _) rfl ?_
 intro b4
 refine (Qi) ?_
 rw [← aa.P1]
 refine cB (fun (i : Nat) => [(1, .pointer (some ⟨b4, 0, none⟩)), (5, .int .i64 (i : Int))]) (fun (i : Nat) => ai b4 175 (CA [] .u32 (aa.gA i) []) :: F) (fun (i : Nat) => i ≤ 256) (fun (i : Nat) => 256 - i) (i1 (0) ?_ (jg ln) (sub (aq .nil) ao)) ?_
 ·exact Nat.zero_le _
 intro i
 rintro hi
 have hl := aa.xO (i := i) (by omega)
 refine (Qm) ?_
 refine aF rfl (fun h6 => ?_) (fun h6 => ?_)
 ·refine (QB) ?_
  refine wN [pz 0 [] [1], pz 0 [] [2], pz 0 [] [2], pz 4 [2] [], pz 12 [3] [], pz 1 [0] [], pz 33 [5] [], pz 127 [6, 1] [], pz 255 [7, 4] []] [⟨fun y => ai b4 175 (CA [] .u32 (aa.gA i) []), none, some 8, []⟩, ⟨fun y => ai b4 175 (CA [] .u32 ((aa.gA i).set (((i : Int)).toNat) (aa.fK (i : Int))) []), some 8, none, []⟩] F V.mixed ?_
  iterate 3 refine nM ?_
  refine nV (fun y hA L => cW V.u3 Tryz.underlying76 rfl (aH.wrap32 (by omega) (by omega))) ?_
  refine nE (fun y FF hA => aX (Post := []) (Tz (i : Int) (by omega)) V.X7 rfl .nil (fun v G h => by rcases h with ⟨rfl, rfl⟩; exact ⟨rfl, .refl _⟩)) ?_
  refine nN ?_
  refine nG V.NJ ?_
  refine nV (fun y hA L => dh i rfl V.JL rfl rfl (by omega)) ?_
  refine nE (fun y FF hA => dE (zT (i : Int) V.Wg rfl rfl (by exact fW) (by (simp only [List.length_cons, List.length_nil]; omega)) (by omega) (by omega)) ⟨rfl, .refl _⟩) ?_
  refine (Qb) ?_
  intro y hA
  clear hA
  show kC _ _ _ _ (ai b4 175 (CA [] .u32 ((aa.gA i).set (((i : Int)).toNat) (aa.fK (i : Int))) []) :: F)
  refine jD<|bg<|(Qo) ?_
  refine oV (eb rfl rfl wI)<|(Q6) ?_
  refine df ?_
  rw [show List.set (aa.gA i) ((i : Int)).toNat (aa.fK (i : Int)) = aa.gA (i + 1) from aa.HN (by omega)]
  refine j1 (i + 1) ?_ (jg ln) (sub (aq .nil) ao)
  exact ⟨by omega, by omega⟩
 ·refine (Qd) ?_
  obtain rfl : i = 256 := by omega
  rw [aa.Ll]
  refine (Qd) ?_
  exact ag (aw rfl) ⟨_, rfl, rfl⟩ (sub (aq .nil) ao)
set_option maxHeartbeats 4000000 in
theorem Dc (bt : Nat) (p : Option Addr) (c : Nat) (B : List Int) (R : ab) (hR : ∀ w0 h, R w0 h → aE U5 p B.length B w0 h) (hl : B.length < 500000000) (hB : af.ak B) (s : Int) (hs0 : 0 ≤ s ∧ s < 4294967296) : aC Tryz.prog 143 [.pointer (some ⟨bt, 0, none⟩), .int .u32 s, .slice p B.length c] [ai bt 175 (CA [] .u32 aa.eH []), R] (aG fun v G => v = .int .u32 (aa.pG s B) ∧ G = [ai bt 175 (CA [] .u32 aa.eH []), R]) := by
 refine au [(0, _), (1, _), (2, _)] Tryz.func143 rfl Tryz.ntmps143 rfl rfl ?_
 intro w0 F
 have htl := aa.LU
 refine (QW) ?_
 refine oV (de (v := .bool false) (uS Tryz.underlying131 rfl rfl) rfl)<|(Qj) ?_
 refine oV (xo (r := 4294967295 - s) rfl rfl (aa.Cr (by omega)))<|(QL) ?_
 rw [show ((1 : Nat), Value.int .u32 (4294967295 - s)) = (1, .int .u32 (aa.fq (4294967295 - s) (B.take 0))) from by rw [List.take_zero]; unfold aa.fq; rfl]
 refine cB (fun (i : Nat) => [(0, .pointer (some ⟨bt, 0, none⟩)), (1, .int .u32 (aa.fq (4294967295 - s) (B.take i))), (13, .slice p B.length c), (14, .int .i64 (B.length : Int)), (15, .int .i64 (i : Int))]) (fun (i : Nat) => ai bt 175 (CA [] .u32 aa.eH []) :: R :: F) (fun (i : Nat) => i ≤ B.length) (fun (i : Nat) => B.length - i) (i1 (0) ?_ (bN ln) (sub (aT .nil) ao)) ?_
 ·exact Nat.zero_le _
 intro i
 rintro hi
 refine (Qm) ?_
 refine aF rfl (fun h16 => ?_) (fun h16 => ?_)
 ·refine (Qd) ?_
  refine oV (xI V.bK (by exact bG hR dM))<|oV (xL V.s5 (by exact bG hR dM))<|(Qe) ?_
  have hv : 0 ≤ (U5.g B (i : Int)) ∧ (U5.g B (i : Int)) < 256 := hB.get i
  have hs := aa.nK (l := B.take i) (s := (4294967295 - s)) (aa.fU hB i) (by omega)
  have hix := aa.Pj (a := (aa.fq (4294967295 - s) (B.take i)) % 256) (b := (U5.g B (i : Int))) (by omega) hv
  have hrw := aa.AG (x := (aa.dp ((aa.fq (4294967295 - s) (B.take i)) % 256) (U5.g B (i : Int)))) (by omega)
  refine (Q4)<|(vL)<|(Q6) ?_
  refine oV (qC (r := (aa.dp ((aa.fq (4294967295 - s) (B.take i)) % 256) (U5.g B (i : Int)))) rfl rfl (aa.Xt (by omega) hv))<|(Q7) ?_
  refine oV (dh (((aa.dp ((aa.fq (4294967295 - s) (B.take i)) % 256) (U5.g B (i : Int)))).toNat) (by omega) V.JL rfl rfl (by omega))<|oV (oS (aa.dp ((aa.fq (4294967295 - s) (B.take i)) % 256) (U5.g B (i : Int))) V.Wg rfl aA (by (simp only [List.length_cons, List.length_nil]; omega)) (by omega) (by omega)) ?_
  rw [aa.F5 hix]
  refine (Q6) ?_
  refine oV (dP (r := (aa.fq (4294967295 - s) (B.take i)) / 256) rfl rfl (by decide) (aa.lH (n := 8) rfl (by decide) rfl))<|oV (qC (r := aa.dp (aa.fK (aa.dp ((aa.fq (4294967295 - s) (B.take i)) % 256) (U5.g B (i : Int)))) ((aa.fq (4294967295 - s) (B.take i)) / 256)) rfl rfl (aa.wc hrw (by omega)))<|(QG) ?_
  have ht := aa.yV (l := B) (s := (4294967295 - s)) (i := i) (by omega)
  rw [show B.getD i 0 = (U5.g B (i : Int)) from rfl] at ht
  rw [aa.DH hs.1 hv] at ht
  rw [← ht]
  exact j1 (i + 1) ⟨by omega, by omega⟩ (bN ln) (sub (aT .nil) ao)
 ·refine (Qd) ?_
  obtain rfl : i = B.length := by omega
  rw [List.take_length]
  have hs := aa.nK (l := B) (s := (4294967295 - s)) hB (by omega)
  refine (Qa)<|(Wv)<|(Q8) ?_
  exact ag (aw rfl) ⟨by unfold aa.pG; rfl, rfl⟩ (sub (aT .nil) ao)
set_option maxHeartbeats 4000000 in
theorem Jk (p : Option Addr) (c : Nat) (B : List Int) (R : ab) (hR : ∀ w0 h, R w0 h → aE U5 p B.length B w0 h) (hl : B.length < 500000000) (hB : af.ak B) (s : Int) (hs0 : 0 ≤ s ∧ s < 4294967296) : aC Tryz.prog 96 [.int .u32 s, .slice p B.length c] [R] (aG fun v G => v = .int .u32 (aa.pG s B) ∧ G = [R]) := by
 refine au [(0, _), (1, _)] Tryz.func96 rfl Tryz.ntmps96 rfl rfl ?_
 intro w0 F
 refine (QJ) ?_
 refine oV (xo (r := 4294967295 - s) rfl rfl (aa.Cr (by omega)))<|(Qi) ?_
 rw [show ((0 : Nat), Value.int .u32 (4294967295 - s)) = (0, .int .u32 (aa.fq (4294967295 - s) (B.take 0))) from by rw [List.take_zero]; unfold aa.fq; rfl]
 refine cB (fun (i : Nat) => [(0, .int .u32 (aa.fq (4294967295 - s) (B.take i))), (1, .slice p B.length c), (5, .int .i64 (i : Int))]) (fun (i : Nat) => R :: F) (fun (i : Nat) => i ≤ B.length) (fun (i : Nat) => B.length - i) (i1 (0) ?_ (fz ln) (sub (aq .nil) ao)) ?_
 ·exact Nat.zero_le _
 intro i
 rintro hi
 refine rL TT 9 rfl ?_
 refine aF rfl (fun h13 => ?_) (fun h13 => ?_)
 ·refine (Qg) ?_
  have hv : 0 ≤ (U5.g B (i : Int)) ∧ (U5.g B (i : Int)) < 256 := hB.get i
  have hs := aa.nK (l := B.take i) (s := (4294967295 - s)) (aa.fU hB i) (by omega)
  refine (Q5)<|(JG)<|(JQ)<|(PM) ?_
  refine oV (qC (r := (aa.dp (aa.fq (4294967295 - s) (B.take i)) (U5.g B (i : Int)))) rfl rfl (aa.wc hs (by omega)))<|(Q8) ?_
  have hxc := aa.Km (a := (aa.fq (4294967295 - s) (B.take i))) (b := (U5.g B (i : Int))) hs (by omega)
  refine (Qg) ?_
  rw [show ((0 : Nat), Value.int .u32 (aa.dp (aa.fq (4294967295 - s) (B.take i)) (U5.g B (i : Int)))) = (0, .int .u32 (aa.fO 0 (aa.dp (aa.fq (4294967295 - s) (B.take i)) (U5.g B (i : Int))))) from by rw [aa.Jz hxc.1]]
  refine cB (fun (k : Nat) => [(0, .int .u32 (aa.fO k (aa.dp (aa.fq (4294967295 - s) (B.take i)) (U5.g B (i : Int))))), (1, .slice p B.length c), (5, .int .i64 (i : Int)), (6, .int .i64 (k : Int))]) (fun (k : Nat) => R :: F) (fun (k : Nat) => k ≤ 8) (fun (k : Nat) => 8 - k) (i1 (0) ?_ (eQ ln) (sub (aq .nil) ao)) ?_
  ·exact Nat.zero_le _
  intro k
  rintro hk
  refine rL TT 7 rfl ?_
  refine aF rfl (fun h24 => ?_) (fun h24 => ?_)
  ·refine (Qg) ?_
   have hk2 := aa.DU hxc k
   refine (Qa) ?_
   refine oV (jG (r := (aa.fO k (aa.dp (aa.fq (4294967295 - s) (B.take i)) (U5.g B (i : Int)))) % 2) rfl rfl (aa.vO hk2))<|(Q1) ?_
   refine oV (dP (r := (aa.fO k (aa.dp (aa.fq (4294967295 - s) (B.take i)) (U5.g B (i : Int)))) / 2) rfl rfl (by decide) (aa.lH (n := 1) rfl (by decide) rfl))<|(Qn) ?_
   refine aF rfl (fun h32 => ?_) (fun h32 => ?_)
   ·refine (Qa) ?_
    refine oV (qC (r := aa.dp ((aa.fO k (aa.dp (aa.fq (4294967295 - s) (B.take i)) (U5.g B (i : Int)))) / 2) 3988292384) rfl rfl (aa.wc (by omega) (by decide)))<|(tG) ?_
    (rw [← aa.Bj (by assumption)]; exact j1 (k + 1) ⟨by omega, by omega⟩ (eQ ln) (sub (aq .nil) ao))
   ·refine (vT) ?_
    (rw [← aa.yZ (by assumption)]; exact j1 (k + 1) ⟨by omega, by omega⟩ (eQ ln) (sub (aq .nil) ao))
  ·refine (Qd) ?_
   obtain rfl : k = 8 := by omega
   refine jz TT 5 rfl (by omega) ?_
   have ht := aa.yV (l := B) (s := (4294967295 - s)) (i := i) (by omega)
   rw [show B.getD i 0 = (U5.g B (i : Int)) from rfl] at ht
   rw [aa.IU, ← ht]
   exact j1 (i + 1) ⟨by omega, by omega⟩ (fz ln) (sub (aq .nil) ao)
 ·refine (Qd) ?_
  obtain rfl : i = B.length := by omega
  rw [List.take_length]
  have hs := aa.nK (l := B) (s := (4294967295 - s)) hB (by omega)
  refine (Qa)<|(Wv)<|(Q8) ?_
  exact ag (aw rfl) ⟨by unfold aa.pG; rfl, rfl⟩ (sub (aq .nil) ao)
set_option maxHeartbeats 2000000 in
theorem Lb (bt : Nat) (kk : List Int) (hk : af.ak kk) (hkl : kk.length < 500000000) (p : Option Addr) (c : Nat) (B : List Int) (R : ab) (hR : ∀ w0 h, R w0 h → aE U5 p B.length B w0 h) (hl : B.length < 500000000) (hB : af.ak B) : aC Tryz.prog 109 [.pointer (some ⟨bt, 0, none⟩), .string (strOfNums kk), .slice p B.length c] [ai bt 175 (CA [] .u32 aa.eH []), R] (aG fun v G => v = .int .u32 (aa.gj kk B) ∧ G = [ai bt 175 (CA [] .u32 aa.eH []), R]) := by
 refine au [(0, _), (1, _), (2, _)] Tryz.func109 rfl Tryz.ntmps109 rfl rfl ?_
 intro w0 F
 have hm := aa.tM (s := 0) (by decide) hk
 refine rT TT 10 rfl<|(Wq) ?_
 intro b10 c10
 refine aj (Dc bt (some ⟨b10, 0, none⟩) c10 kk (aE U5 (some ⟨b10, 0, none⟩) kk.length kk) (fun _ _ hh => hh) hkl hk 0 (by decide)) V.Ns  rfl (.cons ay (aq .nil)) rfl ?_
 rintro _ _ ⟨rfl, rfl⟩
 refine (Q6) ?_
 refine aj (Dc bt p c B R hR hl hB (aa.pG 0 kk) hm) V.Ns  rfl (aq (.cons ay .nil)) rfl ?_
 rintro _ _ ⟨rfl, rfl⟩
 refine (Q8) ?_
 exact ag (aw rfl) ⟨by unfold aa.gj; rfl, rfl⟩ (sub (aT .nil) bC)
set_option maxHeartbeats 2000000 in
theorem LC (kk : List Int) (hk : af.ak kk) (hkl : kk.length < 500000000) (p : Option Addr) (c : Nat) (B : List Int) (R : ab) (hR : ∀ w0 h, R w0 h → aE U5 p B.length B w0 h) (hl : B.length < 500000000) (hB : af.ak B) : aC Tryz.prog 66 [.string (strOfNums kk), .slice p B.length c] [R] (aG fun v G => v = .int .u32 (aa.gj kk B) ∧ G = [R]) := by
 refine au [(0, _), (1, _)] Tryz.func66 rfl Tryz.ntmps66 rfl rfl ?_
 intro w0 F
 have hm := aa.tM (s := 0) (by decide) hk
 refine (QJ)<|(Wq) ?_
 intro b6 c6
 refine aj (Jk (some ⟨b6, 0, none⟩) c6 kk (aE U5 (some ⟨b6, 0, none⟩) kk.length kk) (fun _ _ hh => hh) hkl hk 0 (by decide)) V.sF  rfl (aq .nil) rfl ?_
 rintro _ _ ⟨rfl, rfl⟩
 refine (Q6) ?_
 refine aj (Jk p c B R hR hl hB (aa.pG 0 kk) hm) V.sF  rfl (.cons ay .nil) rfl ?_
 rintro _ _ ⟨rfl, rfl⟩
 refine (Q8) ?_
 exact ag (aw rfl) ⟨by unfold aa.gj; rfl, rfl⟩ (sub (aq .nil) bC)
end Go.Proofs.YtmaiakpjgomnpaaGreat
namespace Go.Proofs.YtmaiakpjgomnpaaGreat
open Go.Sl
theorem V.Nl : aB Tryz.prog 142 = true := by kernel_rfl
end Go.Proofs.YtmaiakpjgomnpaaGreat
namespace Go.Proofs.YtmaiakpjgomnpaaGreat
open Go.Sl 
attribute [local irreducible] af.ak aa.fO aa.fK aa.dp aa.fq aa.eH aa.gA
theorem H7 {l m : List Int} {t : Bool} (hl : ∀ x ∈ l, 0 ≤ x ∧ x < 256) (hm : ∀ x ∈ m, 0 ≤ x ∧ x < 256) (ht : t = decide (l = m)) : ((strOfNums l).toList == (strOfNums m).toList) = t := by
 by_cases h : l = m
 ·rw [ht, decide_eq_true h, h]; exact beq_self_eq_true _
 ·rw [ht, decide_eq_false h]; exact sK hl hm h
theorem je {C : Ctx} {E : Env} {L : List ab} {ty : TypeId} {x y : Operand} {t t' : TypeId} {l m : List Int} {r : Bool} (hl : ∀ x ∈ l, 0 ≤ x ∧ x < 256) (hm : ∀ x ∈ m, 0 ≤ x ∧ x < 256) (hx : an E x = some (.string (strOfNums l))) (hy : an E y = some (.string (strOfNums m))) (ht : r = decide (l = m)) : bB C (.binOp .eql t x y t') ty E L (.bool r) L := I1 hx hy (H7 hl hm ht)
theorem yp (x : Int) (hx : 0 ≤ x ∧ x < 256) (t : Bool) (ht : t = decide (aa.jL x)) : aC Tryz.prog 142 [.int .u8 x] [] (aG fun v G => v = .bool t ∧ G = []) := by
 refine au [(0, _)] Tryz.func142 rfl Tryz.ntmps142 rfl rfl ?_
 intro w0 F
 refine (QI) ?_
 rcases (aa.SB x) with ⟨h1, h2⟩ | ⟨h1, h2⟩ | ⟨h1, h2, h3⟩ | ⟨h1, h2, h3⟩ | ⟨h1, h2⟩
 ·refine (Q4)<|(QN)<|(Qk)<|(yR)<|(Qu) ?_
  (obtain rfl : t = true := ht.trans (decide_eq_true (by unfold aa.jL; omega)); exact ag (G := []) (aw rfl) ⟨rfl, rfl⟩ (sub .nil ao))
 ·refine (Q4)<|(QN)<|(Qk)<|(Ie)<|(Qf)<|(QN)<|(Qk)<|(Ie)<|(Q1) ?_
  (obtain rfl : t = false := ht.trans (decide_eq_false (by unfold aa.jL; omega)); exact ag (G := []) (aw rfl) ⟨rfl, rfl⟩ (sub .nil ao))
 ·refine (Q4)<|(oI)<|(Q1)<|(Q0)<|(QN)<|(Qk)<|(yR)<|(Q1) ?_
  (obtain rfl : t = true := ht.trans (decide_eq_true (by unfold aa.jL; omega)); exact ag (G := []) (aw rfl) ⟨rfl, rfl⟩ (sub .nil ao))
 ·refine (Q4)<|(oI)<|(Q1)<|(Q0)<|(QN)<|(Qk)<|(Ie)<|(Q1) ?_
  (obtain rfl : t = false := ht.trans (decide_eq_false (by unfold aa.jL; omega)); exact ag (G := []) (aw rfl) ⟨rfl, rfl⟩ (sub .nil ao))
 ·refine (Q4)<|(oI)<|(Q1)<|(Q0)<|(oI)<|(Qn) ?_
  (obtain rfl : t = false := ht.trans (decide_eq_false (by unfold aa.jL; omega)); exact ag (G := []) (aw rfl) ⟨rfl, rfl⟩ (sub .nil ao))
set_option maxHeartbeats 1000000 in
theorem lT (kk : List Int) (hk : af.ak kk) (hkl : kk.length < 500000000) (t : Bool) (ht : t = decide (aa.cY kk)) : aC Tryz.prog 107 [.string (strOfNums kk)] [] (aG fun v G => v = .bool t ∧ G = []) := by
 refine au [(0, _)] Tryz.func107 rfl Tryz.ntmps107 rfl rfl ?_
 intro w0 F
 refine (QW)<|(JU)<|(Q8) ?_
 refine cB (fun (i : Nat) => [(0, .string (strOfNums kk)), (5, .int .i64 (kk.length : Int)), (6, .int .i64 (i : Int))]) (fun (i : Nat) => F) (fun (i : Nat) => i ≤ kk.length ∧ ∀ j, j < i → aa.jL (kk.getD j 0)) (fun (i : Nat) => kk.length - i) (i1 (0) ?_ (fz ln) (sub .nil ao)) ?_
 ·exact ⟨Nat.zero_le _, fun j hj => by omega⟩
 intro i
 rintro ⟨hi, hall⟩
 refine (Qm) ?_
 refine aF rfl (fun h7 => ?_) (fun h7 => ?_)
 ·refine (QB) ?_
  rcases (Classical.em (aa.jL (kk.getD i 0))) with hl1 | hl1
  ·refine (Q5)<|(OQ) ?_
   refine aj (yp (kk.getD i 0) (hk.get i) true (decide_eq_true hl1).symm) V.Nl  rfl .nil rfl ?_
   rintro _ _ ⟨rfl, rfl⟩
   refine (Af) ?_
   refine j1 (i + 1) ?_ (fz ln) (sub .nil ao)
   exact ⟨⟨by omega, fun j hj => (Nat.lt_succ_iff_lt_or_eq.1 hj).elim (hall j) (fun e => e ▸ hl1)⟩, by omega⟩
  ·refine (Q5)<|(OQ) ?_
   refine aj (yp (kk.getD i 0) (hk.get i) false (decide_eq_false hl1).symm) V.Nl  rfl .nil rfl ?_
   rintro _ _ ⟨rfl, rfl⟩
   refine (QK) ?_
   obtain rfl : t = false := ht.trans (decide_eq_false (aa.va hl1 (by omega)))
   exact ag (aw rfl) ⟨rfl, rfl⟩ (sub .nil ao)
 ·refine rC TT 8 rfl<|(JU)<|(Q3) ?_
  obtain rfl : i = kk.length := by omega
  rw [aa.SX ht hall]
  exact ag (aw rfl) ⟨rfl, rfl⟩ (sub .nil ao)
set_option maxHeartbeats 1000000 in
theorem w5 (p : Option Addr) (c : Nat) (B : List Int) (R : ab) (hR : ∀ w0 h, R w0 h → aE U5 p B.length B w0 h) (hB : af.ak B) (h4 : 4 ≤ B.length) (hcap : B.length ≤ c) : aC Tryz.prog 112 [.slice p B.length c] [R] (aG fun v G => v = .int .i64 (aH.cV B) ∧ G = [R]) := by
 refine au [(0, _)] Tryz.func112 rfl Tryz.ntmps112 rfl rfl ?_
 intro w0 F
 have hT : ∀ w0 h, R w0 h → aE U5 p 4 (B.take 4) w0 h := kV (cap := 0) hR 4 h4
 refine rT TT 14 rfl<|oV (iK 4 c V.bK rfl ⟨_, rfl⟩ rfl (by omega) (by omega))<|(Q3) ?_
 refine cB (fun (i : Nat) => [(3, .int .i64 (aa.ac B i)), (7, .slice p 4 c), (8, .int .i64 4), (9, .int .i64 (i : Int))]) (fun (i : Nat) => R :: F) (fun (i : Nat) => i ≤ 4) (fun (i : Nat) => 4 - i) (i1 (0) ?_ (eQ ln) (sub (aq .nil) ao)) ?_
 ·exact Nat.zero_le _
 intro i
 rintro hi
 refine (Qm) ?_
 refine aF rfl (fun h10 => ?_) (fun h10 => ?_)
 ·refine (Qg) ?_
  have hv := hB.get i
  have ha := aa.TV hB (i := i) (by omega)
  refine (Qo) ?_
  refine oV (xI V.bK (by exact bG hT aA))<|oV (xL V.s5 (by exact bG hT aA)) ?_
  rw [show U5.g (B.take 4) (i : Int) = (B.getD i 0) from aa.Dg (by omega)]
  refine (Q3) ?_
  refine oV (gS (r := (aa.ac B i) * 256) rfl rfl (by decide) (aH.Hb (n := 8) rfl (by decide) rfl (by omega) (by omega)))<|(Q6)<|(qa) ?_
  refine oV (ow (r := (aa.ac B i) * 256 + (B.getD i 0)) rfl rfl (aH.ur (u := (aa.ac B i)) (n := 8) rfl ha.1 (by omega) (by omega)))<|(QG) ?_
  refine j1 (i + 1) ?_ (eQ ln) (sub (aq .nil) ao)
  exact ⟨by omega, by omega⟩
 ·refine (Qd) ?_
  obtain rfl : i = 4 := by omega
  rw [aa.Xi]
  refine (Qd) ?_
  exact ag (aw rfl) ⟨rfl, rfl⟩ (sub (aq .nil) ao)
theorem Oy  : aC Tryz.prog 76 [] [] (aG fun v G => ∃ b, v = .slice (some ⟨b, 0, none⟩) 8 8 ∧ G = [Row U5 (some ⟨b, 0, none⟩) 8 8 aa.ee]) := by
 refine au [] Tryz.func76 rfl Tryz.ntmps76 rfl rfl ?_
 intro w0 F
 refine rT TT 7 rfl<|cM (U5) aa.ee V.bK V.z5 rfl rfl rfl rfl rfl rfl ?_
 intro b1
 refine (Q8) ?_
 exact ag (aw rfl) ⟨b1, rfl, rfl⟩ (sub (aq .nil) ao)
set_option maxHeartbeats 1000000 in
theorem Kx (p : Option Addr) (c : Nat) (B : List Int) (R : ab) (hR : ∀ w0 h, R w0 h → aE U5 p B.length B w0 h) (hB : af.ak B) (p2 : Option Addr) (c2 : Nat) (D : List Int) (R2 : ab) (hR2 : ∀ w0 h, R2 w0 h → aE U5 p2 D.length D w0 h) (hD : af.ak D) (t : Bool) (ht : t = decide (B = D)) : aC Tryz.prog 110 [.slice p B.length c, .slice p2 D.length c2] [R, R2] (aG fun v G => v = .bool t ∧ G = [R, R2]) := by
 refine au [(0, _), (1, _)] Tryz.func110 rfl Tryz.ntmps110 rfl rfl ?_
 intro w0 F
 refine (QJ) ?_
 refine oV (tP (T := 5) Tryz.underlying22 Tryz.underlying5 Tryz.underlying9 rfl (by exact bG hR aA))<|(Q6) ?_
 refine oV (tP (T := 5) Tryz.underlying22 Tryz.underlying5 Tryz.underlying9 rfl (by exact bG hR2 dM))<|oV (I1 rfl rfl (H7 (aa.bo hB) (aa.bo hD) ht))<|(Q8) ?_
 exact ag (aw rfl) ⟨rfl, rfl⟩ (sub (aT .nil) ao)
end Go.Proofs.YtmaiakpjgomnpaaGreat
namespace Go.Proofs.YtmaiakpjgomnpaaGreat
open Go.Sl
theorem V.oF : gf Tryz.prog 88 = some 2 := by kernel_rfl
theorem V.uC : aB Tryz.prog 107 = true := by kernel_rfl
theorem V.W8 : aB Tryz.prog 109 = true := by kernel_rfl
theorem V.BF : aB Tryz.prog 110 = true := by kernel_rfl
theorem V.Sg : aB Tryz.prog 112 = true := by kernel_rfl
theorem V.Nt : ew Tryz.prog 88 = some [(0, 1), (1, 1)] := by kernel_rfl
theorem V.Fo : cm Tryz.prog 88 = some ([.string .empty, .slice none 0 0]) := by kernel_rfl
end Go.Proofs.YtmaiakpjgomnpaaGreat

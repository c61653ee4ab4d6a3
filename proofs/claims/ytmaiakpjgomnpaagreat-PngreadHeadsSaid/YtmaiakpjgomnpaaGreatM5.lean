/- Walks of functions that the law reaches, and what they lean on; no conditions. -/
import Derived.Test.YtmaiakpjgomnpaaGreatM1
import Derived.KernelRfl
import Derived.Test.YtmaiakpjgomnpaaGreatM4
import Derived.Test.YtmaiakpjgomnpaaGreatM2
set_option linter.unusedVariables false
set_option linter.unusedSimpArgs false
set_option maxRecDepth 100000
namespace Go.Proofs.YtmaiakpjgomnpaaGreat
open Go.Sl 
theorem eH : dC Tryz.prog ⟨[], [(156, 2, 2), (236, 0, 0)]⟩ = true := by kernel_rfl
theorem ox (p : Option Addr) (cap : Nat) (B : List Int) (R : ab) (hR : ∀ w0 h, R w0 h → aS U5 p B.length B w0 h) (hl : B.length < 500000000) : aK Tryz.prog 91 [.slice p B.length cap] [R] (aR fun v G => ∃ q c, v = .slice q B.length c ∧ G = [Row U5 q B.length c B, R]) := by
 refine ax [(0, _)] Tryz.func91 rfl Tryz.ntmps91 rfl rfl ?_
 intro w0 F
 refine iU (fun w hi => La (List.mem_cons_self ..) hR hi) (fun hp => ?_)
 refine rT eH 9 rfl ?_
 refine oV (Eh Tryz.underlying22 rfl rfl) ?_
 refine rO eH 2 rfl ?_
 refine qg rfl (fun h4 => ?_) (fun h4 => ?_)
 ·refine rC eH 7 rfl ?_
  obtain rfl : p = none := by cases p with | none => rfl | some _ => simp at h4
  obtain rfl : B = [] := hp rfl
  exact aj (aC rfl) ⟨none, 0, rfl, rfl⟩ ((ei (fun w0 => Row.nil _ _ _)).trans (sub (bp .nil) au))
 ·refine rC eH 4 rfl ?_
  refine ef (U5) [] V.bP V.z5 rfl rfl rfl rfl rfl rfl ?_
  intro b5
  refine oV (aG rfl) ?_
  refine ek (c := (U5)) V.bP V.z5 rfl rfl rfl rfl dX (by exact aY hR bY) (by omega) rfl ?_
  intro p7 c7
  refine rO eH 4 rfl ?_
  exact aj (aC rfl) ⟨p7, c7, by rw [Nat.zero_add], by rw [Nat.zero_add, List.nil_append]⟩ (sub (bp .nil) au)
theorem xi (b : Nat) (B : List Int) (at_ : Nat) (out : List Int) (free : Int) (hl : B.length < 500000000) (ha : at_ ≤ 8 * B.length) : aK Tryz.prog 128 [.pointer (some ⟨b, 0, none⟩)] [LW b B at_ out free] (aR fun v G => v = .int .i64 (8 * (B.length : Int) - (at_ : Int)) ∧ G = [LW b B at_ out free]) := by
 refine ax [(0, _)] Tryz.func128 rfl Tryz.ntmps128 rfl rfl ?_
 intro w0 F
 refine gJ (fun h hh => hh) ?_
 rintro ⟨p1, c1, p2, c2⟩ _
 dsimp only
 refine rT eH 6 rfl ?_
 refine wN [pz 0 [] [0], pz 1 [0] [], pz 3 [1] [], pz 7 [2] [], pz 15 [3] [], pz 31 [4] [], pz 0 [] [0], pz 64 [6] [], pz 192 [7] [], pz 448 [8] [], pz 1023 [5, 9] [], pz 2047 [10] []] [⟨fun y => ao b 236 [.slice p1 B.length c1, .slice p2 out.length c2, .int .i64 (at_ : Int), .int .i64 free], none, none, [3, 9]⟩, ⟨fun y => Row U5 p1 B.length c1 B, none, none, []⟩, ⟨fun y => Row U5 p2 out.length c2 out, none, none, []⟩] F V.mixed ?_
 refine nM ?_
 refine nN ?_
 refine nG V.A9 ?_
 refine nR (fun y FF hA => af V.eA rfl an rfl) ?_
 refine nV (fun y hA L => eM (ty' := 0) Tryz.underlying22 rfl) ?_
 refine nV (fun y hA L => jQ rfl rfl wI) ?_
 refine nM ?_
 refine nN ?_
 refine nG V.xr ?_
 refine nR (fun y FF hA => af V.s3 rfl an rfl) ?_
 refine nV (fun y hA L => gp rfl rfl wI) ?_
 refine nA ?_
 refine aX ?_
 intro y hA
 clear hA
 refine bu ?_
 refine cy _ (.cons (d := 2) rfl (.nil _)) ?_
 refine bR (M := ao b 236 [.slice p1 B.length c1, .slice p2 out.length c2, .int .i64 (at_ : Int), .int .i64 free] :: Row U5 p1 B.length c1 B :: Row U5 p2 out.length c2 out :: F) (fun _ _ h => h) ?_
 refine rC eH 1 rfl ?_
 exact aj (aC rfl) ⟨rfl, rfl⟩ (bd (im .nil) au (fun w0 h hh => oG hh))
theorem N1 (b : Nat) (B : List Int) (at_ : Nat) (out : List Int) (free : Int) (n : Int) (hl : B.length < 500000000) (ha : at_ ≤ 8 * B.length) (hn : 0 ≤ n ∧ n ≤ 24 ∧ n ≤ 8 * (B.length : Int) - at_) : aK Tryz.prog 92 [.pointer (some ⟨b, 0, none⟩), .int .i64 n] [LW b B at_ out free] (aR fun v G => v = .tuple #[] ∧ G = [LW b B at_ out free]) := by
 refine ax [(0, _), (1, _)] Tryz.func92 rfl Tryz.ntmps92 rfl rfl ?_
 intro w0 F
 refine rT eH 3 rfl ?_
 refine oV (aA (bD rfl rfl) (by omega)) ?_
 refine rO eH 2 rfl ?_
 refine ae rfl ?_
 refine oV (aA (bj rfl rfl) (by omega)) ?_
 refine rO eH 4 rfl ?_
 refine ae rfl ?_
 refine ai (xi b B at_ out free hl ha) V.Au  rfl (aw .nil) rfl ?_
 rintro _ _ ⟨rfl, rfl⟩
 refine ae rfl ?_
 refine oV (aA (bj rfl rfl) (by omega)) ?_
 refine rO eH 5 rfl ?_
 exact iV fK ⟨rfl, rfl⟩ (sub (aw .nil) au)
theorem IB (b : Nat) (B : List Int) (at_ : Nat) (out : List Int) (free : Int) (n : Int) (hl : B.length < 500000000) (ha : at_ ≤ 8 * B.length) (hn : 0 ≤ n ∧ n ≤ 24 ∧ 8 * (B.length : Int) - at_ < n) : aK Tryz.prog 92 [.pointer (some ⟨b, 0, none⟩), .int .i64 n] [LW b B at_ out free] (rD fun ch G => ch = ko 194 (.agg #[]) ∧ G = [LW b B at_ out free]) := by
 refine ax [(0, _), (1, _)] Tryz.func92 rfl Tryz.ntmps92 rfl rfl ?_
 intro w0 F
 refine rT eH 3 rfl ?_
 refine oV (aA (bD rfl rfl) (by omega)) ?_
 refine rO eH 2 rfl ?_
 refine ae rfl ?_
 refine oV (aA (bj rfl rfl) (by omega)) ?_
 refine rO eH 4 rfl ?_
 refine ae rfl ?_
 refine ai (xi b B at_ out free hl ha) V.Au  rfl (aw .nil) rfl ?_
 rintro _ _ ⟨rfl, rfl⟩
 refine ae rfl ?_
 refine oV (aU (bj rfl rfl) (by omega)) ?_
 refine rO eH 5 rfl ?_
 refine oV (bV V.Nr V.z194 rfl (cs := []) rfl) ?_
 refine oV (uA V.zJ rfl) ?_
 refine uf rfl ?_
 skip
 exact xq (G := [LW b B at_ out free]) ⟨rfl, rfl⟩ (sub (aw .nil) au)
theorem I6 (b : Nat) (B : List Int) (at_ : Nat) (out : List Int) (free : Int) (hl : B.length < 500000000) (hB : ak.az B) (ha : at_ < 8 * B.length) : aK Tryz.prog 204 [.pointer (some ⟨b, 0, none⟩)] [LW b B at_ out free] (aR fun v G => v = .int .i64 (ak.jk B at_) ∧ G = [LW b B (at_ + 1) out free]) := by
 refine ax [(0, _)] Tryz.func204 rfl Tryz.ntmps204 rfl rfl ?_
 intro w0 F
 refine gJ (fun h hh => hh) ?_
 rintro ⟨p1, c1, p2, c2⟩ _
 dsimp only
 have hq : U5.g B ((at_ : Int) / 8) = B.getD (at_ / 8) 0 := gE (at_ / 8) (by omega)
 have hb := hB.get (at_ / 8)
 have hd := ak.wC hb.1 hb.2 (at_ % 8)
 have hb2 := ak.mJ B at_
 refine rT eH 6 rfl ?_
 refine wN [pz 0 [] [0], pz 1 [0] [], pz 3 [1] [], pz 7 [2] [], pz 15 [3] [], pz 0 [] [0], pz 32 [5] [], pz 96 [6] [], pz 224 [7] [], pz 480 [8] [], pz 992 [9] [], pz 2047 [4, 10] [], pz 4095 [11] [], pz 0 [] [0], pz 8192 [13] [], pz 24576 [14] [], pz 57344 [15] [], pz 122880 [16] [], pz 253952 [17] [], pz 524287 [12, 18] [], pz 1048575 [19] []] [⟨fun y => ao b 236 [.slice p1 B.length c1, .slice p2 out.length c2, .int .i64 (at_ : Int), .int .i64 free], none, none, [4, 9, 17]⟩, ⟨fun y => Row U5 p1 B.length c1 B, none, none, [11, 12]⟩, ⟨fun y => Row U5 p2 out.length c2 out, none, none, []⟩] F V.mixed ?_
 refine nM ?_
 refine nN ?_
 refine nG V.xf ?_
 refine nG V.A9 ?_
 refine nR (fun y FF hA => af V.eA rfl an rfl) ?_
 refine nM ?_
 refine nN ?_
 refine nG V.xf ?_
 refine nG V.xr ?_
 refine nR (fun y FF hA => af V.s3 rfl an rfl) ?_
 refine nV (fun y hA L => fZ rfl rfl (by omega) (jO (by omega) (by omega) (by omega))) ?_
 refine nR (fun y FF hA => xI V.bP (own an)) ?_
 refine nR (fun y FF hA => xL V.s5 (own an)) ?_
 refine nM ?_
 refine nN ?_
 refine nG V.xf ?_
 refine nG V.xr ?_
 refine nR (fun y FF hA => af V.s3 rfl an rfl) ?_
 refine nV (fun y hA L => ig rfl rfl (by omega) (jP (by omega))) ?_
 refine nV (fun y hA L => eu (r := B.getD (at_ / 8) 0 / 2 ^ (at_ % 8)) rfl rfl (by omega) (by rw [hq]; exact ak.IG hb.1 (by omega) (by omega))) ?_
 refine nA ?_
 refine aX ?_
 intro y hA
 clear hA
 refine bu ?_
 refine cy _ (.cons (d := 0) rfl (.cons (d := 3) rfl (.nil _))) ?_
 refine bR (M := ao b 236 [.slice p1 B.length c1, .slice p2 out.length c2, .int .i64 (at_ : Int), .int .i64 free] :: Row U5 p1 B.length c1 B :: Row U5 p2 out.length c2 out :: F) (fun _ _ h => h) ?_
 refine rC eH 6 rfl ?_
 refine oV (af V.s3 rfl an rfl) ?_
 refine cV eH 4 rfl (by omega) ?_
 refine aQ (cn V.s3 rfl rfl rfl (by exact cZ) (by exact Nat.le_of_ble_eq_true rfl) rfl) ?_
 refine rO eH 5 rfl ?_
 refine oV (kb (r := ak.jk B at_) rfl rfl (ak.vJ hd.1 hd.2)) ?_
 refine oV (bE V.u5 Tryz.underlying3 rfl wI) ?_
 refine rO eH 4 rfl ?_
 rw [show (at_ : Int) + 1 = ((at_ + 1 : Nat) : Int) from by omega]
 exact aj (aC rfl) ⟨rfl, rfl⟩ (bd (im .nil) au (fun w0 h hh => oG hh))
theorem fO (b : Nat) (B : List Int) (at_ : Nat) (out : List Int) (free : Int) (n : Nat) (hl : B.length < 500000000) (hB : ak.az B) (hn : n ≤ 24) (ha : at_ + n ≤ 8 * B.length) : aK Tryz.prog 183 [.pointer (some ⟨b, 0, none⟩), .int .i64 (n : Int)] [LW b B at_ out free] (aR fun v G => v = .int .i64 (ak.aV B at_ n) ∧ G = [LW b B (at_ + n) out free]) := by
 refine ax [(0, _), (1, _)] Tryz.func183 rfl Tryz.ntmps183 rfl rfl ?_
 intro w0 F
 refine rT eH 11 rfl ?_
 refine ai (N1 b B at_ out free n hl (by omega) (by omega)) V.JK  rfl (aw .nil) rfl ?_
 rintro _ _ ⟨rfl, rfl⟩
 refine rO eH 15 rfl ?_
 refine dV (fun (k : Nat) => [(0, .pointer (some ⟨b, 0, none⟩)), (5, .int .i64 (ak.aV B at_ k)), (12, .int .i64 (n : Int)), (13, .int .i64 (k : Int))]) (fun (k : Nat) => LW b B (at_ + k) out free :: F) (fun (k : Nat) => k ≤ n) (fun (k : Nat) => n - k) (i1 (0) ?_ (eN ln) (sub (aw .nil) au)) ?_
 ·exact Nat.zero_le _
 intro k
 rintro hk
 refine rL eH 6 rfl ?_
 refine aP rfl (fun h14 => ?_) (fun h14 => ?_)
 ·refine rC eH 10 rfl ?_
  have hb := ak.mJ B (at_ + k)
  have hnb := ak.cJ B at_ k
  refine rC eH 3 rfl ?_
  refine ai (I6 b B (at_ + k) out free hl hB (by omega)) V.Qb  rfl (aw .nil) rfl ?_
  rintro _ _ ⟨rfl, rfl⟩
  refine oV (aG rfl) ?_
  refine oV (fW (r := ak.jk B (at_ + k) * 2 ^ k) rfl rfl (by omega) (ak.MQ hb (by omega) rfl)) ?_
  refine oV (my (r := ak.aV B at_ k + ak.jk B (at_ + k) * 2 ^ k) rfl rfl (ak.Nn hnb.1 hnb.2 hb (by omega))) ?_
  refine cV eH 8 rfl (by omega) ?_
  refine j1 (k + 1) ?_ (eN ln) (sub (aw .nil) au)
  exact ⟨by omega, by omega⟩
 ·refine rC eH 12 rfl ?_
  obtain rfl : k = n := by omega
  exact aj (aC rfl) ⟨rfl, rfl⟩ (sub (aw .nil) au)
theorem gy (b : Nat) (B : List Int) (at_ : Nat) (out : List Int) (free : Int) (n : Nat) (hl : B.length < 500000000) (hB : ak.az B) (hn : n ≤ 24) (ha : at_ ≤ 8 * B.length) (hx : 8 * B.length < at_ + n) : aK Tryz.prog 183 [.pointer (some ⟨b, 0, none⟩), .int .i64 (n : Int)] [LW b B at_ out free] (rD fun ch G => ch = ko 194 (.agg #[]) ∧ G = [LW b B at_ out free]) := by
 refine ax [(0, _), (1, _)] Tryz.func183 rfl Tryz.ntmps183 rfl rfl ?_
 intro w0 F
 refine rT eH 11 rfl ?_
 refine dJ (IB b B at_ out free n hl ha (by omega)) V.JK rfl (aw .nil) ?_
 rintro _ _ ⟨rfl, rfl⟩
 refine (dZ ?_)
 exact xq (G := [LW b B at_ out free]) ⟨rfl, rfl⟩ (sub (aw .nil) au)
theorem Jz (b : Nat) (B : List Int) (at_ : Nat) (out : List Int) (free : Int) (hl : B.length < 500000000) (ha : at_ ≤ 8 * B.length) : aK Tryz.prog 170 [.pointer (some ⟨b, 0, none⟩)] [LW b B at_ out free] (aR fun v G => v = .int .i64 (8 * (B.length : Int) - (at_ : Int)) ∧ G = [LW b B at_ out free]) := by
 refine ax [(0, _)] Tryz.func170 rfl Tryz.ntmps170 rfl rfl ?_
 intro w0 F
 refine rT eH 9 rfl ?_
 refine oV (cN (v := .bool false) (iS Tryz.underlying219 rfl rfl) rfl) ?_
 refine rO eH 10 rfl ?_
 refine ai (xi b B at_ out free hl ha) V.Au  rfl (aw .nil) rfl ?_
 rintro _ _ ⟨rfl, rfl⟩
 refine rO eH 4 rfl ?_
 exact aj (aC rfl) ⟨rfl, rfl⟩ (sub (aw .nil) au)
theorem xk (p : Option Addr) (cap : Nat) (B : List Int) (R : ab) (hR : ∀ w0 h, R w0 h → aS U5 p B.length B w0 h) (hl : B.length < 500000000) : aK Tryz.prog 166 [.slice p B.length cap] [R] (aR fun v G => ∃ b, v = .pointer (some ⟨b, 0, none⟩) ∧ G = [LW b B 0 [] 0, R]) := by
 refine ax [(0, _)] Tryz.func166 rfl Tryz.ntmps166 rfl rfl ?_
 intro w0 F
 refine rT eH 8 rfl ?_
 refine ai (ox p cap B R hR hl) V.zc  rfl (aw .nil) rfl ?_
 rintro _ _ ⟨q, c, rfl, rfl⟩
 refine oV (bV V.F3 V.z156 rfl (cs := [.slice q B.length c, .slice none 0 0, .int .i64 0, .int .i64 0]) rfl) ?_
 refine oV (bV V.NT V.z236 rfl (cs := [.slice q B.length c, .slice none 0 0, .int .i64 0, .int .i64 0]) rfl) ?_
 refine eU rfl (cs := [.slice q B.length c, .slice none 0 0, .int .i64 0, .int .i64 0]) rfl rfl ?_
 intro b7
 refine rO eH 4 rfl ?_
 exact aj (aC rfl) ⟨b7, rfl, rfl⟩ ((ei (A := Row U5 none 0 0 []) (fun w0 => Row.nil _ _ _)).trans ((bd (.cons aE (.cons aE (aw .nil))) au (fun w0 h hh => oG (p1 := q) (c1 := c) (p2 := none) (c2 := 0) (B := B) (out := []) (at_ := 0) (free := 0) hh)).trans (sub (bp .nil) au)))
end Go.Proofs.YtmaiakpjgomnpaaGreat
namespace Go.Proofs.YtmaiakpjgomnpaaGreat
open Go.Sl 
theorem RE : dC Tryz.prog ⟨[], [(151, 1, 1), (151, 2, 2), (151, 3, 3)]⟩ = true := by kernel_rfl
end Go.Proofs.YtmaiakpjgomnpaaGreat
namespace Go.Proofs.YtmaiakpjgomnpaaGreat
open Go.Sl 
theorem RN : dC Tryz.prog ⟨[47], [(231, 0, 0), (231, 1, 16)]⟩ = true := by kernel_rfl
attribute [local irreducible] ag.ord ag.iX ag.dP ag.cQ ag.dj ag.words ag.gg ag.lenOf ag.cu ag.gS
attribute [local irreducible] ag.Px ag.sy
end Go.Proofs.YtmaiakpjgomnpaaGreat
namespace Go.Proofs.YtmaiakpjgomnpaaGreat
open Go.Sl 
theorem jb : dC Tryz.prog ⟨[47], [(231, 0, 0), (231, 1, 16), (275, 1, 1), (275, 2, 17), (275, 3, 18)]⟩ = true := by kernel_rfl
attribute [local irreducible] ag.ord ag.iX ag.dP ag.cQ ag.dj ag.words ag.gg ag.lenOf ag.cu ag.gS ag.wd ag.mi ag.kH ag.n6 ag.cls ag.off ag.tk
set_option maxHeartbeats 2000000 in
theorem Mu (b : Nat) (ls : List Int) (b2 : Nat) (B : List Int) (at_ : Nat) (out : List Int) (free : Int) (hE : ag.cu ls = 0) (hl : B.length < 500000000) (hB : ak.az B) (ha : at_ ≤ 8 * B.length) : aK Tryz.prog 201 [.pointer (some ⟨b, 0, none⟩), .pointer (some ⟨b2, 0, none⟩)] [HC b ls, LW b2 B at_ out free] (tK (fun v G => ∃ n s, ag.tk ls B at_ = .va n s ∧ v = .int .i64 s ∧ G = [HC b ls, LW b2 B (at_ + n) out free]) (fun ch G => (∃ n, ag.tk ls B at_ = .short n ∧ ch = ko 194 (.agg #[]) ∧ G = [HC b ls, LW b2 B (at_ + n) out free]) ∨ (∃ n, ag.tk ls B at_ = .none_ n ∧ ch = ko 237 (.agg #[]) ∧ G = [HC b ls, LW b2 B (at_ + n) out free]))) := by
 refine ax [(0, _), (1, _)] Tryz.func201 rfl Tryz.ntmps201 rfl rfl ?_
 intro w0 F
 have hV := (ag.lQ hE).1
 have hW := (ag.lQ hE).2
 have hcl := ag.km ls
 have hCb := ag.o0 hV.1
 have hm15 := ag.Lz hV
 have hme := ag.Ju ls
 refine gJ (fun h hh => hh) ?_
 rintro ⟨p1, c1, p2, c2⟩ _
 dsimp only
 rw [hme]
 refine rT jb 19 rfl ?_
 rw [show ((7 : Nat), Value.int .i64 0) = (7, .int .i64 (ag.off ls (0 + 1) : Int)) from by unfold ag.off; rfl]
 refine dV (fun (m : Nat) => [(0, .pointer (some ⟨b, 0, none⟩)), (1, .pointer (some ⟨b2, 0, none⟩)), (5, .int .i64 (ak.acc B at_ m)), (6, .int .i64 (ag.base ls m + ag.cnt ls m)), (7, .int .i64 (ag.off ls (m + 1) : Int)), (8, .int .i64 ((m : Int) + 1))]) (fun (m : Nat) => ao b 275 (CA [.slice p1 ls.length c1] .i64 (ag.cQ ls) [.slice p2 (ag.ord ls).length c2, .int .i64 (ag.lj ls : Int)]) :: Row qA p1 ls.length c1 (ag.words ls) :: Row I3 p2 (ag.ord ls).length c2 (ag.ord ls) :: LW b2 B (at_ + m) out free :: F) (fun (m : Nat) => ag.Tk ls B at_ m) (fun (m : Nat) => ag.lj ls - m) (i1 (0) ?_ (kR (dk ln)) (sub (nz .nil) au)) ?_
 ·exact ag.Ej ha
 intro m
 rintro ht
 have htl := ht.le
 refine rL jb 7 rfl ?_
 refine oV (lW (n := 16) 1 V.s3 rfl an (by omega) rfl rfl) ?_
 refine rO jb 3 rfl ?_
 refine aP rfl (fun h14 => ?_) (fun h14 => ?_)
 ·have hcn := ag.KO (ls := ls) (m := m) (by omega)
  have hbf := ag.yE hW (n := m + 1) (by omega)
  have hbn := ag.qW ls (m + 1)
  have hc1 := ag.iZ ls (m + 1)
  have hof := ag.Ba hV (m := m) (by omega)
  have hac := ak.qf B at_ (m + 1)
  have hac0 := ak.qf B at_ m
  have hp15 := ag.pH (show m + 1 ≤ 15 by omega)
  have hp14 := ag.pH (show m ≤ 15 by omega)
  have hb := ak.mJ B (at_ + m)
  have hnn := ht.nn
  refine rC jb 4 rfl ?_
  rcases (Nat.lt_or_ge (at_ + m) (8 * B.length)) with hx | hx
  ·refine rC jb 3 rfl ?_
   refine oV (fW (r := 2 * ak.acc B at_ m) rfl rfl (by decide) (ak.Eu hac0.1 (by omega))) ?_
   refine oV (aG rfl) ?_
   refine ai (fO b2 B (at_ + m) out free 1 hl hB (by omega) (by omega)) V.fi  rfl (.cons eg .nil) rfl ?_
   rintro _ _ ⟨rfl, rfl⟩
   rw [ak.wU]
   refine oV (my (r := ak.acc B at_ (m + 1)) rfl rfl (ak.CE hac0.1 (by omega) hb)) ?_
   refine rO jb 6 rfl ?_
   refine oV (fW (r := ag.base ls (m + 1)) rfl rfl (by decide) (DS hW (by omega))) ?_
   refine cV jb 13 rfl (by omega) ?_
   refine oV (iy (m + 1) rfl V.pe rfl rfl (by omega)) ?_
   refine oV (mQ ((m : Int) + 1) V.s3 rfl bY (by (simp only [List.length_cons, List.length_nil]; omega)) (by omega) (by omega)) ?_
   refine rO jb 3 rfl ?_
   refine aP rfl (fun h33 => ?_) (fun h33 => ?_)
   ·refine rC jb 1 rfl ?_
    have hlt : ak.acc B at_ (m + 1) - ag.base ls (m + 1) < ag.cnt ls (m + 1) := by rw [← hcn]; exact h33
    have hat := ag.Mn (by omega) hnn hlt
    have hol : (ag.ord ls).length ≤ 320 := by rw [ag.tX]; exact ag.Ba hV (m := 15) (by omega)
    refine rC jb 4 rfl ?_
    refine oV (lW (n := 16) 0 V.lg rfl bY (by omega) rfl rfl) ?_
    refine cV jb 5 rfl (by omega) ?_
    refine oV (xI V.cU (own eL)) ?_
    refine oV (xL V.s3 (own eL)) ?_
    refine rO jb 10 rfl ?_
    rw [← hme]
    exact Lw (G := [HC b ls, LW b2 B (at_ + (m + 1)) out free]) (aC rfl) ⟨m + 1, _, ht.va (by omega) hx hlt, by rw [← gE (c := I3) (e := (ag.off ls (m + 1) : Int) + ak.acc B at_ (m + 1) - ag.base ls (m + 1)) _ (by omega)], rfl⟩ ((bd (.cons aE (.cons aE (.cons aE .nil))) au (fun w0 h hh => oN rfl hh)).trans (sub (bp .nil) au))
   ·refine rC jb 9 rfl ?_
    refine oV (iy (m + 1) rfl V.pe rfl rfl (by omega)) ?_
    refine oV (mQ ((m : Int) + 1) V.s3 rfl bY (by (simp only [List.length_cons, List.length_nil]; omega)) (by omega) (by omega)) ?_
    refine cV jb 10 rfl (by omega) ?_
    refine oV (iy (m + 1) rfl V.pe rfl rfl (by omega)) ?_
    refine oV (mQ ((m : Int) + 1) V.s3 rfl bY (by (simp only [List.length_cons, List.length_nil]; omega)) (by omega) (by omega)) ?_
    refine cV jb 10 rfl (by omega) ?_
    rw [hcn, ← ag.rk ls (m + 1), show (m : Int) + 1 = ((m + 1 : Nat) : Int) from by omega]
    refine j1 (m + 1) ?_ (kR (dk ln)) (sub (.cons aE (.cons aE (.cons aE (aw .nil)))) au)
    exact ⟨ht.OU (by omega) hx (by rw [← hcn]; assumption), by omega⟩
  ·refine rC jb 3 rfl ?_
   refine oV (fW (r := 2 * ak.acc B at_ m) rfl rfl (by decide) (ak.Eu hac0.1 (by omega))) ?_
   refine oV (aG rfl) ?_
   refine dJ (gy b2 B (at_ + m) out free 1 hl hB (by omega) ht.room (by omega)) V.fi rfl (.cons eg .nil) ?_
   rintro _ _ ⟨rfl, rfl⟩
   refine (dZ (fu (dZ (dZ (fu (dZ ?_))))))
   rw [← hme]
   exact Cq (G := [HC b ls, LW b2 B (at_ + m) out free]) (.inl ⟨m, ht.short (by omega) (by omega), rfl, rfl⟩) ((bd (.cons aE (.cons aE (.cons aE .nil))) au (fun w0 h hh => oN rfl hh)).trans (sub (bp .nil) au))
 ·refine rC jb 6 rfl ?_
  refine oV (bV V.Nt V.JJ rfl (cs := []) rfl) ?_
  refine oV (uA V.Ew rfl) ?_
  refine uf rfl ?_
  skip
  rw [← hme]
  exact Cq (G := [HC b ls, LW b2 B (at_ + m) out free]) (.inr ⟨m, ht.none (by omega), rfl, rfl⟩) ((bd (im .nil) au (fun w0 h hh => oN rfl hh)).trans (sub (bp .nil) au))
end Go.Proofs.YtmaiakpjgomnpaaGreat
namespace Go.Proofs.YtmaiakpjgomnpaaGreat
open Go.Sl 
theorem RG : dC Tryz.prog ⟨[], []⟩ = true := by kernel_rfl
theorem C6 (p : Option Addr) (cap : Nat) (ls : List Int) (R : ab) (hR : ∀ w0 h, R w0 h → aS I3 p ls.length ls w0 h) (hE : ag.cu ls = 0) : aK Tryz.prog 195 [.slice p ls.length cap] [R] (aR fun v G => ∃ b, v = .tuple #[.pointer (some ⟨b, 0, none⟩), .int .i64 0] ∧ G = [HC b ls, R]) := by
 refine (Gg p cap ls R hR).mono ?_
 rintro e G ⟨v, rfl, h⟩
 rcases h with ⟨_, b, h1, h2⟩ | ⟨h, _⟩
 ·exact ⟨v, rfl, b, h1, h2⟩
 ·exact absurd hE h
theorem D2 (p : Option Addr) (cap : Nat) (ls : List Int) (R : ab) (hR : ∀ w0 h, R w0 h → aS I3 p ls.length ls w0 h) (hE : ¬ ag.cu ls = 0) : aK Tryz.prog 195 [.slice p ls.length cap] [R] (aR fun v G => v = .tuple #[.pointer none, .int .i64 (ag.cu ls)] ∧ G = [R]) := by
 refine (Gg p cap ls R hR).mono ?_
 rintro e G ⟨v, rfl, h⟩
 rcases h with ⟨h, _⟩ | ⟨_, h1, h2⟩
 ·exact absurd h hE
 ·exact ⟨v, rfl, h1, h2⟩
end Go.Proofs.YtmaiakpjgomnpaaGreat
namespace Go.Proofs.YtmaiakpjgomnpaaGreat
open Go.Sl 
theorem ru : dC Tryz.prog ⟨[], [(223, 3, 3)]⟩ = true := by kernel_rfl
theorem kS (e : Int) : aK Tryz.prog 197 [.bool true, .int .i64 e] [] (aR fun v G => v = .tuple #[] ∧ G = []) := by
 refine ax [(0, _), (1, _)] Tryz.func197 rfl Tryz.ntmps197 rfl rfl ?_
 intro w0 F
 refine rT ru 8 rfl ?_
 exact iV fK ⟨rfl, rfl⟩ (sub .nil au)
theorem iR (e : Int) : aK Tryz.prog 197 [.bool false, .int .i64 e] [] (rD fun ch G => ch = ko 27 (.int .i64 e) ∧ G = []) := by
 refine ax [(0, _), (1, _)] Tryz.func197 rfl Tryz.ntmps197 rfl rfl ?_
 intro w0 F
 refine rT ru 9 rfl ?_
 refine oV (uA V.Cr rfl) ?_
 refine uf rfl ?_
 skip
 exact xq (G := []) ⟨rfl, rfl⟩ (sub .nil au)
theorem LC (b bl : Nat) (sz mo : Int) (li di : Value) (s : ad.St) (yb : Int) (hy : 0 ≤ yb ∧ yb < 256) (hm : mo < 1000000000) : aK Tryz.prog 179 [.pointer (some ⟨b, 0, none⟩), .int .u8 yb] [MS b bl sz mo li di s] (iJ (ad.fa mo s yb) (fun s2 v G => v = .tuple #[] ∧ G = [MS b bl sz mo li di s2]) [MX b bl sz mo]) := by
 refine ax [(0, _), (1, _)] Tryz.func179 rfl Tryz.ntmps179 rfl rfl ?_
 intro w0 F
 refine gJ (fun h hh => hh) ?_
 rintro ⟨po, co⟩ _
 dsimp only
 rcases (Classical.em ((s.out.length : Int) < mo)) with hx | hx
 ·refine rT ru 1 rfl ?_
  refine wN [pz 0 [] [0], pz 1 [0] [], pz 3 [1] [], pz 7 [2] [], pz 15 [3] [], pz 0 [] [0], pz 32 [5] [], pz 96 [6] [], pz 224 [7] [], pz 511 [4, 8] [], pz 1023 [9] []] [⟨fun y => ao b 223 [.pointer (some ⟨bl, 0, none⟩), .int .i64 sz, .int .i64 mo, .slice po s.out.length co, .bool s.ended, .int .i64 0, .int .i64 s.kind, .int .i64 (s.left : Int), .bool s.last, li, di, .int .i64 (s.aB : Int), .int .i64 (s.cE : Int)], none, none, [3, 8]⟩, ⟨fun y => Row U5 po s.out.length co s.out, none, none, []⟩] F V.mixed ?_
  refine nM ?_
  refine nN ?_
  refine nG V.kV ?_
  refine nR (fun y FF hA => af V.eA rfl an rfl) ?_
  refine nV (fun y hA L => eM (ty' := 0) Tryz.underlying22 rfl) ?_
  refine nM ?_
  refine nN ?_
  refine nG V.Cs ?_
  refine nR (fun y FF hA => af V.s3 rfl an rfl) ?_
  refine nV (fun y hA L => aU (bD rfl rfl) hx) ?_
  refine nE (fun y FF hA => bM (Post := []) (kS 6) V.iO rfl .nil (fun v G h => by rcases h with ⟨rfl, rfl⟩; exact ⟨rfl, .refl _⟩)) ?_
  refine aX ?_
  intro y hA
  clear hA
  refine bu ?_
  refine cy _ (.cons (d := 0) rfl (.cons (d := 1) rfl (.nil _))) ?_
  refine bR (M := ao b 223 [.pointer (some ⟨bl, 0, none⟩), .int .i64 sz, .int .i64 mo, .slice po s.out.length co, .bool s.ended, .int .i64 0, .int .i64 s.kind, .int .i64 (s.left : Int), .bool s.last, li, di, .int .i64 (s.aB : Int), .int .i64 (s.cE : Int)] :: Row U5 po s.out.length co s.out :: F) (fun _ _ h => h) ?_
  refine rC ru 5 rfl ?_
  refine oV (af V.eA rfl an rfl) ?_
  refine oV (aG rfl) ?_
  refine ef (U5) [yb] V.bP V.z5 rfl rfl rfl rfl rfl rfl ?_
  intro m0
  refine ek (c := (U5)) V.bP V.z5 rfl rfl rfl rfl bK (own an) (by omega) rfl ?_
  intro p22 c22
  refine rO ru 2 rfl ?_
  refine aQ (cn V.eA rfl rfl rfl (by exact nm) (by exact Nat.le_of_ble_eq_true rfl) rfl) ?_
  refine cH ?_
  exact iE (x := { s with out := s.out ++ [yb] }) (by unfold ad.fa; rw [if_pos hx]) fK ⟨rfl, rfl⟩ ((bd (.cons bK (aw .nil)) cG (fun w0 h hh => dE (s := { s with out := s.out ++ [yb] }) (by simp) hh)))
 ·refine rT ru 1 rfl ?_
  refine wN [pz 0 [] [0], pz 1 [0] [], pz 3 [1] [], pz 7 [2] [], pz 15 [3] [], pz 0 [] [0], pz 32 [5] [], pz 96 [6] [], pz 224 [7] [], pz 511 [4, 8] [], pz 1023 [9] []] [⟨fun y => ao b 223 [.pointer (some ⟨bl, 0, none⟩), .int .i64 sz, .int .i64 mo, .slice po s.out.length co, .bool s.ended, .int .i64 0, .int .i64 s.kind, .int .i64 (s.left : Int), .bool s.last, li, di, .int .i64 (s.aB : Int), .int .i64 (s.cE : Int)], none, none, [3, 8, 10]⟩, ⟨fun y => Row U5 po s.out.length co s.out, none, none, []⟩] F V.mixed ?_
  refine nM ?_
  refine nN ?_
  refine nG V.kV ?_
  refine nR (fun y FF hA => af V.eA rfl an rfl) ?_
  refine nV (fun y hA L => eM (ty' := 0) Tryz.underlying22 rfl) ?_
  refine nM ?_
  refine nN ?_
  refine nG V.Cs ?_
  refine nR (fun y FF hA => af V.s3 rfl an rfl) ?_
  refine nV (fun y hA L => aA (bD rfl rfl) hx) ?_
  refine bO (undef) _ _ (fun y => rfl) rfl (fun y => rfl) (fun y FF hA => ga (iR 6) V.iO rfl .nil (by rintro _ _ ⟨rfl, rfl⟩; exact lz (by unfold ad.fa; rw [if_neg hx]) (PE.no (by decide)) (bd (aw .nil) (by exact ve (M := FF) (F := F)) (fun w0 h hh => cX hh)))) ?_
  refine aX ?_
  intro y hA
  exact (dO.fact (hA 10 (by exact Nat.le_of_ble_eq_true rfl)) (q := fun _ => False) rfl).elim
end Go.Proofs.YtmaiakpjgomnpaaGreat
namespace Go.Proofs.YtmaiakpjgomnpaaGreat
open Go.Sl 
theorem jr : dC Tryz.prog ⟨[], [(156, 2, 2), (236, 0, 0)]⟩ = true := by kernel_rfl
attribute [local irreducible] ag.cu ag.tk ag.ord ag.cQ ag.words ag.dj ad.iP ad.iM
theorem CR (p : Option Addr) (n cap : Nat) (ls : List Int) (R : ab) (hn : n = ls.length) (hR : ∀ w0 h, R w0 h → aS I3 p ls.length ls w0 h) : aK Tryz.prog 221 [.slice p n cap] [R] (iJ (ad.js ls) (fun _ v G => ∃ b, v = .pointer (some ⟨b, 0, none⟩) ∧ G = [HC b ls, R]) []) := by
 subst hn
 refine ax [(0, _)] Tryz.func221 rfl Tryz.ntmps221 rfl rfl ?_
 intro w0 F
 refine rT jr 5 rfl ?_
 rcases (Classical.em (ag.cu ls = 0)) with hE | hE
 ·refine rC jr 3 rfl ?_
  refine ai (C6 p cap ls R hR hE) V.Jd  rfl (aw .nil) rfl ?_
  rintro _ _ ⟨bh, rfl, rfl⟩
  refine rO jr 10 rfl ?_
  refine oV (aU (av rfl rfl) rfl) ?_
  refine ai (kS 4) V.iO  rfl .nil rfl ?_
  rintro _ _ ⟨rfl, rfl⟩
  refine rO jr 9 rfl ?_
  exact kN (x := ()) (by unfold ad.js; rw [if_pos hE]) (aC rfl) ⟨bh, rfl, rfl⟩ (sub (bp .nil) au)
 ·refine rC jr 3 rfl ?_
  refine ai (D2 p cap ls R hR hE) V.Jd  rfl (aw .nil) rfl ?_
  rintro _ _ ⟨rfl, rfl⟩
  refine rO jr 10 rfl ?_
  refine oV (aA (av rfl rfl) hE) ?_
  refine dJ (iR 4) V.iO rfl .nil ?_
  rintro _ _ ⟨rfl, rfl⟩
  refine (dZ ?_)
  exact ez (e := 4) (by unfold ad.js; rw [if_neg hE]) (PE.no (by decide)) (sub .nil cG)
theorem zA (x : Int) (n : Nat) (hn : n < 1000000) : aK Tryz.prog 220 [.int .i64 x, .int .i64 (n : Int)] [] (aR fun v G => ∃ p c, v = .slice p n c ∧ G = [Row I3 p n c (List.replicate n x)]) := by
 refine ax [(0, _), (1, _)] Tryz.func220 rfl Tryz.ntmps220 rfl rfl ?_
 intro w0 F
 refine rT jr 18 rfl ?_
 refine hH (Row I3 none 0 0 (List.replicate 0 x)) (Row.nil _ _ _) ?_
 refine j0 (fun (k : Nat) (po : Option Addr) (co : Nat) => [(0, .int .i64 x), (5, .slice po k co), (6, .int .i64 (n : Int)), (7, .int .i64 (k : Int))]) (fun (k : Nat) (po : Option Addr) (co : Nat) => Row I3 po k co (List.replicate k x) :: F) (fun (k : Nat) (po : Option Addr) (co : Nat) => k ≤ n) (fun (k : Nat) (po : Option Addr) (co : Nat) => n - k) (i3 (0) (none) (0) ?_ (eN ln) (sub (aw .nil) au)) ?_
 ·exact Nat.zero_le _
 intro k po co
 rintro hk
 refine rL jr 6 rfl ?_
 refine aP rfl (fun h8 => ?_) (fun h8 => ?_)
 ·refine rC jr 7 rfl ?_
  refine ef (I3) [x] V.cU V.z3 rfl rfl rfl rfl rfl rfl ?_
  intro b11
  refine ek (c := (I3)) V.cU V.z3 rfl rfl rfl rfl aE (own an) (by omega) rfl ?_
  intro p12 c12
  refine cV jr 8 rfl (by omega) ?_
  rw [← List.replicate_succ']
  refine j3 (k + 1) (_) (_) ?_ (eN ln) (sub (aw .nil) cG)
  exact ⟨by omega, by omega⟩
 ·refine rC jr 12 rfl ?_
  obtain rfl : k = n := by omega
  exact aj (aC rfl) ⟨po, co, rfl, rfl⟩ (sub (aw .nil) au)
theorem GG  : aK Tryz.prog 222 [] [] (aR fun v G => ∃ p, v = .slice p 19 19 ∧ G = [Row I3 p 19 19 ad.mw]) := by
 refine ax [] Tryz.func222 rfl Tryz.ntmps222 rfl rfl ?_
 intro w0 F
 refine rT jr 7 rfl ?_
 refine ef (I3) [16, 17, 18, 0, 8, 7, 9, 6, 10, 5, 11, 4, 12, 3, 13, 2, 14, 1, 15] V.cU V.z3 rfl rfl rfl rfl rfl rfl ?_
 intro b1
 refine rO jr 4 rfl ?_
 exact aj (aC rfl) ⟨_, rfl, rfl⟩ (sub (aw .nil) au)
theorem HN (b : Nat) (B : List Int) (at_ : Nat) (out : List Int) (free : Int) (hl : B.length < 500000000) (ha : at_ ≤ 8 * B.length) : aK Tryz.prog 198 [.pointer (some ⟨b, 0, none⟩)] [LW b B at_ out free] (aR fun v G => v = .tuple #[] ∧ G = [LW b B (ad.dL at_) out free]) := by
 refine ax [(0, _)] Tryz.func198 rfl Tryz.ntmps198 rfl rfl ?_
 intro w0 F
 refine gJ (fun h hh => hh) ?_
 rintro ⟨p1, c1, p2, c2⟩ _
 dsimp only
 refine rT jr 6 rfl ?_
 refine oV (af V.s3 rfl an rfl) ?_
 refine cV jr 2 rfl (by omega) ?_
 refine oV (fZ rfl rfl (by omega) (jO (by omega) (by omega) (by omega))) ?_
 refine cV jr 4 rfl (by omega) ?_
 refine aQ (cn V.s3 rfl rfl rfl (by exact cZ) (by exact Nat.le_of_ble_eq_true rfl) rfl) ?_
 refine cH ?_
 rw [show ((at_ : Int) + 8 - 1) / 8 * 8 = ((ad.dL at_ : Nat) : Int) from by unfold ad.dL; omega]
 exact iV fK ⟨rfl, rfl⟩ (bd (im .nil) au (fun w0 h hh => oG hh))
theorem o4 (b : Nat) (ls : List Int) (b2 : Nat) (B : List Int) (at_ : Nat) (out : List Int) (free : Int) (hE : ag.cu ls = 0) (hl : B.length < 500000000) (hB : ak.az B) (ha : at_ ≤ 8 * B.length) : aK Tryz.prog 201 [.pointer (some ⟨b, 0, none⟩), .pointer (some ⟨b2, 0, none⟩)] [HC b ls, LW b2 B at_ out free] (iJ (ad.sym ls B at_) (fun x v G => v = .int .i64 x.1 ∧ G = [HC b ls, LW b2 B x.2 out free]) []) := by
 intro w0 F w hi
 refine (Mu b ls b2 B at_ out free hE hl hB ha w0 F w hi).mono ?_
 rintro e w' ⟨G, h1, (⟨v, rfl, n', s', h, rfl, rfl⟩ | ⟨ch, rfl, (⟨n', h, rfl, rfl⟩ | ⟨n', h, rfl, rfl⟩)⟩)⟩
 ·exact ⟨_, h1, .inl ⟨_, rfl, (s', at_ + n'), by unfold ad.sym; rw [h], rfl, rfl⟩⟩
 ·exact ⟨[], h1.right, .inr ⟨_, rfl, 2, by unfold ad.sym; rw [h], PE.end_, rfl⟩⟩
 ·exact ⟨[], h1.right, .inr ⟨_, rfl, 4, by unfold ad.sym; rw [h], PE.none_, rfl⟩⟩
end Go.Proofs.YtmaiakpjgomnpaaGreat
namespace Go.Proofs.YtmaiakpjgomnpaaGreat
open Go.Sl 
theorem fp : dC Tryz.prog ⟨[47], [(223, 0, 0), (223, 4, 4), (223, 6, 6), (223, 8, 8)]⟩ = true := by kernel_rfl
attribute [local irreducible] ag.cu ag.tk ag.ord ag.cQ ag.words ag.dj ad.iP ad.iM
theorem yH (b bl : Nat) (sz mo : Int) (po : Option Addr) (no co : Nat) (li di : Value) (s : ad.St) : aK Tryz.prog 182 [.pointer (some ⟨b, 0, none⟩)] [ao b 223 [.pointer (some ⟨bl, 0, none⟩), .int .i64 sz, .int .i64 mo, .slice po no co, .bool s.ended, .int .i64 0, .int .i64 s.kind, .int .i64 (s.left : Int), .bool s.last, li, di, .int .i64 (s.aB : Int), .int .i64 (s.cE : Int)]] (aR fun v G => v = .tuple #[] ∧ G = [ao b 223 [.pointer (some ⟨bl, 0, none⟩), .int .i64 sz, .int .i64 mo, .slice po no co, .bool s.last, .int .i64 0, .int .i64 (-1), .int .i64 (s.left : Int), .bool s.last, li, di, .int .i64 (s.aB : Int), .int .i64 (s.cE : Int)]]) := by
 refine ax [(0, _)] Tryz.func182 rfl Tryz.ntmps182 rfl rfl ?_
 intro w0 F
 refine rT fp 6 rfl ?_
 refine oV (af V.s4 rfl an rfl) ?_
 refine rO fp 2 rfl ?_
 refine aQ (cn V.s3 rfl rfl rfl (by exact cZ) (by exact Nat.le_of_ble_eq_true rfl) rfl) ?_
 refine rO fp 2 rfl ?_
 refine aQ (cn V.s4 rfl rfl rfl (by exact cZ) (by exact Nat.le_of_ble_eq_true rfl) rfl) ?_
 refine cH ?_
 exact iV fK ⟨rfl, rfl⟩ (sub (aw .nil) au)
set_option maxHeartbeats 1000000 in
theorem FV (b bl : Nat) (sz mo : Int) (po : Option Addr) (no co : Nat) (li di : Value) (s : ad.St) (B : List Int) (a : Nat) (sy : Int) (pl : Option Addr) (cl : Nat) (l : List Int) (hs : 0 ≤ sy ∧ sy ≤ 18) (hl : B.length < 500000000) (hB : ak.az B) (ha : a ≤ 8 * B.length) (hll : l.length < 1000000) : aK Tryz.prog 223 [.pointer (some ⟨b, 0, none⟩), .int .i64 sy, .slice pl l.length cl] [ao b 223 [.pointer (some ⟨bl, 0, none⟩), .int .i64 sz, .int .i64 mo, .slice po no co, .bool s.ended, .int .i64 0, .int .i64 s.kind, .int .i64 (s.left : Int), .bool s.last, li, di, .int .i64 (s.aB : Int), .int .i64 (s.cE : Int)], LW bl B a [] 0, Row I3 pl l.length cl l] (iJ (ad.rep B sy l a) (fun x v G => v = .tuple #[.int .i64 x.1, .int .i64 x.2.1] ∧ G = [ao b 223 [.pointer (some ⟨bl, 0, none⟩), .int .i64 sz, .int .i64 mo, .slice po no co, .bool s.ended, .int .i64 0, .int .i64 s.kind, .int .i64 (s.left : Int), .bool s.last, li, di, .int .i64 (s.aB : Int), .int .i64 (s.cE : Int)], LW bl B x.2.2 [] 0, Row I3 pl l.length cl l]) [MX b bl sz mo]) := by
 refine ax [(0, _), (1, _), (2, _)] Tryz.func223 rfl Tryz.ntmps223 rfl rfl ?_
 intro w0 F
 refine rT fp 19 rfl ?_
 refine aP rfl (fun h10 => ?_) (fun h10 => ?_)
 ·rcases (Nat.lt_or_ge (8 * B.length) (a + 2)) with hx | hx
  ·refine rC fp 1 rfl ?_
   have hy : sy = 16 := h10
   subst hy
   have hnb := ak.cJ B a 2
   refine rC fp 4 rfl ?_
   refine oV (af V.dT rfl an rfl) ?_
   refine dJ (gy bl B a [] 0 2 hl hB (by omega) (by omega) (by omega)) V.fi rfl (.cons aE .nil) ?_
   rintro _ _ ⟨rfl, rfl⟩
   refine (dZ (fu (dZ ?_)))
   exact ez (e := 2) (ad.pL (by decide) (show 8 * B.length < a + 2 from hx)) PE.end_ (bd (.cons aE .nil) fS (fun w0 h hh => cX hh))
  ·refine rC fp 1 rfl ?_
   have hy : sy = 16 := h10
   subst hy
   have hnb := ak.cJ B a 2
   refine rC fp 4 rfl ?_
   refine oV (af V.dT rfl an rfl) ?_
   refine ai (fO bl B a [] 0 2 hl hB (by omega) (by omega)) V.fi  rfl (.cons aE .nil) rfl ?_
   rintro _ _ ⟨rfl, rfl⟩
   refine cV fp 4 rfl (by omega) ?_
   rcases (Nat.eq_zero_or_pos l.length) with hl0 | hl0
   ·refine rC fp 4 rfl ?_
    refine oV (aA (bj rfl rfl) (by omega)) ?_
    refine dJ (iR 4) V.iO rfl .nil ?_
    rintro _ _ ⟨rfl, rfl⟩
    refine (dZ (fu (dZ ?_)))
    exact ez (e := 4) (ad.Eb rfl (List.length_eq_zero_iff.1 hl0) (show ¬ 8 * B.length < a + 2 from by omega)) (PE.no (by decide)) (bd (.cons aE .nil) fS (fun w0 h hh => cX hh))
   ·refine rC fp 4 rfl ?_
    refine oV (aU (bj rfl rfl) (by omega)) ?_
    refine ai (kS 4) V.iO  rfl .nil rfl ?_
    rintro _ _ ⟨rfl, rfl⟩
    refine rO fp 3 rfl ?_
    have hgl : I3.g l ((l.length : Int) - 1) = l.getD (l.length - 1) 0 := gE _ (by omega)
    refine fQ fp 5 rfl (by omega) ?_
    refine oV (xI V.cU (own cx)) ?_
    refine oV (xL V.s3 (own cx)) ?_
    refine rO fp 8 rfl ?_
    rw [hgl]
    exact kN (x := (l.getD (l.length - 1) 0, 3 + ak.aV B a 2, a + 2)) (ad.xB (by decide) (show ¬ 8 * B.length < a + 2 from by omega) (fun h => by rw [h.2] at hl0; simp at hl0)) (fH rfl rfl) ⟨rfl, rfl⟩ (sub (.cons aE (bp .nil)) au)
 ·refine rC fp 6 rfl ?_
  refine aP rfl (fun h29 => ?_) (fun h29 => ?_)
  ·rcases (Nat.lt_or_ge (8 * B.length) (a + 3)) with hx | hx
   ·refine rC fp 1 rfl ?_
    have hy : sy = 17 := h29
    subst hy
    have hnb := ak.cJ B a 3
    refine rC fp 4 rfl ?_
    refine oV (af V.dT rfl an rfl) ?_
    refine dJ (gy bl B a [] 0 3 hl hB (by omega) (by omega) (by omega)) V.fi rfl (.cons aE .nil) ?_
    rintro _ _ ⟨rfl, rfl⟩
    refine (dZ (fu (dZ ?_)))
    exact ez (e := 2) (ad.pL (by decide) (show 8 * B.length < a + 3 from hx)) PE.end_ (bd (.cons aE .nil) fS (fun w0 h hh => cX hh))
   ·refine rC fp 1 rfl ?_
    have hy : sy = 17 := h29
    subst hy
    have hnb := ak.cJ B a 3
    refine rC fp 4 rfl ?_
    refine oV (af V.dT rfl an rfl) ?_
    refine ai (fO bl B a [] 0 3 hl hB (by omega) (by omega)) V.fi  rfl (.cons aE .nil) rfl ?_
    rintro _ _ ⟨rfl, rfl⟩
    refine cV fp 8 rfl (by omega) ?_
    exact kN (x := (0, 3 + ak.aV B a 3, a + 3)) (ad.xB (by decide) (show ¬ 8 * B.length < a + 3 from by omega) (fun h => absurd h.1 (by decide))) (fH rfl rfl) ⟨rfl, rfl⟩ (sub (.cons aE (bp .nil)) au)
  ·refine rC fp 6 rfl ?_
   refine aP rfl (fun h37 => ?_) (fun h37 => ?_)
   ·rcases (Nat.lt_or_ge (8 * B.length) (a + 7)) with hx | hx
    ·refine rC fp 1 rfl ?_
     have hy : sy = 18 := h37
     subst hy
     have hnb := ak.cJ B a 7
     refine rC fp 4 rfl ?_
     refine oV (af V.dT rfl an rfl) ?_
     refine dJ (gy bl B a [] 0 7 hl hB (by omega) (by omega) (by omega)) V.fi rfl (.cons aE .nil) ?_
     rintro _ _ ⟨rfl, rfl⟩
     refine (dZ (fu (dZ ?_)))
     exact ez (e := 2) (ad.pL (by decide) (show 8 * B.length < a + 7 from hx)) PE.end_ (bd (.cons aE .nil) fS (fun w0 h hh => cX hh))
    ·refine rC fp 1 rfl ?_
     have hy : sy = 18 := h37
     subst hy
     have hnb := ak.cJ B a 7
     refine rC fp 4 rfl ?_
     refine oV (af V.dT rfl an rfl) ?_
     refine ai (fO bl B a [] 0 7 hl hB (by omega) (by omega)) V.fi  rfl (.cons aE .nil) rfl ?_
     rintro _ _ ⟨rfl, rfl⟩
     refine cV fp 8 rfl (by omega) ?_
     exact kN (x := (0, 11 + ak.aV B a 7, a + 7)) (ad.xB (by decide) (show ¬ 8 * B.length < a + 7 from by omega) (fun h => absurd h.1 (by decide))) (fH rfl rfl) ⟨rfl, rfl⟩ (sub (.cons aE (bp .nil)) au)
   ·refine rC fp 11 rfl ?_
    exact kN (x := (sy, 1, a)) (ad.Kr (by omega)) (fH rfl rfl) ⟨rfl, rfl⟩ (sub (im .nil) au)
end Go.Proofs.YtmaiakpjgomnpaaGreat
namespace Go.Sl
section
variable {C : Ctx} {E : Env} {L F : List ab} {ops : Array Oper} {d : Option Nat} {ty : TypeId} {pos : String} {aft : Array Edge}
theorem r4 {A : Nat → ab} {f : FuncId} {args : List Operand} {tys : Array TypeId} {vs : List Value} {Pre Post : List ab} (hS : aK C.P f vs Pre (aR fun v G => ∃ b, v = .pointer (some ⟨b, 0, none⟩) ∧ G = A b :: Post)) (hb : aJ C.P f = true) (hE : iL E args = some vs) (hL : fL L Pre F) :
    Step C ops ⟨d, .call ⟨.value (.func f), args.toArray, tys⟩, ty, pos, aft, none⟩ E L (fun v L' => v = .pointer (some ⟨fG v, 0, none⟩) ∧ True ∧ L'.Perm ((A (fG v) :: Post) ++ F)) :=
  qT hS hb hE hL fun v G ⟨b, e1, e2⟩ => by subst e1; subst e2; exact ⟨rfl, trivial, .refl _⟩
theorem kY {t n e sz : Nat} {parts : List (Nat × Operand)} {pv : List (Nat × Value)} {zs cs : List Value} (har : jS C.P t = some (n, e, sz)) (hz : dH C.P t = some zs) (hp : oF E parts = some pv) (hf : Instr.fill (fun i => some (i * sz, sz)) zs.toArray pv = some cs.toArray) :
    cF C (.build t parts.toArray) ty E L (.agg cs.toArray) L :=
  dQ fun d pos aft g a w ha => by
    obtain ⟨i', z, hz1, hz2, hz3, hz4⟩ := kg hz
    have hmap : parts.toArray.map (fun x => match x with | (i, x) => (i, a.eval x)) = pv.toArray := by
      rw [← nF hp a ha]; simp
    unfold jS at har
    split at har
    · rename_i n' e' hfs
      split at har
      · rename_i i hi
        cases har
        simp only [execOp, hmap, Instr.build, Sem.run_bind, zeroValue, typeInfo, run_program, Result.andThen_ok, hz1, hz2, Sem.run_pure, run_underlying hfs, run_sizeOf hi, hz3]
        simp [hf]
      · cases har
    · cases har
end
theorem r5 {p : Option Addr} {n c m : Nat} {l : List Int} {w0 : World} {h : Hp} (hn : n = l.length) (hm : m ≤ n) (hh : Row I3 p n c l w0 h) : aS I3 p (l.take m).length (l.take m) w0 h := by
  have := hh.rd.sub 0 m m (Nat.zero_le _) hm (Nat.le_refl _)
  rw [nt, Nat.sub_zero, List.drop_zero] at this
  rw [List.length_take, ← hn, Nat.min_eq_left hm]
  exact this
theorem vP {p : Option Addr} {n c m : Nat} {l : List Int} {w0 : World} {h : Hp} (hn : n = l.length) (hm : m ≤ n) (hc : n ≤ c) (hh : Row I3 p n c l w0 h) : aS I3 (eo p m c 1) (l.drop m).length (l.drop m) w0 h := by
  have := hh.rd.sub m n c hm (Nat.le_refl _) hc
  rw [List.take_of_length_le (by rw [List.length_drop]; omega)] at this
  rw [List.length_drop, ← hn]
  exact this
theorem th {p : Option Addr} {n c : Nat} {l : List Int} {w0 : World} {h : Hp} (hn : n = l.length) (hh : Row I3 p n c l w0 h) : aS I3 p l.length l w0 h := by subst hn; exact hh.rd
end Go.Sl
namespace Go.Proofs.YtmaiakpjgomnpaaGreat
open Go.Sl 
theorem lB : dC Tryz.prog ⟨[247], [(223, 9, 9), (223, 10, 10)]⟩ = true := by kernel_rfl
attribute [local irreducible] ag.cu ag.tk ag.ord ag.cQ ag.words ag.dj ad.iM ad.dh ad.dI ad.ew ad.hL ad.hD ad.hC ad.fE ad.told ad.gf ad.js ad.rep
abbrev P2 : Ec (Int × Int) := ⟨246, 2, fun x => [.int .i64 x.1, .int .i64 x.2], (0, 0), fun _ => rfl, fun _ => rfl⟩
theorem mO (p : Option Addr) (n cap : Nat) (ls : List Int) (R : ab) (hn : n = ls.length) (hR : ∀ w0 h, R w0 h → aS I3 p ls.length ls w0 h) (hE : ag.cu ls = 0) : aK Tryz.prog 221 [.slice p n cap] [R] (aR fun v G => ∃ b, v = .pointer (some ⟨b, 0, none⟩) ∧ G = [HC b ls, R]) :=
 (CR p n cap ls R hn hR).ok (x := ()) (by unfold ad.js; rw [if_pos hE])
theorem um (p : Option Addr) (n cap : Nat) (ls : List Int) (R : ab) (hn : n = ls.length) (hR : ∀ w0 h, R w0 h → aS I3 p ls.length ls w0 h) (hE : ag.cu ls ≠ 0) : aK Tryz.prog 221 [.slice p n cap] [R] (rD fun ch G => PE 4 ch ∧ G = []) :=
 (CR p n cap ls R hn hR).err (by unfold ad.js; rw [if_neg hE])
theorem CO (x n : Int) (hn : 0 ≤ n ∧ n < 1000000) : aK Tryz.prog 220 [.int .i64 x, .int .i64 n] [] (aR fun v G => ∃ p c, v = .slice p n.toNat c ∧ G = [Row I3 p n.toNat c (List.replicate n.toNat x)]) := by
 have h := zA x n.toNat (by omega)
 rw [Int.toNat_of_nonneg hn.1] at h
 exact h
theorem H9 (b bl : Nat) (sz mo : Int) (po : Option Addr) (no co : Nat) (li di : Value) (s : ad.St) : aK Tryz.prog 199 [.pointer (some ⟨b, 0, none⟩)] [ao b 223 [.pointer (some ⟨bl, 0, none⟩), .int .i64 sz, .int .i64 mo, .slice po no co, .bool s.ended, .int .i64 0, .int .i64 s.kind, .int .i64 (s.left : Int), .bool s.last, li, di, .int .i64 (s.aB : Int), .int .i64 (s.cE : Int)]] (aR fun v G => ∃ l d, v = .tuple #[] ∧ G = [ao b 223 [.pointer (some ⟨bl, 0, none⟩), .int .i64 sz, .int .i64 mo, .slice po no co, .bool s.ended, .int .i64 0, .int .i64 s.kind, .int .i64 (s.left : Int), .bool s.last, (.pointer (some ⟨l, 0, none⟩)), (.pointer (some ⟨d, 0, none⟩)), .int .i64 (s.aB : Int), .int .i64 (s.cE : Int)], HC l ad.gf, HC d ad.ly]) := by
 refine ax [(0, _)] Tryz.func199 rfl Tryz.ntmps199 rfl rfl ?_
 intro w0 F
 refine rT lB 8 rfl ?_
 iterate 4 refine oV (kY V.z7 V.Em rfl (cs := [_, _]) rfl) ?_
 refine ef (P2) ad.ji V.F8 V.Em rfl rfl rfl rfl rfl rfl ?_
 intro b9
 refine rO lB 5 rfl ?_
 refine hH (Row I3 none 0 0 (ad.iP 0)) (Row.nil _ _ _) ?_
 refine j0 (fun (k : Nat) (pr : Option Addr) (cr : Nat) => [(0, .pointer (some ⟨b, 0, none⟩)), (2, .slice pr (ad.iP k).length cr), (9, .slice (some ⟨b9, 0, none⟩) 4 4), (10, .int .i64 4), (11, .int .i64 (k : Int))]) (fun (k : Nat) (pr : Option Addr) (cr : Nat) => Row I3 pr (ad.iP k).length cr (ad.iP k) :: Row P2 (some ⟨b9, 0, none⟩) 4 4 ad.ji :: ao b 223 [.pointer (some ⟨bl, 0, none⟩), .int .i64 sz, .int .i64 mo, .slice po no co, .bool s.ended, .int .i64 0, .int .i64 s.kind, .int .i64 (s.left : Int), .bool s.last, li, di, .int .i64 (s.aB : Int), .int .i64 (s.cE : Int)] :: F) (fun (k : Nat) (pr : Option Addr) (cr : Nat) => k ≤ 4) (fun (k : Nat) (pr : Option Addr) (cr : Nat) => 4 - k) (i3 (0) (none) (0) ?_ (dk ln) (sub (im .nil) au)) ?_
 ·exact Nat.zero_le _
 intro k pr cr
 rintro hk
 refine rL lB 6 rfl ?_
 refine aP rfl (fun h12 => ?_) (fun h12 => ?_)
 ·refine rC lB 6 rfl ?_
  refine oV (xI V.F8 (own bY)) ?_
  refine oV (ow (c := (P2)) V.Mg rfl (own bY) (by omega) (by omega) rfl) ?_
  refine cB V.Em rfl ?_
  intro b4
  refine aQ (aD V.Mg rfl rfl (us := [_, _]) rfl rfl (by exact cZ) (by exact Nat.le_of_ble_eq_true rfl) rfl) ?_
  refine rO lB 2 rfl ?_
  have hf1 : 0 ≤ (P2.g ad.ji (k : Int)).2 ∧ (P2.g ad.ji (k : Int)).2 < 200 := ad.L0 (by omega)
  have hf2 := ad.Hc k (by omega)
  refine rC lB 2 rfl ?_
  refine oV (iy 0 rfl V.z7 rfl rfl (by omega)) ?_
  refine oV (af V.s3 rfl an rfl) ?_
  refine oV (iy 1 rfl V.z7 rfl rfl (by omega)) ?_
  refine oV (af V.s3 rfl an rfl) ?_
  refine ai (CO (P2.g ad.ji (k : Int)).1 (P2.g ad.ji (k : Int)).2 (by omega)) V.zX  rfl .nil rfl ?_
  rintro _ _ ⟨p20, c20, rfl, rfl⟩
  refine ek (c := (I3)) V.cU V.z3 rfl rfl rfl rfl bK (own an) (by omega) rfl ?_
  intro p21 c21
  refine cV lB 8 rfl (by omega) ?_
  have hst : ad.iP (k + 1) = ad.iP k ++ List.replicate (P2.g ad.ji (k : Int)).2.toNat (P2.g ad.ji (k : Int)).1 := ad.Cl k
  have hsl : (ad.iP (k + 1)).length = (ad.iP k).length + (P2.g ad.ji (k : Int)).2.toNat := by rw [hst, List.length_append, List.length_replicate]
  rw [← hst, ← hsl]
  refine j3 (k + 1) (_) (_) ?_ (dk ln) (sub (aw (.cons bK (.cons bK .nil))) fS)
  exact ⟨by omega, by omega⟩
 ·refine rC lB 5 rfl ?_
  have hk4 : k = 4 := by omega
  have hfl : ag.cu (ad.iP k) = 0 := by rw [hk4, ad.Bh]; exact ad.yg
  refine rC lB 4 rfl ?_
  refine ai (mO pr (ad.iP k).length cr (ad.iP k) (Row I3 pr (ad.iP k).length cr (ad.iP k)) rfl (fun _ _ hh => th rfl hh) hfl) V.oU  rfl (aw .nil) rfl ?_
  rintro _ _ ⟨l26, rfl, rfl⟩
  refine ai (zA 5 32 (by omega)) V.zX  rfl .nil rfl ?_
  rintro _ _ ⟨p27, Cr, rfl, rfl⟩
  refine ai (mO p27 32 Cr (List.replicate 32 5) (Row I3 p27 32 Cr (List.replicate 32 5)) rfl (fun _ _ hh => th rfl hh) ad.yC) V.oU  rfl (aw .nil) rfl ?_
  rintro _ _ ⟨d28, rfl, rfl⟩
  refine rO lB 2 rfl ?_
  refine aQ (cn V.pU rfl rfl rfl (by exact CL) (by exact Nat.le_of_ble_eq_true rfl) rfl) ?_
  refine rO lB 2 rfl ?_
  refine aQ (cn V.pU rfl rfl rfl (by exact CL) (by exact Nat.le_of_ble_eq_true rfl) rfl) ?_
  refine cH ?_
  rw [hk4, ad.Bh]
  exact iV fK ⟨l26, d28, rfl, rfl⟩ (sub (.cons kd (.cons bK (aw .nil))) n4)
end Go.Proofs.YtmaiakpjgomnpaaGreat
namespace Go.Proofs.YtmaiakpjgomnpaaGreat
open Go.Sl 
theorem dw : dC Tryz.prog ⟨[47], [(223, 0, 0)]⟩ = true := by kernel_rfl
attribute [local irreducible] ag.cu ag.tk ag.ord ag.cQ ag.words ag.dj ad.iM ad.dh ad.dI ad.ew ad.hL ad.hD ad.hC ad.fE ad.told ad.gf ad.js ad.rep
set_option maxHeartbeats 4000000 in
theorem AQ (b bl : Nat) (sz mo : Int) (po : Option Addr) (no co : Nat) (li di : Value) (s : ad.St) (B : List Int) (a : Nat) (hl : B.length < 500000000) (hB : ak.az B) (ha : a ≤ 8 * B.length) : aK Tryz.prog 200 [.pointer (some ⟨b, 0, none⟩)] [ao b 223 [.pointer (some ⟨bl, 0, none⟩), .int .i64 sz, .int .i64 mo, .slice po no co, .bool s.ended, .int .i64 0, .int .i64 s.kind, .int .i64 (s.left : Int), .bool s.last, li, di, .int .i64 (s.aB : Int), .int .i64 (s.cE : Int)], LW bl B a [] 0] (iJ (ad.told B a) (fun x v G => ∃ l d, v = .tuple #[] ∧ G = [ao b 223 [.pointer (some ⟨bl, 0, none⟩), .int .i64 sz, .int .i64 mo, .slice po no co, .bool s.ended, .int .i64 0, .int .i64 s.kind, .int .i64 (s.left : Int), .bool s.last, (.pointer (some ⟨l, 0, none⟩)), (.pointer (some ⟨d, 0, none⟩)), .int .i64 (s.aB : Int), .int .i64 (s.cE : Int)], LW bl B x.1 [] 0, HC l x.2.1, HC d x.2.2]) [MX b bl sz mo]) := by
 refine ax [(0, _)] Tryz.func200 rfl Tryz.ntmps200 rfl rfl ?_
 intro w0 F
 have hn1 := ak.cJ B a 5
 have hn2 := ak.cJ B (a + 5) 5
 have hn3 := ak.cJ B (a + 10) 4
 obtain ⟨he1, he2, he3, he4, he5, he6, he7, he8⟩ := ad.Bx B a
 have hNN : ad.dI B a = ad.hL B a + ad.hD B a := ad.xy B a
 have hAA : ad.ew B a = a + 14 + 3 * ad.hC B a := ad.xD B a
 rcases (ad.M8 B.length a) with hx | ⟨hx1, hx⟩ | ⟨hx1, hx⟩ | h14
 ·refine rT dw 1 rfl ?_
  refine wN [pz 0 [] [0], pz 1 [0] [], pz 3 [1] [], pz 7 [2] [], pz 15 [3] [], pz 31 [4] [], pz 0 [] [0], pz 64 [6] [], pz 192 [7] [], pz 448 [8] [], pz 991 [9] [], pz 2015 [10] [], pz 0 [] [0], pz 4096 [12] [], pz 12288 [13] [], pz 28672 [14] [], pz 63455 [15] [], pz 128991 [16] [], pz 129023 [5] [], pz 393215 [11] [], pz 1048575 [17] []] [⟨fun y => ao b 223 [.pointer (some ⟨bl, 0, none⟩), .int .i64 sz, .int .i64 mo, .slice po no co, .bool s.ended, .int .i64 0, .int .i64 s.kind, .int .i64 (s.left : Int), .bool s.last, li, di, .int .i64 (s.aB : Int), .int .i64 (s.cE : Int)], none, none, [3, 4, 9, 15]⟩, ⟨fun y => LW bl B a [] 0, none, none, [4]⟩] F V.mixed ?_
  refine nM ?_
  refine nN ?_
  refine nG V.eK ?_
  refine nR (fun y FF hA => af V.dT rfl an rfl) ?_
  refine bO (undef) _ _ (fun y => rfl) rfl (fun y => rfl) (fun y FF hA => ga (gy bl B a [] 0 5 hl hB (by omega) (by omega) (by omega)) V.fi rfl (.cons aE .nil) (by rintro _ _ ⟨rfl, rfl⟩; exact lz (ad.tO (by omega)) PE.end_ (bd (.cons aE .nil) (by exact wS (M := FF) (F := F)) (fun w0 h hh => cX hh)))) ?_
  refine bO (.bool true) _ _ (fun y => rfl) rfl (fun y => rfl) (fun y FF hA => (dO.fact (hA 4 (by decide)) (q := fun _ => False) rfl).elim) ?_
  refine nM ?_
  refine nN ?_
  refine nG V.eK ?_
  refine nR (fun y FF hA => af V.dT rfl an rfl) ?_
  refine bO (.bool true) _ _ (fun y => rfl) rfl (fun y => rfl) (fun y FF hA => (dO.fact (hA 4 (by decide)) (q := fun _ => False) rfl).elim) ?_
  refine bO (.bool true) _ _ (fun y => rfl) rfl (fun y => rfl) (fun y FF hA => (dO.fact (hA 4 (by decide)) (q := fun _ => False) rfl).elim) ?_
  refine nM ?_
  refine nN ?_
  refine nG V.eK ?_
  refine nR (fun y FF hA => af V.dT rfl an rfl) ?_
  refine bO (.bool true) _ _ (fun y => rfl) rfl (fun y => rfl) (fun y FF hA => (dO.fact (hA 4 (by decide)) (q := fun _ => False) rfl).elim) ?_
  refine bO (.bool true) _ _ (fun y => rfl) rfl (fun y => rfl) (fun y FF hA => (dO.fact (hA 4 (by decide)) (q := fun _ => False) rfl).elim) ?_
  refine bO (.bool true) _ _ (fun y => rfl) rfl (fun y => rfl) (fun y FF hA => (dO.fact (hA 4 (by decide)) (q := fun _ => False) rfl).elim) ?_
  refine bO (.bool true) _ _ (fun y => rfl) rfl (fun y => rfl) (fun y FF hA => (dO.fact (hA 4 (by decide)) (q := fun _ => False) rfl).elim) ?_
  refine bO (.bool true) _ _ (fun y => rfl) rfl (fun y => rfl) (fun y FF hA => (dO.fact (hA 4 (by decide)) (q := fun _ => False) rfl).elim) ?_
  refine aX ?_
  intro y hA
  exact (dO.fact (hA 4 (by exact Nat.le_of_ble_eq_true rfl)) (q := fun _ => False) rfl).elim
 ·refine rT dw 1 rfl ?_
  refine wN [pz 0 [] [0], pz 1 [0] [], pz 3 [1] [], pz 7 [2] [], pz 15 [3] [], pz 31 [4] [], pz 0 [] [0], pz 64 [6] [], pz 192 [7] [], pz 448 [8] [], pz 991 [9] [], pz 2015 [10] [], pz 0 [] [0], pz 4096 [12] [], pz 12288 [13] [], pz 28672 [14] [], pz 63455 [15] [], pz 128991 [16] [], pz 129023 [5] [], pz 393215 [11] [], pz 1048575 [17] []] [⟨fun y => ao b 223 [.pointer (some ⟨bl, 0, none⟩), .int .i64 sz, .int .i64 mo, .slice po no co, .bool s.ended, .int .i64 0, .int .i64 s.kind, .int .i64 (s.left : Int), .bool s.last, li, di, .int .i64 (s.aB : Int), .int .i64 (s.cE : Int)], none, none, [3, 9, 10, 15]⟩, ⟨fun y => LW bl B a [] 0, none, some 4, []⟩, ⟨fun y => LW bl B (a + 5) [] 0, some 4, none, [10]⟩] F V.mixed ?_
  refine nM ?_
  refine nN ?_
  refine nG V.eK ?_
  refine nR (fun y FF hA => af V.dT rfl an rfl) ?_
  refine nE (fun y FF hA => bM (Post := [LW bl B (a + 5) [] 0]) (fO bl B a [] 0 5 hl hB (by omega) (by omega)) V.fi rfl (aw .nil) (fun v G h => by rcases h with ⟨rfl, rfl⟩; exact ⟨rfl, .refl _⟩)) ?_
  refine nV (fun y hA L => dz rfl rfl wI) ?_
  refine nM ?_
  refine nN ?_
  refine nG V.eK ?_
  refine nR (fun y FF hA => af V.dT rfl an rfl) ?_
  refine bO (undef) _ _ (fun y => rfl) rfl (fun y => rfl) (fun y FF hA => ga (gy bl B (a + 5) [] 0 5 hl hB (by omega) (by omega) (by omega)) V.fi rfl (.cons aE .nil) (by rintro _ _ ⟨rfl, rfl⟩; exact lz (ad.tO (by omega)) PE.end_ (bd (.cons aE .nil) (by exact wS (M := FF) (F := F)) (fun w0 h hh => cX hh)))) ?_
  refine bO (.bool true) _ _ (fun y => rfl) rfl (fun y => rfl) (fun y FF hA => (dO.fact (hA 10 (by decide)) (q := fun _ => False) rfl).elim) ?_
  refine nM ?_
  refine nN ?_
  refine nG V.eK ?_
  refine nR (fun y FF hA => af V.dT rfl an rfl) ?_
  refine bO (.bool true) _ _ (fun y => rfl) rfl (fun y => rfl) (fun y FF hA => (dO.fact (hA 10 (by decide)) (q := fun _ => False) rfl).elim) ?_
  refine bO (.bool true) _ _ (fun y => rfl) rfl (fun y => rfl) (fun y FF hA => (dO.fact (hA 10 (by decide)) (q := fun _ => False) rfl).elim) ?_
  refine bO (.bool true) _ _ (fun y => rfl) rfl (fun y => rfl) (fun y FF hA => (dO.fact (hA 10 (by decide)) (q := fun _ => False) rfl).elim) ?_
  refine bO (.bool true) _ _ (fun y => rfl) rfl (fun y => rfl) (fun y FF hA => (dO.fact (hA 10 (by decide)) (q := fun _ => False) rfl).elim) ?_
  refine bO (.bool true) _ _ (fun y => rfl) rfl (fun y => rfl) (fun y FF hA => (dO.fact (hA 10 (by decide)) (q := fun _ => False) rfl).elim) ?_
  refine aX ?_
  intro y hA
  exact (dO.fact (hA 10 (by exact Nat.le_of_ble_eq_true rfl)) (q := fun _ => False) rfl).elim
 ·refine rT dw 1 rfl ?_
  refine wN [pz 0 [] [0], pz 1 [0] [], pz 3 [1] [], pz 7 [2] [], pz 15 [3] [], pz 31 [4] [], pz 0 [] [0], pz 64 [6] [], pz 192 [7] [], pz 448 [8] [], pz 991 [9] [], pz 2015 [10] [], pz 0 [] [0], pz 4096 [12] [], pz 12288 [13] [], pz 28672 [14] [], pz 63455 [15] [], pz 128991 [16] [], pz 129023 [5] [], pz 393215 [11] [], pz 1048575 [17] []] [⟨fun y => ao b 223 [.pointer (some ⟨bl, 0, none⟩), .int .i64 sz, .int .i64 mo, .slice po no co, .bool s.ended, .int .i64 0, .int .i64 s.kind, .int .i64 (s.left : Int), .bool s.last, li, di, .int .i64 (s.aB : Int), .int .i64 (s.cE : Int)], none, none, [3, 9, 15, 16]⟩, ⟨fun y => LW bl B a [] 0, none, some 4, []⟩, ⟨fun y => LW bl B (a + 5) [] 0, some 4, some 10, []⟩, ⟨fun y => LW bl B (a + 10) [] 0, some 10, none, [16]⟩] F V.mixed ?_
  refine nM ?_
  refine nN ?_
  refine nG V.eK ?_
  refine nR (fun y FF hA => af V.dT rfl an rfl) ?_
  refine nE (fun y FF hA => bM (Post := [LW bl B (a + 5) [] 0]) (fO bl B a [] 0 5 hl hB (by omega) (by omega)) V.fi rfl (aw .nil) (fun v G h => by rcases h with ⟨rfl, rfl⟩; exact ⟨rfl, .refl _⟩)) ?_
  refine nV (fun y hA L => dz rfl rfl wI) ?_
  refine nM ?_
  refine nN ?_
  refine nG V.eK ?_
  refine nR (fun y FF hA => af V.dT rfl an rfl) ?_
  refine nE (fun y FF hA => bM (Post := [LW bl B (a + 10) [] 0]) (fO bl B (a + 5) [] 0 5 hl hB (by omega) (by omega)) V.fi rfl (aw .nil) (fun v G h => by rcases h with ⟨rfl, rfl⟩; exact ⟨rfl, .refl _⟩)) ?_
  refine nV (fun y hA L => dz rfl rfl wI) ?_
  refine nM ?_
  refine nN ?_
  refine nG V.eK ?_
  refine nR (fun y FF hA => af V.dT rfl an rfl) ?_
  refine bO (undef) _ _ (fun y => rfl) rfl (fun y => rfl) (fun y FF hA => ga (gy bl B (a + 10) [] 0 4 hl hB (by omega) (by omega) (by omega)) V.fi rfl (.cons aE .nil) (by rintro _ _ ⟨rfl, rfl⟩; exact lz (ad.tO (by omega)) PE.end_ (bd (.cons aE .nil) (by exact wS (M := FF) (F := F)) (fun w0 h hh => cX hh)))) ?_
  refine bO (.bool true) _ _ (fun y => rfl) rfl (fun y => rfl) (fun y FF hA => (dO.fact (hA 16 (by decide)) (q := fun _ => False) rfl).elim) ?_
  refine bO (.bool true) _ _ (fun y => rfl) rfl (fun y => rfl) (fun y FF hA => (dO.fact (hA 16 (by decide)) (q := fun _ => False) rfl).elim) ?_
  refine bO (.bool true) _ _ (fun y => rfl) rfl (fun y => rfl) (fun y FF hA => (dO.fact (hA 16 (by decide)) (q := fun _ => False) rfl).elim) ?_
  refine bO (.bool true) _ _ (fun y => rfl) rfl (fun y => rfl) (fun y FF hA => (dO.fact (hA 16 (by decide)) (q := fun _ => False) rfl).elim) ?_
  refine aX ?_
  intro y hA
  exact (dO.fact (hA 16 (by exact Nat.le_of_ble_eq_true rfl)) (q := fun _ => False) rfl).elim
 ·refine rT dw 1 rfl ?_
  refine wN [pz 0 [] [0], pz 1 [0] [], pz 3 [1] [], pz 7 [2] [], pz 15 [3] [], pz 31 [4] [], pz 0 [] [0], pz 64 [6] [], pz 192 [7] [], pz 448 [8] [], pz 991 [9] [], pz 2015 [10] [], pz 0 [] [0], pz 4096 [12] [], pz 12288 [13] [], pz 28672 [14] [], pz 63455 [15] [], pz 128991 [16] [], pz 129023 [5] [], pz 393215 [11] [], pz 1048575 [17] []] [⟨fun y => ao b 223 [.pointer (some ⟨bl, 0, none⟩), .int .i64 sz, .int .i64 mo, .slice po no co, .bool s.ended, .int .i64 0, .int .i64 s.kind, .int .i64 (s.left : Int), .bool s.last, li, di, .int .i64 (s.aB : Int), .int .i64 (s.cE : Int)], none, none, [3, 9, 15]⟩, ⟨fun y => LW bl B a [] 0, none, some 4, []⟩, ⟨fun y => LW bl B (a + 5) [] 0, some 4, some 10, []⟩, ⟨fun y => LW bl B (a + 10) [] 0, some 10, some 16, []⟩, ⟨fun y => LW bl B (a + 14) [] 0, some 16, none, []⟩] F V.mixed ?_
  refine nM ?_
  refine nN ?_
  refine nG V.eK ?_
  refine nR (fun y FF hA => af V.dT rfl an rfl) ?_
  refine nE (fun y FF hA => bM (Post := [LW bl B (a + 5) [] 0]) (fO bl B a [] 0 5 hl hB (by omega) (by omega)) V.fi rfl (aw .nil) (fun v G h => by rcases h with ⟨rfl, rfl⟩; exact ⟨rfl, .refl _⟩)) ?_
  refine nV (fun y hA L => dz rfl rfl wI) ?_
  refine nM ?_
  refine nN ?_
  refine nG V.eK ?_
  refine nR (fun y FF hA => af V.dT rfl an rfl) ?_
  refine nE (fun y FF hA => bM (Post := [LW bl B (a + 10) [] 0]) (fO bl B (a + 5) [] 0 5 hl hB (by omega) (by omega)) V.fi rfl (aw .nil) (fun v G h => by rcases h with ⟨rfl, rfl⟩; exact ⟨rfl, .refl _⟩)) ?_
  refine nV (fun y hA L => dz rfl rfl wI) ?_
  refine nM ?_
  refine nN ?_
  refine nG V.eK ?_
  refine nR (fun y FF hA => af V.dT rfl an rfl) ?_
  refine nE (fun y FF hA => bM (Post := [LW bl B (a + 14) [] 0]) (fO bl B (a + 10) [] 0 4 hl hB (by omega) (by omega)) V.fi rfl (aw .nil) (fun v G h => by rcases h with ⟨rfl, rfl⟩; exact ⟨rfl, .refl _⟩)) ?_
  refine nV (fun y hA L => dz rfl rfl wI) ?_
  iterate 3 refine nA ?_
  refine aX ?_
  intro y hA
  clear hA
  refine bu ?_
  refine cy _ (.cons (d := 0) rfl (.cons (d := 2) rfl (.cons (d := 3) rfl (.cons (d := 4) rfl (.nil _))))) ?_
  refine bR (M := ao b 223 [.pointer (some ⟨bl, 0, none⟩), .int .i64 sz, .int .i64 mo, .slice po no co, .bool s.ended, .int .i64 0, .int .i64 s.kind, .int .i64 (s.left : Int), .bool s.last, li, di, .int .i64 (s.aB : Int), .int .i64 (s.cE : Int)] :: LW bl B (a + 14) [] 0 :: F) (fun _ _ h => h) ?_
  rcases (ad.OA (ad.hL B a ≤ 286) (ad.hD B a ≤ 30)) with ⟨hq1, hq2⟩ | ⟨hq1, hq2⟩ | hq1
  ·refine rC dw 1 rfl ?_
   rw [he1, he2, he3]
   refine rC dw 2 rfl ?_
   refine oV (aU (eG rfl rfl) (by omega)) ?_
   refine rO dw 2 rfl ?_
   refine ae rfl ?_
   refine oV (aU (eG rfl rfl) (by omega)) ?_
   refine oV (ju rfl rfl) ?_
   refine ai (kS 4) V.iO  rfl .nil rfl ?_
   rintro _ _ ⟨rfl, rfl⟩
   refine rO dw 4 rfl ?_
   refine ai (zA 0 19 (by omega)) V.zX  rfl .nil rfl ?_
   rintro _ _ ⟨p37, c37, rfl, rfl⟩
   refine rO dw 6 rfl ?_
   refine ai (GG) V.PY  rfl .nil rfl ?_
   rintro _ _ ⟨p38, rfl, rfl⟩
   refine oV (aG rfl) ?_
   refine oV (kn (ad.hC B a) _ V.cU rfl ⟨_, rfl⟩ rfl (by omega) (by omega)) ?_
   refine rO dw 5 rfl ?_
   rw [← ad.DB B (a + 14)]
   rw [show LW bl B (a + 14) [] 0 = LW bl B (a + 14 + 3 * 0) [] 0 from rfl]
   refine dV (fun (k : Nat) => [(0, .pointer (some ⟨b, 0, none⟩)), (2, .int .i64 (ad.hL B a : Int)), (3, .int .i64 (ad.hD B a : Int)), (5, .slice p37 19 c37), (40, .slice p38 (ad.hC B a) 19), (41, .int .i64 ((ad.hC B a) : Int)), (42, .int .i64 (k : Int))]) (fun (k : Nat) => Row I3 p37 19 c37 (ad.iM B (a + 14) k) :: Row I3 p38 19 19 ad.mw :: ao b 223 [.pointer (some ⟨bl, 0, none⟩), .int .i64 sz, .int .i64 mo, .slice po no co, .bool s.ended, .int .i64 0, .int .i64 s.kind, .int .i64 (s.left : Int), .bool s.last, li, di, .int .i64 (s.aB : Int), .int .i64 (s.cE : Int)] :: LW bl B (a + 14 + 3 * k) [] 0 :: F) (fun (k : Nat) => k ≤ ad.hC B a ∧ a + 14 + 3 * k ≤ 8 * B.length) (fun (k : Nat) => ad.hC B a - k) (i1 (0) ?_ (kF (dk ln)) (sub (.cons aE (im .nil)) au)) ?_
   ·exact ⟨Nat.zero_le _, by omega⟩
   intro k
   rintro ⟨hk, hk2⟩
   refine rL dw 6 rfl ?_
   refine aP rfl (fun h43 => ?_) (fun h43 => ?_)
   ·refine rC dw 5 rfl ?_
    have hoo : 0 ≤ I3.g ad.mw (k : Int) ∧ I3.g ad.mw (k : Int) < 19 := ad.HJ (k := k) (by omega)
    refine bo ?_
    refine oV (zw (c := (I3)) V.cU rfl rfl (by exact (own bY).take _ (by omega)) (by omega) (by omega)) ?_
    refine oV (xL V.s3 (own bY)) ?_
    refine rO dw 3 rfl ?_
    rcases (Nat.lt_or_ge (8 * B.length) ((a + 14 + 3 * k) + 3)) with hx | hx
    ·refine rC dw 6 rfl ?_
     refine oV (af V.dT rfl cx rfl) ?_
     refine dJ (gy bl B (a + 14 + 3 * k) [] 0 3 hl hB (by omega) (by omega) (by omega)) V.fi rfl (.cons eg .nil) ?_
     rintro _ _ ⟨rfl, rfl⟩
     refine (fu (dZ (dZ (fu (dZ ?_)))))
     exact ez (ad.Bc h14 ⟨hq1, hq2⟩ (by omega)) PE.end_ (bd (.cons eg .nil) n4 (fun w0 h hh => cX hh))
    ·refine rC dw 6 rfl ?_
     refine oV (af V.dT rfl cx rfl) ?_
     refine ai (fO bl B (a + 14 + 3 * k) [] 0 3 hl hB (by omega) (by omega)) V.fi  rfl (.cons eg .nil) rfl ?_
     rintro _ _ ⟨rfl, rfl⟩
     refine oV (xI V.cU (own bY)) ?_
     refine aQ (ir (c := (I3)) (_) V.s3 rfl rfl rfl (by exact jG) (by omega) (by omega) rfl rfl) ?_
     refine cV dw 7 rfl (by omega) ?_
     rw [show (ad.iM B (a + 14) k).set (I3.g ad.mw (k : Int)).toNat (ak.aV B (a + 14 + 3 * k) 3) = ad.iM B (a + 14) (k + 1) from (ad.EE B (a + 14) k).symm]
     rw [show a + 14 + 3 * k + 3 = a + 14 + 3 * (k + 1) from by omega]
     refine j1 (k + 1) ?_ (kF (dk ln)) (sub (.cons aE (.cons aE (.cons aE (aw .nil)))) au)
     exact ⟨⟨by omega, by omega⟩, by omega⟩
   ·refine rC dw 5 rfl ?_
    rcases (Classical.em (ag.cu (ad.dh B a) = 0)) with hy | hy
    ·refine rC dw 1 rfl ?_
     have hkC : k = ad.hC B a := by omega
     rw [show ad.iM B (a + 14) k = ad.dh B a from by rw [hkC]; exact (ad.xj B a).symm, show a + 14 + 3 * k = ad.ew B a from by omega]
     have hta : ad.ew B a ≤ 8 * B.length := by omega
     refine rC dw 2 rfl ?_
     refine ai (mO p37 19 c37 (ad.dh B a) (Row I3 p37 19 c37 (ad.dh B a)) (ad.ja B a).symm (fun _ _ hh => th (ad.ja B a).symm hh) hy) V.oU  rfl (aw .nil) rfl ?_
     rintro _ _ ⟨bc, rfl, rfl⟩
     refine rO dw 10 rfl ?_
     refine hH (Row I3 none 0 0 []) (Row.nil _ _ _) ?_
     refine ze (fun (l : List Int) (f : Nat) (x : Nat) (pr : Option Addr) (cr : Nat) => [(0, .pointer (some ⟨b, 0, none⟩)), (2, .int .i64 (ad.hL B a : Int)), (3, .int .i64 (ad.hD B a : Int)), (8, .pointer (some ⟨bc, 0, none⟩)), (9, .slice pr l.length cr)]) (fun (l : List Int) (f : Nat) (x : Nat) (pr : Option Addr) (cr : Nat) => Row I3 pr l.length cr l :: HC bc (ad.dh B a) :: ao b 223 [.pointer (some ⟨bl, 0, none⟩), .int .i64 sz, .int .i64 mo, .slice po no co, .bool s.ended, .int .i64 0, .int .i64 s.kind, .int .i64 (s.left : Int), .bool s.last, li, di, .int .i64 (s.aB : Int), .int .i64 (s.cE : Int)] :: LW bl B x [] 0 :: F) (fun (l : List Int) (f : Nat) (x : Nat) (pr : Option Addr) (cr : Nat) => ad.fE B (ad.dh B a) (ad.dI B a) (ad.dI B a) [] (ad.ew B a) = ad.fE B (ad.dh B a) (ad.dI B a) f l x ∧ (ad.dI B a) ≤ f + l.length ∧ l.length ≤ (ad.dI B a) ∧ x ≤ 8 * B.length) (fun (l : List Int) (f : Nat) (x : Nat) (pr : Option Addr) (cr : Nat) => (ad.dI B a) - l.length) (i5 ([]) ((ad.dI B a)) ((ad.ew B a)) (none) (0) ?_ (dk ln) (sub (bp (.cons bK (.cons bK .nil))) fS)) ?_
     ·exact ⟨rfl, Nat.le_add_right _ _, Nat.zero_le _, hta⟩
     intro l f x pr cr
     rintro ⟨hg, hf, hlt, hx⟩
     refine On dw 11 rfl (by omega) ?_
     refine aP rfl (fun h62 => ?_) (fun h62 => ?_)
     ·refine rC dw 3 rfl ?_
      rcases (ad.zM B (ad.dh B a) l x) with ⟨e, hs⟩ | ⟨sy, x2, e, hs, hr⟩ | ⟨sy, x2, xx, nn, x3, hs, hr⟩
      ·refine rC dw 7 rfl ?_
       refine oV (af V.dT rfl cx rfl) ?_
       refine dJ ((o4 bc (ad.dh B a) bl B x [] 0 hy hl hB hx).err hs) V.sf rfl (.cons aE (.cons bK .nil)) ?_
       rintro _ _ ⟨hp, rfl⟩
       refine (dZ (fu (dZ (fu (dZ ?_)))))
       exact ez (ad.tz h14 ⟨hq1, hq2⟩ hta hy (hg.trans (ad.oZ (by omega) hf (ad.sx hs)))) hp (bd (.cons aE .nil) cG (fun w0 h hh => cX hh))
      ·refine rC dw 1 rfl ?_
       have hsz := ad.qk hy (by rw [ad.ja]; omega) hs
       rw [ad.ja] at hsz
       have hsy : 0 ≤ sy ∧ sy ≤ 18 := by omega
       have hx2 : x2 ≤ 8 * B.length := by omega
       refine rC dw 6 rfl ?_
       refine oV (af V.dT rfl cx rfl) ?_
       refine ai ((o4 bc (ad.dh B a) bl B x [] 0 hy hl hB hx).ok hs) V.sf  rfl (.cons aE (.cons bK .nil)) rfl ?_
       rintro _ _ ⟨rfl, rfl⟩
       refine oV (aG rfl) ?_
       refine dJ ((FV b bl sz mo po no co li di s B x2 sy pr cr l hsy hl hB hx2 (by omega)).err hr) V.IT rfl (.cons eg (.cons aE (.cons aE .nil))) ?_
       rintro _ _ ⟨hp, rfl⟩
       refine (dZ (fu (dZ (fu (dZ ?_)))))
       exact ez (ad.tz h14 ⟨hq1, hq2⟩ hta hy (hg.trans (ad.oZ (by omega) hf (ad.rM hs hr)))) hp (sub (aw .nil) cG)
      ·refine rC dw 1 rfl ?_
       have hsz := ad.qk hy (by rw [ad.ja]; omega) hs
       rw [ad.ja] at hsz
       have hsy : 0 ≤ sy ∧ sy ≤ 18 := by omega
       have hx2 : x2 ≤ 8 * B.length := by omega
       have hrg := ad.xO hx2 hr
       refine rC dw 6 rfl ?_
       refine oV (af V.dT rfl cx rfl) ?_
       refine ai ((o4 bc (ad.dh B a) bl B x [] 0 hy hl hB hx).ok hs) V.sf  rfl (.cons aE (.cons bK .nil)) rfl ?_
       rintro _ _ ⟨rfl, rfl⟩
       refine oV (aG rfl) ?_
       refine ai ((FV b bl sz mo po no co li di s B x2 sy pr cr l hsy hl hB hx2 (by omega)).ok hr) V.IT  rfl (.cons eg (.cons aE (.cons aE .nil))) rfl ?_
       rintro _ _ ⟨rfl, rfl⟩
       refine rO dw 12 rfl ?_
       refine ai (CO xx nn (by omega)) V.zX  rfl .nil rfl ?_
       rintro _ _ ⟨p78, c78, rfl, rfl⟩
       refine ek (c := (I3)) V.cU V.z3 rfl rfl rfl rfl eg (own an) (by omega) rfl ?_
       intro p79 c79
       refine rO dw 3 rfl ?_
       rcases (Nat.lt_or_ge (ad.dI B a) (l.length + nn.toNat)) with hbg | hbg
       ·refine fQ dw 6 rfl (by omega) ?_
        refine oV (aA (eG rfl rfl) (by omega)) ?_
        refine dJ (iR 4) V.iO rfl .nil ?_
        rintro _ _ ⟨rfl, rfl⟩
        refine (fu (dZ (fu (dZ ?_))))
        exact ez (ad.tz h14 ⟨hq1, hq2⟩ hta hy (hg.trans (ad.wO (by omega) hf (ad.mY hs hr) (by rw [List.length_append, List.length_replicate]; omega)))) (PE.no (by decide)) (bd (.cons bK .nil) mE (fun w0 h hh => cX hh))
       ·refine fQ dw 6 rfl (by omega) ?_
        refine oV (aU (eG rfl rfl) (by omega)) ?_
        refine ai (kS 4) V.iO  rfl .nil rfl ?_
        rintro _ _ ⟨rfl, rfl⟩
        refine rO dw 2 rfl ?_
        rw [show l.length + nn.toNat = (l ++ List.replicate nn.toNat xx).length from by rw [List.length_append, List.length_replicate]]
        have hll : (l ++ List.replicate nn.toNat xx).length = l.length + nn.toNat := by rw [List.length_append, List.length_replicate]
        refine j5 (l ++ List.replicate nn.toNat xx) (f - 1) (x3) (_) (_) ?_ (dk ln) (sub (aw (.cons eg (.cons aE (.cons aE .nil)))) cG)
        exact ⟨⟨hg.trans (ad.vb (by omega) hf (ad.mY hs hr) (by omega)), by omega, by omega, by omega⟩, by omega⟩
     ·refine rC dw 5 rfl ?_
      rcases (ad.OA (ag.cu (l.take (ad.hL B a)) = 0) (ag.cu (l.drop (ad.hL B a)) = 0)) with ⟨hc1, hc2⟩ | ⟨hc1, hc2⟩ | hc1
      ·refine rC dw 1 rfl ?_
       have hlt : l.length = ad.dI B a := by omega
       have hz := hg.trans (ad.nb (B := B) (c := ad.dh B a) (f := f) (a := x) (show ad.dI B a ≤ l.length by omega))
       refine Ah (p := pr) (n := l.length) (cap := cr) (l := l) (c := I3) an fun hcap => ?_
       refine kW [pz 0 [] [0], pz 0 [] [0], pz 0 [] [9], pz 0 [] [2], pz 12 [2, 3] [], pz 28 [4] [], pz 0 [] [9], pz 0 [] [2], pz 192 [6, 7] [], pz 508 [8] [], pz 1021 [0] [], pz 2045 [10] [], pz 4093 [11, 5] [], pz 8191 [1] [], pz 16383 [13] [], pz 32767 [14, 9] []] [⟨fun y => Row I3 pr l.length cr l, none, some 5, []⟩, ⟨fun y => HC bc (ad.dh B a), none, none, []⟩, ⟨fun y => ao b 223 [.pointer (some ⟨bl, 0, none⟩), .int .i64 sz, .int .i64 mo, .slice po no co, .bool s.ended, .int .i64 0, .int .i64 s.kind, .int .i64 (s.left : Int), .bool s.last, li, di, .int .i64 (s.aB : Int), .int .i64 (s.cE : Int)], none, some 12, []⟩, ⟨fun y => LW bl B x [] 0, none, none, []⟩, ⟨fun y => HC (fG (y 5)) (l.take (ad.hL B a)), some 5, none, []⟩, ⟨fun y => Row I3 pr l.length cr l, some 5, some 9, []⟩, ⟨fun y => HC (fG (y 9)) (l.drop (ad.hL B a)), some 9, none, []⟩, ⟨fun y => Row I3 pr l.length cr l, some 9, none, []⟩, ⟨fun y => ao b 223 [.pointer (some ⟨bl, 0, none⟩), .int .i64 sz, .int .i64 mo, .slice po no co, .bool s.ended, .int .i64 0, .int .i64 s.kind, .int .i64 (s.left : Int), .bool s.last, .pointer (some ⟨fG (y 5), 0, none⟩), di, .int .i64 (s.aB : Int), .int .i64 (s.cE : Int)], some 12, some 15, []⟩, ⟨fun y => ao b 223 [.pointer (some ⟨bl, 0, none⟩), .int .i64 sz, .int .i64 mo, .slice po no co, .bool s.ended, .int .i64 0, .int .i64 s.kind, .int .i64 (s.left : Int), .bool s.last, .pointer (some ⟨fG (y 5), 0, none⟩), .pointer (some ⟨fG (y 9), 0, none⟩), .int .i64 (s.aB : Int), .int .i64 (s.cE : Int)], some 15, none, []⟩] F V.mixed (by kernel_rfl) rfl (fun _ => .refl _) (cg _ (cg _ (cg _ (cg _ (eh _ rfl (by intro y y2 h; simp only [h 5 (.inl rfl)]) (eh _ rfl (by intro y y2 h; rfl) (eh _ rfl (by intro y y2 h; simp only [h 9 (.inl rfl)]) (eh _ rfl (by intro y y2 h; rfl) (eh _ rfl (by intro y y2 h; simp only [h 5 (.inr (by decide))]) (eh _ rfl (by intro y y2 h; simp only [h 5 (.inr (by decide)), h 9 (.inr (by decide))]) gX)))))))))) ?_
       iterate 4 refine nM ?_
       refine nV (fun y hA L => kn (ad.hL B a) _ V.cU rfl ⟨_, rfl⟩ rfl (by omega) (by omega)) ?_
       refine gD (fun y v => .pointer (some ⟨fG v, 0, none⟩)) (fun y v => True) _ _ (fun y v => [HC (fG v) (l.take (ad.hL B a)), Row I3 pr l.length cr l]) _ (fun y => rfl) (fun y => rfl) (fun y => rfl) (fun y => rfl) (fun y FF hA => r4 (A := fun z => HC z (l.take (ad.hL B a))) (Post := [Row I3 pr l.length cr l]) (mO pr (ad.hL B a) cr (l.take (ad.hL B a)) (Row I3 pr l.length cr l) (by (rw [List.length_take]; omega)) (fun _ _ hh => r5 rfl (by omega) hh) hc1) V.oU rfl (aw .nil)) (by intros; rfl) (by intros; rfl) (by intros; rfl) (by intro y y2 h; simp only [h 5 (.inl rfl)]) (by intro y y2 h; rfl) ?_
       iterate 2 refine nM ?_
       refine nV (fun y hA L => dW (ad.hL B a) _ _ V.cU rfl ⟨_, rfl⟩ ⟨rfl, rfl⟩ rfl (by omega) (by omega) (by omega)) ?_
       refine gD (fun y v => .pointer (some ⟨fG v, 0, none⟩)) (fun y v => True) _ _ (fun y v => [HC (fG v) (l.drop (ad.hL B a)), Row I3 pr l.length cr l]) _ (fun y => rfl) (fun y => rfl) (fun y => rfl) (fun y => rfl) (fun y FF hA => r4 (A := fun z => HC z (l.drop (ad.hL B a))) (Post := [Row I3 pr l.length cr l]) (mO (eo pr (ad.hL B a) cr 1) (l.length - (ad.hL B a)) (cr - (ad.hL B a)) (l.drop (ad.hL B a)) (Row I3 pr l.length cr l) (by rw [List.length_drop]) (fun _ _ hh => vP rfl (by omega) hcap hh) hc2) V.oU rfl (aw .nil)) (by intros; rfl) (by intros; rfl) (by intros; rfl) (by intro y y2 h; simp only [h 9 (.inl rfl)]) (by intro y y2 h; rfl) ?_
       refine nN ?_
       refine nG V.xg ?_
       refine nE (fun y FF hA => dp (cn V.pU rfl rfl rfl (by exact cZ) (by exact Nat.le_of_ble_eq_true rfl) rfl) ⟨rfl, .refl _⟩) ?_
       refine nN ?_
       refine nG V.uK ?_
       refine nE (fun y FF hA => dp (cn V.pU rfl rfl rfl (by exact cZ) (by exact Nat.le_of_ble_eq_true rfl) rfl) ⟨rfl, .refl _⟩) ?_
       refine aX ?_
       intro y hA
       clear hA
       refine bu ?_
       refine cy _ (.cons (d := 9) rfl (.nil _)) ?_
       refine bR (M := HC bc (ad.dh B a) :: LW bl B x [] 0 :: HC (fG (y 5)) (l.take (ad.hL B a)) :: HC (fG (y 9)) (l.drop (ad.hL B a)) :: Row I3 pr l.length cr l :: ao b 223 [.pointer (some ⟨bl, 0, none⟩), .int .i64 sz, .int .i64 mo, .slice po no co, .bool s.ended, .int .i64 0, .int .i64 s.kind, .int .i64 (s.left : Int), .bool s.last, .pointer (some ⟨fG (y 5), 0, none⟩), .pointer (some ⟨fG (y 9), 0, none⟩), .int .i64 (s.aB : Int), .int .i64 (s.cE : Int)] :: F) (fun _ _ h => h) ?_
       generalize (fG (y 5)) = q92
       generalize (fG (y 9)) = q96
       rcases (Classical.em (l.getD 256 0 = 0)) with hend | hend
       ·have hnn := ad.yj hc1 256
        rw [ad.getD_take (show 256 < ad.hL B a by omega)] at hnn
        refine rC dw 2 rfl ?_
        refine oV (xI V.cU (own jv)) ?_
        refine oV (xL V.s3 (own jv)) ?_
        refine oV (aA (bj rfl rfl) (by rw [show I3.g l 256 = l.getD 256 0 from rfl]; omega)) ?_
        refine dJ (iR 4) V.iO rfl .nil ?_
        rintro _ _ ⟨rfl, rfl⟩
        skip
        exact ez (ad.tD h14 ⟨hq1, hq2⟩ hta hy hz (.inr (.inr hend))) (PE.no (by decide)) (bd (.cons kd .nil) FP (fun w0 h hh => cX hh))
       ·have hnn := ad.yj hc1 256
        rw [ad.getD_take (show 256 < ad.hL B a by omega)] at hnn
        refine rC dw 2 rfl ?_
        refine oV (xI V.cU (own jv)) ?_
        refine oV (xL V.s3 (own jv)) ?_
        refine oV (aU (bj rfl rfl) (by rw [show I3.g l 256 = l.getD 256 0 from rfl]; omega)) ?_
        refine ai (kS 4) V.iO  rfl .nil rfl ?_
        rintro _ _ ⟨rfl, rfl⟩
        refine cH ?_
        exact iE (ad.AM h14 ⟨hq1, hq2⟩ hta hy hz hc1 hc2 hend) fK ⟨_, _, rfl, rfl⟩ (sub (.cons kd (.cons aE (.cons aE (.cons aE .nil)))) fS)
      ·refine rC dw 1 rfl ?_
       have hlt : l.length = ad.dI B a := by omega
       have hz := hg.trans (ad.nb (B := B) (c := ad.dh B a) (f := f) (a := x) (show ad.dI B a ≤ l.length by omega))
       refine Ah (p := pr) (n := l.length) (cap := cr) (l := l) (c := I3) an fun hcap => ?_
       refine kW [pz 0 [] [0], pz 0 [] [0], pz 0 [] [9], pz 0 [] [2], pz 12 [2, 3] [], pz 28 [4] [], pz 0 [] [9], pz 0 [] [2], pz 192 [6, 7] [], pz 508 [8] [], pz 1021 [0] [], pz 2045 [10] [], pz 4093 [11, 5] [], pz 8191 [1] [], pz 16383 [13] [], pz 32767 [14, 9] []] [⟨fun y => Row I3 pr l.length cr l, none, some 5, []⟩, ⟨fun y => HC bc (ad.dh B a), none, none, []⟩, ⟨fun y => ao b 223 [.pointer (some ⟨bl, 0, none⟩), .int .i64 sz, .int .i64 mo, .slice po no co, .bool s.ended, .int .i64 0, .int .i64 s.kind, .int .i64 (s.left : Int), .bool s.last, li, di, .int .i64 (s.aB : Int), .int .i64 (s.cE : Int)], none, none, [9]⟩, ⟨fun y => LW bl B x [] 0, none, none, []⟩, ⟨fun y => HC (fG (y 5)) (l.take (ad.hL B a)), some 5, none, []⟩, ⟨fun y => Row I3 pr l.length cr l, some 5, none, [9]⟩] F V.mixed (by kernel_rfl) rfl (fun _ => .refl _) (cg _ (cg _ (cg _ (cg _ (eh _ rfl (by intro y y2 h; simp only [h 5 (.inl rfl)]) (eh _ rfl (by intro y y2 h; rfl) gX)))))) ?_
       iterate 4 refine nM ?_
       refine nV (fun y hA L => kn (ad.hL B a) _ V.cU rfl ⟨_, rfl⟩ rfl (by omega) (by omega)) ?_
       refine gD (fun y v => .pointer (some ⟨fG v, 0, none⟩)) (fun y v => True) _ _ (fun y v => [HC (fG v) (l.take (ad.hL B a)), Row I3 pr l.length cr l]) _ (fun y => rfl) (fun y => rfl) (fun y => rfl) (fun y => rfl) (fun y FF hA => r4 (A := fun z => HC z (l.take (ad.hL B a))) (Post := [Row I3 pr l.length cr l]) (mO pr (ad.hL B a) cr (l.take (ad.hL B a)) (Row I3 pr l.length cr l) (by (rw [List.length_take]; omega)) (fun _ _ hh => r5 rfl (by omega) hh) hc1) V.oU rfl (aw .nil)) (by intros; rfl) (by intros; rfl) (by intros; rfl) (by intro y y2 h; simp only [h 5 (.inl rfl)]) (by intro y y2 h; rfl) ?_
       iterate 2 refine nM ?_
       refine nV (fun y hA L => dW (ad.hL B a) _ _ V.cU rfl ⟨_, rfl⟩ ⟨rfl, rfl⟩ rfl (by omega) (by omega) (by omega)) ?_
       refine bO (undef) _ _ (fun y => rfl) rfl (fun y => rfl) (fun y FF hA => ga (um (eo pr (ad.hL B a) cr 1) (l.length - (ad.hL B a)) (cr - (ad.hL B a)) (l.drop (ad.hL B a)) (Row I3 pr l.length cr l) (by rw [List.length_drop]) (fun _ _ hh => vP rfl (by omega) hcap hh) hc2) V.oU rfl (.cons aE .nil) (by rintro _ _ ⟨hp, rfl⟩; exact lz (ad.tD h14 ⟨hq1, hq2⟩ hta hy hz (.inr (.inl hc2))) hp (bd (aw .nil) (by exact ve (M := FF) (F := F)) (fun w0 h hh => cX hh)))) ?_
       refine bO (.bool true) _ _ (fun y => rfl) rfl (fun y => rfl) (fun y FF hA => (dO.fact (hA 9 (by decide)) (q := fun _ => False) rfl).elim) ?_
       refine bO (.bool true) _ _ (fun y => rfl) rfl (fun y => rfl) (fun y FF hA => (dO.fact (hA 9 (by decide)) (q := fun _ => False) rfl).elim) ?_
       refine bO (.bool true) _ _ (fun y => rfl) rfl (fun y => rfl) (fun y FF hA => (dO.fact (hA 9 (by decide)) (q := fun _ => False) rfl).elim) ?_
       refine bO (.bool true) _ _ (fun y => rfl) rfl (fun y => rfl) (fun y FF hA => (dO.fact (hA 9 (by decide)) (q := fun _ => False) rfl).elim) ?_
       refine bO (.bool true) _ _ (fun y => rfl) rfl (fun y => rfl) (fun y FF hA => (dO.fact (hA 9 (by decide)) (q := fun _ => False) rfl).elim) ?_
       refine bO (.bool true) _ _ (fun y => rfl) rfl (fun y => rfl) (fun y FF hA => (dO.fact (hA 9 (by decide)) (q := fun _ => False) rfl).elim) ?_
       refine aX ?_
       intro y hA
       exact (dO.fact (hA 9 (by exact Nat.le_of_ble_eq_true rfl)) (q := fun _ => False) rfl).elim
      ·refine rC dw 1 rfl ?_
       have hlt : l.length = ad.dI B a := by omega
       have hz := hg.trans (ad.nb (B := B) (c := ad.dh B a) (f := f) (a := x) (show ad.dI B a ≤ l.length by omega))
       refine Ah (p := pr) (n := l.length) (cap := cr) (l := l) (c := I3) an fun hcap => ?_
       refine wN [pz 0 [] [0], pz 0 [] [0], pz 0 [] [9], pz 0 [] [2], pz 12 [2, 3] [], pz 28 [4] [], pz 0 [] [9], pz 0 [] [2], pz 192 [6, 7] [], pz 508 [8] [], pz 1021 [0] [], pz 2045 [10] [], pz 4093 [11, 5] [], pz 8191 [1] [], pz 16383 [13] [], pz 32767 [14, 9] []] [⟨fun y => Row I3 pr l.length cr l, none, none, [5]⟩, ⟨fun y => HC bc (ad.dh B a), none, none, []⟩, ⟨fun y => ao b 223 [.pointer (some ⟨bl, 0, none⟩), .int .i64 sz, .int .i64 mo, .slice po no co, .bool s.ended, .int .i64 0, .int .i64 s.kind, .int .i64 (s.left : Int), .bool s.last, li, di, .int .i64 (s.aB : Int), .int .i64 (s.cE : Int)], none, none, [5]⟩, ⟨fun y => LW bl B x [] 0, none, none, []⟩] F V.mixed ?_
       iterate 4 refine nM ?_
       refine nV (fun y hA L => kn (ad.hL B a) _ V.cU rfl ⟨_, rfl⟩ rfl (by omega) (by omega)) ?_
       refine bO (undef) _ _ (fun y => rfl) rfl (fun y => rfl) (fun y FF hA => ga (um pr (ad.hL B a) cr (l.take (ad.hL B a)) (Row I3 pr l.length cr l) (by (rw [List.length_take]; omega)) (fun _ _ hh => r5 rfl (by omega) hh) hc1) V.oU rfl (aw .nil) (by rintro _ _ ⟨hp, rfl⟩; exact lz (ad.tD h14 ⟨hq1, hq2⟩ hta hy hz (.inl hc1)) hp (bd (aw .nil) (by exact ve (M := FF) (F := F)) (fun w0 h hh => cX hh)))) ?_
       iterate 2 refine nM ?_
       refine nV (fun y hA L => dW (ad.hL B a) _ _ V.cU rfl ⟨_, rfl⟩ ⟨rfl, rfl⟩ rfl (by omega) (by omega) (by omega)) ?_
       refine bO (.bool true) _ _ (fun y => rfl) rfl (fun y => rfl) (fun y FF hA => (dO.fact (hA 5 (by decide)) (q := fun _ => False) rfl).elim) ?_
       refine bO (.bool true) _ _ (fun y => rfl) rfl (fun y => rfl) (fun y FF hA => (dO.fact (hA 5 (by decide)) (q := fun _ => False) rfl).elim) ?_
       refine bO (.bool true) _ _ (fun y => rfl) rfl (fun y => rfl) (fun y FF hA => (dO.fact (hA 5 (by decide)) (q := fun _ => False) rfl).elim) ?_
       refine bO (.bool true) _ _ (fun y => rfl) rfl (fun y => rfl) (fun y FF hA => (dO.fact (hA 5 (by decide)) (q := fun _ => False) rfl).elim) ?_
       refine bO (.bool true) _ _ (fun y => rfl) rfl (fun y => rfl) (fun y FF hA => (dO.fact (hA 5 (by decide)) (q := fun _ => False) rfl).elim) ?_
       refine bO (.bool true) _ _ (fun y => rfl) rfl (fun y => rfl) (fun y FF hA => (dO.fact (hA 5 (by decide)) (q := fun _ => False) rfl).elim) ?_
       refine bO (.bool true) _ _ (fun y => rfl) rfl (fun y => rfl) (fun y FF hA => (dO.fact (hA 5 (by decide)) (q := fun _ => False) rfl).elim) ?_
       refine aX ?_
       intro y hA
       exact (dO.fact (hA 5 (by exact Nat.le_of_ble_eq_true rfl)) (q := fun _ => False) rfl).elim
    ·refine rC dw 1 rfl ?_
     have hkC : k = ad.hC B a := by omega
     rw [show ad.iM B (a + 14) k = ad.dh B a from by rw [hkC]; exact (ad.xj B a).symm, show a + 14 + 3 * k = ad.ew B a from by omega]
     have hta : ad.ew B a ≤ 8 * B.length := by omega
     refine rC dw 2 rfl ?_
     refine dJ (um p37 19 c37 (ad.dh B a) (Row I3 p37 19 c37 (ad.dh B a)) (ad.ja B a).symm (fun _ _ hh => th (ad.ja B a).symm hh) hy) V.oU rfl (aw .nil) ?_
     rintro _ _ ⟨hp, rfl⟩
     refine (dZ ?_)
     exact ez (ad.BD h14 ⟨hq1, hq2⟩ hta hy) hp (bd (.cons aE .nil) fS (fun w0 h hh => cX hh))
  ·refine rC dw 1 rfl ?_
   rw [he1, he2, he3]
   refine rC dw 2 rfl ?_
   refine oV (aU (eG rfl rfl) (by omega)) ?_
   refine rO dw 2 rfl ?_
   refine ae rfl ?_
   refine oV (aA (eG rfl rfl) (by omega)) ?_
   refine oV (ju rfl rfl) ?_
   refine dJ (iR 4) V.iO rfl .nil ?_
   rintro _ _ ⟨rfl, rfl⟩
   refine (dZ ?_)
   exact ez (ad.vC h14 (by omega)) (PE.no (by decide)) (bd (aw .nil) cG (fun w0 h hh => cX hh))
  ·refine rC dw 1 rfl ?_
   rw [he1, he2, he3]
   refine rC dw 2 rfl ?_
   refine oV (aA (eG rfl rfl) (by omega)) ?_
   refine rO dw 4 rfl ?_
   refine dJ (iR 4) V.iO rfl .nil ?_
   rintro _ _ ⟨rfl, rfl⟩
   refine (dZ ?_)
   exact ez (ad.vC h14 (by omega)) (PE.no (by decide)) (bd (aw .nil) cG (fun w0 h hh => cX hh))
end Go.Proofs.YtmaiakpjgomnpaaGreat
namespace Go.Sl
def CD (li di : Value) (s : ad.St) : ab := fun w0 h => s.kind ≤ 0 ∨ ∃ l d, li = .pointer (some ⟨l, 0, none⟩) ∧ di = .pointer (some ⟨d, 0, none⟩) ∧ dq w0 [HC l s.lits, HC d s.eQ] h
structure Pv where
  li : Value
  di : Value
def MM (b bl : Nat) (sz mo : Int) (B : List Int) (s : ad.St) : ab := fun w0 h => ∃ i : Pv, True ∧ dq w0 [MS b bl sz mo i.li i.di s, LW bl B s.at_ [] 0, CD i.li i.di s] h
theorem uV {w0 : World} {Bs : List ab} {A : ab} {h : Hp} (hA : ∀ h, dq w0 Bs h → A w0 h) (hh : dq w0 Bs h) : dq w0 [A] h := ⟨h, fun _ => none, fun _ => .inr rfl, Hp.le_refl _, (fun _ _ e => by cases e), hA h hh, trivial⟩
theorem oA {w0 : World} {X : ab} {L L' : List ab} {h : Hp} (k : ∀ h, dq w0 L h → dq w0 L' h) (hh : dq w0 (X :: L) h) : dq w0 (X :: L') h := by
  obtain ⟨h1, h2, a, b, c, d, e⟩ := hh
  exact ⟨h1, h2, a, b, c, d, k h2 e⟩
theorem nw {b bl : Nat} {sz mo : Int} {B : List Int} {s : ad.St} {li di : Value} {w0 : World} {h : Hp} (hk : s.kind ≤ 0) (hh : dq w0 [MS b bl sz mo li di s, LW bl B s.at_ [] 0] h) : MM b bl sz mo B s w0 h :=
  ⟨⟨li, di⟩, trivial, oA (fun h hh => oA (fun h hh => uV (fun h _ => .inl hk) hh) hh) hh⟩
theorem mb {b bl l d : Nat} {sz mo : Int} {B : List Int} {s : ad.St} {w0 : World} {h : Hp} (hh : dq w0 [MS b bl sz mo (.pointer (some ⟨l, 0, none⟩)) (.pointer (some ⟨d, 0, none⟩)) s, LW bl B s.at_ [] 0, HC l s.lits, HC d s.eQ] h) : MM b bl sz mo B s w0 h :=
  ⟨⟨_, _⟩, trivial, oA (fun h hh => oA (fun h hh => uV (fun h hh => .inr ⟨l, d, rfl, rfl, hh⟩) hh) hh) hh⟩
theorem fw {b bl : Nat} {sz mo : Int} {B : List Int} {s : ad.St} {li di : Value} {w0 : World} {h : Hp} (hh : dq w0 [MS b bl sz mo li di s, LW bl B s.at_ [] 0, CD li di s] h) : MM b bl sz mo B s w0 h := ⟨⟨li, di⟩, trivial, hh⟩
theorem zf {li di : Value} {s : ad.St} {w0 : World} {h : Hp} (hk : 0 < s.kind) (hh : CD li di s w0 h) : ∃ i : Nat × Nat, (li = .pointer (some ⟨i.1, 0, none⟩) ∧ di = .pointer (some ⟨i.2, 0, none⟩)) ∧ dq w0 [HC i.1 s.lits, HC i.2 s.eQ] h := by
  rcases hh with hh | ⟨l, d, h1, h2, h3⟩
  · exact absurd hk (by omega)
  · exact ⟨(l, d), ⟨h1, h2⟩, h3⟩
theorem aK.fold {P : Program} {f : FuncId} {args : List Value} {A : ab} {Bs : List ab} {Post : Ending → List ab → Prop} (h : aK P f args [A] Post) (hA : ∀ w0 h, dq w0 Bs h → A w0 h) : aK P f args Bs Post := fun w0 F w hi => h w0 F w (hi.cls (hA w0))
end Go.Sl
namespace Go.Proofs.YtmaiakpjgomnpaaGreat
open Go.Sl 
theorem cY : dC Tryz.prog ⟨[], [(223, 0, 0), (223, 6, 6), (223, 7, 7), (223, 8, 8)]⟩ = true := by kernel_rfl
attribute [local irreducible] ag.cu ag.tk ag.ord ag.cQ ag.words ag.dj ad.iM ad.dh ad.dI ad.ew ad.hL ad.hD ad.hC ad.fE ad.told ad.gf ad.js ad.rep ad.ft ad.eJ ad.sym ad.dL ak.aV ad.fb ad.dR
set_option maxHeartbeats 2000000 in
theorem vO (b bl : Nat) (sz mo : Int) (po : Option Addr) (no co : Nat) (li di : Value) (s : ad.St) (B : List Int) (a : Nat) (sy : Int) (h0 : 0 ≤ sy ∧ sy < 1000) (hl : B.length < 500000000) (hB : ak.az B) (ha : a ≤ 8 * B.length) : aK Tryz.prog 202 [.pointer (some ⟨b, 0, none⟩), .int .i64 sy] [ao b 223 [.pointer (some ⟨bl, 0, none⟩), .int .i64 sz, .int .i64 mo, .slice po no co, .bool s.ended, .int .i64 0, .int .i64 s.kind, .int .i64 (s.left : Int), .bool s.last, li, di, .int .i64 (s.aB : Int), .int .i64 (s.cE : Int)], LW bl B a [] 0] (iJ (ad.ft B sy a) (fun x v G => v = .int .i64 x.1 ∧ G = [ao b 223 [.pointer (some ⟨bl, 0, none⟩), .int .i64 sz, .int .i64 mo, .slice po no co, .bool s.ended, .int .i64 0, .int .i64 s.kind, .int .i64 (s.left : Int), .bool s.last, li, di, .int .i64 (s.aB : Int), .int .i64 (s.cE : Int)], LW bl B x.2 [] 0]) [MX b bl sz mo]) := by
 refine ax [(0, _), (1, _)] Tryz.func202 rfl Tryz.ntmps202 rfl rfl ?_
 intro w0 F
 refine rT cY 5 rfl ?_
 rcases (Classical.em (sy < 29)) with hq | hq
 ·refine rC cY 3 rfl ?_
  refine oV (aU (bD rfl rfl) hq) ?_
  refine ai (kS 4) V.iO  rfl .nil rfl ?_
  rintro _ _ ⟨rfl, rfl⟩
  refine rO cY 11 rfl ?_
  refine aP rfl (fun h9 => ?_) (fun h9 => ?_)
  ·refine fQ cY 10 rfl (by omega) ?_
   exact kN (x := (3 + sy, a)) (ad.yp h0.1 (by omega) ha) (aC rfl) ⟨rfl, rfl⟩ (sub (bp .nil) au)
  ·refine rC cY 7 rfl ?_
   refine aP rfl (fun h14 => ?_) (fun h14 => ?_)
   ·refine rC cY 8 rfl ?_
    exact kN (x := (258, a)) (ad.yD (by omega) ha) (aC rfl) ⟨rfl, rfl⟩ (sub (bp .nil) au)
   ·refine rC cY 6 rfl ?_
    refine oV (fZ rfl rfl (by omega) (jO (by omega) (by omega) (by omega))) ?_
    refine cV cY 4 rfl (by omega) ?_
    rcases (Nat.lt_or_ge (8 * B.length) (a + (ad.gQ sy))) with hx | hx
    ·refine rC cY 1 rfl ?_
     obtain ⟨hk1, hk2, hk3⟩ := ad.vG (s := sy) (by omega) (by omega)
     have hsh := ad.mf (x := 4 + sy % 4) (n := ad.gQ sy) (by omega) (by omega) (by omega) rfl
     have hnb := ak.cJ B a (ad.gQ sy)
     have hnc := ak.qV (show ad.gQ sy ≤ 24 by omega)
     rw [hk1]
     refine wN [pz 0 [] [1], pz 1 [0] [], pz 3 [1] [], pz 0 [] [5], pz 15 [2, 3] [], pz 31 [4] [], pz 0 [] [0], pz 64 [6] [], pz 192 [7] [], pz 448 [8] [], pz 0 [] [5], pz 1984 [9, 10] [], pz 4095 [5, 11] [], pz 8191 [12] []] [⟨fun y => ao b 223 [.pointer (some ⟨bl, 0, none⟩), .int .i64 sz, .int .i64 mo, .slice po no co, .bool s.ended, .int .i64 0, .int .i64 s.kind, .int .i64 (s.left : Int), .bool s.last, li, di, .int .i64 (s.aB : Int), .int .i64 (s.cE : Int)], none, none, [9, 11]⟩, ⟨fun y => LW bl B a [] 0, none, none, [11]⟩] F V.mixed ?_
     refine nM ?_
     refine nV (fun y hA L => ig rfl rfl (by omega) (jP (by omega))) ?_
     refine nV (fun y hA L => dz rfl rfl wI) ?_
     refine nM ?_
     refine nV (fun y hA L => fW (r := (4 + sy % 4) * 2 ^ ad.gQ sy) rfl rfl (by omega) hsh.1) ?_
     refine nV (fun y hA L => dz rfl rfl wI) ?_
     refine nM ?_
     refine nN ?_
     refine nG V.eK ?_
     refine nR (fun y FF hA => af V.dT rfl an rfl) ?_
     refine nM ?_
     refine bO (undef) _ _ (fun y => rfl) rfl (fun y => rfl) (fun y FF hA => ga (gy bl B a [] 0 (ad.gQ sy) hl hB (by omega) (by omega) (by omega)) V.fi rfl (.cons aE .nil) (by rintro _ _ ⟨rfl, rfl⟩; exact lz (ad.uY (by omega) (by omega) hx) PE.end_ (bd (.cons aE .nil) (by exact wS (M := FF) (F := F)) (fun w0 h hh => cX hh)))) ?_
     refine bO (.bool true) _ _ (fun y => rfl) rfl (fun y => rfl) (fun y FF hA => (dO.fact (hA 11 (by decide)) (q := fun _ => False) rfl).elim) ?_
     refine bO (.bool true) _ _ (fun y => rfl) rfl (fun y => rfl) (fun y FF hA => (dO.fact (hA 11 (by decide)) (q := fun _ => False) rfl).elim) ?_
     refine aX ?_
     intro y hA
     exact (dO.fact (hA 11 (by exact Nat.le_of_ble_eq_true rfl)) (q := fun _ => False) rfl).elim
    ·refine rC cY 1 rfl ?_
     obtain ⟨hk1, hk2, hk3⟩ := ad.vG (s := sy) (by omega) (by omega)
     have hsh := ad.mf (x := 4 + sy % 4) (n := ad.gQ sy) (by omega) (by omega) (by omega) rfl
     have hnb := ak.cJ B a (ad.gQ sy)
     have hnc := ak.qV (show ad.gQ sy ≤ 24 by omega)
     rw [hk1]
     refine wN [pz 0 [] [1], pz 1 [0] [], pz 3 [1] [], pz 0 [] [5], pz 15 [2, 3] [], pz 31 [4] [], pz 0 [] [0], pz 64 [6] [], pz 192 [7] [], pz 448 [8] [], pz 0 [] [5], pz 1984 [9, 10] [], pz 4095 [5, 11] [], pz 8191 [12] []] [⟨fun y => ao b 223 [.pointer (some ⟨bl, 0, none⟩), .int .i64 sz, .int .i64 mo, .slice po no co, .bool s.ended, .int .i64 0, .int .i64 s.kind, .int .i64 (s.left : Int), .bool s.last, li, di, .int .i64 (s.aB : Int), .int .i64 (s.cE : Int)], none, none, [9]⟩, ⟨fun y => LW bl B a [] 0, none, some 11, []⟩, ⟨fun y => LW bl B (a + (ad.gQ sy)) [] 0, some 11, none, []⟩] F V.mixed ?_
     refine nM ?_
     refine nV (fun y hA L => ig rfl rfl (by omega) (jP (by omega))) ?_
     refine nV (fun y hA L => dz rfl rfl wI) ?_
     refine nM ?_
     refine nV (fun y hA L => fW (r := (4 + sy % 4) * 2 ^ ad.gQ sy) rfl rfl (by omega) hsh.1) ?_
     refine nV (fun y hA L => dz rfl rfl wI) ?_
     refine nM ?_
     refine nN ?_
     refine nG V.eK ?_
     refine nR (fun y FF hA => af V.dT rfl an rfl) ?_
     refine nM ?_
     refine nE (fun y FF hA => bM (Post := [LW bl B (a + (ad.gQ sy)) [] 0]) (fO bl B a [] 0 (ad.gQ sy) hl hB (by omega) (by omega)) V.fi rfl (aw .nil) (fun v G h => by rcases h with ⟨rfl, rfl⟩; exact ⟨rfl, .refl _⟩)) ?_
     refine nV (fun y hA L => dz rfl rfl wI) ?_
     refine nA ?_
     refine aX ?_
     intro y hA
     clear hA
     refine bu ?_
     refine cy _ (.cons (d := 4) rfl (.nil _)) ?_
     refine bR (M := ao b 223 [.pointer (some ⟨bl, 0, none⟩), .int .i64 sz, .int .i64 mo, .slice po no co, .bool s.ended, .int .i64 0, .int .i64 s.kind, .int .i64 (s.left : Int), .bool s.last, li, di, .int .i64 (s.aB : Int), .int .i64 (s.cE : Int)] :: LW bl B (a + (ad.gQ sy)) [] 0 :: F) (fun _ _ h => h) ?_
     refine rC cY 1 rfl ?_
     exact kN (x := (3 + (4 + sy % 4) * 2 ^ ad.gQ sy + ak.aV B a (ad.gQ sy), a + ad.gQ sy)) (ad.AN (by omega) (by omega) hx) (aC rfl) ⟨rfl, rfl⟩ (sub (bp .nil) au)
 ·refine rC cY 3 rfl ?_
  refine oV (aA (bD rfl rfl) hq) ?_
  refine dJ (iR 4) V.iO rfl .nil ?_
  rintro _ _ ⟨rfl, rfl⟩
  refine (dZ ?_)
  exact ez (ad.BC (by omega)) (PE.no (by decide)) (bd (aw .nil) cG (fun w0 h hh => cX hh))
set_option maxHeartbeats 2000000 in
theorem Cp (b bl : Nat) (sz mo : Int) (po : Option Addr) (no co : Nat) (li : Value) (dd : Nat) (s : ad.St) (B ds : List Int) (a : Nat) (hE : ag.cu ds = 0) (hd : 0 < ds.length) (hl : B.length < 500000000) (hB : ak.az B) (ha : a ≤ 8 * B.length) : aK Tryz.prog 203 [.pointer (some ⟨b, 0, none⟩)] [ao b 223 [.pointer (some ⟨bl, 0, none⟩), .int .i64 sz, .int .i64 mo, .slice po no co, .bool s.ended, .int .i64 0, .int .i64 s.kind, .int .i64 (s.left : Int), .bool s.last, li, (.pointer (some ⟨dd, 0, none⟩)), .int .i64 (s.aB : Int), .int .i64 (s.cE : Int)], HC dd ds, LW bl B a [] 0] (iJ (ad.eJ B ds a) (fun x v G => v = .int .i64 x.1 ∧ G = [ao b 223 [.pointer (some ⟨bl, 0, none⟩), .int .i64 sz, .int .i64 mo, .slice po no co, .bool s.ended, .int .i64 0, .int .i64 s.kind, .int .i64 (s.left : Int), .bool s.last, li, (.pointer (some ⟨dd, 0, none⟩)), .int .i64 (s.aB : Int), .int .i64 (s.cE : Int)], HC dd ds, LW bl B x.2 [] 0]) [MX b bl sz mo]) := by
 refine ax [(0, _)] Tryz.func203 rfl Tryz.ntmps203 rfl rfl ?_
 intro w0 F
 have hdl := ad.xU hE
 refine rT cY 5 rfl ?_
 rcases (ad.w5 (B := B) (ls := ds) (a := a) hE hd) with ⟨e, hs⟩ | ⟨sy, a3, hs, h0, h1, h2, h3⟩
 ·refine rC cY 1 rfl ?_
  refine wN [pz 0 [] [0], pz 1 [0] [], pz 3 [1] [], pz 7 [2] [], pz 0 [] [0], pz 16 [4] [], pz 48 [5] [], pz 112 [6] [], pz 255 [3, 7] [], pz 511 [8] []] [⟨fun y => ao b 223 [.pointer (some ⟨bl, 0, none⟩), .int .i64 sz, .int .i64 mo, .slice po no co, .bool s.ended, .int .i64 0, .int .i64 s.kind, .int .i64 (s.left : Int), .bool s.last, li, (.pointer (some ⟨dd, 0, none⟩)), .int .i64 (s.aB : Int), .int .i64 (s.cE : Int)], none, none, [3, 7, 8]⟩, ⟨fun y => HC dd ds, none, none, [8]⟩, ⟨fun y => LW bl B a [] 0, none, none, [8]⟩] F V.mixed ?_
  refine nM ?_
  refine nN ?_
  refine nG V.uK ?_
  refine nR (fun y FF hA => af V.pU rfl an rfl) ?_
  refine nM ?_
  refine nN ?_
  refine nG V.eK ?_
  refine nR (fun y FF hA => af V.dT rfl an rfl) ?_
  refine bO (undef) _ _ (fun y => rfl) rfl (fun y => rfl) (fun y FF hA => ga ((o4 dd ds bl B a [] 0 hE hl hB ha).err hs) V.sf rfl (.cons aE (.cons aE .nil)) (by rintro _ _ ⟨hp, rfl⟩; exact lz (ad.CJ hs) hp (bd (aw .nil) (by exact ve (M := FF) (F := F)) (fun w0 h hh => cX hh)))) ?_
  refine bO (.bool true) _ _ (fun y => rfl) rfl (fun y => rfl) (fun y FF hA => (dO.fact (hA 8 (by decide)) (q := fun _ => False) rfl).elim) ?_
  refine aX ?_
  intro y hA
  exact (dO.fact (hA 8 (by exact Nat.le_of_ble_eq_true rfl)) (q := fun _ => False) rfl).elim
 ·refine rC cY 1 rfl ?_
  refine wN [pz 0 [] [0], pz 1 [0] [], pz 3 [1] [], pz 7 [2] [], pz 0 [] [0], pz 16 [4] [], pz 48 [5] [], pz 112 [6] [], pz 255 [3, 7] [], pz 511 [8] []] [⟨fun y => ao b 223 [.pointer (some ⟨bl, 0, none⟩), .int .i64 sz, .int .i64 mo, .slice po no co, .bool s.ended, .int .i64 0, .int .i64 s.kind, .int .i64 (s.left : Int), .bool s.last, li, (.pointer (some ⟨dd, 0, none⟩)), .int .i64 (s.aB : Int), .int .i64 (s.cE : Int)], none, none, [3, 7]⟩, ⟨fun y => HC dd ds, none, some 8, []⟩, ⟨fun y => LW bl B a [] 0, none, some 8, []⟩, ⟨fun y => HC dd ds, some 8, none, []⟩, ⟨fun y => LW bl B a3 [] 0, some 8, none, []⟩] F V.mixed ?_
  refine nM ?_
  refine nN ?_
  refine nG V.uK ?_
  refine nR (fun y FF hA => af V.pU rfl an rfl) ?_
  refine nM ?_
  refine nN ?_
  refine nG V.eK ?_
  refine nR (fun y FF hA => af V.dT rfl an rfl) ?_
  refine nE (fun y FF hA => bM (Post := [HC dd ds, LW bl B a3 [] 0]) ((o4 dd ds bl B a [] 0 hE hl hB ha).ok hs) V.sf rfl (bp .nil) (fun v G h => by rcases h with ⟨rfl, rfl⟩; exact ⟨rfl, .refl _⟩)) ?_
  refine nA ?_
  refine aX ?_
  intro y hA
  clear hA
  refine bu ?_
  refine cy _ (.cons (d := 0) rfl (.cons (d := 3) rfl (.nil _))) ?_
  refine bR (M := ao b 223 [.pointer (some ⟨bl, 0, none⟩), .int .i64 sz, .int .i64 mo, .slice po no co, .bool s.ended, .int .i64 0, .int .i64 s.kind, .int .i64 (s.left : Int), .bool s.last, li, (.pointer (some ⟨dd, 0, none⟩)), .int .i64 (s.aB : Int), .int .i64 (s.cE : Int)] :: HC dd ds :: LW bl B a3 [] 0 :: F) (fun _ _ h => h) ?_
  rcases (Classical.em (sy < 30)) with hq | hq
  ·refine rC cY 3 rfl ?_
   refine oV (aU (bD rfl rfl) hq) ?_
   refine ai (kS 4) V.iO  rfl .nil rfl ?_
   rintro _ _ ⟨rfl, rfl⟩
   refine rO cY 9 rfl ?_
   refine aP rfl (fun h18 => ?_) (fun h18 => ?_)
   ·refine fQ cY 9 rfl (by omega) ?_
    exact kN (x := (1 + sy, a3)) (ad.xc hs h0 (by omega) h3) (aC rfl) ⟨rfl, rfl⟩ (sub (im .nil) au)
   ·refine rC cY 5 rfl ?_
    refine oV (fZ rfl rfl (by omega) (jO (by omega) (by omega) (by omega))) ?_
    refine cV cY 4 rfl (by omega) ?_
    rcases (Nat.lt_or_ge (8 * B.length) (a3 + (ad.gV sy))) with hx | hx
    ·refine rC cY 1 rfl ?_
     obtain ⟨hk1, hk2, hk3⟩ := ad.xP (s := sy) (by omega) (by omega)
     have hsh := ad.mf (x := 2 + sy % 2) (n := ad.gV sy) (by omega) (by omega) (by omega) rfl
     have hnb := ak.cJ B a3 (ad.gV sy)
     have hnc := ak.qV (show ad.gV sy ≤ 24 by omega)
     rw [hk1]
     refine wN [pz 0 [] [3], pz 1 [0] [], pz 3 [1] [], pz 0 [] [4], pz 15 [2, 3] [], pz 31 [4] [], pz 0 [] [0], pz 64 [6] [], pz 192 [7] [], pz 448 [8] [], pz 0 [] [4], pz 1984 [9, 10] [], pz 4095 [5, 11] [], pz 8191 [12] []] [⟨fun y => ao b 223 [.pointer (some ⟨bl, 0, none⟩), .int .i64 sz, .int .i64 mo, .slice po no co, .bool s.ended, .int .i64 0, .int .i64 s.kind, .int .i64 (s.left : Int), .bool s.last, li, (.pointer (some ⟨dd, 0, none⟩)), .int .i64 (s.aB : Int), .int .i64 (s.cE : Int)], none, none, [9, 11]⟩, ⟨fun y => HC dd ds, none, none, []⟩, ⟨fun y => LW bl B a3 [] 0, none, none, [11]⟩] F V.mixed ?_
     refine nM ?_
     refine nV (fun y hA L => ig rfl rfl (by omega) (jP (by omega))) ?_
     refine nV (fun y hA L => dz rfl rfl wI) ?_
     refine nM ?_
     refine nV (fun y hA L => fW (r := (2 + sy % 2) * 2 ^ ad.gV sy) rfl rfl (by omega) hsh.1) ?_
     refine nV (fun y hA L => dz rfl rfl wI) ?_
     refine nM ?_
     refine nN ?_
     refine nG V.eK ?_
     refine nR (fun y FF hA => af V.dT rfl an rfl) ?_
     refine nM ?_
     refine bO (undef) _ _ (fun y => rfl) rfl (fun y => rfl) (fun y FF hA => ga (gy bl B a3 [] 0 (ad.gV sy) hl hB (by omega) (by omega) (by omega)) V.fi rfl (.cons aE .nil) (by rintro _ _ ⟨rfl, rfl⟩; exact lz (ad.tg hs (by omega) (by omega) hx) PE.end_ (bd (.cons aE .nil) (by exact wS (M := FF) (F := F)) (fun w0 h hh => cX hh)))) ?_
     refine bO (.bool true) _ _ (fun y => rfl) rfl (fun y => rfl) (fun y FF hA => (dO.fact (hA 11 (by decide)) (q := fun _ => False) rfl).elim) ?_
     refine bO (.bool true) _ _ (fun y => rfl) rfl (fun y => rfl) (fun y FF hA => (dO.fact (hA 11 (by decide)) (q := fun _ => False) rfl).elim) ?_
     refine aX ?_
     intro y hA
     exact (dO.fact (hA 11 (by exact Nat.le_of_ble_eq_true rfl)) (q := fun _ => False) rfl).elim
    ·refine rC cY 1 rfl ?_
     obtain ⟨hk1, hk2, hk3⟩ := ad.xP (s := sy) (by omega) (by omega)
     have hsh := ad.mf (x := 2 + sy % 2) (n := ad.gV sy) (by omega) (by omega) (by omega) rfl
     have hnb := ak.cJ B a3 (ad.gV sy)
     have hnc := ak.qV (show ad.gV sy ≤ 24 by omega)
     rw [hk1]
     refine wN [pz 0 [] [3], pz 1 [0] [], pz 3 [1] [], pz 0 [] [4], pz 15 [2, 3] [], pz 31 [4] [], pz 0 [] [0], pz 64 [6] [], pz 192 [7] [], pz 448 [8] [], pz 0 [] [4], pz 1984 [9, 10] [], pz 4095 [5, 11] [], pz 8191 [12] []] [⟨fun y => ao b 223 [.pointer (some ⟨bl, 0, none⟩), .int .i64 sz, .int .i64 mo, .slice po no co, .bool s.ended, .int .i64 0, .int .i64 s.kind, .int .i64 (s.left : Int), .bool s.last, li, (.pointer (some ⟨dd, 0, none⟩)), .int .i64 (s.aB : Int), .int .i64 (s.cE : Int)], none, none, [9]⟩, ⟨fun y => HC dd ds, none, none, []⟩, ⟨fun y => LW bl B a3 [] 0, none, some 11, []⟩, ⟨fun y => LW bl B (a3 + (ad.gV sy)) [] 0, some 11, none, []⟩] F V.mixed ?_
     refine nM ?_
     refine nV (fun y hA L => ig rfl rfl (by omega) (jP (by omega))) ?_
     refine nV (fun y hA L => dz rfl rfl wI) ?_
     refine nM ?_
     refine nV (fun y hA L => fW (r := (2 + sy % 2) * 2 ^ ad.gV sy) rfl rfl (by omega) hsh.1) ?_
     refine nV (fun y hA L => dz rfl rfl wI) ?_
     refine nM ?_
     refine nN ?_
     refine nG V.eK ?_
     refine nR (fun y FF hA => af V.dT rfl an rfl) ?_
     refine nM ?_
     refine nE (fun y FF hA => bM (Post := [LW bl B (a3 + (ad.gV sy)) [] 0]) (fO bl B a3 [] 0 (ad.gV sy) hl hB (by omega) (by omega)) V.fi rfl (aw .nil) (fun v G h => by rcases h with ⟨rfl, rfl⟩; exact ⟨rfl, .refl _⟩)) ?_
     refine nV (fun y hA L => dz rfl rfl wI) ?_
     refine nA ?_
     refine aX ?_
     intro y hA
     clear hA
     refine bu ?_
     refine cy _ (.cons (d := 2) rfl (.nil _)) ?_
     refine bR (M := ao b 223 [.pointer (some ⟨bl, 0, none⟩), .int .i64 sz, .int .i64 mo, .slice po no co, .bool s.ended, .int .i64 0, .int .i64 s.kind, .int .i64 (s.left : Int), .bool s.last, li, (.pointer (some ⟨dd, 0, none⟩)), .int .i64 (s.aB : Int), .int .i64 (s.cE : Int)] :: HC dd ds :: LW bl B (a3 + (ad.gV sy)) [] 0 :: F) (fun _ _ h => h) ?_
     refine rC cY 1 rfl ?_
     exact kN (x := (1 + (2 + sy % 2) * 2 ^ ad.gV sy + ak.aV B a3 (ad.gV sy), a3 + ad.gV sy)) (ad.zj hs (by omega) (by omega) hx) (aC rfl) ⟨rfl, rfl⟩ (sub (im .nil) au)
  ·refine rC cY 3 rfl ?_
   refine oV (aA (bD rfl rfl) hq) ?_
   refine dJ (iR 4) V.iO rfl .nil ?_
   rintro _ _ ⟨rfl, rfl⟩
   refine (dZ ?_)
   exact ez (ad.zl hs (by omega)) (PE.no (by decide)) (bd (aw .nil) fS (fun w0 h hh => cX hh))
set_option maxHeartbeats 4000000 in
theorem yJ (b bl : Nat) (sz mo : Int) (li di : Value) (s : ad.St) (B : List Int) (hl : B.length < 500000000) (hB : ak.az B) (ha : s.at_ ≤ 8 * B.length) : aK Tryz.prog 180 [.pointer (some ⟨b, 0, none⟩)] [MS b bl sz mo li di s, LW bl B s.at_ [] 0] (iJ (ad.dR B s) (fun s2 v G => v = .tuple #[] ∧ G = [MM b bl sz mo B s2]) [MX b bl sz mo]) := by
 refine ax [(0, _)] Tryz.func180 rfl Tryz.ntmps180 rfl rfl ?_
 intro w0 F
 refine gJ (fun h hh => hh) ?_
 rintro ⟨po, co⟩ _
 dsimp only
 have hn1 := ak.cJ B (ad.dL (s.at_ + 3)) 16
 have hn2 := ak.cJ B ((ad.dL (s.at_ + 3)) + 16) 16
 have hal : ad.dL (s.at_ + 3) = (s.at_ + 3 + 7) / 8 * 8 := ad.wY _
 rcases (Nat.lt_or_ge (8 * B.length) (s.at_ + 1)) with hx0 | hx0
 ·refine rT cY 6 rfl ?_
  refine oV (af V.dT rfl an rfl) ?_
  refine dJ (gy bl B s.at_ [] 0 1 hl hB (by omega) (by omega) (by omega)) V.fi rfl (.cons bK .nil) ?_
  rintro _ _ ⟨rfl, rfl⟩
  refine (dZ ?_)
  exact ez (ad.zD (by omega)) PE.end_ (bd (.cons aE .nil) fS (fun w0 h hh => cX hh))
 ·refine rT cY 6 rfl ?_
  refine oV (af V.dT rfl an rfl) ?_
  refine ai (fO bl B s.at_ [] 0 1 hl hB (by omega) (by omega)) V.fi  rfl (.cons bK .nil) rfl ?_
  rintro _ _ ⟨rfl, rfl⟩
  refine rO cY 3 rfl ?_
  refine aQ (cn V.s4 rfl rfl rfl (by exact jG) (by exact Nat.le_of_ble_eq_true rfl) rfl) ?_
  refine rO cY 2 rfl ?_
  rcases (Nat.lt_or_ge (8 * B.length) (s.at_ + 3)) with hx1 | hx1
  ·refine rC cY 6 rfl ?_
   refine oV (af V.dT rfl bY rfl) ?_
   refine dJ (gy bl B (s.at_ + 1) [] 0 2 hl hB (by omega) (by omega) (by omega)) V.fi rfl (aw .nil) ?_
   rintro _ _ ⟨rfl, rfl⟩
   refine (dZ ?_)
   exact ez (ad.zD (by omega)) PE.end_ (bd (.cons aE .nil) fS (fun w0 h hh => cX hh))
  ·refine rC cY 6 rfl ?_
   refine oV (af V.dT rfl bY rfl) ?_
   refine ai (fO bl B (s.at_ + 1) [] 0 2 hl hB (by omega) (by omega)) V.fi  rfl (aw .nil) rfl ?_
   rintro _ _ ⟨rfl, rfl⟩
   refine rO cY 2 rfl ?_
   refine aQ (cn V.s3 rfl rfl rfl (by exact jG) (by exact Nat.le_of_ble_eq_true rfl) rfl) ?_
   refine rO cY 7 rfl ?_
   refine oV (af V.s3 rfl bY rfl) ?_
   refine rO cY 9 rfl ?_
   refine aP rfl (fun h26 => ?_) (fun h26 => ?_)
   ·refine rC cY 5 rfl ?_
    refine oV (af V.dT rfl bY rfl) ?_
    refine ai (HN bl B (s.at_ + 3) [] 0 hl (by omega)) V.Qf  rfl (aw .nil) rfl ?_
    rintro _ _ ⟨rfl, rfl⟩
    refine rO cY 2 rfl ?_
    rcases (ad.MY B.length (ad.dL (s.at_ + 3))) with hx | ⟨hx2, hx⟩ | hx
    ·refine rC cY 1 rfl ?_
     have hk0 : (ak.aV B (s.at_ + 1) 2) = 0 := by omega
     refine wN [pz 0 [] [0], pz 1 [0] [], pz 3 [1] [], pz 7 [2] [], pz 15 [3] [], pz 0 [] [0], pz 32 [5] [], pz 96 [6] [], pz 224 [7] [], pz 511 [8] [], pz 1023 [4] [], pz 2047 [9] []] [⟨fun y => LW bl B (ad.dL (s.at_ + 3)) [] 0, none, none, [4]⟩, ⟨fun y => ao b 223 [.pointer (some ⟨bl, 0, none⟩), .int .i64 sz, .int .i64 mo, .slice po s.out.length co, .bool s.ended, .int .i64 0, .int .i64 (ak.aV B (s.at_ + 1) 2), .int .i64 (s.left : Int), .bool (decide (ak.aV B s.at_ 1 = 1)), li, di, .int .i64 (s.aB : Int), .int .i64 (s.cE : Int)], none, none, [3, 4, 8]⟩, ⟨fun y => Row U5 po s.out.length co s.out, none, none, []⟩] F V.mixed ?_
     refine nM ?_
     refine nN ?_
     refine nG V.eK ?_
     refine nR (fun y FF hA => af V.dT rfl an rfl) ?_
     refine bO (undef) _ _ (fun y => rfl) rfl (fun y => rfl) (fun y FF hA => ga (gy bl B (ad.dL (s.at_ + 3)) [] 0 16 hl hB (by omega) (by omega) (by omega)) V.fi rfl (aw .nil) (by rintro _ _ ⟨rfl, rfl⟩; exact lz (ad.vF hx1 hk0 (by omega)) PE.end_ (bd (.cons aE .nil) (by exact wS (M := FF) (F := F)) (fun w0 h hh => cX hh)))) ?_
     refine nM ?_
     refine nN ?_
     refine nG V.eK ?_
     refine nR (fun y FF hA => af V.dT rfl an rfl) ?_
     refine bO (.bool true) _ _ (fun y => rfl) rfl (fun y => rfl) (fun y FF hA => (dO.fact (hA 4 (by decide)) (q := fun _ => False) rfl).elim) ?_
     refine bO (.bool true) _ _ (fun y => rfl) rfl (fun y => rfl) (fun y FF hA => (dO.fact (hA 4 (by decide)) (q := fun _ => False) rfl).elim) ?_
     refine bO (.bool true) _ _ (fun y => rfl) rfl (fun y => rfl) (fun y FF hA => (dO.fact (hA 4 (by decide)) (q := fun _ => False) rfl).elim) ?_
     refine aX ?_
     intro y hA
     exact (dO.fact (hA 4 (by exact Nat.le_of_ble_eq_true rfl)) (q := fun _ => False) rfl).elim
    ·refine rC cY 1 rfl ?_
     have hk0 : (ak.aV B (s.at_ + 1) 2) = 0 := by omega
     refine wN [pz 0 [] [0], pz 1 [0] [], pz 3 [1] [], pz 7 [2] [], pz 15 [3] [], pz 0 [] [0], pz 32 [5] [], pz 96 [6] [], pz 224 [7] [], pz 511 [8] [], pz 1023 [4] [], pz 2047 [9] []] [⟨fun y => LW bl B (ad.dL (s.at_ + 3)) [] 0, none, some 4, []⟩, ⟨fun y => ao b 223 [.pointer (some ⟨bl, 0, none⟩), .int .i64 sz, .int .i64 mo, .slice po s.out.length co, .bool s.ended, .int .i64 0, .int .i64 (ak.aV B (s.at_ + 1) 2), .int .i64 (s.left : Int), .bool (decide (ak.aV B s.at_ 1 = 1)), li, di, .int .i64 (s.aB : Int), .int .i64 (s.cE : Int)], none, none, [3, 8, 9]⟩, ⟨fun y => Row U5 po s.out.length co s.out, none, none, []⟩, ⟨fun y => LW bl B ((ad.dL (s.at_ + 3)) + 16) [] 0, some 4, none, [9]⟩] F V.mixed ?_
     refine nM ?_
     refine nN ?_
     refine nG V.eK ?_
     refine nR (fun y FF hA => af V.dT rfl an rfl) ?_
     refine nE (fun y FF hA => bM (Post := [LW bl B ((ad.dL (s.at_ + 3)) + 16) [] 0]) (fO bl B (ad.dL (s.at_ + 3)) [] 0 16 hl hB (by omega) (by omega)) V.fi rfl (aw .nil) (fun v G h => by rcases h with ⟨rfl, rfl⟩; exact ⟨rfl, .refl _⟩)) ?_
     refine nM ?_
     refine nN ?_
     refine nG V.eK ?_
     refine nR (fun y FF hA => af V.dT rfl an rfl) ?_
     refine bO (undef) _ _ (fun y => rfl) rfl (fun y => rfl) (fun y FF hA => ga (gy bl B ((ad.dL (s.at_ + 3)) + 16) [] 0 16 hl hB (by omega) (by omega) (by omega)) V.fi rfl (.cons aE .nil) (by rintro _ _ ⟨rfl, rfl⟩; exact lz (ad.vF hx1 hk0 (by omega)) PE.end_ (bd (.cons aE .nil) (by exact wS (M := FF) (F := F)) (fun w0 h hh => cX hh)))) ?_
     refine bO (.bool true) _ _ (fun y => rfl) rfl (fun y => rfl) (fun y FF hA => (dO.fact (hA 9 (by decide)) (q := fun _ => False) rfl).elim) ?_
     refine bO (.bool true) _ _ (fun y => rfl) rfl (fun y => rfl) (fun y FF hA => (dO.fact (hA 9 (by decide)) (q := fun _ => False) rfl).elim) ?_
     refine aX ?_
     intro y hA
     exact (dO.fact (hA 9 (by exact Nat.le_of_ble_eq_true rfl)) (q := fun _ => False) rfl).elim
    ·refine rC cY 1 rfl ?_
     have hk0 : (ak.aV B (s.at_ + 1) 2) = 0 := by omega
     refine wN [pz 0 [] [0], pz 1 [0] [], pz 3 [1] [], pz 7 [2] [], pz 15 [3] [], pz 0 [] [0], pz 32 [5] [], pz 96 [6] [], pz 224 [7] [], pz 511 [8] [], pz 1023 [4] [], pz 2047 [9] []] [⟨fun y => LW bl B (ad.dL (s.at_ + 3)) [] 0, none, some 4, []⟩, ⟨fun y => ao b 223 [.pointer (some ⟨bl, 0, none⟩), .int .i64 sz, .int .i64 mo, .slice po s.out.length co, .bool s.ended, .int .i64 0, .int .i64 (ak.aV B (s.at_ + 1) 2), .int .i64 (s.left : Int), .bool (decide (ak.aV B s.at_ 1 = 1)), li, di, .int .i64 (s.aB : Int), .int .i64 (s.cE : Int)], none, none, [3, 8]⟩, ⟨fun y => Row U5 po s.out.length co s.out, none, none, []⟩, ⟨fun y => LW bl B ((ad.dL (s.at_ + 3)) + 16) [] 0, some 4, some 9, []⟩, ⟨fun y => LW bl B ((ad.dL (s.at_ + 3)) + 32) [] 0, some 9, none, []⟩] F V.mixed ?_
     refine nM ?_
     refine nN ?_
     refine nG V.eK ?_
     refine nR (fun y FF hA => af V.dT rfl an rfl) ?_
     refine nE (fun y FF hA => bM (Post := [LW bl B ((ad.dL (s.at_ + 3)) + 16) [] 0]) (fO bl B (ad.dL (s.at_ + 3)) [] 0 16 hl hB (by omega) (by omega)) V.fi rfl (aw .nil) (fun v G h => by rcases h with ⟨rfl, rfl⟩; exact ⟨rfl, .refl _⟩)) ?_
     refine nM ?_
     refine nN ?_
     refine nG V.eK ?_
     refine nR (fun y FF hA => af V.dT rfl an rfl) ?_
     refine nE (fun y FF hA => bM (Post := [LW bl B ((ad.dL (s.at_ + 3)) + 32) [] 0]) (fO bl B ((ad.dL (s.at_ + 3)) + 16) [] 0 16 hl hB (by omega) (by omega)) V.fi rfl (aw .nil) (fun v G h => by rcases h with ⟨rfl, rfl⟩; exact ⟨rfl, .refl _⟩)) ?_
     iterate 2 refine nA ?_
     refine aX ?_
     intro y hA
     clear hA
     refine bu ?_
     refine cy _ (.cons (d := 0) rfl (.cons (d := 2) rfl (.cons (d := 3) rfl (.nil _)))) ?_
     refine bR (M := ao b 223 [.pointer (some ⟨bl, 0, none⟩), .int .i64 sz, .int .i64 mo, .slice po s.out.length co, .bool s.ended, .int .i64 0, .int .i64 (ak.aV B (s.at_ + 1) 2), .int .i64 (s.left : Int), .bool (decide (ak.aV B s.at_ 1 = 1)), li, di, .int .i64 (s.aB : Int), .int .i64 (s.cE : Int)] :: Row U5 po s.out.length co s.out :: LW bl B ((ad.dL (s.at_ + 3)) + 32) [] 0 :: F) (fun _ _ h => h) ?_
     rcases (Classical.em ((ak.aV B (ad.dL (s.at_ + 3)) 16) = 65535 - (ak.aV B ((ad.dL (s.at_ + 3)) + 16) 16))) with hm | hm
     ·refine rC cY 4 rfl ?_
      refine oV (oT (r := (IntKind.i64.wrap ((BitVec.ofInt IntKind.i64.bits (ak.aV B (ad.dL (s.at_ + 3)) 16) ^^^ BitVec.ofInt IntKind.i64.bits (ak.aV B ((ad.dL (s.at_ + 3)) + 16) 16)).toNat : Int))) rfl rfl rfl) ?_
      refine oV (aU (av rfl rfl) ((ad.FB hn1 hn2).2 hm)) ?_
      refine ai (kS 4) V.iO  rfl .nil rfl ?_
      rintro _ _ ⟨rfl, rfl⟩
      refine rO cY 7 rfl ?_
      refine aQ (cn V.s3 rfl rfl rfl (by exact cZ) (by exact Nat.le_of_ble_eq_true rfl) rfl) ?_
      refine rO cY 2 rfl ?_
      rw [hk0, show (ak.aV B (ad.dL (s.at_ + 3)) 16) = ((((ak.aV B (ad.dL (s.at_ + 3)) 16)).toNat : Nat) : Int) from (Int.toNat_of_nonneg hn1.1).symm]
      exact iE (x := { s with at_ := ad.dL (s.at_ + 3) + 32, kind := 0, left := (ak.aV B (ad.dL (s.at_ + 3)) 16).toNat, last := (decide (ak.aV B s.at_ 1 = 1)) }) (ad.xJ hx1 hk0 (by omega) hm) fK ⟨rfl, rfl⟩ ((bd (bp .nil) .refl (fun w0 h hh => dE (s := { s with at_ := ad.dL (s.at_ + 3) + 32, kind := 0, left := (ak.aV B (ad.dL (s.at_ + 3)) 16).toNat, last := (decide (ak.aV B s.at_ 1 = 1)) }) rfl hh)).trans (bd (bp .nil) au (fun w0 h hh => nw (s := { s with at_ := ad.dL (s.at_ + 3) + 32, kind := 0, left := (ak.aV B (ad.dL (s.at_ + 3)) 16).toNat, last := (decide (ak.aV B s.at_ 1 = 1)) }) (Int.le_refl _) hh)))
     ·refine rC cY 4 rfl ?_
      refine oV (oT (r := (IntKind.i64.wrap ((BitVec.ofInt IntKind.i64.bits (ak.aV B (ad.dL (s.at_ + 3)) 16) ^^^ BitVec.ofInt IntKind.i64.bits (ak.aV B ((ad.dL (s.at_ + 3)) + 16) 16)).toNat : Int))) rfl rfl rfl) ?_
      refine oV (aA (av rfl rfl) (fun h => hm ((ad.FB hn1 hn2).1 h))) ?_
      refine dJ (iR 4) V.iO rfl .nil ?_
      rintro _ _ ⟨rfl, rfl⟩
      refine (dZ (fu ?_))
      exact ez (ad.Bv hx1 hk0 (by omega) hm) (PE.no (by decide)) (bd (aw .nil) fS (fun w0 h hh => cX hh))
   ·refine rC cY 6 rfl ?_
    refine aP rfl (fun h52 => ?_) (fun h52 => ?_)
    ·refine rC cY 2 rfl ?_
     refine ai (H9 b bl sz mo po s.out.length co li di { s with kind := (ak.aV B (s.at_ + 1) 2), last := (decide (ak.aV B s.at_ 1 = 1)) }) V.O7  rfl (.cons aE .nil) rfl ?_
     rintro _ _ ⟨lb, db, rfl, rfl⟩
     refine rO cY 2 rfl ?_
     have hk1 : (ak.aV B (s.at_ + 1) 2) = 1 := by omega
     rw [hk1]
     exact iE (x := { s with at_ := s.at_ + 3, kind := 1, last := (decide (ak.aV B s.at_ 1 = 1)), lits := ad.gf, eQ := ad.ly }) (ad.Fb hx1 hk1) fK ⟨rfl, rfl⟩ ((bd (aw (.cons eg .nil)) .refl (fun w0 h hh => dE (s := { s with at_ := s.at_ + 3, kind := 1, last := (decide (ak.aV B s.at_ 1 = 1)), lits := ad.gf, eQ := ad.ly }) rfl hh)).trans (bd (aw (.cons bK (.cons dX (.cons dX .nil)))) au (fun w0 h hh => mb (s := { s with at_ := s.at_ + 3, kind := 1, last := (decide (ak.aV B s.at_ 1 = 1)), lits := ad.gf, eQ := ad.ly }) hh)))
    ·refine rC cY 6 rfl ?_
     refine aP rfl (fun h56 => ?_) (fun h56 => ?_)
     ·rcases (ad.gH (ad.told B (s.at_ + 3))) with ⟨e, ht⟩ | ⟨⟨x3, ll, dl⟩, ht⟩
      ·refine rC cY 2 rfl ?_
       refine dJ ((AQ b bl sz mo po s.out.length co li di { s with kind := (ak.aV B (s.at_ + 1) 2), last := (decide (ak.aV B s.at_ 1 = 1)) } B (s.at_ + 3) hl hB (by omega)).err ht) V.LD rfl (.cons aE (aw .nil)) ?_
       rintro _ _ ⟨hp, rfl⟩
       refine (fu ?_)
       exact ez (ad.Ci hx1 (by omega) ht) hp (sub (aw .nil) cG)
      ·refine rC cY 2 rfl ?_
       refine ai ((AQ b bl sz mo po s.out.length co li di { s with kind := (ak.aV B (s.at_ + 1) 2), last := (decide (ak.aV B s.at_ 1 = 1)) } B (s.at_ + 3) hl hB (by omega)).ok ht) V.LD  rfl (.cons aE (aw .nil)) rfl ?_
       rintro _ _ ⟨lb, db, rfl, rfl⟩
       refine rO cY 2 rfl ?_
       have hk2 : (ak.aV B (s.at_ + 1) 2) = 2 := by omega
       rw [hk2]
       exact iE (x := { s with at_ := x3, kind := 2, last := (decide (ak.aV B s.at_ 1 = 1)), lits := ll, eQ := dl }) (ad.Cb hx1 hk2 ht) fK ⟨rfl, rfl⟩ ((bd (aw (.cons eg .nil)) .refl (fun w0 h hh => dE (s := { s with at_ := x3, kind := 2, last := (decide (ak.aV B s.at_ 1 = 1)), lits := ll, eQ := dl }) rfl hh)).trans (bd (nz .nil) au (fun w0 h hh => mb (s := { s with at_ := x3, kind := 2, last := (decide (ak.aV B s.at_ 1 = 1)), lits := ll, eQ := dl }) hh)))
     ·refine bo ?_
      refine dJ (iR 4) V.iO rfl .nil ?_
      rintro _ _ ⟨rfl, rfl⟩
      refine (fu ?_)
      exact ez (ad.CW hx1 (by omega) (by omega) (by omega)) (PE.no (by decide)) (bd (.cons aE .nil) fS (fun w0 h hh => cX hh))
end Go.Proofs.YtmaiakpjgomnpaaGreat
namespace Go.Proofs.YtmaiakpjgomnpaaGreat
open Go.Sl 
theorem c9 : dC Tryz.prog ⟨[], [(223, 0, 0), (223, 6, 6), (223, 7, 7), (223, 11, 11), (223, 12, 12)]⟩ = true := by kernel_rfl
attribute [local irreducible] ag.cu ag.tk ag.ord ag.cQ ag.words ag.dj ad.iM ad.dh ad.dI ad.ew ad.hL ad.hD ad.hC ad.fE ad.told ad.gf ad.js ad.rep ad.ft ad.eJ ad.sym ad.dL ak.aV ad.fb ad.dR ad.fa
theorem oh (b bl : Nat) (sz mo : Int) (po : Option Addr) (co : Nat) (li di : Value) (s : ad.St) (yb : Int) (hy : 0 ≤ yb ∧ yb < 256) (hm : mo < 1000000000) : aK Tryz.prog 179 [.pointer (some ⟨b, 0, none⟩), .int .u8 yb] [ao b 223 [.pointer (some ⟨bl, 0, none⟩), .int .i64 sz, .int .i64 mo, .slice po s.out.length co, .bool s.ended, .int .i64 0, .int .i64 s.kind, .int .i64 (s.left : Int), .bool s.last, li, di, .int .i64 (s.aB : Int), .int .i64 (s.cE : Int)], Row U5 po s.out.length co s.out] (iJ (ad.fa mo s yb) (fun s2 v G => v = .tuple #[] ∧ G = [MS b bl sz mo li di s2]) [MX b bl sz mo]) :=
 aK.fold (LC b bl sz mo li di s yb hy hm) (fun w0 h hh => dE rfl hh)
set_option maxHeartbeats 4000000 in
theorem y8 (b bl : Nat) (sz mo : Int) (l d : Nat) (s : ad.St) (B : List Int) (hl : B.length < 500000000) (hB : ak.az B) (hm : mo < 1000000000) (hok : ad.Ok B mo s) (hk : 0 < s.kind) : aK Tryz.prog 181 [.pointer (some ⟨b, 0, none⟩)] [MS b bl sz mo (.pointer (some ⟨l, 0, none⟩)) (.pointer (some ⟨d, 0, none⟩)) s, LW bl B s.at_ [] 0, HC l s.lits, HC d s.eQ] (iJ (ad.fb B mo s) (fun s2 v G => v = .tuple #[] ∧ G = [MM b bl sz mo B s2]) [MX b bl sz mo]) := by
 refine ax [(0, _)] Tryz.func181 rfl Tryz.ntmps181 rfl rfl ?_
 intro w0 F
 refine gJ (fun h hh => hh) ?_
 rintro ⟨po, co⟩ _
 dsimp only
 obtain ⟨hE1, hE2, hz1, hz2⟩ := hok.Fx hk
 have ha := hok.at_
 have hll := ad.xU hE1
 have hro := hok.room
 rcases (ad.w5 (B := B) (ls := s.lits) (a := s.at_) hE1 hz1) with ⟨e, hs⟩ | ⟨sy, a1, hs, hy0, hy1, ha0, ha1⟩
 ·refine rT c9 1 rfl ?_
  refine wN [pz 0 [] [0], pz 1 [0] [], pz 3 [1] [], pz 7 [2] [], pz 0 [] [0], pz 16 [4] [], pz 48 [5] [], pz 112 [6] [], pz 255 [3, 7] [], pz 511 [8] []] [⟨fun y => ao b 223 [.pointer (some ⟨bl, 0, none⟩), .int .i64 sz, .int .i64 mo, .slice po s.out.length co, .bool s.ended, .int .i64 0, .int .i64 s.kind, .int .i64 (s.left : Int), .bool s.last, (.pointer (some ⟨l, 0, none⟩)), (.pointer (some ⟨d, 0, none⟩)), .int .i64 (s.aB : Int), .int .i64 (s.cE : Int)], none, none, [3, 7, 8]⟩, ⟨fun y => Row U5 po s.out.length co s.out, none, none, []⟩, ⟨fun y => LW bl B s.at_ [] 0, none, none, [8]⟩, ⟨fun y => HC l s.lits, none, none, [8]⟩, ⟨fun y => HC d s.eQ, none, none, []⟩] F V.mixed ?_
  refine nM ?_
  refine nN ?_
  refine nG V.xg ?_
  refine nR (fun y FF hA => af V.pU rfl an rfl) ?_
  refine nM ?_
  refine nN ?_
  refine nG V.eK ?_
  refine nR (fun y FF hA => af V.dT rfl an rfl) ?_
  refine bO (undef) _ _ (fun y => rfl) rfl (fun y => rfl) (fun y FF hA => ga ((o4 l s.lits bl B s.at_ [] 0 hE1 hl hB ha).err hs) V.sf rfl (.cons bK (.cons aE .nil)) (by rintro _ _ ⟨hp, rfl⟩; exact lz (ad.vr hs) hp (bd (aw .nil) (by exact ve (M := FF) (F := F)) (fun w0 h hh => cX hh)))) ?_
  refine bO (.bool true) _ _ (fun y => rfl) rfl (fun y => rfl) (fun y FF hA => (dO.fact (hA 8 (by decide)) (q := fun _ => False) rfl).elim) ?_
  refine aX ?_
  intro y hA
  exact (dO.fact (hA 8 (by exact Nat.le_of_ble_eq_true rfl)) (q := fun _ => False) rfl).elim
 ·refine rT c9 1 rfl ?_
  refine wN [pz 0 [] [0], pz 1 [0] [], pz 3 [1] [], pz 7 [2] [], pz 0 [] [0], pz 16 [4] [], pz 48 [5] [], pz 112 [6] [], pz 255 [3, 7] [], pz 511 [8] []] [⟨fun y => ao b 223 [.pointer (some ⟨bl, 0, none⟩), .int .i64 sz, .int .i64 mo, .slice po s.out.length co, .bool s.ended, .int .i64 0, .int .i64 s.kind, .int .i64 (s.left : Int), .bool s.last, (.pointer (some ⟨l, 0, none⟩)), (.pointer (some ⟨d, 0, none⟩)), .int .i64 (s.aB : Int), .int .i64 (s.cE : Int)], none, none, [3, 7]⟩, ⟨fun y => Row U5 po s.out.length co s.out, none, none, []⟩, ⟨fun y => LW bl B s.at_ [] 0, none, some 8, []⟩, ⟨fun y => HC l s.lits, none, some 8, []⟩, ⟨fun y => HC d s.eQ, none, none, []⟩, ⟨fun y => HC l s.lits, some 8, none, []⟩, ⟨fun y => LW bl B a1 [] 0, some 8, none, []⟩] F V.mixed ?_
  refine nM ?_
  refine nN ?_
  refine nG V.xg ?_
  refine nR (fun y FF hA => af V.pU rfl an rfl) ?_
  refine nM ?_
  refine nN ?_
  refine nG V.eK ?_
  refine nR (fun y FF hA => af V.dT rfl an rfl) ?_
  refine nE (fun y FF hA => bM (Post := [HC l s.lits, LW bl B a1 [] 0]) ((o4 l s.lits bl B s.at_ [] 0 hE1 hl hB ha).ok hs) V.sf rfl (.cons aE (aw .nil)) (fun v G h => by rcases h with ⟨rfl, rfl⟩; exact ⟨rfl, .refl _⟩)) ?_
  refine nA ?_
  refine aX ?_
  intro y hA
  clear hA
  refine bu ?_
  refine cy _ (.cons (d := 0) rfl (.cons (d := 2) rfl (.nil _))) ?_
  refine bR (M := ao b 223 [.pointer (some ⟨bl, 0, none⟩), .int .i64 sz, .int .i64 mo, .slice po s.out.length co, .bool s.ended, .int .i64 0, .int .i64 s.kind, .int .i64 (s.left : Int), .bool s.last, (.pointer (some ⟨l, 0, none⟩)), (.pointer (some ⟨d, 0, none⟩)), .int .i64 (s.aB : Int), .int .i64 (s.cE : Int)] :: Row U5 po s.out.length co s.out :: HC d s.eQ :: HC l s.lits :: LW bl B a1 [] 0 :: F) (fun _ _ h => h) ?_
  refine rC c9 8 rfl ?_
  refine aP rfl (fun h36 => ?_) (fun h36 => ?_)
  ·rcases (ad.gH (ad.fa mo { s with at_ := a1 } sy)) with ⟨e, hp⟩ | ⟨s2, hp⟩
   ·refine rC c9 3 rfl ?_
    refine oV (bE V.u3 Tryz.underlying5 rfl (lq (by omega) (by omega))) ?_
    refine dJ ((oh b bl sz mo po co (.pointer (some ⟨l, 0, none⟩)) (.pointer (some ⟨d, 0, none⟩)) { s with at_ := a1 } sy (by omega) hm).err hp) V.uC rfl (bp .nil) ?_
    rintro _ _ ⟨hpe, rfl⟩
    refine (fu ?_)
    exact ez ((ad.ob hs (by omega)).trans hp) hpe (sub (aw .nil) n4)
   ·refine rC c9 3 rfl ?_
    refine oV (bE V.u3 Tryz.underlying5 rfl (lq (by omega) (by omega))) ?_
    refine ai ((oh b bl sz mo po co (.pointer (some ⟨l, 0, none⟩)) (.pointer (some ⟨d, 0, none⟩)) { s with at_ := a1 } sy (by omega) hm).ok hp) V.uC  rfl (bp .nil) rfl ?_
    rintro _ _ ⟨rfl, rfl⟩
    refine rO c9 2 rfl ?_
    obtain ⟨_, rfl⟩ := ad.qi hp
    exact iE ((ad.ob hs (by omega)).trans hp) fK ⟨rfl, rfl⟩ (bd (aw (.cons bK (.cons aE (.cons dX .nil)))) au (fun w0 h hh => mb (s := { s with at_ := a1, out := s.out ++ [sy] }) hh))
  ·refine rC c9 7 rfl ?_
   refine aP rfl (fun h43 => ?_) (fun h43 => ?_)
   ·refine rC c9 2 rfl ?_
    refine ai (yH b bl sz mo po s.out.length co (.pointer (some ⟨l, 0, none⟩)) (.pointer (some ⟨d, 0, none⟩)) s) V.Lg  rfl (aw .nil) rfl ?_
    rintro _ _ ⟨rfl, rfl⟩
    refine rO c9 2 rfl ?_
    exact iE (x := { s with at_ := a1, kind := -1, ended := s.last }) (ad.qS hs (by omega)) fK ⟨rfl, rfl⟩ ((bd (bp .nil) .refl (fun w0 h hh => dE (s := { s with at_ := a1, kind := -1, ended := s.last }) rfl hh)).trans (bd (aw (.cons bK (.cons aE (.cons dX .nil)))) au (fun w0 h hh => mb (s := { s with at_ := a1, kind := -1, ended := s.last }) hh)))
   ·rcases (ad.AK (B := B) (s := sy - 257) (a := a1) (by omega) ha1) with ⟨e, hn⟩ | ⟨n, a2, hn, hn0, hn1, hn2, hn3⟩
    ·refine fQ c9 6 rfl (by omega) ?_
     refine oV (gp (r := sy - 257) rfl rfl (by rw [show sy - 256 - 1 = sy - 257 from by omega]; exact gU (by omega) (by omega))) ?_
     refine dJ ((vO b bl sz mo po s.out.length co (.pointer (some ⟨l, 0, none⟩)) (.pointer (some ⟨d, 0, none⟩)) s B a1 (sy - 257) (by omega) hl hB ha1).err hn) V.KC rfl (aw (.cons eg .nil)) ?_
     rintro _ _ ⟨hpe, rfl⟩
     refine (dZ (fu ?_))
     exact ez (ad.vu hs (by omega) hn) hpe (sub (aw .nil) n4)
    ·refine fQ c9 6 rfl (by omega) ?_
     refine oV (gp (r := sy - 257) rfl rfl (by rw [show sy - 256 - 1 = sy - 257 from by omega]; exact gU (by omega) (by omega))) ?_
     refine ai ((vO b bl sz mo po s.out.length co (.pointer (some ⟨l, 0, none⟩)) (.pointer (some ⟨d, 0, none⟩)) s B a1 (sy - 257) (by omega) hl hB ha1).ok hn) V.KC  rfl (aw (.cons eg .nil)) rfl ?_
     rintro _ _ ⟨rfl, rfl⟩
     refine rO c9 2 rfl ?_
     refine aQ (cn V.s3 rfl rfl rfl (by exact cZ) (by exact Nat.le_of_ble_eq_true rfl) rfl) ?_
     refine rO c9 2 rfl ?_
     rcases (ad.yc (B := B) (ds := s.eQ) (a := a2) hE2 hz2) with ⟨e, hf⟩ | ⟨f, a3, hf, hf0, hf1, hf2, hf3⟩
     ·refine rC c9 4 rfl ?_
      refine dJ ((Cp b bl sz mo po s.out.length co (.pointer (some ⟨l, 0, none⟩)) d { s with aB := n } B s.eQ a2 hE2 hz2 hl hB hn3).err hf) V.JP rfl (aw (.cons bK (.cons dX .nil))) ?_
      rintro _ _ ⟨hpe, rfl⟩
      refine (dZ (fu ?_))
      exact ez (ad.vy hs (by omega) hn hf) hpe (sub (aw .nil) fS)
     ·refine rC c9 4 rfl ?_
      refine ai ((Cp b bl sz mo po s.out.length co (.pointer (some ⟨l, 0, none⟩)) d { s with aB := n } B s.eQ a2 hE2 hz2 hl hB hn3).ok hf) V.JP  rfl (aw (.cons bK (.cons dX .nil))) rfl ?_
      rintro _ _ ⟨rfl, rfl⟩
      refine rO c9 2 rfl ?_
      refine aQ (cn V.s3 rfl rfl rfl (by exact cZ) (by exact Nat.le_of_ble_eq_true rfl) rfl) ?_
      refine rO c9 2 rfl ?_
      rcases (Classical.em (f ≤ s.out.length)) with hfo | hfo
      ·refine wN [pz 0 [] [0], pz 1 [0] [], pz 3 [1] [], pz 7 [2] [], pz 0 [] [0], pz 16 [4] [], pz 48 [5] [], pz 112 [6] [], pz 240 [7] [], pz 511 [3, 8] [], pz 1023 [9] []] [⟨fun y => ao b 223 [.pointer (some ⟨bl, 0, none⟩), .int .i64 sz, .int .i64 mo, .slice po s.out.length co, .bool s.ended, .int .i64 0, .int .i64 s.kind, .int .i64 (s.left : Int), .bool s.last, (.pointer (some ⟨l, 0, none⟩)), (.pointer (some ⟨d, 0, none⟩)), .int .i64 (n : Int), .int .i64 (f : Int)], none, none, [3, 7]⟩, ⟨fun y => HC d s.eQ, none, none, []⟩, ⟨fun y => LW bl B a3 [] 0, none, none, []⟩, ⟨fun y => Row U5 po s.out.length co s.out, none, none, []⟩, ⟨fun y => HC l s.lits, none, none, []⟩] F V.mixed ?_
       refine nM ?_
       refine nN ?_
       refine nG V.rf ?_
       refine nR (fun y FF hA => af V.s3 rfl an rfl) ?_
       refine nM ?_
       refine nN ?_
       refine nG V.kV ?_
       refine nR (fun y FF hA => af V.eA rfl an rfl) ?_
       refine nV (fun y hA L => eM (ty' := 0) Tryz.underlying22 rfl) ?_
       refine nV (fun y hA L => aU (eG rfl rfl) (by omega)) ?_
       refine nE (fun y FF hA => bM (Post := []) (kS 4) V.iO rfl .nil (fun v G h => by rcases h with ⟨rfl, rfl⟩; exact ⟨rfl, .refl _⟩)) ?_
       refine aX ?_
       intro y hA
       clear hA
       show lI _ _ _ _ (ao b 223 [.pointer (some ⟨bl, 0, none⟩), .int .i64 sz, .int .i64 mo, .slice po s.out.length co, .bool s.ended, .int .i64 0, .int .i64 s.kind, .int .i64 (s.left : Int), .bool s.last, (.pointer (some ⟨l, 0, none⟩)), (.pointer (some ⟨d, 0, none⟩)), .int .i64 (n : Int), .int .i64 (f : Int)] :: HC d s.eQ :: LW bl B a3 [] 0 :: Row U5 po s.out.length co s.out :: HC l s.lits :: F)
       refine kA ?_
       exact iE (x := { s with at_ := a3, aB := n, cE := f }) (ad.vm hs (by omega) hn hf (by omega)) fK ⟨rfl, rfl⟩ ((bd (aw (.cons bK .nil)) .refl (fun w0 h hh => dE (s := { s with at_ := a3, aB := n, cE := f }) rfl hh)).trans (bd (aw (.cons aE (.cons aE (.cons dX .nil)))) au (fun w0 h hh => mb (s := { s with at_ := a3, aB := n, cE := f }) hh)))
      ·refine wN [pz 0 [] [0], pz 1 [0] [], pz 3 [1] [], pz 7 [2] [], pz 0 [] [0], pz 16 [4] [], pz 48 [5] [], pz 112 [6] [], pz 240 [7] [], pz 511 [3, 8] [], pz 1023 [9] []] [⟨fun y => ao b 223 [.pointer (some ⟨bl, 0, none⟩), .int .i64 sz, .int .i64 mo, .slice po s.out.length co, .bool s.ended, .int .i64 0, .int .i64 s.kind, .int .i64 (s.left : Int), .bool s.last, (.pointer (some ⟨l, 0, none⟩)), (.pointer (some ⟨d, 0, none⟩)), .int .i64 (n : Int), .int .i64 (f : Int)], none, none, [3, 7, 10]⟩, ⟨fun y => HC d s.eQ, none, none, []⟩, ⟨fun y => LW bl B a3 [] 0, none, none, []⟩, ⟨fun y => Row U5 po s.out.length co s.out, none, none, []⟩, ⟨fun y => HC l s.lits, none, none, []⟩] F V.mixed ?_
       refine nM ?_
       refine nN ?_
       refine nG V.rf ?_
       refine nR (fun y FF hA => af V.s3 rfl an rfl) ?_
       refine nM ?_
       refine nN ?_
       refine nG V.kV ?_
       refine nR (fun y FF hA => af V.eA rfl an rfl) ?_
       refine nV (fun y hA L => eM (ty' := 0) Tryz.underlying22 rfl) ?_
       refine nV (fun y hA L => aA (eG rfl rfl) (by omega)) ?_
       refine bO (undef) _ _ (fun y => rfl) rfl (fun y => rfl) (fun y FF hA => ga (iR 4) V.iO rfl .nil (by rintro _ _ ⟨rfl, rfl⟩; exact lz (ad.vv hs (by omega) hn hf (by omega)) (PE.no (by decide)) (bd (aw .nil) (by exact ve (M := FF) (F := F)) (fun w0 h hh => cX hh)))) ?_
       refine aX ?_
       intro y hA
       exact (dO.fact (hA 10 (by exact Nat.le_of_ble_eq_true rfl)) (q := fun _ => False) rfl).elim
set_option maxHeartbeats 4000000 in
theorem Ff (b bl : Nat) (sz mo : Int) (s : ad.St) (B : List Int) (hl : B.length < 500000000) (hB : ak.az B) (hm : mo < 1000000000) (hok : ad.Ok B mo s) : aK Tryz.prog 169 [.pointer (some ⟨b, 0, none⟩)] [MM b bl sz mo B s] (iJ (ad.one B mo s) (fun s2 v G => v = .tuple #[] ∧ G = [MM b bl sz mo B s2]) [MX b bl sz mo]) := by
 refine ax [(0, _)] Tryz.func169 rfl Tryz.ntmps169 rfl rfl ?_
 intro w0 F
 refine gJ (fun h hh => hh) ?_
 rintro ⟨li, di⟩ _
 dsimp only
 refine gJ (fun h hh => hh) ?_
 rintro ⟨po, co⟩ _
 dsimp only
 simp only [List.cons_append, List.nil_append]
 have ha := hok.at_
 have hro := hok.room
 have hcp := hok.aB
 have hlf := hok.left
 have hnb := ak.cJ B s.at_ 8
 refine rT c9 6 rfl ?_
 refine oV (af V.s3 rfl an rfl) ?_
 refine rO c9 4 rfl ?_
 refine aP rfl (fun h17 => ?_) (fun h17 => ?_)
 ·rcases (ad.gH (ad.fa mo s (U5.g s.out ((s.out.length : Int) - (s.cE : Int))))) with ⟨e, hp⟩ | ⟨s2, hp⟩
  ·refine rC c9 1 rfl ?_
   have hcs : 0 < s.aB := by omega
   have hfr := hok.cE hcs
   have hge : U5.g s.out ((s.out.length : Int) - (s.cE : Int)) = s.out.getD (s.out.length - s.cE) 0 := gE _ (by omega)
   refine wN [pz 0 [] [0], pz 0 [] [0], pz 2 [1] [], pz 6 [2] [], pz 14 [3] [], pz 0 [] [0], pz 32 [5] [], pz 96 [6] [], pz 224 [7] [], pz 480 [8] [], pz 0 [] [0], pz 1024 [10] [], pz 3072 [11] [], pz 7168 [12] [], pz 16352 [9, 13] [], pz 32766 [4, 14] [], pz 65534 [15] [], pz 131071 [0, 16] []] [⟨fun y => ao b 223 [.pointer (some ⟨bl, 0, none⟩), .int .i64 sz, .int .i64 mo, .slice po s.out.length co, .bool s.ended, .int .i64 0, .int .i64 s.kind, .int .i64 (s.left : Int), .bool s.last, li, di, .int .i64 (s.aB : Int), .int .i64 (s.cE : Int)], none, none, [4, 8, 13, 17]⟩, ⟨fun y => Row U5 po s.out.length co s.out, none, none, [15, 16, 17]⟩, ⟨fun y => LW bl B s.at_ [] 0, none, none, []⟩, ⟨fun y => CD li di s, none, none, []⟩] F V.mixed ?_
   iterate 2 refine nM ?_
   refine nN ?_
   refine nG V.kV ?_
   refine nR (fun y FF hA => af V.eA rfl an rfl) ?_
   refine nM ?_
   refine nN ?_
   refine nG V.kV ?_
   refine nR (fun y FF hA => af V.eA rfl an rfl) ?_
   refine nV (fun y hA L => eM (ty' := 0) Tryz.underlying22 rfl) ?_
   refine nM ?_
   refine nN ?_
   refine nG V.rf ?_
   refine nR (fun y FF hA => af V.s3 rfl an rfl) ?_
   refine nV (fun y hA L => gp rfl rfl wI) ?_
   refine nR (fun y FF hA => xI V.bP (own an)) ?_
   refine nR (fun y FF hA => xL V.s5 (own an)) ?_
   refine bO (undef) _ _ (fun y => rfl) rfl (fun y => rfl) (fun y FF hA => ga ((oh b bl sz mo po co li di s (U5.g s.out ((s.out.length : Int) - (s.cE : Int))) (by rw [hge]; exact hok.te.get _) hm).err hp) V.uC rfl (bp .nil) (by rintro _ _ ⟨hpe, rfl⟩; exact lz (ad.KL hcs (by rw [← hge]; exact hp)) hpe (sub (aw .nil) (by exact ve (M := FF) (F := F))))) ?_
   refine aX ?_
   intro y hA
   exact (dO.fact (hA 17 (by exact Nat.le_of_ble_eq_true rfl)) (q := fun _ => False) rfl).elim
  ·refine rC c9 1 rfl ?_
   have hcs : 0 < s.aB := by omega
   have hfr := hok.cE hcs
   have hge : U5.g s.out ((s.out.length : Int) - (s.cE : Int)) = s.out.getD (s.out.length - s.cE) 0 := gE _ (by omega)
   refine wN [pz 0 [] [0], pz 0 [] [0], pz 2 [1] [], pz 6 [2] [], pz 14 [3] [], pz 0 [] [0], pz 32 [5] [], pz 96 [6] [], pz 224 [7] [], pz 480 [8] [], pz 0 [] [0], pz 1024 [10] [], pz 3072 [11] [], pz 7168 [12] [], pz 16352 [9, 13] [], pz 32766 [4, 14] [], pz 65534 [15] [], pz 131071 [0, 16] []] [⟨fun y => ao b 223 [.pointer (some ⟨bl, 0, none⟩), .int .i64 sz, .int .i64 mo, .slice po s.out.length co, .bool s.ended, .int .i64 0, .int .i64 s.kind, .int .i64 (s.left : Int), .bool s.last, li, di, .int .i64 (s.aB : Int), .int .i64 (s.cE : Int)], none, some 17, [4, 8, 13]⟩, ⟨fun y => Row U5 po s.out.length co s.out, none, some 17, [15, 16]⟩, ⟨fun y => LW bl B s.at_ [] 0, none, none, []⟩, ⟨fun y => CD li di s, none, none, []⟩, ⟨fun y => MS b bl sz mo li di s2, some 17, none, []⟩] F V.mixed ?_
   iterate 2 refine nM ?_
   refine nN ?_
   refine nG V.kV ?_
   refine nR (fun y FF hA => af V.eA rfl an rfl) ?_
   refine nM ?_
   refine nN ?_
   refine nG V.kV ?_
   refine nR (fun y FF hA => af V.eA rfl an rfl) ?_
   refine nV (fun y hA L => eM (ty' := 0) Tryz.underlying22 rfl) ?_
   refine nM ?_
   refine nN ?_
   refine nG V.rf ?_
   refine nR (fun y FF hA => af V.s3 rfl an rfl) ?_
   refine nV (fun y hA L => gp rfl rfl wI) ?_
   refine nR (fun y FF hA => xI V.bP (own an)) ?_
   refine nR (fun y FF hA => xL V.s5 (own an)) ?_
   refine nE (fun y FF hA => bM (Post := [MS b bl sz mo li di s2]) ((oh b bl sz mo po co li di s (U5.g s.out ((s.out.length : Int) - (s.cE : Int))) (by rw [hge]; exact hok.te.get _) hm).ok hp) V.uC rfl (bp .nil) (fun v G h => by rcases h with ⟨rfl, rfl⟩; exact ⟨rfl, .refl _⟩)) ?_
   refine aX ?_
   intro y hA
   clear hA
   refine bu ?_
   refine cy _ (.cons (d := 0) rfl (.nil _)) ?_
   refine bR (M := LW bl B s.at_ [] 0 :: CD li di s :: MS b bl sz mo li di s2 :: F) (fun _ _ h => h) ?_
   obtain ⟨hroom, rfl⟩ := ad.qi hp
   refine gr bK (fun h hh => iQ hh) ?_
   rintro ⟨po2, co2⟩ _
   dsimp only
   simp only [List.cons_append, List.nil_append]
   refine rC c9 4 rfl ?_
   refine oV (af V.s3 rfl an rfl) ?_
   refine cV c9 3 rfl (by omega) ?_
   refine aQ (cn V.s3 rfl rfl rfl (by exact cZ) (by exact Nat.le_of_ble_eq_true rfl) rfl) ?_
   refine rO c9 2 rfl ?_
   rw [show (s.aB : Int) - 1 = ((s.aB - 1 : Nat) : Int) from by omega]
   exact iE (x := { s with aB := s.aB - 1, out := s.out ++ [(U5.g s.out ((s.out.length : Int) - (s.cE : Int)))] }) (by rw [hge]; exact ad.LB hcs hroom) fK ⟨rfl, rfl⟩ ((bd (bp .nil) .refl (fun w0 h hh => dE (s := { s with aB := s.aB - 1, out := s.out ++ [(U5.g s.out ((s.out.length : Int) - (s.cE : Int)))] }) (by simp) hh)).trans (bd (im .nil) au (fun w0 h hh => fw (s := { s with aB := s.aB - 1, out := s.out ++ [(U5.g s.out ((s.out.length : Int) - (s.cE : Int)))] }) hh)))
 ·refine rC c9 5 rfl ?_
  refine oV (af V.s3 rfl an rfl) ?_
  refine rO c9 4 rfl ?_
  refine aP rfl (fun h48 => ?_) (fun h48 => ?_)
  ·rcases (ad.gH (ad.dR B s)) with ⟨e, hp⟩ | ⟨s2, hp⟩
   ·have hcs : ¬ 0 < s.aB := by omega
    have hk1 : s.kind = -1 := by omega
    refine bR (bd (bp .nil) .refl (fun w0 h hh => dE (s := s) rfl hh)) ?_
    refine rC c9 2 rfl ?_
    refine dJ ((yJ b bl sz mo li di s B hl hB ha).err hp) V.Iw rfl (bp .nil) ?_
    rintro _ _ ⟨hpe, rfl⟩
    refine (fu ?_)
    exact ez ((ad.sI hcs hk1).trans hp) hpe (sub (aw .nil) cG)
   ·have hcs : ¬ 0 < s.aB := by omega
    have hk1 : s.kind = -1 := by omega
    refine bR (bd (bp .nil) .refl (fun w0 h hh => dE (s := s) rfl hh)) ?_
    refine rC c9 2 rfl ?_
    refine ai ((yJ b bl sz mo li di s B hl hB ha).ok hp) V.Iw  rfl (bp .nil) rfl ?_
    rintro _ _ ⟨rfl, rfl⟩
    refine rO c9 2 rfl ?_
    exact iE ((ad.sI hcs hk1).trans hp) fK ⟨rfl, rfl⟩ (sub (aw .nil) cG)
  ·refine rC c9 5 rfl ?_
   refine oV (af V.s3 rfl an rfl) ?_
   refine rO c9 4 rfl ?_
   refine aP rfl (fun h56 => ?_) (fun h56 => ?_)
   ·rcases (ad.gH (ad.fb B mo s)) with ⟨e, hp⟩ | ⟨s2, hp⟩
    ·have hcs : ¬ 0 < s.aB := by omega
     have hk1 : ¬ s.kind = -1 := by omega
     have hk0 : s.kind ≠ 0 := by omega
     have hkp : 0 < s.kind := by have := hok.kind; omega
     refine gr eg (fun h hh => zf hkp hh) ?_
     rintro ⟨l, d⟩ ⟨h1, h2⟩
     dsimp only at h1 h2
     subst h1
     subst h2
     simp only [List.cons_append, List.nil_append]
     refine bR (bd (.cons bK (.cons bK .nil)) .refl (fun w0 h hh => dE (s := s) rfl hh)) ?_
     refine rC c9 2 rfl ?_
     refine dJ ((y8 b bl sz mo l d s B hl hB hm hok hkp).err hp) V.K1 rfl (aw (.cons bK (.cons dX (.cons dX .nil)))) ?_
     rintro _ _ ⟨hpe, rfl⟩
     refine (fu ?_)
     exact ez ((ad.vw hcs hk1 hk0).trans hp) hpe (sub (aw .nil) au)
    ·have hcs : ¬ 0 < s.aB := by omega
     have hk1 : ¬ s.kind = -1 := by omega
     have hk0 : s.kind ≠ 0 := by omega
     have hkp : 0 < s.kind := by have := hok.kind; omega
     refine gr eg (fun h hh => zf hkp hh) ?_
     rintro ⟨l, d⟩ ⟨h1, h2⟩
     dsimp only at h1 h2
     subst h1
     subst h2
     simp only [List.cons_append, List.nil_append]
     refine bR (bd (.cons bK (.cons bK .nil)) .refl (fun w0 h hh => dE (s := s) rfl hh)) ?_
     refine rC c9 2 rfl ?_
     refine ai ((y8 b bl sz mo l d s B hl hB hm hok hkp).ok hp) V.K1  rfl (aw (.cons bK (.cons dX (.cons dX .nil)))) rfl ?_
     rintro _ _ ⟨rfl, rfl⟩
     refine rO c9 2 rfl ?_
     exact iE ((ad.vw hcs hk1 hk0).trans hp) fK ⟨rfl, rfl⟩ (sub (aw .nil) au)
   ·refine rC c9 5 rfl ?_
    refine oV (af V.s3 rfl an rfl) ?_
    refine rO c9 4 rfl ?_
    refine aP rfl (fun h64 => ?_) (fun h64 => ?_)
    ·have hcs : ¬ 0 < s.aB := by omega
     have hk1 : ¬ s.kind = -1 := by omega
     have hk0 : s.kind = 0 := by omega
     have hl0 : s.left = 0 := by omega
     refine rC c9 2 rfl ?_
     refine ai (yH b bl sz mo po s.out.length co li di s) V.Lg  rfl (aw .nil) rfl ?_
     rintro _ _ ⟨rfl, rfl⟩
     refine rO c9 2 rfl ?_
     exact iE (x := { s with kind := -1, ended := s.last }) (ad.tA hcs hk1 hk0 hl0) fK ⟨rfl, rfl⟩ ((bd (bp .nil) .refl (fun w0 h hh => dE (s := { s with kind := -1, ended := s.last }) rfl hh)).trans (bd (bp .nil) cG (fun w0 h hh => nw (s := { s with kind := -1, ended := s.last }) (by show (-1 : Int) ≤ 0; decide) hh)))
    ·rcases (ad.I5 B s.at_ mo { s with at_ := s.at_ + 8 } (ak.aV B s.at_ 8)) with hx | ⟨hx, e, hp⟩ | ⟨hx, s2, hp⟩
     ·refine rC c9 1 rfl ?_
      have hcs : ¬ 0 < s.aB := by omega
      have hk1 : ¬ s.kind = -1 := by omega
      have hk0 : s.kind = 0 := by omega
      have hl0 : ¬ s.left = 0 := by omega
      refine rC c9 5 rfl ?_
      refine oV (af V.dT rfl an rfl) ?_
      refine dJ (gy bl B s.at_ [] 0 8 hl hB (by omega) (by omega) (by omega)) V.fi rfl (.cons bK .nil) ?_
      rintro _ _ ⟨rfl, rfl⟩
      refine (dZ (fu ?_))
      exact ez (ad.xe hcs hk1 hk0 hl0 hx) PE.end_ (bd (.cons aE .nil) n4 (fun w0 h hh => cX hh))
     ·refine rC c9 1 rfl ?_
      have hcs : ¬ 0 < s.aB := by omega
      have hk1 : ¬ s.kind = -1 := by omega
      have hk0 : s.kind = 0 := by omega
      have hl0 : ¬ s.left = 0 := by omega
      refine rC c9 5 rfl ?_
      refine oV (af V.dT rfl an rfl) ?_
      refine ai (fO bl B s.at_ [] 0 8 hl hB (by omega) (by omega)) V.fi  rfl (.cons bK .nil) rfl ?_
      rintro _ _ ⟨rfl, rfl⟩
      refine oV (bE V.u3 Tryz.underlying5 rfl (lq (by omega) (by omega))) ?_
      refine dJ ((oh b bl sz mo po co li di s (ak.aV B s.at_ 8) (by omega) hm).err (ad.JO hp)) V.uC rfl (.cons aE (.cons aE .nil)) ?_
      rintro _ _ ⟨hpe, rfl⟩
      refine (dZ (fu ?_))
      exact ez (ad.one_le hcs hk1 hk0 hl0 hx hp) hpe (sub (aw .nil) fS)
     ·refine rC c9 1 rfl ?_
      have hcs : ¬ 0 < s.aB := by omega
      have hk1 : ¬ s.kind = -1 := by omega
      have hk0 : s.kind = 0 := by omega
      have hl0 : ¬ s.left = 0 := by omega
      refine rC c9 5 rfl ?_
      refine oV (af V.dT rfl an rfl) ?_
      refine ai (fO bl B s.at_ [] 0 8 hl hB (by omega) (by omega)) V.fi  rfl (.cons bK .nil) rfl ?_
      rintro _ _ ⟨rfl, rfl⟩
      refine oV (bE V.u3 Tryz.underlying5 rfl (lq (by omega) (by omega))) ?_
      refine ai ((oh b bl sz mo po co li di { s with at_ := s.at_ + 8 } (ak.aV B s.at_ 8) (by omega) hm).ok hp) V.uC  rfl (.cons aE (.cons aE .nil)) rfl ?_
      rintro _ _ ⟨rfl, rfl⟩
      refine rO c9 2 rfl ?_
      obtain ⟨hroom, rfl⟩ := ad.qi hp
      refine gr dX (fun h hh => iQ hh) ?_
      rintro ⟨po2, co2⟩ _
      dsimp only
      simp only [List.cons_append, List.nil_append]
      refine rC c9 4 rfl ?_
      refine oV (af V.s3 rfl an rfl) ?_
      refine cV c9 3 rfl (by omega) ?_
      refine aQ (cn V.s3 rfl rfl rfl (by exact cZ) (by exact Nat.le_of_ble_eq_true rfl) rfl) ?_
      refine rO c9 2 rfl ?_
      rw [show (s.left : Int) - 1 = ((s.left - 1 : Nat) : Int) from by omega]
      exact iE (x := { s with at_ := s.at_ + 8, left := s.left - 1, out := s.out ++ [(ak.aV B s.at_ 8)] }) (ad.Bm hcs hk1 hk0 hl0 hx hroom) fK ⟨rfl, rfl⟩ ((bd (bp .nil) .refl (fun w0 h hh => dE (s := { s with at_ := s.at_ + 8, left := s.left - 1, out := s.out ++ [(ak.aV B s.at_ 8)] }) (by simp) hh)).trans (bd (bp .nil) cG (fun w0 h hh => nw (s := { s with at_ := s.at_ + 8, left := s.left - 1, out := s.out ++ [(ak.aV B s.at_ 8)] }) (by show s.kind ≤ 0; omega) hh)))
end Go.Proofs.YtmaiakpjgomnpaaGreat
namespace Go.Sl
section
variable {C : Ctx} {E : Env} {L : List ab} {ty : TypeId}
def pW (P : Program) (t : TypeId) : Bool := match P.underlying t with | some (.interface _) => true | _ => false
theorem wy {t T : TypeId} {is : Array (String × TypeId)} {u : Value} (ht : C.P.underlying t = some (.interface is)) (d : Nat) (w : World) : (Op.equalIn (d + 1) t (.iface T u) .nilIface).run C.P w = .ok false w := by
  simp [Op.equalIn, run_underlying ht]
theorem xN {t : TypeId} {is : Array (String × TypeId)} (ht : C.P.underlying t = some (.interface is)) (d : Nat) (w : World) : (Op.equalIn (d + 1) t .nilIface .nilIface).run C.P w = .ok true w := by
  simp [Op.equalIn, run_underlying ht]
theorem sE {x y : Operand} {t t' T : TypeId} {u : Value} (ht : pW C.P t = true) (hx : aq E x = some (.iface T u)) (hy : aq E y = some .nilIface) : cF C (.binOp .eql t x y t') ty E L (.bool false) L :=
  dQ fun d pos aft g a w ha => by
    unfold pW at ht
    split at ht <;> try simp at ht
    rename_i is hds
    rw [jE d pos aft g (ha.eval hx) (ha.eval hy) (by simp [eqGuard])]
    have h := wy hds (T := T) (u := u) 9999 w
    simp only [binOp, Op.equal, Op.maxDepth, Sem.run_bind, h, Result.andThen_ok, Sem.run_pure]
theorem Dy {x : Operand} {t t' : TypeId} (ht : pW C.P t = true) (hx : aq E x = some .nilIface) : cF C (.binOp .eql t x (.const .nilIface) t') ty E L (.bool true) L :=
  dQ fun d pos aft g a w ha => by
    unfold pW at ht
    split at ht <;> try simp at ht
    rename_i is hds
    rw [jE d pos aft g (ha.eval hx) (ha.eval (x := .const .nilIface) rfl) (by simp [eqGuard])]
    have h := xN hds 9999 w
    simp only [binOp, Op.equal, Op.maxDepth, Sem.run_bind, h, Result.andThen_ok, Sem.run_pure]
theorem tW {x : Operand} {xT T : TypeId} {u : Value} (hc : mI C.P T = true) (hx : aq E x = some (.iface T u)) : cF C (.typeAssert x xT T true) ty E L (.tuple #[u, .bool true]) L :=
  dQ fun d pos aft g a w ha => by
    unfold mI at hc
    split at hc <;> try simp at hc
    rename_i ds hne hds
    simp only [execOp, ha.eval hx, Instr.typeAssert, Sem.run_bind, run_underlying hds, Result.andThen_ok]
    cases ds <;> first | (exact absurd rfl (hne _)) | simp [Sem.run_pure]
theorem ui {x : Operand} {xT T t : TypeId} {u z : Value} (hc : mI C.P T = true) (hz : (C.P.info? T).bind (·.zero) = some z) (hn : t ≠ T) (hx : aq E x = some (.iface t u)) : cF C (.typeAssert x xT T true) ty E L (.tuple #[z, .bool false]) L :=
  dQ fun d pos aft g a w ha => by
    unfold mI at hc
    split at hc <;> try simp at hc
    rename_i ds hne hds
    obtain ⟨i, hi, hz⟩ : ∃ i, C.P.info? T = some i ∧ i.zero = some z := by
      cases h : C.P.info? T with
      | none => rw [h] at hz; cases hz
      | some i => rw [h] at hz; exact ⟨i, rfl, hz⟩
    have hzv : (zeroValue T).run C.P w = .ok z w := by simp only [zeroValue, typeInfo, Sem.run_bind, run_program, Result.andThen_ok, hi, Sem.run_pure, hz]
    simp only [execOp, ha.eval hx, Instr.typeAssert, Sem.run_bind, run_underlying hds, Result.andThen_ok]
    cases ds <;> first | (exact absurd rfl (hne _)) | simp [Sem.run_pure, hn, hzv]
end
theorem xw {C : Ctx} {c : Code} {Q : Exit → Act → List Frame → World → Prop} {a : Act} {cs : List Frame} {w : World} {E : Env} {L : List ab} (ha : gv C E a) (hi : Inv C.w0 L w) (h : Wp C c (qr C fun e a w => Q e a cs w) E L) : c.wpS C.P Q a cs w := wpS_of_wp (FO h a w ha hi)
theorem CZ {P : Program} {w0 : World} {X : List PanicEntry → List ab → Prop} (x y : Value) : gv ⟨P, w0, 19, [], X⟩ [(6, y), (0, x)] { tmps := #[x] ++ (Array.replicate 18 undef).setIfInBounds 5 y, defers := [] } := by
  refine ⟨rfl, by simp, fun d v hd => ?_⟩
  rw [Env.jg] at hd
  split at hd
  · rename_i h; subst h; cases hd; simp
  · rw [Env.jg] at hd
    split at hd
    · rename_i h; subst h; cases hd; simp
    · simp [Env.get] at hd
end Go.Sl
namespace Go.Sl
theorem aK.Q1 {P : Program} {f : FuncId} {args : List Value} {Pre : List ab} {v0 : Value} {R : List ab → Prop} (h : aK P f args Pre (aR fun v G => v = v0 ∧ R G)) : aK P f args Pre (aR fun _ G => R G) := h.mono fun e G h => by
  rcases h with ⟨v, rfl, _, h⟩; exact ⟨v, rfl, h⟩
end Go.Sl
namespace Go.Proofs.YtmaiakpjgomnpaaGreat
open Go.Sl 
theorem RA : dC Tryz.prog ⟨[], []⟩ = true := by kernel_rfl
theorem V.Aq : pW Tryz.prog 20 = true := by kernel_rfl
theorem V.FR : (Tryz.prog.info? 194).bind (·.zero) = some (.agg #[]) := by kernel_rfl
theorem V.Nz : (Tryz.prog.info? 237).bind (·.zero) = some (.agg #[]) := by kernel_rfl
theorem pP : ∀ (A M : List ab), fL (A ++ M) A M
  | [], M => .nil
  | a :: A, M => .cons .head (pP A M)
theorem BJ {w0 : World} {L : List ab} (b : Nat) (x e : Int) (t : TypeId) (pv : Value) (hp : PE e (ko t pv)) (older : List PanicEntry) (w : World) (hi : Inv w0 (ao b 27 [.int .i64 x] :: L) w) :
    CallsD Tryz.prog 178 #[.pointer (some ⟨b, 0, none⟩)] (.panicking ({ v := .iface t pv, recovered := false } :: older)) w fun e' u' w' =>
      e' = .returned (.tuple #[]) ∧ u' = .panicking ({ v := .iface t pv, recovered := true } :: older) ∧ Inv w0 (ao b 27 [.int .i64 e] :: L) w' := by
  refine callsD_of_wpS Tryz.func178 rfl fun c₀ cs hu => ?_
  apply wpS_seq
  apply wpS_region
  simp [wpOpsS, go_sem, recoverD, hu, Tryz.ntmps178, Exit.thenS]
  refine xw (C := ⟨Tryz.prog, w0, 19, [], fun _ _ => True⟩) (E := [(6, .iface t pv), (0, .pointer (some ⟨b, 0, none⟩))]) (CZ _ _) hi ?_
  rcases hp with ⟨h, rfl⟩ | ⟨h, rfl⟩ | ⟨h, _⟩
  · simp only [ko, List.cons.injEq, PanicEntry.mk.injEq, Value.iface.injEq, and_true] at h
    obtain ⟨rfl, rfl⟩ := h
    refine oe ?_
    refine fV (bo ?_)
    refine oV (sE V.Aq rfl rfl) ?_
    refine cH ?_
    refine bu ?_
    refine k8 rfl ?_
    refine fV (bo ?_)
    refine oV (tW V.zJ rfl) ?_
    iterate 2 refine oV (eE rfl rfl) ?_
    refine cH ?_
    refine bu ?_
    refine oy rfl ?_
    refine fV (bo ?_)
    refine cB V.z194 rfl ?_
    intro bz
    refine aQ (aD V.a194 rfl rfl (us := []) rfl rfl .head (by exact Nat.le_of_ble_eq_true rfl) rfl) ?_
    refine cH ?_
    refine bu ?_
    refine bo ?_
    refine aQ (cn V.rH rfl rfl rfl (.tail .head) (by exact Nat.le_of_ble_eq_true rfl) rfl) ?_
    refine cH ?_
    refine kA ?_
    intro a w ha hi
    exact ⟨ha.defers, _, rfl, .tuple #[], by simp [results, Tryz.results178], rfl, rfl, hi.tail⟩
  · simp only [ko, List.cons.injEq, PanicEntry.mk.injEq, Value.iface.injEq, and_true] at h
    obtain ⟨rfl, rfl⟩ := h
    refine oe ?_
    refine fV (bo ?_)
    refine oV (sE V.Aq rfl rfl) ?_
    refine cH ?_
    refine bu ?_
    refine k8 rfl ?_
    refine fV (bo ?_)
    refine oV (ui V.zJ V.FR (by decide) rfl) ?_
    iterate 2 refine oV (eE rfl rfl) ?_
    refine cH ?_
    refine bu ?_
    refine k8 rfl ?_
    refine fV (bo ?_)
    refine oV (tW V.Ew rfl) ?_
    iterate 2 refine oV (eE rfl rfl) ?_
    refine cH ?_
    refine bu ?_
    refine oy rfl ?_
    refine fV (bo ?_)
    refine cB V.JJ rfl ?_
    intro bz
    refine aQ (aD V.Qd rfl rfl (us := []) rfl rfl .head (by exact Nat.le_of_ble_eq_true rfl) rfl) ?_
    refine cH ?_
    refine bu ?_
    refine bo ?_
    refine aQ (cn V.rH rfl rfl rfl (.tail .head) (by exact Nat.le_of_ble_eq_true rfl) rfl) ?_
    refine cH ?_
    refine kA ?_
    intro a w ha hi
    exact ⟨ha.defers, _, rfl, .tuple #[], by simp [results, Tryz.results178], rfl, rfl, hi.tail⟩
  · simp only [ko, List.cons.injEq, PanicEntry.mk.injEq, Value.iface.injEq, and_true] at h
    obtain ⟨rfl, rfl⟩ := h
    refine oe ?_
    refine fV (bo ?_)
    refine oV (sE V.Aq rfl rfl) ?_
    refine cH ?_
    refine bu ?_
    refine k8 rfl ?_
    refine fV (bo ?_)
    refine oV (ui V.zJ V.FR (by decide) rfl) ?_
    iterate 2 refine oV (eE rfl rfl) ?_
    refine cH ?_
    refine bu ?_
    refine k8 rfl ?_
    refine fV (bo ?_)
    refine oV (ui V.Ew V.Nz (by decide) rfl) ?_
    iterate 2 refine oV (eE rfl rfl) ?_
    refine cH ?_
    refine bu ?_
    refine k8 rfl ?_
    refine fV (bo ?_)
    refine oV (tW V.Cr rfl) ?_
    iterate 2 refine oV (eE rfl rfl) ?_
    refine cH ?_
    refine bu ?_
    refine oy rfl ?_
    refine fV (bo ?_)
    refine oV (ed rfl) ?_
    refine cH ?_
    refine bu ?_
    refine bo ?_
    refine oV (aG rfl) ?_
    refine aQ (cn V.rH rfl rfl rfl .head (by exact Nat.le_of_ble_eq_true rfl) rfl) ?_
    refine cH ?_
    refine kA ?_
    intro a w ha hi
    exact ⟨ha.defers, _, rfl, .tuple #[], by simp [results, Tryz.results178], rfl, rfl, hi⟩
theorem zK {w0 : World} {L : List ab} (b : Nat) (w : World) (hi : Inv w0 L w) :
    CallsD Tryz.prog 178 #[.pointer (some ⟨b, 0, none⟩)] .returning w fun e u' w' => e = .returned (.tuple #[]) ∧ u' = .returning ∧ Inv w0 L w' := by
  refine callsD_of_wpS Tryz.func178 rfl fun c₀ cs hu => ?_
  apply wpS_seq
  apply wpS_region
  simp [wpOpsS, go_sem, recoverD, hu, Tryz.ntmps178, Exit.thenS]
  refine xw (C := ⟨Tryz.prog, w0, 19, [], fun _ _ => True⟩) (E := [(6, .nilIface), (0, .pointer (some ⟨b, 0, none⟩))]) (CZ _ _) hi ?_
  refine oe ?_
  refine fV (bo ?_)
  refine oV (Dy V.Aq rfl) ?_
  refine cH ?_
  refine bu ?_
  refine oy rfl ?_
  refine bo ?_
  refine oV (ed rfl) ?_
  refine cH ?_
  refine kA ?_
  intro a w ha hi
  cases c₀
  exact ⟨ha.defers, _, by simp_all, .tuple #[], by simp [results, Tryz.results178], rfl, rfl, hi⟩
theorem vd {C : Ctx} {a : Act} {E : Env} {L : List ab} {w : World} {b : Nat} {x : Int} (hP : C.P = Tryz.prog) (ha : gv C E a) (ht : E.get 2 = some (.pointer (some ⟨b, 0, none⟩))) (hi : Inv C.w0 (ao b 27 [.int .i64 x] :: L) w) :
    (results Tryz.f167 a.tmps).run Tryz.prog w = .ok (.int .i64 x) w := by
  have h1 := ha.get _ _ ht
  have h2 := hi.jh 0
  simp only [List.getElem?_cons_zero] at h2
  simp [results, Tryz.results167, h1, go_sem, h2]
theorem ET {f : FuncId} {cs : List Value} {Pre : List ab} {R : List ab → Prop} (hS : aK Tryz.prog f cs Pre (aR fun _ G => R G)) (hb : aJ Tryz.prog f = true) :
    aK Tryz.prog 167 [.func (.func f) #[] cs.toArray] Pre (aR fun v G => v = .int .i64 0 ∧ R G) := by
  refine vR [(0, _)] Tryz.func167 rfl Tryz.ntmps167 rfl rfl ?_
  intro w0 F
  refine pO (bo ?_)
  refine cB V.Ol rfl ?_
  intro b2
  refine cH ?_
  refine bu ?_
  refine vT (caps := [.tmp 2]) rfl rfl ?_
  refine pO ?_
  refine bo ?_
  refine oV (aG rfl) ?_
  refine sM (L' := Pre ++ (ao b2 27 [.int .i64 0] :: F)) List.perm_middle.symm ?_
  refine GI (fs := []) (vs := []) (cs := cs) hS hb rfl rfl (pP _ _) rfl ?_
  intro v G hR
  refine cH ?_
  refine bu ?_
  refine pO ?_
  refine bo ?_
  refine sM (L' := ao b2 27 [.int .i64 0] :: (G ++ F)) List.perm_middle ?_
  refine aQ (cn V.rH rfl rfl rfl .head (by exact Nat.le_of_ble_eq_true rfl) rfl) ?_
  refine cH ?_
  refine bu ?_
  refine FO (vk ?_)
  intro a w ha hi
  show Leaves _ _ _ _ a.defers _ _
  rw [ha.defers]
  refine leaves_cons (f := 178) (args := #[.pointer (some ⟨b2, 0, none⟩)]) (by simp) ?_ ?_
  · simp [invoke, gM V.LY]
  refine (zK b2 w hi).mono ?_
  rintro e u' w' ⟨rfl, rfl, hi⟩
  exact ⟨.int .i64 0, vd rfl ha rfl hi, G, hi.tail, _, rfl, rfl, hR⟩
theorem EG {f : FuncId} {cs : List Value} {Pre : List ab} {e : Int} {R : List ab → Prop} (hS : aK Tryz.prog f cs Pre (rD fun ch G => PE e ch ∧ R G)) (hb : aJ Tryz.prog f = true) :
    aK Tryz.prog 167 [.func (.func f) #[] cs.toArray] Pre (aR fun v G => v = .int .i64 e ∧ R G) := by
  refine vR [(0, _)] Tryz.func167 rfl Tryz.ntmps167 rfl rfl ?_
  intro w0 F
  refine pO (bo ?_)
  refine cB V.Ol rfl ?_
  intro b2
  refine cH ?_
  refine bu ?_
  refine vT (caps := [.tmp 2]) rfl rfl ?_
  refine pO ?_
  refine bo ?_
  refine oV (aG rfl) ?_
  refine sM (L' := Pre ++ (ao b2 27 [.int .i64 0] :: F)) List.perm_middle.symm ?_
  refine EN (fs := []) (vs := []) (cs := cs) hS hb rfl rfl (pP _ _) ?_
  rintro ch G ⟨hp, hR⟩
  refine dZ ?_
  intro a w ha hi
  show Leaves _ _ _ _ a.defers _ _
  rw [ha.defers]
  have hi2 : Inv w0 (ao b2 27 [.int .i64 0] :: (G ++ F)) w := hi.perm List.perm_middle
  refine leaves_cons (f := 178) (args := #[.pointer (some ⟨b2, 0, none⟩)]) (by simp) ?_ ?_
  · simp [invoke, gM V.LY]
  obtain ⟨t, u, rfl⟩ : ∃ t u, ch = ko t u := by
    rcases hp with ⟨h, _⟩ | ⟨h, _⟩ | ⟨h, _⟩ <;> exact ⟨_, _, h⟩
  refine (BJ b2 0 e t u hp [] w hi2).mono ?_
  rintro e' u' w' ⟨rfl, rfl, hi3⟩
  exact ⟨.int .i64 e, vd rfl ha rfl hi3, G, hi3.tail, _, rfl, rfl, hR⟩
end Go.Proofs.YtmaiakpjgomnpaaGreat

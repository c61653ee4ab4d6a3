/- Walks of functions that the law reaches, and what they lean on; no conditions. -/
import Derived.Test.YtmbljkghkcgejaaGreatM30
import Derived.Test.YtmbljkghkcgejaaGreatSl22
import Derived.KernelRfl
import Derived.Test.YtmbljkghkcgejaaGreatM37
import Derived.Test.YtmbljkghkcgejaaGreatM38
import Derived.Test.YtmbljkghkcgejaaGreatM33
import Derived.Test.YtmbljkghkcgejaaGreatSl24
set_option linter.unusedVariables false
set_option linter.unusedSimpArgs false
set_option maxRecDepth 100000
namespace Go.Proofs.YtmbljkghkcgejaaGreat
open Go.Sl 
theorem kH : dJ Tryz.prog ⟨[127], [(129, 0, 0), (145, 1, 1)]⟩ = true := by kernel_rfl
attribute [local irreducible] ab.aO ab.tk ab.ord ab.bx ab.words ab.cF aa.dW aa.fP
attribute [local irreducible] ab.wd ab.gF ab.eC ab.fT
theorem Kb (b : Nat) (ls : List Int) (x : Int) : aD Tryz.prog 101 [.pointer (some ⟨b, 0, none⟩), .int .i64 x] [HC b ls] (aK fun v G => v = .tuple #[.int .i64 (ab.gF ls x), .int .i64 (ab.eC ls x), .bool (ab.fT ls x)] ∧ G = [HC b ls]) := by
 refine ax [(0, _), (1, _)] Tryz.func101 rfl Tryz.ntmps101 rfl rfl ?_
 intro w0 F
 refine eK (fun h hh => hh) ?_
 rintro ⟨p1, c1, p2, c2⟩ _
 dsimp only
 have hgw : 0 ≤ x → x < ls.length → kS.g (ab.words ls) x = ab.wd ls x.toNat := fun h0 h1 => ab.BL (by omega)
 refine rT kH 11 rfl ?_
 refine oV (de (v := .bool false) (fS Tryz.underlying73 rfl rfl) rfl) ?_
 refine rO kH 5 rfl ?_
 refine ee 14 rfl (fun h14 => ?_) (fun h14 => ?_)
 ·refine rO kH 31 rfl ?_
  obtain ⟨e1, e2, e3⟩ := ab.lO (ls := ls) (x := x) (by exact .inl (by omega))
  rw [e1, e2, e3]
  exact an (dL rfl rfl rfl) ⟨rfl, rfl⟩ (aG (dU .nil) ao (fun w0 h hh => jO rfl hh))
 ·refine rO kH 4 rfl ?_
  refine al rfl ?_
  refine oV (ag V.Ad rfl ak rfl) ?_
  refine rO kH 4 rfl ?_
  refine ee 23 rfl (fun h23 => ?_) (fun h23 => ?_)
  ·refine rO kH 22 rfl ?_
   obtain ⟨e1, e2, e3⟩ := ab.lO (ls := ls) (x := x) (by exact .inr (.inl (by omega)))
   rw [e1, e2, e3]
   exact an (dL rfl rfl rfl) ⟨rfl, rfl⟩ (aG (dU .nil) ao (fun w0 h hh => jO rfl hh))
  ·refine rO kH 3 rfl ?_
   refine al rfl ?_
   refine oV (ag V.Ad rfl ak rfl) ?_
   refine al rfl ?_
   refine oV (aB rfl) ?_
   refine al rfl ?_
   refine oV (xI V.vE (own bB)) ?_
   refine al rfl ?_
   refine oV (iD V.CI rfl) ?_
   refine al rfl ?_
   refine oV (lT (c := (kS)) 1 V.s3 rfl (own bB) (by omega) (by omega) rfl rfl) ?_
   refine rO kH 4 rfl ?_
   refine aj rfl (fun h33 => ?_) (fun h33 => ?_)
   ·refine rC kH 9 rfl ?_
    obtain ⟨e1, e2, e3⟩ := ab.lO (ls := ls) (x := x) (by exact .inr (.inr (by rw [← hgw (by omega) (by omega)]; assumption)))
    rw [e1, e2, e3]
    exact an (dL rfl rfl rfl) ⟨rfl, rfl⟩ (aG (dU .nil) ao (fun w0 h hh => jO rfl hh))
   ·refine rC kH 7 rfl ?_
    refine oV (ag V.Ad rfl ak rfl) ?_
    refine oV (aB rfl) ?_
    refine oV (xI V.vE (own bB)) ?_
    refine oV (dQ (c := (kS)) V.a145 rfl (own bB) (by omega) (by omega) rfl) ?_
    refine fR V.z145 rfl ?_
    intro b7
    refine bM (fc V.a145 rfl rfl (us := [_, _]) rfl rfl (by exact dO) (by exact Nat.le_of_ble_eq_true rfl) rfl) ?_
    refine rO kH 3 rfl ?_
    refine wN [pz 0 [] [7], pz 1 [0] [], pz 0 [] [7], pz 4 [2] [], pz 3 [1] [], pz 31 [3] [], pz 63 [] []] [⟨fun y => av b7 145 [.int .i64 (kS.g (ab.words ls) x).1, .int .i64 (kS.g (ab.words ls) x).2], none, none, [1, 3]⟩, ⟨fun y => av b 129 (CA [.slice p1 ls.length c1] .i64 (ab.bx ls) [.slice p2 (ab.ord ls).length c2, .int .i64 (ab.cF ls)]), none, none, []⟩, ⟨fun y => Row kS p1 ls.length c1 (ab.words ls), none, none, []⟩, ⟨fun y => Row I3 p2 (ab.ord ls).length c2 (ab.ord ls), none, none, []⟩] F V.mixed ?_
    refine nG V.JJ ?_
    refine nR (fun y FF hA => ag V.s3 rfl ak rfl) ?_
    refine nG V.CI ?_
    refine nR (fun y FF hA => ag V.s3 rfl ak rfl) ?_
    iterate 3 refine nA ?_
    refine aM ?_
    intro y hA
    clear hA
    refine bp ?_
    refine bW _ (.cons (d := 4) rfl (.cons (d := 5) rfl (.cons (d := 6) rfl (.nil _)))) ?_
    refine bR (M := av b7 145 [.int .i64 (kS.g (ab.words ls) x).1, .int .i64 (kS.g (ab.words ls) x).2] :: av b 129 (CA [.slice p1 ls.length c1] .i64 (ab.bx ls) [.slice p2 (ab.ord ls).length c2, .int .i64 (ab.cF ls)]) :: Row kS p1 ls.length c1 (ab.words ls) :: Row I3 p2 (ab.ord ls).length c2 (ab.ord ls) :: F) (fun _ _ h => h) ?_
    refine rC kH 1 rfl ?_
    obtain ⟨e1, e2, e3⟩ := ab.y8 (ls := ls) (x := x) (by omega) (by omega) (by rw [← hgw (by omega) (by omega)]; assumption)
    rw [e1, e2, e3, ← hgw (by omega) (by omega)]
    exact an (dL rfl rfl rfl) ⟨rfl, rfl⟩ (aG (.cons ar (.cons ar (.cons ar .nil))) cw (fun w0 h hh => jO rfl hh))
end Go.Proofs.YtmbljkghkcgejaaGreat
namespace Go.Proofs.YtmbljkghkcgejaaGreat
open Go.Sl 
theorem gG : dJ Tryz.prog ⟨[], [(87, 1, 1), (87, 3, 3), (89, 0, 0)]⟩ = true := by kernel_rfl
theorem IA (b : Nat) (out : List Int) (hl : out.length < 500000000) : aD Tryz.prog 88 [.pointer (some ⟨b, 0, none⟩)] [LW b [] 0 out 0] (aK fun v G => v = .int .i64 7 ∧ G = [LW b [] 0 (out ++ [0]) 7]) := by
  refine ax [(0, _)] Tryz.func88 rfl Tryz.ntmps88 rfl rfl ?_
  intro w0 F
  refine eK (fun h hh => hh) ?_
  rintro ⟨p1, c1, p2, c2⟩ _
  dsimp only
  refine rT gG 11 rfl ?_
  refine oV (ag V.s3 rfl ak rfl) ?_
  refine oV (ck (cg rfl rfl) rfl) ?_
  refine rO gG 9 rfl ?_
  refine oV (ag V.eL rfl ak rfl) ?_
  refine bP (U5) [0] V.bH V.z5 rfl rfl rfl rfl rfl rfl ?_
  intro mV
  refine bQ (c := (U5)) V.bH V.z5 rfl rfl rfl rfl dC (own ak) (by omega) rfl ?_
  intro p14 c14
  refine rO gG 2 rfl ?_
  refine bM (bV V.eL rfl rfl rfl (by exact nc) (by exact Nat.le_of_ble_eq_true rfl) rfl) ?_
  refine rO gG 6 rfl ?_
  refine bM (bV V.s3 rfl rfl rfl (by exact nc) (by exact Nat.le_of_ble_eq_true rfl) rfl) ?_
  refine rO gG 7 rfl ?_
  refine oV (ag V.s3 rfl dE rfl) ?_
  refine bN gG 3 rfl (by omega) ?_
  refine bM (bV V.s3 rfl rfl rfl (by exact nc) (by exact Nat.le_of_ble_eq_true rfl) rfl) ?_
  refine rO gG 7 rfl ?_
  refine oV (ag V.s3 rfl dE rfl) ?_
  refine rO gG 4 rfl ?_
  exact an (bu rfl) ⟨rfl, rfl⟩ (aG (.cons aS (.cons aS (au .nil))) cw (fun w0 h (hh : cA w0 [av b 89 [.slice p1 0 c1, .slice p14 (out.length + 1) c14, .int .i64 0, .int .i64 7], Row U5 p1 0 c1 [], Row U5 p14 (out.length + 1) c14 (out ++ [0])] h) => jP (B := []) (out := out ++ [0]) (by rw [List.length_append]; exact hh)))
theorem HF (b : Nat) (out : List Int) (fr : Nat) (h1 : 1 ≤ fr) (h8 : fr ≤ 8) : aD Tryz.prog 88 [.pointer (some ⟨b, 0, none⟩)] [LW b [] 0 out (fr : Int)] (aK fun v G => v = .int .i64 ((fr : Int) - 1) ∧ G = [LW b [] 0 out ((fr : Int) - 1)]) := by
  refine ax [(0, _)] Tryz.func88 rfl Tryz.ntmps88 rfl rfl ?_
  intro w0 F
  refine eK (fun h hh => hh) ?_
  rintro ⟨p1, c1, p2, c2⟩ _
  dsimp only
  refine rT gG 11 rfl ?_
  refine oV (ag V.s3 rfl ak rfl) ?_
  refine oV (bA (cg rfl rfl) (by omega)) ?_
  refine rO gG 10 rfl ?_
  refine oV (ag V.s3 rfl ak rfl) ?_
  refine bN gG 3 rfl (by omega) ?_
  refine bM (bV V.s3 rfl rfl rfl (by exact dO) (by exact Nat.le_of_ble_eq_true rfl) rfl) ?_
  refine rO gG 7 rfl ?_
  refine oV (ag V.s3 rfl ak rfl) ?_
  refine rO gG 4 rfl ?_
  exact an (bu rfl) ⟨rfl, rfl⟩ (aG (dU .nil) ao (fun w0 h hh => jP (B := []) hh))
theorem II (b : Nat) (bs : List Int) (hl : bs.length < 500000000) : aD Tryz.prog 88 [.pointer (some ⟨b, 0, none⟩)] [WB b bs] (aK fun v G => ∃ out fr, af.Pk bs out fr ∧ 1 ≤ fr ∧ v = .int .i64 ((fr : Int) - 1) ∧ G = [LW b [] 0 out ((fr : Int) - 1)]) := by
  intro w0 F w hi
  obtain ⟨⟨out, fr⟩, ⟨hpk, hf8⟩, hi2⟩ := hi.pS (fun h hh => hh)
  dsimp only at hpk hi2 hf8
  have hlen := hpk.len
  have h8 := hpk.le
  rcases Nat.eq_zero_or_pos fr with e | e
  · subst e
    refine (IA b out (by omega) w0 F w hi2).mono ?_
    rintro e w' ⟨G, h1, v, rfl, rfl, rfl⟩
    exact ⟨_, h1, _, rfl, out ++ [0], 8, af.Io hpk, by omega, rfl, rfl⟩
  · refine (HF b out fr e h8 w0 F w hi2).mono ?_
    rintro e w' ⟨G, h1, v, rfl, rfl, rfl⟩
    exact ⟨_, h1, _, rfl, out, fr, hpk, by omega, rfl, rfl⟩
set_option maxHeartbeats 1000000 in
theorem ld (b : Nat) (bs : List Int) (x : Int) (n : Nat) (hx : 0 ≤ x ∧ x < 2 ^ 40) (hn : n ≤ 24) (hl : bs.length < 400000000) : aD Tryz.prog 74 [.pointer (some ⟨b, 0, none⟩), .int .i64 x, .int .i64 (n : Int)] [WB b bs] (aK fun v G => v = .tuple #[] ∧ G = [WB b (bs ++ af.aQ x n)]) := by
  refine ax [(0, _), (1, _), (2, _)] Tryz.func74 rfl Tryz.ntmps74 rfl rfl ?_
  intro w0 F
  refine rT gG 4 rfl ?_
  refine oV (bA (bZ rfl rfl) (by omega)) ?_
  refine rO gG 2 rfl ?_
  refine al rfl ?_
  refine oV (bA (cB rfl rfl) (by omega)) ?_
  refine rO gG 13 rfl ?_
  refine cx (fun (k : Nat) => [(0, .pointer (some ⟨b, 0, none⟩)), (1, .int .i64 x), (16, .int .i64 (n : Int)), (17, .int .i64 (k : Int))]) (fun (k : Nat) => WB b (bs ++ af.aQ x k) :: F) (fun (k : Nat) => k ≤ n) (fun (k : Nat) => n - k) (i1 (0) ?_ (dI ln) (by show Sub _ (WB b (bs ++ af.aQ x 0) :: F); rw [af.Co, List.append_nil]; exact (sub (au .nil) ao))) ?_
  ·
    exact Nat.zero_le _
  intro k
  rintro hk
  refine rL gG 6 rfl ?_
  refine aj rfl (fun h18 => ?_) (fun h18 => ?_)
  ·
    refine rC gG 15 rfl ?_
    refine ai (II b (bs ++ af.aQ x k) (by rw [List.length_append, af.dH]; omega)) V.NC  rfl (au .nil) rfl ?_
    rintro _ _ ⟨out, fr, hpk, hfr, rfl, rfl⟩
    refine rO gG 3 rfl ?_
    have hle8 := hpk.le
    have hlen := hpk.len
    have hby := hpk.lH.get (out.length - 1)
    have hdn := af.C1 hx.1 k
    have hob : out.length < 500000000 := by have := hpk.len; rw [List.length_append, af.dH] at this; omega
    have hgo : U5.g out ((out.length : Int) - 1) = out.getD (out.length - 1) 0 := gE (out.length - 1) (by omega)
    refine eK (fun h hh => hh) ?_
    rintro ⟨p1, c1, p2, c2⟩ _
    dsimp only
    refine wN [pz 0 [] [0], pz 1 [0] [], pz 3 [1] [], pz 7 [2] [], pz 15 [3] [], pz 0 [] [0], pz 32 [5] [], pz 96 [6] [], pz 224 [7] [], pz 480 [8] [], pz 992 [9] [], pz 2016 [10] [], pz 4095 [4, 11] [], pz 8191 [12] [], pz 0 [] [1], pz 0 [] [6], pz 49152 [14, 15] [], pz 114688 [16] [], pz 245760 [17] [], pz 0 [] [7], pz 524288 [19] [], pz 2080768 [18, 20] [], pz 4194303 [13, 21] [], pz 8388607 [4, 11] [], pz 16777215 [23, 22] []] [⟨fun y => av b 89 [.slice p1 0 c1, .slice p2 out.length c2, .int .i64 0, .int .i64 ((fr : Int) - 1)], none, none, [4, 9]⟩, ⟨fun y => Row U5 p1 0 c1 [], none, none, []⟩, ⟨fun y => Row U5 p2 out.length c2 out, none, some 24, [12, 13, 23]⟩, ⟨fun y => Row U5 p2 out.length c2 (out.set ((out.length : Int) - 1).toNat (af.oD (out.getD (out.length - 1) 0) (x / 2 ^ k % 2) (8 - fr))), some 24, none, []⟩] F V.mixed ?_
    refine nM ?_
    refine nN ?_
    refine nG V.tl ?_
    refine nG V.FW ?_
    refine nR (fun y FF hA => ag V.eL rfl ak rfl) ?_
    refine nM ?_
    refine nN ?_
    refine nG V.tl ?_
    refine nG V.FW ?_
    refine nR (fun y FF hA => ag V.eL rfl ak rfl) ?_
    refine nV (fun y hA L => eF (ty' := 0) Tryz.underlying22 rfl) ?_
    refine nV (fun y hA L => dD rfl rfl wI) ?_
    refine nR (fun y FF hA => xI V.bH (own ak)) ?_
    refine nR (fun y FF hA => xL V.s5 (own ak)) ?_
    iterate 2 refine nM ?_
    refine nV (fun y hA L => dK (r := x / 2 ^ k) rfl rfl (by omega) (af.mE (by omega) rfl)) ?_
    refine nV (fun y hA L => gu (r := (x / 2 ^ k % 2)) rfl rfl (af.uW hdn.1 (by omega))) ?_
    refine nV (fun y hA L => bq V.u3 Tryz.underlying5 rfl (lE (by omega) (by omega))) ?_
    refine nM ?_
    refine nV (fun y hA L => dD rfl rfl wI) ?_
    refine nV (fun y hA L => eI (r := (x / 2 ^ k % 2) * 2 ^ (8 - fr)) rfl rfl (by omega) (af.MN (by omega) (by omega) (by omega))) ?_
    refine nV (fun y hA L => jy (r := af.oD (out.getD (out.length - 1) 0) (x / 2 ^ k % 2) (8 - fr)) rfl rfl (by rw [hgo]; exact af.Jm hby (by omega) (by omega))) ?_
    refine nR (fun y FF hA => xI V.bH (own ak)) ?_
    refine nE (fun y FF hA => cu (eb (c := (U5)) (_) V.s5 rfl rfl rfl (by exact dO) (by omega) (by omega) rfl rfl) ⟨rfl, .refl _⟩) ?_
    refine aM ?_
    intro y hA
    clear hA
    show jD _ _ _ _ (av b 89 [.slice p1 0 c1, .slice p2 out.length c2, .int .i64 0, .int .i64 ((fr : Int) - 1)] :: Row U5 p1 0 c1 [] :: Row U5 p2 out.length c2 (out.set ((out.length : Int) - 1).toNat (af.oD (out.getD (out.length - 1) 0) (x / 2 ^ k % 2) (8 - fr))) :: F)
    refine gR ?_
    refine bp ?_
    refine aW ?_
    refine oV (bU rfl rfl wI) ?_
    refine oV (aB rfl) ?_
    refine bC ?_
    refine j1 (k + 1) ?_ (dI ln) (aG (dU .nil) ao (fun w0 h (hh : cA w0 [av b 89 [.slice p1 0 c1, .slice p2 out.length c2, .int .i64 0, .int .i64 ((fr : Int) - 1)], Row U5 p1 0 c1 [], Row U5 p2 out.length c2 (out.set ((out.length : Int) - 1).toNat (af.oD (out.getD (out.length - 1) 0) (x / 2 ^ k % 2) (8 - fr)))] h) => EH (fr := fr - 1) (f := (fr : Int) - 1) (p1 := p1) (c1 := c1) (p2 := p2) (c2 := c2) (by rw [← af.C4, ← List.append_assoc]; exact af.Jo hpk hfr (by omega)) (by omega) (by omega) (by rw [List.length_set]) (by rw [show ((out.length : Int) - 1).toNat = out.length - 1 from by omega] at hh; exact hh)))
    exact ⟨by omega, by omega⟩
  ·
    refine rC gG 4 rfl ?_
    obtain rfl : k = n := by omega
    exact dT dN ⟨rfl, rfl⟩ (sub (au .nil) ao)
end Go.Proofs.YtmbljkghkcgejaaGreat
namespace Go.Proofs.YtmbljkghkcgejaaGreat
open Go.Sl 
theorem lx : dJ Tryz.prog ⟨[], [(87, 1, 1), (89, 0, 0)]⟩ = true := by kernel_rfl
attribute [local irreducible] ab.aO ab.tk ab.ord ab.bx ab.words ab.cF ab.gF ab.eC ab.fT ab.wb ab.ins ab.bits
theorem K4 (b : Nat) (B : List Int) (at_ : Nat) (out : List Int) (free : Int) (hl : out.length < 500000000) : aD Tryz.prog 76 [.pointer (some ⟨b, 0, none⟩)] [LW b B at_ out free] (aK fun v G => ∃ q c, v = .slice q out.length c ∧ G = [Row U5 q out.length c out, LW b B at_ out free]) := by
 refine ax [(0, _)] Tryz.func76 rfl Tryz.ntmps76 rfl rfl ?_
 intro w0 F
 refine eK (fun h hh => hh) ?_
 rintro ⟨p1, c1, p2, c2⟩ _
 dsimp only
 refine rT lx 9 rfl ?_
 refine oV (de (v := .bool false) (fS Tryz.underlying71 rfl rfl) rfl) ?_
 refine rO lx 11 rfl ?_
 refine oV (ag V.eL rfl ak rfl) ?_
 refine ai (mQ p2 c2 out (Row U5 p2 out.length c2 out) (fun _ _ h => h.rd) hl) V.w6  rfl (.cons aS .nil) rfl ?_
 rintro _ _ ⟨q, c, rfl, rfl⟩
 refine rO lx 4 rfl ?_
 exact an (bu rfl) ⟨q, c, rfl, rfl⟩ ((aG (.cons aS (.cons aS (.cons ar .nil))) ao (fun w0 h (hh : cA w0 [av b 89 [.slice p1 B.length c1, .slice p2 out.length c2, .int .i64 (at_ : Int), .int .i64 free], Row U5 p1 B.length c1 B, Row U5 p2 out.length c2 out] h) => jP hh)).trans (sub (.cons ar (au .nil)) ao))
theorem IJ (b : Nat) (bs : List Int) (hl : bs.length < 500000000) : aD Tryz.prog 76 [.pointer (some ⟨b, 0, none⟩)] [WB b bs] (aK fun v G => ∃ out fr q c, af.Pk bs out fr ∧ fr < 8 ∧ v = .slice q out.length c ∧ G = [Row U5 q out.length c out]) := by
 intro w0 F w hi
 obtain ⟨⟨out, fr⟩, ⟨hpk, hf8⟩, hi2⟩ := hi.pS (fun h hh => hh)
 dsimp only at hpk hi2 hf8
 have hlen := hpk.len
 refine (K4 b [] 0 out (fr : Int) (by omega) w0 F w hi2).mono ?_
 rintro e w' ⟨G, h1, v, rfl, q, c, rfl, rfl⟩
 exact ⟨[Row U5 q out.length c out], (h1.perm (.swap _ _ _)).tail, _, rfl, out, fr, q, c, hpk, hf8, rfl, rfl⟩
theorem mw (b : Nat) (ls : List Int) (b2 : Nat) (bs : List Int) (x : Int) (hE : ab.aO ls = 0) (hb : ab.fT ls x = true) (hl : bs.length < 300000000) : aD Tryz.prog 81 [.pointer (some ⟨b, 0, none⟩), .pointer (some ⟨b2, 0, none⟩), .int .i64 x] [HC b ls, WB b2 bs] (aK fun v G => v = .bool true ∧ G = [HC b ls, WB b2 (bs ++ ab.wb ls x)]) := by
 refine ax [(0, _), (1, _), (2, _)] Tryz.func81 rfl Tryz.ntmps81 rfl rfl ?_
 intro w0 F
 obtain ⟨hV, hW⟩ := ab.cM hE
 have hws := ab.AT hV hW hb
 refine rT lx 9 rfl ?_
 refine ai (Kb b ls x) V.MW  rfl (au .nil) rfl ?_
 rintro _ _ ⟨rfl, rfl⟩
 rw [hb]
 refine rO lx 16 rfl ?_
 refine al rfl ?_
 refine oV (de (v := .bool false) (fS Tryz.underlying71 rfl rfl) rfl) ?_
 refine bN lx 15 rfl (by omega) ?_
 rw [show ab.eC ls x - 1 = ab.eC ls x - 1 - ((0 : Nat) : Int) from by omega]
 refine cx (fun (k : Nat) => [(1, .pointer (some ⟨b2, 0, none⟩)), (7, .int .i64 (ab.gF ls x)), (10, .int .i64 (ab.eC ls x - 1 - (k : Int)))]) (fun (k : Nat) => HC b ls :: WB b2 (bs ++ (ab.wb ls x).take k) :: F) (fun (k : Nat) => (k : Int) ≤ ab.eC ls x) (fun (k : Nat) => (ab.eC ls x).toNat - k) (i1 (0) ?_ (fL ln) (by show Sub _ (HC b ls :: WB b2 (bs ++ (ab.wb ls x).take 0) :: F); rw [List.take_zero, List.append_nil]; exact (sub (aE .nil) ao))) ?_
 ·exact (by omega)
 intro k
 rintro hk
 refine rL lx 7 rfl ?_
 refine aj rfl (fun h27 => ?_) (fun h27 => ?_)
 ·refine rC lx 4 rfl ?_
  have hdn := af.C1 hws.1 ((ab.eC ls x).toNat - 1 - k)
  refine rC lx 4 rfl ?_
  refine oV (dK (r := ab.gF ls x / 2 ^ ((ab.eC ls x).toNat - 1 - k)) rfl rfl (by omega) (af.mE (by omega) (by omega))) ?_
  refine ai (ld b2 (bs ++ (ab.wb ls x).take k) (ab.gF ls x / 2 ^ ((ab.eC ls x).toNat - 1 - k)) 1 (by omega) (by omega) (by rw [List.length_append, List.length_take]; omega)) V.qT  rfl (.cons ar .nil) rfl ?_
  rintro _ _ ⟨rfl, rfl⟩
  refine bN lx 8 rfl (by omega) ?_
  rw [af.FI, List.append_assoc, ab.G9 (by omega), show ab.eC ls x - 1 - (k : Int) - 1 = ab.eC ls x - 1 - ((k + 1 : Nat) : Int) from by omega]
  refine j1 (k + 1) ?_ (fL ln) (sub (.cons ar (au .nil)) ao)
  exact ⟨by omega, by omega⟩
 ·refine rC lx 11 rfl ?_
  rw [List.take_of_length_le (by rw [ab.jM]; omega)]
  exact an (bu rfl) ⟨rfl, rfl⟩ (sub (aE .nil) ao)
end Go.Proofs.YtmbljkghkcgejaaGreat
namespace Go.Sl
abbrev TK : Ec ad.aZ := ⟨109, 3, fun t => [.int .i64 t.lit, .int .i64 t.n, .int .i64 t.aL], ⟨0, 0, 0⟩, fun _ => rfl, fun _ => rfl⟩
theorem Cd {b : Nat} {w0 : World} {h : Hp} (hh : av b 89 [.slice none 0 0, .slice none 0 0, .int .i64 0, .int .i64 0] w0 h) : WB b [] w0 h :=
 ⟨([], 0), ⟨af.Kf, by decide⟩, h, fun _ => none, fun _ => .inr rfl, Hp.le_refl _, (fun _ _ e => by cases e), ⟨⟨none, 0, none, 0⟩, trivial, h, fun _ => none, fun _ => .inr rfl, Hp.le_refl _, (fun _ _ e => by cases e), hh, fun _ => none, fun _ => none, fun _ => .inl rfl, (fun _ _ e => by cases e), (fun _ _ e => by cases e), Row.nil _ _ _, fun _ => none, fun _ => none, fun _ => .inl rfl, (fun _ _ e => by cases e), (fun _ _ e => by cases e), Row.nil _ _ _, trivial⟩, trivial⟩
end Go.Sl

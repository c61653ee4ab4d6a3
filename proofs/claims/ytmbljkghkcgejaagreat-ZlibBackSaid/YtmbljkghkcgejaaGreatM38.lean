/- Walks of functions that the law reaches, and what they lean on; no conditions. -/
import Derived.Test.YtmbljkghkcgejaaGreatM30
import Derived.Test.YtmbljkghkcgejaaGreatSl22
import Derived.KernelRfl
import Derived.Test.YtmbljkghkcgejaaGreatM37
set_option linter.unusedVariables false
set_option linter.unusedSimpArgs false
set_option maxRecDepth 100000
namespace Go.Proofs.YtmbljkghkcgejaaGreat
open Go.Sl 
theorem dY : dJ Tryz.prog ⟨[], [(87, 2, 2), (89, 0, 0)]⟩ = true := by kernel_rfl
theorem mQ (p : Option Addr) (cap : Nat) (B : List Int) (R : ae) (hR : ∀ w0 h, R w0 h → bJ U5 p B.length B w0 h) (hl : B.length < 500000000) : aD Tryz.prog 40 [.slice p B.length cap] [R] (aK fun v G => ∃ q c, v = .slice q B.length c ∧ G = [Row U5 q B.length c B, R]) := by
 refine ax [(0, _)] Tryz.func40 rfl Tryz.ntmps40 rfl rfl ?_
 intro w0 F
 refine od (fun w hi => Kv (List.mem_cons_self ..) hR hi) (fun hp => ?_)
 refine rT dY 9 rfl ?_
 refine oV (DY Tryz.underlying22 rfl rfl) ?_
 refine rO dY 2 rfl ?_
 refine tb rfl (fun h4 => ?_) (fun h4 => ?_)
 ·refine rC dY 7 rfl ?_
  obtain rfl : p = none := by cases p with | none => rfl | some _ => simp at h4
  obtain rfl : B = [] := hp rfl
  exact an (bu rfl) ⟨none, 0, rfl, rfl⟩ ((cL (fun w0 => Row.nil _ _ _)).trans (sub (aE .nil) ao))
 ·refine rC dY 4 rfl ?_
  refine bP (U5) [] V.bH V.z5 rfl rfl rfl rfl rfl rfl ?_
  intro b5
  refine oV (aB rfl) ?_
  refine bQ (c := (U5)) V.bH V.z5 rfl rfl rfl rfl dg (by exact bd hR bB) (by omega) rfl ?_
  intro p7 c7
  refine rO dY 4 rfl ?_
  exact an (bu rfl) ⟨p7, c7, by rw [Nat.zero_add], by rw [Nat.zero_add, List.nil_append]⟩ (sub (aE .nil) ao)
theorem wB (b : Nat) (B : List Int) (at_ : Nat) (out : List Int) (free : Int) (hl : B.length < 500000000) (ha : at_ ≤ 8 * B.length) : aD Tryz.prog 57 [.pointer (some ⟨b, 0, none⟩)] [LW b B at_ out free] (aK fun v G => v = .int .i64 (8 * (B.length : Int) - (at_ : Int)) ∧ G = [LW b B at_ out free]) := by
 refine ax [(0, _)] Tryz.func57 rfl Tryz.ntmps57 rfl rfl ?_
 intro w0 F
 refine eK (fun h hh => hh) ?_
 rintro ⟨p1, c1, p2, c2⟩ _
 dsimp only
 refine rT dY 6 rfl ?_
 refine wN [pz 0 [] [0], pz 1 [0] [], pz 3 [1] [], pz 7 [2] [], pz 15 [3] [], pz 31 [4] [], pz 0 [] [0], pz 64 [6] [], pz 192 [7] [], pz 448 [8] [], pz 1023 [5, 9] [], pz 2047 [10] []] [⟨fun y => av b 89 [.slice p1 B.length c1, .slice p2 out.length c2, .int .i64 (at_ : Int), .int .i64 free], none, none, [3, 9]⟩, ⟨fun y => Row U5 p1 B.length c1 B, none, none, []⟩, ⟨fun y => Row U5 p2 out.length c2 out, none, none, []⟩] F V.mixed ?_
 refine nM ?_
 refine nN ?_
 refine nG V.Ge ?_
 refine nR (fun y FF hA => ag V.eL rfl ak rfl) ?_
 refine nV (fun y hA L => eF (ty' := 0) Tryz.underlying22 rfl) ?_
 refine nV (fun y hA L => vD rfl rfl wI) ?_
 refine nM ?_
 refine nN ?_
 refine nG V.AB ?_
 refine nR (fun y FF hA => ag V.s3 rfl ak rfl) ?_
 refine nV (fun y hA L => dD rfl rfl wI) ?_
 refine nA ?_
 refine aM ?_
 intro y hA
 clear hA
 refine bp ?_
 refine bW _ (.cons (d := 2) rfl (.nil _)) ?_
 refine bR (M := av b 89 [.slice p1 B.length c1, .slice p2 out.length c2, .int .i64 (at_ : Int), .int .i64 free] :: Row U5 p1 B.length c1 B :: Row U5 p2 out.length c2 out :: F) (fun _ _ h => h) ?_
 refine rC dY 1 rfl ?_
 exact an (bu rfl) ⟨rfl, rfl⟩ (aG (dU .nil) ao (fun w0 h hh => jP hh))
theorem LJ (b : Nat) (B : List Int) (at_ : Nat) (out : List Int) (free : Int) (n : Int) (hl : B.length < 500000000) (ha : at_ ≤ 8 * B.length) (hn : 0 ≤ n ∧ n ≤ 24 ∧ n ≤ 8 * (B.length : Int) - at_) : aD Tryz.prog 69 [.pointer (some ⟨b, 0, none⟩), .int .i64 n] [LW b B at_ out free] (aK fun v G => v = .tuple #[] ∧ G = [LW b B at_ out free]) := by
 refine ax [(0, _), (1, _)] Tryz.func69 rfl Tryz.ntmps69 rfl rfl ?_
 intro w0 F
 refine rT dY 3 rfl ?_
 refine oV (bA (bZ rfl rfl) (by omega)) ?_
 refine rO dY 2 rfl ?_
 refine al rfl ?_
 refine oV (bA (cB rfl rfl) (by omega)) ?_
 refine rO dY 4 rfl ?_
 refine al rfl ?_
 refine ai (wB b B at_ out free hl ha) V.gy  rfl (au .nil) rfl ?_
 rintro _ _ ⟨rfl, rfl⟩
 refine al rfl ?_
 refine oV (bA (cB rfl rfl) (by omega)) ?_
 refine rO dY 5 rfl ?_
 exact dT dN ⟨rfl, rfl⟩ (sub (au .nil) ao)
theorem Jc (b : Nat) (B : List Int) (at_ : Nat) (out : List Int) (free : Int) (n : Int) (hl : B.length < 500000000) (ha : at_ ≤ 8 * B.length) (hn : 0 ≤ n ∧ n ≤ 24 ∧ 8 * (B.length : Int) - at_ < n) : aD Tryz.prog 69 [.pointer (some ⟨b, 0, none⟩), .int .i64 n] [LW b B at_ out free] (sa fun ch G => ch = jY 91 (.agg #[]) ∧ G = [LW b B at_ out free]) := by
 refine ax [(0, _), (1, _)] Tryz.func69 rfl Tryz.ntmps69 rfl rfl ?_
 intro w0 F
 refine rT dY 3 rfl ?_
 refine oV (bA (bZ rfl rfl) (by omega)) ?_
 refine rO dY 2 rfl ?_
 refine al rfl ?_
 refine oV (bA (cB rfl rfl) (by omega)) ?_
 refine rO dY 4 rfl ?_
 refine al rfl ?_
 refine ai (wB b B at_ out free hl ha) V.gy  rfl (au .nil) rfl ?_
 rintro _ _ ⟨rfl, rfl⟩
 refine al rfl ?_
 refine oV (ck (cB rfl rfl) (by omega)) ?_
 refine rO dY 5 rfl ?_
 refine oV (eP V.MZ V.z91 rfl (cs := []) rfl) ?_
 refine oV (ux V.F1 rfl) ?_
 refine uv rfl ?_
 skip
 exact xp (G := [LW b B at_ out free]) ⟨rfl, rfl⟩ (sub (au .nil) ao)
theorem Kx (b : Nat) (B : List Int) (at_ : Nat) (out : List Int) (free : Int) (hl : B.length < 500000000) (hB : af.aY B) (ha : at_ < 8 * B.length) : aD Tryz.prog 70 [.pointer (some ⟨b, 0, none⟩)] [LW b B at_ out free] (aK fun v G => v = .int .i64 (af.dM B at_) ∧ G = [LW b B (at_ + 1) out free]) := by
 refine ax [(0, _)] Tryz.func70 rfl Tryz.ntmps70 rfl rfl ?_
 intro w0 F
 refine eK (fun h hh => hh) ?_
 rintro ⟨p1, c1, p2, c2⟩ _
 dsimp only
 have hq : U5.g B ((at_ : Int) / 8) = B.getD (at_ / 8) 0 := gE (at_ / 8) (by omega)
 have hb := hB.get (at_ / 8)
 have hd := af.wo hb.1 hb.2 (at_ % 8)
 have hb2 := af.kq B at_
 refine rT dY 6 rfl ?_
 refine wN [pz 0 [] [0], pz 1 [0] [], pz 3 [1] [], pz 7 [2] [], pz 15 [3] [], pz 0 [] [0], pz 32 [5] [], pz 96 [6] [], pz 224 [7] [], pz 480 [8] [], pz 992 [9] [], pz 2047 [4, 10] [], pz 4095 [11] [], pz 0 [] [0], pz 8192 [13] [], pz 24576 [14] [], pz 57344 [15] [], pz 122880 [16] [], pz 253952 [17] [], pz 524287 [12, 18] [], pz 1048575 [19] []] [⟨fun y => av b 89 [.slice p1 B.length c1, .slice p2 out.length c2, .int .i64 (at_ : Int), .int .i64 free], none, none, [4, 9, 17]⟩, ⟨fun y => Row U5 p1 B.length c1 B, none, none, [11, 12]⟩, ⟨fun y => Row U5 p2 out.length c2 out, none, none, []⟩] F V.mixed ?_
 refine nM ?_
 refine nN ?_
 refine nG V.tl ?_
 refine nG V.Ge ?_
 refine nR (fun y FF hA => ag V.eL rfl ak rfl) ?_
 refine nM ?_
 refine nN ?_
 refine nG V.tl ?_
 refine nG V.AB ?_
 refine nR (fun y FF hA => ag V.s3 rfl ak rfl) ?_
 refine nV (fun y hA L => ke rfl rfl (by omega) (lN (by omega) (by omega) (by omega))) ?_
 refine nR (fun y FF hA => xI V.bH (own ak)) ?_
 refine nR (fun y FF hA => xL V.s5 (own ak)) ?_
 refine nM ?_
 refine nN ?_
 refine nG V.tl ?_
 refine nG V.AB ?_
 refine nR (fun y FF hA => ag V.s3 rfl ak rfl) ?_
 refine nV (fun y hA L => ic rfl rfl (by omega) (jx (by omega))) ?_
 refine nV (fun y hA L => dK (r := B.getD (at_ / 8) 0 / 2 ^ (at_ % 8)) rfl rfl (by omega) (by rw [hq]; exact af.Jk hb.1 (by omega) (by omega))) ?_
 refine nA ?_
 refine aM ?_
 intro y hA
 clear hA
 refine bp ?_
 refine bW _ (.cons (d := 0) rfl (.cons (d := 3) rfl (.nil _))) ?_
 refine bR (M := av b 89 [.slice p1 B.length c1, .slice p2 out.length c2, .int .i64 (at_ : Int), .int .i64 free] :: Row U5 p1 B.length c1 B :: Row U5 p2 out.length c2 out :: F) (fun _ _ h => h) ?_
 refine rC dY 6 rfl ?_
 refine oV (ag V.s3 rfl ak rfl) ?_
 refine bN dY 4 rfl (by omega) ?_
 refine bM (bV V.s3 rfl rfl rfl (by exact dO) (by exact Nat.le_of_ble_eq_true rfl) rfl) ?_
 refine rO dY 5 rfl ?_
 refine oV (gu (r := af.dM B at_) rfl rfl (af.E7 hd.1 hd.2)) ?_
 refine oV (bq V.u5 Tryz.underlying3 rfl wI) ?_
 refine rO dY 4 rfl ?_
 rw [show (at_ : Int) + 1 = ((at_ + 1 : Nat) : Int) from by omega]
 exact an (bu rfl) ⟨rfl, rfl⟩ (aG (dU .nil) ao (fun w0 h hh => jP hh))
theorem fC (b : Nat) (B : List Int) (at_ : Nat) (out : List Int) (free : Int) (n : Nat) (hl : B.length < 500000000) (hB : af.aY B) (hn : n ≤ 24) (ha : at_ + n ≤ 8 * B.length) : aD Tryz.prog 56 [.pointer (some ⟨b, 0, none⟩), .int .i64 (n : Int)] [LW b B at_ out free] (aK fun v G => v = .int .i64 (af.az B at_ n) ∧ G = [LW b B (at_ + n) out free]) := by
 refine ax [(0, _), (1, _)] Tryz.func56 rfl Tryz.ntmps56 rfl rfl ?_
 intro w0 F
 refine rT dY 11 rfl ?_
 refine ai (LJ b B at_ out free n hl (by omega) (by omega)) V.LX  rfl (au .nil) rfl ?_
 rintro _ _ ⟨rfl, rfl⟩
 refine rO dY 15 rfl ?_
 refine cx (fun (k : Nat) => [(0, .pointer (some ⟨b, 0, none⟩)), (5, .int .i64 (af.az B at_ k)), (12, .int .i64 (n : Int)), (13, .int .i64 (k : Int))]) (fun (k : Nat) => LW b B (at_ + k) out free :: F) (fun (k : Nat) => k ≤ n) (fun (k : Nat) => n - k) (i1 (0) ?_ (dI ln) (sub (au .nil) ao)) ?_
 ·exact Nat.zero_le _
 intro k
 rintro hk
 refine rL dY 6 rfl ?_
 refine aj rfl (fun h14 => ?_) (fun h14 => ?_)
 ·refine rC dY 10 rfl ?_
  have hb := af.kq B (at_ + k)
  have hnb := af.aU B at_ k
  refine rC dY 3 rfl ?_
  refine ai (Kx b B (at_ + k) out free hl hB (by omega)) V.NH  rfl (au .nil) rfl ?_
  rintro _ _ ⟨rfl, rfl⟩
  refine oV (aB rfl) ?_
  refine oV (eI (r := af.dM B (at_ + k) * 2 ^ k) rfl rfl (by omega) (af.GA hb (by omega) rfl)) ?_
  refine oV (jy (r := af.az B at_ k + af.dM B (at_ + k) * 2 ^ k) rfl rfl (af.Gi hnb.1 hnb.2 hb (by omega))) ?_
  refine bN dY 8 rfl (by omega) ?_
  refine j1 (k + 1) ?_ (dI ln) (sub (au .nil) ao)
  exact ⟨by omega, by omega⟩
 ·refine rC dY 12 rfl ?_
  obtain rfl : k = n := by omega
  exact an (bu rfl) ⟨rfl, rfl⟩ (sub (au .nil) ao)
theorem gk (b : Nat) (B : List Int) (at_ : Nat) (out : List Int) (free : Int) (n : Nat) (hl : B.length < 500000000) (hB : af.aY B) (hn : n ≤ 24) (ha : at_ ≤ 8 * B.length) (hx : 8 * B.length < at_ + n) : aD Tryz.prog 56 [.pointer (some ⟨b, 0, none⟩), .int .i64 (n : Int)] [LW b B at_ out free] (sa fun ch G => ch = jY 91 (.agg #[]) ∧ G = [LW b B at_ out free]) := by
 refine ax [(0, _), (1, _)] Tryz.func56 rfl Tryz.ntmps56 rfl rfl ?_
 intro w0 F
 refine rT dY 11 rfl ?_
 refine c0 (Jc b B at_ out free n hl ha (by omega)) V.LX rfl (au .nil) ?_
 rintro _ _ ⟨rfl, rfl⟩
 refine (dz ?_)
 exact xp (G := [LW b B at_ out free]) ⟨rfl, rfl⟩ (sub (au .nil) ao)
theorem Jl (b : Nat) (B : List Int) (at_ : Nat) (out : List Int) (free : Int) (hl : B.length < 500000000) (ha : at_ ≤ 8 * B.length) : aD Tryz.prog 41 [.pointer (some ⟨b, 0, none⟩)] [LW b B at_ out free] (aK fun v G => v = .int .i64 (8 * (B.length : Int) - (at_ : Int)) ∧ G = [LW b B at_ out free]) := by
 refine ax [(0, _)] Tryz.func41 rfl Tryz.ntmps41 rfl rfl ?_
 intro w0 F
 refine rT dY 9 rfl ?_
 refine oV (de (v := .bool false) (fS Tryz.underlying71 rfl rfl) rfl) ?_
 refine rO dY 10 rfl ?_
 refine ai (wB b B at_ out free hl ha) V.gy  rfl (au .nil) rfl ?_
 rintro _ _ ⟨rfl, rfl⟩
 refine rO dY 4 rfl ?_
 exact an (bu rfl) ⟨rfl, rfl⟩ (sub (au .nil) ao)
theorem vQ (p : Option Addr) (cap : Nat) (B : List Int) (R : ae) (hR : ∀ w0 h, R w0 h → bJ U5 p B.length B w0 h) (hl : B.length < 500000000) : aD Tryz.prog 36 [.slice p B.length cap] [R] (aK fun v G => ∃ b, v = .pointer (some ⟨b, 0, none⟩) ∧ G = [LW b B 0 [] 0, R]) := by
 refine ax [(0, _)] Tryz.func36 rfl Tryz.ntmps36 rfl rfl ?_
 intro w0 F
 refine rT dY 8 rfl ?_
 refine ai (mQ p cap B R hR hl) V.w6  rfl (au .nil) rfl ?_
 rintro _ _ ⟨q, c, rfl, rfl⟩
 refine oV (eP V.Mx V.z87 rfl (cs := [.slice q B.length c, .slice none 0 0, .int .i64 0, .int .i64 0]) rfl) ?_
 refine oV (eP V.FD V.JF rfl (cs := [.slice q B.length c, .slice none 0 0, .int .i64 0, .int .i64 0]) rfl) ?_
 refine fG rfl (cs := [.slice q B.length c, .slice none 0 0, .int .i64 0, .int .i64 0]) rfl rfl ?_
 intro b7
 refine rO dY 4 rfl ?_
 exact an (bu rfl) ⟨b7, rfl, rfl⟩ ((cL (A := Row U5 none 0 0 []) (fun w0 => Row.nil _ _ _)).trans ((aG (.cons ar (.cons ar (au .nil))) ao (fun w0 h hh => jP (p1 := q) (c1 := c) (p2 := none) (c2 := 0) (B := B) (out := []) (at_ := 0) (free := 0) hh)).trans (sub (aE .nil) ao)))
end Go.Proofs.YtmbljkghkcgejaaGreat
namespace Go.Proofs.YtmbljkghkcgejaaGreat
open Go.Sl 
theorem fw : dJ Tryz.prog ⟨[], [(59, 1, 1), (59, 2, 2), (59, 3, 3)]⟩ = true := by kernel_rfl
theorem ou (b : Nat) (p : Option Addr) (cap : Nat) (B : List Int) (R : ae) (hR : ∀ w0 h, R w0 h → bJ U5 p B.length B w0 h) (at_ : Nat) (sh : Bool) (hl : B.length < 500000000) (ha : at_ ≤ 8 * B.length) : aD Tryz.prog 27 [.pointer (some ⟨b, 0, none⟩)] [av b 59 [.slice p B.length cap, .int .i64 (at_ : Int), .bool false, .bool sh], R] (aK fun v G => v = .int .i64 (8 * (B.length : Int) - (at_ : Int)) ∧ G = [av b 59 [.slice p B.length cap, .int .i64 (at_ : Int), .bool false, .bool sh], R]) := by
 refine ax [(0, _)] Tryz.func27 rfl Tryz.ntmps27 rfl rfl ?_
 intro w0 F
 refine rT fw 6 rfl ?_
 refine wN [pz 0 [] [0], pz 1 [0] [], pz 3 [1] [], pz 7 [2] [], pz 15 [3] [], pz 31 [4] [], pz 0 [] [0], pz 64 [6] [], pz 192 [7] [], pz 448 [8] [], pz 1023 [5, 9] [], pz 2047 [10] []] [⟨fun y => av b 59 [.slice p B.length cap, .int .i64 (at_ : Int), .bool false, .bool sh], none, none, [3, 9]⟩, ⟨fun y => R, none, none, []⟩] F V.mixed ?_
 refine nM ?_
 refine nN ?_
 refine nG V.FN ?_
 refine nR (fun y FF hA => ag V.eL rfl ak rfl) ?_
 refine nV (fun y hA L => eF (ty' := 0) Tryz.underlying22 rfl) ?_
 refine nV (fun y hA L => vD rfl rfl wI) ?_
 refine nM ?_
 refine nN ?_
 refine nG V.tH ?_
 refine nR (fun y FF hA => ag V.s3 rfl ak rfl) ?_
 refine nV (fun y hA L => dD rfl rfl wI) ?_
 refine nA ?_
 refine aM ?_
 intro y hA
 clear hA
 refine bp ?_
 refine bW _ (.cons (d := 2) rfl (.nil _)) ?_
 refine bR (M := av b 59 [.slice p B.length cap, .int .i64 (at_ : Int), .bool false, .bool sh] :: R :: F) (fun _ _ h => h) ?_
 refine rC fw 1 rfl ?_
 exact an (bu rfl) ⟨rfl, rfl⟩ (sub (aE .nil) ao)
theorem KP (b : Nat) (p : Option Addr) (cap : Nat) (B : List Int) (R : ae) (hR : ∀ w0 h, R w0 h → bJ U5 p B.length B w0 h) (at_ : Nat) (sh : Bool) (hl : B.length < 500000000) (hB : af.aY B) (ha : at_ < 8 * B.length) : aD Tryz.prog 43 [.pointer (some ⟨b, 0, none⟩)] [av b 59 [.slice p B.length cap, .int .i64 (at_ : Int), .bool false, .bool sh], R] (aK fun v G => v = .int .i64 (af.dM B at_) ∧ G = [av b 59 [.slice p B.length cap, .int .i64 ((at_ + 1 : Nat) : Int), .bool false, .bool sh], R]) := by
 refine ax [(0, _)] Tryz.func43 rfl Tryz.ntmps43 rfl rfl ?_
 intro w0 F
 have hq : U5.g B ((at_ : Int) / 8) = B.getD (at_ / 8) 0 := gE (at_ / 8) (by omega)
 have hb := hB.get (at_ / 8)
 have hd := af.wo hb.1 hb.2 (at_ % 8)
 have hb2 := af.kq B at_
 refine rT fw 6 rfl ?_
 refine wN [pz 0 [] [0], pz 1 [0] [], pz 3 [1] [], pz 7 [2] [], pz 0 [] [0], pz 16 [4] [], pz 48 [5] [], pz 112 [6] [], pz 240 [7] [], pz 511 [3, 8] [], pz 1023 [9] [], pz 2047 [10] []] [⟨fun y => av b 59 [.slice p B.length cap, .int .i64 (at_ : Int), .bool false, .bool sh], none, none, [3, 7]⟩, ⟨fun y => R, none, none, [9, 10]⟩] F V.mixed ?_
 refine nM ?_
 refine nN ?_
 refine nG V.FN ?_
 refine nR (fun y FF hA => ag V.eL rfl ak rfl) ?_
 refine nM ?_
 refine nN ?_
 refine nG V.tH ?_
 refine nR (fun y FF hA => ag V.s3 rfl ak rfl) ?_
 refine nV (fun y hA L => ke rfl rfl (by omega) (lN (by omega) (by omega) (by omega))) ?_
 refine nR (fun y FF hA => xI V.bH (by exact bd hR ak)) ?_
 refine nR (fun y FF hA => xL V.s5 (by exact bd hR ak)) ?_
 refine nA ?_
 refine aM ?_
 intro y hA
 clear hA
 refine bp ?_
 refine bW _ (.cons (d := 0) rfl (.cons (d := 3) rfl (.nil _))) ?_
 refine bR (M := av b 59 [.slice p B.length cap, .int .i64 (at_ : Int), .bool false, .bool sh] :: R :: F) (fun _ _ h => h) ?_
 refine rC fw 5 rfl ?_
 refine oV (ag V.s3 rfl ak rfl) ?_
 refine oV (ic rfl rfl (by omega) (jx (by omega))) ?_
 refine oV (bq V.u3 Tryz.underlying38 rfl (lr (by omega) (by omega))) ?_
 refine rO fw 9 rfl ?_
 refine oV (ag V.s4 rfl ak rfl) ?_
 refine rO fw 10 rfl ?_
 refine oV (ag V.s3 rfl ak rfl) ?_
 refine bN fw 3 rfl (by omega) ?_
 refine bM (bV V.s3 rfl rfl rfl (by exact dO) (by exact Nat.le_of_ble_eq_true rfl) rfl) ?_
 refine rO fw 3 rfl ?_
 rw [hq]
 refine rC fw 3 rfl ?_
 refine oV (dK (r := B.getD (at_ / 8) 0 / 2 ^ (at_ % 8)) rfl rfl (by omega) (af.Jk hb.1 (by omega) (by omega))) ?_
 refine oV (bq V.u5 Tryz.underlying3 rfl wI) ?_
 refine oV (gu (r := af.dM B at_) rfl rfl (af.uW hd.1 (by omega))) ?_
 refine rO fw 4 rfl ?_
 rw [show (at_ : Int) + 1 = ((at_ + 1 : Nat) : Int) from by omega]
 exact an (bu rfl) ⟨rfl, rfl⟩ (sub (aE .nil) ao)
theorem gN (b : Nat) (p : Option Addr) (cap : Nat) (B : List Int) (R : ae) (hR : ∀ w0 h, R w0 h → bJ U5 p B.length B w0 h) (at_ : Nat) (sh : Bool) (n : Nat) (hl : B.length < 500000000) (hB : af.aY B) (hn : n ≤ 24) (ha : at_ + n ≤ 8 * B.length) : aD Tryz.prog 28 [.pointer (some ⟨b, 0, none⟩), .int .i64 (n : Int)] [av b 59 [.slice p B.length cap, .int .i64 (at_ : Int), .bool false, .bool sh], R] (aK fun v G => v = .tuple #[.int .i64 (af.az B at_ n), .bool true] ∧ G = [av b 59 [.slice p B.length cap, .int .i64 ((at_ + n : Nat) : Int), .bool false, .bool sh], R]) := by
 refine ax [(0, _), (1, _)] Tryz.func28 rfl Tryz.ntmps28 rfl rfl ?_
 intro w0 F
 refine rT fw 10 rfl ?_
 refine oV (bA (bZ rfl rfl) (by omega)) ?_
 refine rO fw 2 rfl ?_
 refine al rfl ?_
 refine oV (bA (cB rfl rfl) (by omega)) ?_
 refine rO fw 3 rfl ?_
 refine al rfl ?_
 refine ai (ou b p cap B R hR at_ sh hl (by omega)) V.wh  rfl (aE .nil) rfl ?_
 rintro _ _ ⟨rfl, rfl⟩
 refine al rfl ?_
 refine oV (aB rfl) ?_
 refine al rfl ?_
 refine oV (bA (bZ rfl rfl) (by omega)) ?_
 refine rO fw 18 rfl ?_
 refine cx (fun (k : Nat) => [(0, .pointer (some ⟨b, 0, none⟩)), (1, .int .i64 (n : Int)), (6, .int .i64 (af.az B at_ k)), (7, .int .i64 (k : Int))]) (fun (k : Nat) => av b 59 [.slice p B.length cap, .int .i64 ((at_ + k : Nat) : Int), .bool false, .bool sh] :: R :: F) (fun (k : Nat) => k ≤ n) (fun (k : Nat) => n - k) (i1 (0) ?_ (dI ln) (sub (aE .nil) ao)) ?_
 ·exact Nat.zero_le _
 intro k
 rintro hk
 refine rL fw 8 rfl ?_
 refine aj rfl (fun h25 => ?_) (fun h25 => ?_)
 ·refine rC fw 9 rfl ?_
  refine oV (ag V.s4 rfl ak rfl) ?_
  refine rO fw 3 rfl ?_
  have hb := af.kq B (at_ + k)
  have hnb := af.aU B at_ k
  refine rC fw 3 rfl ?_
  refine ai (KP b p cap B R hR (at_ + k) sh hl hB (by omega)) V.Nh  rfl (aE .nil) rfl ?_
  rintro _ _ ⟨rfl, rfl⟩
  refine oV (aB rfl) ?_
  refine oV (bq V.u3 Tryz.underlying38 rfl (lr (by omega) (by omega))) ?_
  refine oV (eI (r := af.dM B (at_ + k) * 2 ^ k) rfl rfl (by omega) (af.GA hb (by omega) rfl)) ?_
  refine oV (jy (r := af.az B at_ k + af.dM B (at_ + k) * 2 ^ k) rfl rfl (af.Gi hnb.1 hnb.2 hb (by omega))) ?_
  refine bN fw 9 rfl (by omega) ?_
  refine j1 (k + 1) ?_ (dI ln) (sub (aE .nil) ao)
  exact ⟨by omega, by omega⟩
 ·refine rC fw 13 rfl ?_
  obtain rfl : k = n := by omega
  exact an (bT rfl rfl) ⟨rfl, rfl⟩ (sub (aE .nil) ao)
theorem k5 (b : Nat) (p : Option Addr) (cap : Nat) (B : List Int) (R : ae) (hR : ∀ w0 h, R w0 h → bJ U5 p B.length B w0 h) (at_ : Nat) (sh : Bool) (n : Nat) (hl : B.length < 500000000) (hB : af.aY B) (hn : n ≤ 24) (ha : at_ ≤ 8 * B.length) (hx : 8 * B.length < at_ + n) : aD Tryz.prog 28 [.pointer (some ⟨b, 0, none⟩), .int .i64 (n : Int)] [av b 59 [.slice p B.length cap, .int .i64 (at_ : Int), .bool false, .bool sh], R] (aK fun v G => v = .tuple #[.int .i64 0, .bool false] ∧ G = [av b 59 [.slice p B.length cap, .int .i64 (at_ : Int), .bool false, .bool true], R]) := by
 refine ax [(0, _), (1, _)] Tryz.func28 rfl Tryz.ntmps28 rfl rfl ?_
 intro w0 F
 refine rT fw 10 rfl ?_
 refine oV (bA (bZ rfl rfl) (by omega)) ?_
 refine rO fw 2 rfl ?_
 refine al rfl ?_
 refine oV (bA (cB rfl rfl) (by omega)) ?_
 refine rO fw 3 rfl ?_
 refine al rfl ?_
 refine ai (ou b p cap B R hR at_ sh hl (by omega)) V.wh  rfl (aE .nil) rfl ?_
 rintro _ _ ⟨rfl, rfl⟩
 refine al rfl ?_
 refine oV (aB rfl) ?_
 refine al rfl ?_
 refine oV (ck (bZ rfl rfl) (by omega)) ?_
 refine rO fw 9 rfl ?_
 refine bM (bV V.s4 rfl rfl rfl (by exact dO) (by exact Nat.le_of_ble_eq_true rfl) rfl) ?_
 refine rO fw 10 rfl ?_
 exact an (bT rfl rfl) ⟨rfl, rfl⟩ (sub (aE .nil) ao)
end Go.Proofs.YtmbljkghkcgejaaGreat

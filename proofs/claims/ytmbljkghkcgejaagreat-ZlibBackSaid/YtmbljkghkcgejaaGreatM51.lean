/- Walks of functions that the law reaches, and what they lean on; no conditions. -/
import Derived.Test.YtmbljkghkcgejaaGreatM30
import Derived.Test.YtmbljkghkcgejaaGreatSl22
import Derived.KernelRfl
import Derived.Test.YtmbljkghkcgejaaGreatM43
import Derived.Test.YtmbljkghkcgejaaGreatM33
set_option linter.unusedVariables false
set_option linter.unusedSimpArgs false
set_option maxRecDepth 100000
namespace Go.Proofs.YtmbljkghkcgejaaGreat
open Go.Sl 
theorem fi : dJ Tryz.prog ⟨[], [(59, 1, 1)]⟩ = true := by kernel_rfl
attribute [local irreducible] ab.aO ab.tk ab.ord ab.bx ab.words ab.cF aa.fP aa.bG aa.bO aa.cY aa.hL aa.hD aa.hC aa.eZ aa.told aa.bF aa.iN aa.rep aa.eo aa.dr aa.sym aa.cC af.az aa.eG aa.cT aa.one aa.eE aa.j9 aa.mf aa.ga aa.gH
theorem H7 (b : Nat) (p : Option Addr) (cap : Nat) (B : List Int) (sh : Bool) (a : Nat) (hl : B.length < 500000000) (ha : a ≤ 8 * B.length) : aD Tryz.prog 44 [.pointer (some ⟨b, 0, none⟩)] [av b 59 [.slice p B.length cap, .int .i64 (a : Int), .bool false, .bool sh]] (aK fun v G => v = .tuple #[] ∧ G = [av b 59 [.slice p B.length cap, .int .i64 ((aa.cC a) : Int), .bool false, .bool sh]]) := by
 refine ax [(0, _)] Tryz.func44 rfl Tryz.ntmps44 rfl rfl ?_
 intro w0 F
 refine rT fi 5 rfl ?_
 refine oV (ag V.s3 rfl ak rfl) ?_
 refine bN fi 1 rfl (by omega) ?_
 refine oV (ke rfl rfl (by omega) (lN (by omega) (by omega) (by omega))) ?_
 refine bN fi 3 rfl (by omega) ?_
 refine bM (bV V.s3 rfl rfl rfl (by exact dO) (by exact Nat.le_of_ble_eq_true rfl) rfl) ?_
 refine bC ?_
 rw [show ((a : Int) + 7) / 8 * 8 = ((aa.cC a : Nat) : Int) from by rw [aa.tJ]; omega]
 exact dT dN ⟨rfl, rfl⟩ (sub (au .nil) ao)
theorem HY (s : Int) (h : 257 ≤ s ∧ s < 1000) (hx : 285 < s) : aD Tryz.prog 47 [.int .i64 s] [] (aK fun v G => v = .tuple #[.int .i64 0, .int .i64 0, .bool false] ∧ G = []) := by
 refine ax [(0, _)] Tryz.func47 rfl Tryz.ntmps47 rfl rfl ?_
 intro w0 F
 refine rT fi 9 rfl ?_
 refine bP (I3) aa.pM V.aF V.z3 rfl rfl rfl rfl rfl rfl ?_
 intro b7
 refine rO fi 5 rfl ?_
 refine bP (I3) aa.pL V.aF V.z3 rfl rfl rfl rfl rfl rfl ?_
 intro b8
 refine rO fi 7 rfl ?_
 refine oV (bA (bZ rfl rfl) (by omega)) ?_
 refine rO fi 2 rfl ?_
 refine al rfl ?_
 refine oV (ck (cB rfl rfl) hx) ?_
 refine rO fi 13 rfl ?_
 exact an (dL rfl rfl rfl) ⟨rfl, rfl⟩ (sub .nil fg)
set_option maxHeartbeats 1000000 in
theorem Fo (s : Int) (h : 257 ≤ s ∧ s ≤ 285) : aD Tryz.prog 47 [.int .i64 s] [] (aK fun v G => v = .tuple #[.int .i64 (aa.j9 (s - 257)), .int .i64 (aa.ga (s - 257) : Int), .bool true] ∧ G = []) := by
 refine ax [(0, _)] Tryz.func47 rfl Tryz.ntmps47 rfl rfl ?_
 intro w0 F
 refine rT fi 9 rfl ?_
 refine bP (I3) aa.pM V.aF V.z3 rfl rfl rfl rfl rfl rfl ?_
 intro b7
 refine rO fi 5 rfl ?_
 refine bP (I3) aa.pL V.aF V.z3 rfl rfl rfl rfl rfl rfl ?_
 intro b8
 refine rO fi 7 rfl ?_
 refine oV (bA (bZ rfl rfl) (by omega)) ?_
 refine rO fi 2 rfl ?_
 refine al rfl ?_
 refine oV (bA (cB rfl rfl) (by omega)) ?_
 refine rO fi 7 rfl ?_
 have hb := aa.GS (s := s - 257) (by omega)
 have hb1 : I3.g aa.pM (s - 257) = aa.j9 (s - 257) := hb.1
 have hb2 : I3.g aa.pL (s - 257) = (aa.ga (s - 257) : Int) := hb.2
 refine wN [pz 0 [] [5], pz 0 [] [0], pz 2 [1] [], pz 7 [0, 2] [], pz 15 [3] [], pz 0 [] [6], pz 0 [] [0], pz 64 [6] [], pz 224 [5, 7] [], pz 480 [8] [], pz 31 [4] [], pz 2047 [9] [], pz 4095 [] []] [⟨fun y => Row I3 (some ⟨b8, 0, none⟩) 29 29 aa.pL, none, none, [8, 9]⟩, ⟨fun y => Row I3 (some ⟨b7, 0, none⟩) 29 29 aa.pM, none, none, [3, 4]⟩] F V.mixed ?_
 iterate 2 refine nM ?_
 refine nV (fun y hA L => dD rfl rfl wI) ?_
 refine nR (fun y FF hA => xI V.aF (own ak)) ?_
 refine nR (fun y FF hA => xL V.s3 (own ak)) ?_
 iterate 2 refine nM ?_
 refine nV (fun y hA L => dD rfl rfl wI) ?_
 refine nR (fun y FF hA => xI V.aF (own ak)) ?_
 refine nR (fun y FF hA => xL V.s3 (own ak)) ?_
 iterate 3 refine nA ?_
 refine aM ?_
 intro y hA
 clear hA
 refine bp ?_
 refine bW _ (.cons (d := 2) rfl (.cons (d := 3) rfl (.cons (d := 4) rfl (.nil _)))) ?_
 refine bR (M := Row I3 (some ⟨b8, 0, none⟩) 29 29 aa.pL :: Row I3 (some ⟨b7, 0, none⟩) 29 29 aa.pM :: F) (fun _ _ h => h) ?_
 refine bR (sub .nil (.skip (.skip .refl))) ?_
 simp only [List.nil_append]
 refine rC fi 1 rfl ?_
 rw [hb1, hb2]
 exact an (dL rfl rfl rfl) ⟨rfl, rfl⟩ (sub .nil ao)
theorem D7 (s : Int) (h : 0 ≤ s ∧ s < 1000) (hx : 29 < s) : aD Tryz.prog 48 [.int .i64 s] [] (aK fun v G => v = .tuple #[.int .i64 0, .int .i64 0, .bool false] ∧ G = []) := by
 refine ax [(0, _)] Tryz.func48 rfl Tryz.ntmps48 rfl rfl ?_
 intro w0 F
 refine rT fi 11 rfl ?_
 refine oV (bA (bZ rfl rfl) (by omega)) ?_
 refine rO fi 2 rfl ?_
 refine al rfl ?_
 refine oV (ck (cB rfl rfl) hx) ?_
 refine rO fi 13 rfl ?_
 exact an (dL rfl rfl rfl) ⟨rfl, rfl⟩ (sub .nil ao)
set_option maxHeartbeats 1000000 in
theorem Bx (s : Int) (h : 0 ≤ s ∧ s ≤ 29) : aD Tryz.prog 48 [.int .i64 s] [] (aK fun v G => v = .tuple #[.int .i64 (aa.mf s), .int .i64 (aa.gH s : Int), .bool true] ∧ G = []) := by
 refine ax [(0, _)] Tryz.func48 rfl Tryz.ntmps48 rfl rfl ?_
 intro w0 F
 refine rT fi 11 rfl ?_
 refine oV (bA (bZ rfl rfl) (by omega)) ?_
 refine rO fi 2 rfl ?_
 refine al rfl ?_
 refine oV (bA (cB rfl rfl) (by omega)) ?_
 refine rO fi 13 rfl ?_
 refine aj rfl (fun h13 => ?_) (fun h13 => ?_)
 ·refine cy fi 11 rfl (by omega) ?_
  rw [aa.uk (by omega), aa.uD (by omega), Int.add_comm 1 s]
  exact an (dL rfl rfl rfl) ⟨rfl, rfl⟩ (sub .nil ao)
 ·refine rC fi 5 rfl ?_
  refine oV (ke rfl rfl (by omega) (lN (by omega) (by omega) (by omega))) ?_
  refine bN fi 5 rfl (by omega) ?_
  obtain ⟨hk1, hk2, hk3⟩ := aa.tA (s := s) (by omega) (by omega)
  have hsh := aa.jQ (x := 2 + s % 2) (n := aa.fU s) (by omega) (by omega) (by omega) rfl
  rw [hk1]
  refine rC fi 2 rfl ?_
  refine oV (ic rfl rfl (by omega) (jx (by omega))) ?_
  refine bN fi 2 rfl (by omega) ?_
  refine oV (bq V.u3 Tryz.underlying38 rfl (lr (by omega) (by omega))) ?_
  refine oV (eI (r := (2 + s % 2) * 2 ^ aa.fU s) rfl rfl (by omega) hsh.1) ?_
  refine bN fi 8 rfl (by omega) ?_
  rw [aa.Bo (by omega), aa.vC (by omega), Int.add_comm 1 _]
  exact an (dL rfl rfl rfl) ⟨rfl, rfl⟩ (sub .nil ao)
section
variable (b2 : Nat) (ls : List Int) (b : Nat) (p : Option Addr) (cap : Nat) (B : List Int) (R : ae) (hR : ∀ w0 h, R w0 h → bJ U5 p B.length B w0 h) (sh : Bool) (a : Nat) (hE : ab.aO ls = 0) (hl : B.length < 500000000) (hB : af.aY B) (ha : a ≤ 8 * B.length)
include hR hE hl hB ha
theorem wD {s : Int} {a' : Nat} (hs : aa.sym ls B a = .ok (s, a')) : aD Tryz.prog 46 [.pointer (some ⟨b2, 0, none⟩), .pointer (some ⟨b, 0, none⟩)] [RC b2 ls, av b 59 [.slice p B.length cap, .int .i64 (a : Int), .bool false, .bool sh], R] (aK fun v G => v = .tuple #[.int .i64 s, .int .i64 0] ∧ G = [RC b2 ls, av b 59 [.slice p B.length cap, .int .i64 (a' : Int), .bool false, .bool sh], R]) := (Ca b2 ls b p cap B R hR a sh hE hl hB ha).mono fun e G h => by
 unfold aa.sym at hs
 rcases h with ⟨v, rfl, ⟨n, s', h, rfl, rfl⟩ | ⟨n, h, rfl, rfl⟩ | ⟨n, h, rfl, rfl⟩⟩
 ·rw [h] at hs; cases hs; exact ⟨_, rfl, rfl, rfl⟩
 ·rw [h] at hs; cases hs
 ·rw [h] at hs; cases hs
theorem vR {e : Int} (hs : aa.sym ls B a = .error e) : aD Tryz.prog 46 [.pointer (some ⟨b2, 0, none⟩), .pointer (some ⟨b, 0, none⟩)] [RC b2 ls, av b 59 [.slice p B.length cap, .int .i64 (a : Int), .bool false, .bool sh], R] (aK fun v G => v = .tuple #[.int .i64 0, .int .i64 e] ∧ ∃ n sh', G = [RC b2 ls, av b 59 [.slice p B.length cap, .int .i64 ((n : Nat) : Int), .bool false, .bool sh'], R]) := (Ca b2 ls b p cap B R hR a sh hE hl hB ha).mono fun e G h => by
 unfold aa.sym at hs
 rcases h with ⟨v, rfl, ⟨n, s', h, rfl, rfl⟩ | ⟨n, h, rfl, rfl⟩ | ⟨n, h, rfl, rfl⟩⟩
 ·rw [h] at hs; cases hs
 ·rw [h] at hs; cases hs; exact ⟨_, rfl, rfl, _, _, rfl⟩
 ·rw [h] at hs; cases hs; exact ⟨_, rfl, rfl, _, _, rfl⟩
end
end Go.Proofs.YtmbljkghkcgejaaGreat
namespace Go.Proofs.YtmbljkghkcgejaaGreat
open Go.Sl 
theorem aP : dJ Tryz.prog ⟨[22], []⟩ = true := by kernel_rfl
attribute [local irreducible] ab.aO ab.tk ab.ord ab.bx ab.words ab.cF aa.fP aa.bG aa.bO aa.cY aa.hL aa.hD aa.hC aa.eZ aa.told aa.bF aa.iN aa.rep aa.eo aa.dr aa.sym aa.cC af.az aa.eG aa.cT aa.one aa.eE aa.j9 aa.mf aa.ga aa.gH
def PO (b : Nat) (p : Option Addr) (cap : Nat) (B : List Int) (R : ae) : Except Int aa.St → Value → List ae → Prop
 | .error e, v, G => v = .tuple #[.slice none 0 0, .int .i64 e] ∧ G = [R]
 | .ok S, v, G => ∃ q c sh, v = .tuple #[.slice q S.out.length c, .int .i64 0] ∧ G = [av b 59 [.slice p B.length cap, .int .i64 (S.at_ : Int), .bool false, .bool sh], R, Row U5 q S.out.length c S.out]
theorem oz (p : Option Addr) (n cap : Nat) (ls : List Int) (R : ae) (hn : n = ls.length) (hR : ∀ w0 h, R w0 h → bJ I3 p ls.length ls w0 h) (hE : ab.aO ls = 0) : aD Tryz.prog 45 [.slice p n cap] [R] (aK fun v G => ∃ b, v = .tuple #[.pointer (some ⟨b, 0, none⟩), .int .i64 0] ∧ G = [RC b ls, R]) := by subst hn; exact CV p cap ls R hR hE
theorem sO (p : Option Addr) (n cap : Nat) (ls : List Int) (R : ae) (hn : n = ls.length) (hR : ∀ w0 h, R w0 h → bJ I3 p ls.length ls w0 h) (hE : ab.aO ls ≠ 0) : aD Tryz.prog 45 [.slice p n cap] [R] (aK fun v G => v = .tuple #[.pointer none, .int .i64 (ab.aO ls)] ∧ G = [R]) := by subst hn; exact E6 p cap ls R hR hE
set_option maxHeartbeats 4000000 in
theorem wH (b : Nat) (p : Option Addr) (cap : Nat) (B : List Int) (R : ae) (hR : ∀ w0 h, R w0 h → bJ U5 p B.length B w0 h) (sh : Bool) (S : aa.St) (mo : Int) (po : Option Addr) (co : Nat) (hl : B.length < 500000000) (hB : af.aY B) (hm : 0 ≤ mo ∧ mo < 500000000) (hok : aa.Ok B mo S) (o : Except Int aa.St) (hk1 : S.kind = -1) (hc1 : S.aq = 0) (he1 : S.ended = false) (hr1 : S.at_ + 3 ≤ 8 * B.length) (h01 : af.az B (S.at_ + 1) 2 = 0) (hbo : aa.BO B mo S o) : aD Tryz.prog 29 [.pointer (some ⟨b, 0, none⟩), .slice po S.out.length co, .int .i64 mo] [av b 59 [.slice p B.length cap, .int .i64 ((S.at_ + 3) : Int), .bool false, .bool sh], R, Row U5 po S.out.length co S.out] (aK fun v G => PO b p cap B R o v G) := by
 refine ax [(0, _), (1, _), (2, _)] Tryz.func29 rfl Tryz.ntmps29 rfl rfl ?_
 intro w0 F
 have hal := aa.I6 (n := B.length) hr1
 have hb1 := af.aU B (aa.cC (S.at_ + 3)) 16
 have hb2 := af.aU B (aa.cC (S.at_ + 3) + 16) 16
 refine rT aP 9 rfl ?_
 refine ai (H7 b p cap B sh (S.at_ + 3) hl hr1) V.NU  rfl (au .nil) rfl ?_
 rintro _ _ ⟨rfl, rfl⟩
 refine rO aP 6 rfl ?_
 refine ai (ou b p cap B R hR (aa.cC (S.at_ + 3)) sh hl (by omega)) V.wh  rfl (aE .nil) rfl ?_
 rintro _ _ ⟨rfl, rfl⟩
 refine rO aP 3 rfl ?_
 refine aj rfl (fun h19 => ?_) (fun h19 => ?_)
 ·refine rC aP 8 rfl ?_
  obtain rfl := hbo.err (aa.tG hr1 h01 (by omega))
  exact an (bT rfl rfl) ⟨rfl, rfl⟩ (sub (.cons ar .nil) fg)
 ·refine rC aP 5 rfl ?_
  refine ai (gN b p cap B R hR (aa.cC (S.at_ + 3)) sh 16 hl hB (by omega) (by omega)) V.jB  rfl (aE .nil) rfl ?_
  rintro _ _ ⟨rfl, rfl⟩
  refine rO aP 10 rfl ?_
  refine ai (gN b p cap B R hR (aa.cC (S.at_ + 3) + 16) sh 16 hl hB (by omega) (by omega)) V.jB  rfl (aE .nil) rfl ?_
  rintro _ _ ⟨rfl, rfl⟩
  refine bN aP 16 rfl (by omega) ?_
  refine aj rfl (fun h33 => ?_) (fun h33 => ?_)
  ·refine rC aP 8 rfl ?_
   obtain rfl := hbo.err (aa.wR hr1 h01 (by omega) (by omega))
   exact an (bT rfl rfl) ⟨rfl, rfl⟩ (sub (.cons ar .nil) fg)
  ·refine rC aP 4 rfl ?_
   have hbl := hbo.go (aa.qD hr1 h01 (by omega) (by omega))
   have hok1 := (aa.dZ hB hok ((aa.jd (by omega) hk1).trans (aa.qD hr1 h01 (by omega) (by omega)))).ok
   refine rC aP 5 rfl ?_
   refine kW (fun (s : aa.St) (i : Nat) (q : Option Addr) (c : Nat) => [(0, .pointer (some ⟨b, 0, none⟩)), (1, .slice q s.out.length c), (2, .int .i64 mo), (8, .int .i64 (af.az B (aa.cC (S.at_ + 3)) 16)), (12, .int .i64 (i : Int))]) (fun (s : aa.St) (i : Nat) (q : Option Addr) (c : Nat) => av b 59 [.slice p B.length cap, .int .i64 (s.at_ : Int), .bool false, .bool sh] :: R :: Row U5 q s.out.length c s.out :: F) (fun (s : aa.St) (i : Nat) (q : Option Addr) (c : Nat) => aa.Bl B mo s o ∧ aa.Ok B mo s ∧ s.kind = 0 ∧ s.aq = 0 ∧ (s.left : Int) + (i : Int) = (af.az B (aa.cC (S.at_ + 3)) 16)) (fun (s : aa.St) (i : Nat) (q : Option Addr) (c : Nat) => s.left) (i4 ({ S with at_ := (aa.cC (S.at_ + 3) + 32), kind := 0, left := (af.az B (aa.cC (S.at_ + 3)) 16).toNat, last := decide (af.az B S.at_ 1 = 1) }) (0) (po) (co) ?_ (aX ln) (sub (dU .nil) ao)) ?_
   ·exact ⟨hbl, hok1, rfl, hc1, by show (((af.az B (aa.cC (S.at_ + 3)) 16).toNat : Nat) : Int) + ((0 : Nat) : Int) = _; omega⟩
   intro s i q c
   rintro ⟨hbs, hok2, hk, hcs, hli⟩
   refine rL aP 8 rfl ?_
   refine aj rfl (fun h36 => ?_) (fun h36 => ?_)
   ·refine rC aP 6 rfl ?_
    have hat := hok2.at_
    have hro := hok2.room
    have hlf := hok2.left
    have hnb := af.aU B s.at_ 8
    have hl0 : ¬ s.left = 0 := by omega
    refine rC aP 2 rfl ?_
    refine ai (ou b p cap B R hR s.at_ sh hl (by omega)) V.wh  rfl (aE .nil) rfl ?_
    rintro _ _ ⟨rfl, rfl⟩
    refine rO aP 3 rfl ?_
    refine aj rfl (fun h41 => ?_) (fun h41 => ?_)
    ·refine rC aP 13 rfl ?_
     obtain rfl := hbs.err (fun h => absurd (hk.symm.trans h) (by decide)) (aa.qB (by omega) (fun h => absurd (hk.symm.trans h) (by decide)) hk hl0 (by omega))
     exact an (bT rfl rfl) ⟨rfl, rfl⟩ (sub (.cons ar .nil) fg)
    ·refine rC aP 11 rfl ?_
     refine aj rfl (fun h45 => ?_) (fun h45 => ?_)
     ·refine rC aP 13 rfl ?_
      obtain rfl := hbs.err (fun h => absurd (hk.symm.trans h) (by decide)) ((aa.oG (by omega) (fun h => absurd (hk.symm.trans h) (by decide)) hk hl0 (by omega)).trans (aa.kx (by show ¬ (s.out.length : Int) < mo; omega)))
      exact an (bT rfl rfl) ⟨rfl, rfl⟩ (sub (.cons ar .nil) fg)
     ·refine rC aP 5 rfl ?_
      refine ai (gN b p cap B R hR s.at_ sh 8 hl hB (by omega) (by omega)) V.jB  rfl (aE .nil) rfl ?_
      rintro _ _ ⟨rfl, rfl⟩
      refine rO aP 10 rfl ?_
      refine oV (bq V.u3 Tryz.underlying5 rfl (lE (by omega) (by omega))) ?_
      refine bP (U5) [(af.az B s.at_ 8)] V.bH V.z5 rfl rfl rfl rfl rfl rfl ?_
      intro IP
      refine bQ (c := (U5)) V.bH V.z5 rfl rfl rfl rfl dC (own ak) (by omega) rfl ?_
      intro p55 c55
      refine bN aP 9 rfl (by omega) ?_
      have hone := aa.w4 (B := B) (mo := mo) (s := s) (by omega) (fun h => absurd (hk.symm.trans h) (by decide)) hk hl0 (by omega) (by omega)
      have hg2 := aa.dZ hB hok2 hone
      rw [show s.out.length + 1 = (s.out ++ [(af.az B s.at_ 8)]).length from by simp]
      refine j4 ({ s with at_ := s.at_ + 8, left := s.left - 1, out := s.out ++ [(af.az B s.at_ 8)] }) (i + 1) (_) (_) ?_ (aX ln) (sub (.cons aS (.cons aS (au .nil))) cw)
      exact ⟨⟨hbs.next (fun h => absurd (hk.symm.trans h) (by decide)) hone, hg2.ok, hk, hcs, by show ((s.left - 1 : Nat) : Int) + ((i + 1 : Nat) : Int) = _; omega⟩, by show s.left - 1 < s.left; omega⟩
   ·refine rC aP 6 rfl ?_
    have hl0 : s.left = 0 := by omega
    refine rC aP 7 rfl ?_
    have hone := aa.oy (B := B) (mo := mo) (s := s) (by omega) (fun h => absurd (hk.symm.trans h) (by decide)) hk hl0
    obtain rfl := (hbs.next (fun h => absurd (hk.symm.trans h) (by decide)) hone).end_ rfl
    exact an (bT rfl rfl) ⟨q, c, sh, rfl, rfl⟩ (sub (dU .nil) ao)
set_option maxHeartbeats 1000000 in
theorem Iq  : aD Tryz.prog 30 [] [] (aK fun v G => ∃ x y, v = .tuple #[.pointer (some ⟨x, 0, none⟩), .pointer (some ⟨y, 0, none⟩)] ∧ G = [RC x aa.bF, RC y aa.fu]) := by
 refine ax [] Tryz.func30 rfl Tryz.ntmps30 rfl rfl ?_
 intro w0 F
 refine rT aP 19 rfl ?_
 refine eW (Row I3 none 0 0 []) (Row.nil _ _ _) ?_
 refine eJ (fun (k : Nat) (q : Option Addr) (c : Nat) => [(2, .slice q k c), (3, .slice none 0 0), (4, .int .i64 (k : Int))]) (fun (k : Nat) (q : Option Addr) (c : Nat) => Row I3 q k c (aa.bF.take k) :: F) (fun (k : Nat) (q : Option Addr) (c : Nat) => k ≤ 288) (fun (k : Nat) (q : Option Addr) (c : Nat) => 288 - k) (i3 (0) (none) (0) ?_ (fL ln) (sub (au .nil) ao)) ?_
 ·exact Nat.zero_le _
 intro k q c
 rintro hk
 refine rL aP 7 rfl ?_
 refine aj rfl (fun h11 => ?_) (fun h11 => ?_)
 ·refine rC aP 12 rfl ?_
  refine aj rfl (fun h17 => ?_) (fun h17 => ?_)
  ·refine rC aP 2 rfl ?_
   refine bP (I3) [8] V.aF V.z3 rfl rfl rfl rfl rfl rfl ?_
   intro r3
   refine bQ (c := (I3)) V.aF V.z3 rfl rfl rfl rfl ar (own ak) (by omega) rfl ?_
   intro p22 c22
   refine bN aP 10 rfl (by omega) ?_
   (rw [aa.Jp (k := k) (by omega)]; refine j3 (k + 1) _ _ ?_ (fL ln) (sub (au .nil) cw); exact ⟨by omega, by omega⟩)
  ·refine rC aP 7 rfl ?_
   refine aj rfl (fun h23 => ?_) (fun h23 => ?_)
   ·refine rC aP 2 rfl ?_
    refine bP (I3) [9] V.aF V.z3 rfl rfl rfl rfl rfl rfl ?_
    intro wh
    refine bQ (c := (I3)) V.aF V.z3 rfl rfl rfl rfl ar (own ak) (by omega) rfl ?_
    intro p28 c28
    refine bN aP 10 rfl (by omega) ?_
    (rw [aa.IV (k := k) (by omega)]; refine j3 (k + 1) _ _ ?_ (fL ln) (sub (au .nil) cw); exact ⟨by omega, by omega⟩)
   ·refine rC aP 7 rfl ?_
    refine aj rfl (fun h29 => ?_) (fun h29 => ?_)
    ·refine rC aP 2 rfl ?_
     refine bP (I3) [7] V.aF V.z3 rfl rfl rfl rfl rfl rfl ?_
     intro LV
     refine bQ (c := (I3)) V.aF V.z3 rfl rfl rfl rfl ar (own ak) (by omega) rfl ?_
     intro p34 c34
     refine bN aP 10 rfl (by omega) ?_
     (rw [aa.JG (k := k) (by omega)]; refine j3 (k + 1) _ _ ?_ (fL ln) (sub (au .nil) cw); exact ⟨by omega, by omega⟩)
    ·refine rC aP 2 rfl ?_
     refine bP (I3) [8] V.aF V.z3 rfl rfl rfl rfl rfl rfl ?_
     intro eU
     refine bQ (c := (I3)) V.aF V.z3 rfl rfl rfl rfl ar (own ak) (by omega) rfl ?_
     intro p16 c16
     refine bN aP 10 rfl (by omega) ?_
     (rw [aa.H9 (k := k) (by omega)]; refine j3 (k + 1) _ _ ?_ (fL ln) (sub (au .nil) cw); exact ⟨by omega, by omega⟩)
 ·refine rC aP 12 rfl ?_
  refine eW (Row I3 none 0 0 (List.replicate 0 5)) (Row.nil _ _ _) ?_
  refine eJ (fun (m : Nat) (q2 : Option Addr) (c2 : Nat) => [(2, .slice q k c), (3, .slice q2 m c2), (5, .int .i64 (m : Int))]) (fun (m : Nat) (q2 : Option Addr) (c2 : Nat) => Row I3 q2 m c2 (List.replicate m 5) :: Row I3 q k c (aa.bF.take k) :: F) (fun (m : Nat) (q2 : Option Addr) (c2 : Nat) => m ≤ 32) (fun (m : Nat) (q2 : Option Addr) (c2 : Nat) => 32 - m) (i3 (0) (none) (0) ?_ (fL ln) (sub (aE .nil) ao)) ?_
  ·exact Nat.zero_le _
  intro m q2 c2
  rintro hm
  refine rL aP 7 rfl ?_
  refine aj rfl (fun h36 => ?_) (fun h36 => ?_)
  ·refine rC aP 6 rfl ?_
   refine bP (I3) [5] V.aF V.z3 rfl rfl rfl rfl rfl rfl ?_
   intro w6
   refine bQ (c := (I3)) V.aF V.z3 rfl rfl rfl rfl ar (own ak) (by omega) rfl ?_
   intro p41 c41
   refine bN aP 9 rfl (by omega) ?_
   rw [← List.replicate_succ']
   refine j3 (m + 1) (_) (_) ?_ (fL ln) (sub (au (.cons ar .nil)) cw)
   exact ⟨by omega, by omega⟩
  ·refine rC aP 6 rfl ?_
   obtain rfl : m = 32 := by omega
   obtain rfl : k = 288 := by omega
   rw [show (aa.bF.take 288) = aa.bF from List.take_of_length_le (by rw [aa.gL]; decide), show List.replicate 32 5 = aa.fu from rfl]
   refine rC aP 2 rfl ?_
   refine ai (oz q 288 c aa.bF (Row I3 q 288 c aa.bF) aa.gL.symm (fun _ _ hh => kz aa.gL.symm hh) aa.kU) V.r9  rfl (.cons ar .nil) rfl ?_
   rintro _ _ ⟨x, rfl, rfl⟩
   refine rO aP 10 rfl ?_
   refine ai (oz q2 32 c2 aa.fu (Row I3 q2 32 c2 aa.fu) aa.nv.symm (fun _ _ hh => kz aa.nv.symm hh) aa.lX) V.r9  rfl (.cons aS .nil) rfl ?_
   rintro _ _ ⟨z, rfl, rfl⟩
   refine rO aP 16 rfl ?_
   exact an (bT rfl rfl) ⟨x, z, rfl, rfl⟩ (sub (.cons aS (au .nil)) fg)
set_option maxHeartbeats 8000000 in
theorem rp (b : Nat) (p : Option Addr) (cap : Nat) (B : List Int) (R : ae) (hR : ∀ w0 h, R w0 h → bJ U5 p B.length B w0 h) (sh : Bool) (S : aa.St) (mo : Int) (po : Option Addr) (co : Nat) (hl : B.length < 500000000) (hB : af.aY B) (hm : 0 ≤ mo ∧ mo < 500000000) (hok : aa.Ok B mo S) (o : Except Int aa.St) (l d : Nat) (hkp : 0 < S.kind) (hc1 : S.aq = 0) (he1 : S.ended = false) (hbo : aa.Bl B mo S o) : aD Tryz.prog 31 [.pointer (some ⟨b, 0, none⟩), .pointer (some ⟨l, 0, none⟩), .pointer (some ⟨d, 0, none⟩), .slice po S.out.length co, .int .i64 mo] [av b 59 [.slice p B.length cap, .int .i64 (S.at_ : Int), .bool false, .bool sh], R, RC l S.lits, RC d S.cH, Row U5 po S.out.length co S.out] (aK fun v G => PO b p cap B R o v G) := by
 refine ax [(0, _), (1, _), (2, _), (3, _), (4, _)] Tryz.func31 rfl Tryz.ntmps31 rfl rfl ?_
 intro w0 F
 obtain ⟨hE1, hE2, hz1, hz2⟩ := hok.zX hkp
 have hll := aa.pg hE1
 have hdl := aa.pg hE2
 refine rT aP 7 rfl ?_
 refine eJ (fun (s : aa.St) (q : Option Addr) (c : Nat) => [(0, .pointer (some ⟨b, 0, none⟩)), (1, .pointer (some ⟨l, 0, none⟩)), (2, .pointer (some ⟨d, 0, none⟩)), (3, .slice q s.out.length c), (4, .int .i64 mo)]) (fun (s : aa.St) (q : Option Addr) (c : Nat) => av b 59 [.slice p B.length cap, .int .i64 (s.at_ : Int), .bool false, .bool sh] :: R :: RC l S.lits :: RC d S.cH :: Row U5 q s.out.length c s.out :: F) (fun (s : aa.St) (q : Option Addr) (c : Nat) => aa.Bl B mo s o ∧ aa.Ok B mo s ∧ s.kind = S.kind ∧ s.aq = 0 ∧ s.lits = S.lits ∧ s.cH = S.cH) (fun (s : aa.St) (q : Option Addr) (c : Nat) => aa.mu B s) (i3 (S) (po) (co) ?_ (aX ln) (sub (lF .nil) ao)) ?_
 ·exact ⟨hbo, hok, rfl, hc1, rfl, rfl⟩
 intro s q c
 rintro ⟨hbs, hoks, hk, hcs, hlt, hdt⟩
 refine rL aP 1 rfl ?_
 rcases (aa.oJ (B := B) (ls := S.lits) (a := s.at_) hE1 hz1) with ⟨e, hs⟩ | ⟨sy, a1, hs, hy0, hy1, ha0, ha1⟩
 ·refine rC aP 1 rfl ?_
  have hat := hoks.at_
  have hro := hoks.room
  refine rC aP 3 rfl ?_
  refine ai (vR l S.lits b p cap B R hR sh s.at_ hE1 hl hB hat hs) V.zk  rfl (.cons aS (aE .nil)) rfl ?_
  rintro _ _ ⟨rfl, n9, sh9, rfl⟩
  refine rO aP 11 rfl ?_
  refine oV (ck (cI rfl rfl) (aa.oM hs)) ?_
  refine rO aP 15 rfl ?_
  obtain rfl := hbs.err (by omega) ((aa.iw (by omega) (by omega) (by omega)).trans (aa.rI (by rw [hlt]; exact hs)))
  exact an (bT rfl rfl) ⟨rfl, rfl⟩ (sub (.cons aS .nil) kT)
 ·refine rC aP 1 rfl ?_
  have hat := hoks.at_
  have hro := hoks.room
  refine rC aP 3 rfl ?_
  refine ai (wD l S.lits b p cap B R hR sh s.at_ hE1 hl hB hat hs) V.zk  rfl (.cons aS (aE .nil)) rfl ?_
  rintro _ _ ⟨rfl, rfl⟩
  refine rO aP 11 rfl ?_
  refine oV (bA (cI rfl rfl) (by decide)) ?_
  refine rO aP 12 rfl ?_
  refine aj rfl (fun h31 => ?_) (fun h31 => ?_)
  ·refine rC aP 12 rfl ?_
   have hone := (aa.iw (B := B) (mo := mo) (s := s) (by omega) (by omega) (by omega)).trans (aa.lS (B := B) (most := mo) (s := s) (by rw [hlt]; exact hs) (by omega))
   obtain rfl := (hbs.next (by omega) hone).end_ rfl
   exact an (bT rfl rfl) ⟨q, c, sh, rfl, rfl⟩ (sub (.cons ar (.cons ar (.cons aS .nil))) fg)
  ·refine rC aP 9 rfl ?_
   refine aj rfl (fun h34 => ?_) (fun h34 => ?_)
   ·refine rC aP 9 rfl ?_
    refine aj rfl (fun h38 => ?_) (fun h38 => ?_)
    ·refine rC aP 12 rfl ?_
     obtain rfl := hbs.err (by omega) ((aa.iw (by omega) (by omega) (by omega)).trans ((aa.kp (by rw [hlt]; exact hs) (by omega)).trans (aa.kx (by show ¬ (s.out.length : Int) < mo; omega))))
     exact an (bT rfl rfl) ⟨rfl, rfl⟩ (sub (.cons aS .nil) kT)
    ·refine rC aP 6 rfl ?_
     refine oV (bq V.u3 Tryz.underlying5 rfl (lE (by omega) (by omega))) ?_
     refine bP (U5) [sy] V.bH V.z5 rfl rfl rfl rfl rfl rfl ?_
     intro Me
     refine bQ (c := (U5)) V.bH V.z5 rfl rfl rfl rfl qy (own ak) (by omega) rfl ?_
     intro p43 c43
     refine rO aP 6 rfl ?_
     (have hone := (aa.iw (B := B) (mo := mo) (s := s) (by omega) (by omega) (by omega)).trans ((aa.kp (by rw [hlt]; exact hs) (by omega)).trans (aa.kR (by show (s.out.length : Int) < mo; omega))); have hg1 := aa.dZ hB hoks hone; rw [show s.out.length + 1 = (s.out ++ [sy]).length from by simp]; refine j3 ({ s with at_ := a1, out := s.out ++ [sy] }) (_) (_) ?_ (aX ln) (sub (.cons dC (.cons dC (.cons aS (.cons aS (au .nil))))) cw); exact ⟨⟨hbs.next (by omega) hone, hg1.ok, hk, hcs, hlt, hdt⟩, hg1.less⟩)
   ·refine rC aP 2 rfl ?_
    rcases (Nat.lt_or_ge 285 sy.toNat) with hsy | hsy
    ·refine rC aP 3 rfl ?_
     refine ai (HY sy (by omega) (by omega)) V.L0  rfl .nil rfl ?_
     rintro _ _ ⟨rfl, rfl⟩
     refine rO aP 28 rfl ?_
     obtain rfl := hbs.err (by omega) ((aa.iw (by omega) (by omega) (by omega)).trans (aa.pF (by rw [hlt]; exact hs) (by omega) (aa.wQ (by omega))))
     exact an (bT rfl rfl) ⟨rfl, rfl⟩ (sub (.cons aS .nil) kT)
    ·refine rC aP 3 rfl ?_
     refine ai (Fo sy (by omega)) V.L0  rfl .nil rfl ?_
     rintro _ _ ⟨rfl, rfl⟩
     refine rO aP 19 rfl ?_
     rcases (Nat.lt_or_ge (8 * B.length) (a1 + aa.ga (sy - 257))) with hx1 | hx1
     ·refine rC aP 1 rfl ?_
      have hlb := aa.Cw (s := sy - 257) (by omega)
      have hnl := af.aU B a1 (aa.ga (sy - 257))
      have hpl := af.ig (show (aa.ga (sy - 257)) ≤ 24 by omega)
      refine rC aP 3 rfl ?_
      refine ai (k5 b p cap B R hR a1 sh (aa.ga (sy - 257)) hl hB (by omega) (by omega) (by omega)) V.jB  rfl (.cons ar (.cons ar .nil)) rfl ?_
      rintro _ _ ⟨rfl, rfl⟩
      refine rO aP 26 rfl ?_
      obtain rfl := hbs.err (by omega) ((aa.iw (by omega) (by omega) (by omega)).trans (aa.pF (by rw [hlt]; exact hs) (by omega) (aa.HQ (by omega) (by omega))))
      exact an (bT rfl rfl) ⟨rfl, rfl⟩ (sub (.cons ar .nil) kT)
     ·refine rC aP 1 rfl ?_
      have hlb := aa.Cw (s := sy - 257) (by omega)
      have hnl := af.aU B a1 (aa.ga (sy - 257))
      have hpl := af.ig (show (aa.ga (sy - 257)) ≤ 24 by omega)
      refine rC aP 3 rfl ?_
      refine ai (gN b p cap B R hR a1 sh (aa.ga (sy - 257)) hl hB (by omega) (by omega)) V.jB  rfl (.cons ar (.cons ar .nil)) rfl ?_
      rintro _ _ ⟨rfl, rfl⟩
      refine bN aP 25 rfl (by omega) ?_
      rcases (aa.oJ (B := B) (ls := S.cH) (a := (a1 + aa.ga (sy - 257))) hE2 hz2) with ⟨e, hs2⟩ | ⟨dy, a3, hs2, hd0, hd1, ha2, ha3⟩
      ·refine rC aP 1 rfl ?_
       obtain ⟨n, hn⟩ : ∃ n : Nat, (aa.j9 (sy - 257)) + af.az B a1 (aa.ga (sy - 257)) = (n : Int) := ⟨_, (Int.toNat_of_nonneg (by omega)).symm⟩
       rw [hn]
       have hle := aa.zM (by omega) hx1 hn
       refine rC aP 3 rfl ?_
       refine ai (vR d S.cH b p cap B R hR sh (a1 + aa.ga (sy - 257)) hE2 hl hB (by omega) hs2) V.zk  rfl (.cons dC (aE .nil)) rfl ?_
       rintro _ _ ⟨rfl, n9, sh9, rfl⟩
       refine rO aP 11 rfl ?_
       refine oV (ck (cI rfl rfl) (aa.oM hs2)) ?_
       refine rO aP 15 rfl ?_
       obtain rfl := hbs.err (by omega) ((aa.iw (by omega) (by omega) (by omega)).trans (aa.nT (by rw [hlt]; exact hs) (by omega) hle (by rw [hdt]; exact aa.xW hs2)))
       exact an (bT rfl rfl) ⟨rfl, rfl⟩ (sub (.cons aS .nil) kT)
      ·refine rC aP 1 rfl ?_
       obtain ⟨n, hn⟩ : ∃ n : Nat, (aa.j9 (sy - 257)) + af.az B a1 (aa.ga (sy - 257)) = (n : Int) := ⟨_, (Int.toNat_of_nonneg (by omega)).symm⟩
       rw [hn]
       have hle := aa.zM (by omega) hx1 hn
       refine rC aP 3 rfl ?_
       refine ai (wD d S.cH b p cap B R hR sh (a1 + aa.ga (sy - 257)) hE2 hl hB (by omega) hs2) V.zk  rfl (.cons dC (aE .nil)) rfl ?_
       rintro _ _ ⟨rfl, rfl⟩
       refine rO aP 11 rfl ?_
       refine oV (bA (cI rfl rfl) (by decide)) ?_
       refine rO aP 5 rfl ?_
       rcases (Nat.lt_or_ge 29 dy.toNat) with hdy | hdy
       ·refine rC aP 3 rfl ?_
        refine ai (D7 dy (by omega) (by omega)) V.LY  rfl .nil rfl ?_
        rintro _ _ ⟨rfl, rfl⟩
        refine rO aP 28 rfl ?_
        obtain rfl := hbs.err (by omega) ((aa.iw (by omega) (by omega) (by omega)).trans (aa.nT (by rw [hlt]; exact hs) (by omega) hle (by rw [hdt]; exact aa.uB hs2 (by omega))))
        exact an (bT rfl rfl) ⟨rfl, rfl⟩ (sub (.cons aS .nil) kT)
       ·refine rC aP 3 rfl ?_
        refine ai (Bx dy (by omega)) V.LY  rfl .nil rfl ?_
        rintro _ _ ⟨rfl, rfl⟩
        refine rO aP 19 rfl ?_
        rcases (Nat.lt_or_ge (8 * B.length) (a3 + aa.gH dy)) with hx2 | hx2
        ·refine rC aP 1 rfl ?_
         have hdb := aa.Dy (s := dy) (by omega)
         have hnd := af.aU B a3 (aa.gH dy)
         have hpd := af.ig (show (aa.gH dy) ≤ 24 by omega)
         refine rC aP 3 rfl ?_
         refine ai (k5 b p cap B R hR a3 sh (aa.gH dy) hl hB (by omega) (by omega) (by omega)) V.jB  rfl (.cons ar (.cons ar .nil)) rfl ?_
         rintro _ _ ⟨rfl, rfl⟩
         refine rO aP 26 rfl ?_
         obtain rfl := hbs.err (by omega) ((aa.iw (by omega) (by omega) (by omega)).trans (aa.nT (by rw [hlt]; exact hs) (by omega) hle (by rw [hdt]; exact aa.EM hs2 (by omega) (by omega))))
         exact an (bT rfl rfl) ⟨rfl, rfl⟩ (sub (.cons ar .nil) kT)
        ·refine rC aP 1 rfl ?_
         have hdb := aa.Dy (s := dy) (by omega)
         have hnd := af.aU B a3 (aa.gH dy)
         have hpd := af.ig (show (aa.gH dy) ≤ 24 by omega)
         refine rC aP 3 rfl ?_
         refine ai (gN b p cap B R hR a3 sh (aa.gH dy) hl hB (by omega) (by omega)) V.jB  rfl (.cons ar (.cons ar .nil)) rfl ?_
         rintro _ _ ⟨rfl, rfl⟩
         refine bN aP 27 rfl (by omega) ?_
         obtain ⟨f, hf⟩ : ∃ f : Nat, (aa.mf dy) + af.az B a3 (aa.gH dy) = (f : Int) := ⟨_, (Int.toNat_of_nonneg (by omega)).symm⟩
         rw [hf]
         have haw := aa.FC hs2 (by omega) hx2 hf
         have hn4 := aa.uI (by omega) ha1 hle
         refine rC aP 7 rfl ?_
         refine aj rfl (fun h94 => ?_) (fun h94 => ?_)
         ·refine rC aP 11 rfl ?_
          obtain rfl := hbs.err (by omega) ((aa.iw (by omega) (by omega) (by omega)).trans (aa.rF (by rw [hlt]; exact hs) (by omega) hle (by rw [hdt]; exact haw) (by omega)))
          exact an (bT rfl rfl) ⟨rfl, rfl⟩ (sub (.cons ar .nil) kT)
         ·refine rC aP 3 rfl ?_
          have hone := (aa.iw (B := B) (mo := mo) (s := s) (by omega) (by omega) (by omega)).trans (aa.pQ (by rw [hlt]; exact hs) (by omega) hle (by rw [hdt]; exact haw) (by omega))
          rw [Int.toNat_natCast, Int.toNat_natCast] at hone
          have hg1 := aa.dZ hB hoks hone
          have hb5 := hbs.next (by omega) hone
          refine rC aP 5 rfl ?_
          refine kW (fun (s5 : aa.St) (i : Nat) (q5 : Option Addr) (c5 : Nat) => [(0, .pointer (some ⟨b, 0, none⟩)), (1, .pointer (some ⟨l, 0, none⟩)), (2, .pointer (some ⟨d, 0, none⟩)), (3, .slice q5 s5.out.length c5), (4, .int .i64 mo), (14, .int .i64 (n : Int)), (19, .int .i64 (f : Int)), (20, .int .i64 (i : Int))]) (fun (s5 : aa.St) (i : Nat) (q5 : Option Addr) (c5 : Nat) => av b 59 [.slice p B.length cap, .int .i64 ((a3 + aa.gH dy) : Int), .bool false, .bool sh] :: R :: RC l S.lits :: RC d S.cH :: Row U5 q5 s5.out.length c5 s5.out :: F) (fun (s5 : aa.St) (i : Nat) (q5 : Option Addr) (c5 : Nat) => aa.Bl B mo s5 o ∧ aa.Ok B mo s5 ∧ s5.kind = S.kind ∧ s5.aq + i = n ∧ s5.lits = S.lits ∧ s5.cH = S.cH ∧ s5.aL = f ∧ s5.at_ = (a3 + aa.gH dy) ∧ aa.mu B s5 < aa.mu B s) (fun (s5 : aa.St) (i : Nat) (q5 : Option Addr) (c5 : Nat) => s5.aq) (i4 ({ s with at_ := (a3 + aa.gH dy), aq := n, aL := f }) (0) (q) (c) ?_ (fL (aX ln)) (sub (aE (.cons ar (.cons dg (.cons dg .nil)))) ao)) ?_
          ·exact ⟨hb5, hg1.ok, hk, rfl, hlt, hdt, rfl, rfl, hg1.less⟩
          intro s5 i q5 c5
          rintro ⟨hb6, hok5, hk5, hi5, hl5, hd5, hf5, ha5, hmu5⟩
          refine rL aP 8 rfl ?_
          refine aj rfl (fun h97 => ?_) (fun h97 => ?_)
          ·refine rC aP 6 rfl ?_
           have hro5 := hok5.room
           have hcp : 0 < s5.aq := by omega
           have hfr := hok5.aL hcp
           refine rC aP 7 rfl ?_
           refine aj rfl (fun h103 => ?_) (fun h103 => ?_)
           ·refine rC aP 15 rfl ?_
            obtain rfl := hb6.err (by omega) (aa.BF hcp (aa.kx (by omega)))
            exact an (bT rfl rfl) ⟨rfl, rfl⟩ (sub (.cons ar .nil) kT)
           ·refine rC aP 2 rfl ?_
            have hge : (U5.g s5.out ((s5.out.length : Int) - (f : Int))) = s5.out.getD (s5.out.length - s5.aL) 0 := by rw [hf5]; exact gE _ (by omega)
            refine cy aP 7 rfl (by omega) ?_
            refine oV (xI V.bH (own iz)) ?_
            refine oV (xL V.s5 (own iz)) ?_
            refine bP (U5) [(U5.g s5.out ((s5.out.length : Int) - (f : Int)))] V.bH V.z5 rfl rfl rfl rfl rfl rfl ?_
            intro b112
            refine bQ (c := (U5)) V.bH V.z5 rfl rfl rfl rfl qy (own ak) (by omega) rfl ?_
            intro p113 c113
            refine bN aP 9 rfl (by omega) ?_
            have hone5 := aa.we (B := B) (mo := mo) (s := s5) hcp (by omega)
            rw [← hge] at hone5
            have hg5 := aa.dZ hB hok5 hone5
            rw [show s5.out.length + 1 = (s5.out ++ [(U5.g s5.out ((s5.out.length : Int) - (f : Int)))]).length from by simp]
            refine j4 ({ s5 with aq := s5.aq - 1, out := s5.out ++ [(U5.g s5.out ((s5.out.length : Int) - (f : Int)))] }) (i + 1) (_) (_) ?_ (fL (aX ln)) (sub (.cons aS (.cons aS (.cons aS (.cons aS (au .nil))))) cw)
            exact ⟨⟨hb6.next (by omega) hone5, hg5.ok, hk5, by show s5.aq - 1 + (i + 1) = n; omega, hl5, hd5, hf5, ha5, Nat.lt_trans hg5.less hmu5⟩, by show s5.aq - 1 < s5.aq; omega⟩
          ·refine rC aP 5 rfl ?_
           (have hi0 : s5.aq = 0 := (by omega); rw [show ((a3 : Int) + (aa.gH dy : Int)) = (s5.at_ : Int) from (by omega)]; refine j3 (s5) (_) (_) ?_ (aX ln) (sub (lF .nil) ao); exact ⟨⟨hb6, hok5, hk5, hi0, hl5, hd5⟩, hmu5⟩)
end Go.Proofs.YtmbljkghkcgejaaGreat

/- Walks of functions that the law reaches, and what they lean on; no conditions. -/
import Derived.Test.YtmbljkghkcgejaaGreatM30
import Derived.Test.YtmbljkghkcgejaaGreatSl22
import Derived.KernelRfl
import Derived.Test.YtmbljkghkcgejaaGreatM51
import Derived.Test.YtmbljkghkcgejaaGreatM35
import Derived.Test.YtmbljkghkcgejaaGreatSl24
set_option linter.unusedVariables false
set_option linter.unusedSimpArgs false
set_option maxRecDepth 100000
namespace Go.Proofs.YtmbljkghkcgejaaGreat
open Go.Sl 
theorem aw : dJ Tryz.prog ⟨[77], []⟩ = true := by kernel_rfl
attribute [local irreducible] ab.aO ab.tk ab.ord ab.bx ab.words ab.cF aa.fP aa.bG aa.bO aa.cY aa.hL aa.hD aa.hC aa.eZ aa.told aa.bF aa.iN aa.rep aa.eo aa.dr aa.sym aa.cC af.az aa.eG aa.cT aa.one aa.eE aa.j9 aa.mf aa.ga aa.gH aa.cW aa.gV aa.gx aa.fu
def PD (b : Nat) (p : Option Addr) (cap : Nat) (B : List Int) (R : ae) : Except Int (Nat × List Int × List Int) → Value → List ae → Prop
 | .error e, v, G => v = .tuple #[.pointer none, .pointer none, .int .i64 e] ∧ G = [R]
 | .ok (a, l, d), v, G => ∃ x y sh, v = .tuple #[.pointer (some ⟨x, 0, none⟩), .pointer (some ⟨y, 0, none⟩), .int .i64 0] ∧ G = [av b 59 [.slice p B.length cap, .int .i64 (a : Int), .bool false, .bool sh], R, RC x l, RC y d]
set_option maxHeartbeats 8000000 in
theorem F6 (b : Nat) (p : Option Addr) (cap : Nat) (B : List Int) (R : ae) (hR : ∀ w0 h, R w0 h → bJ U5 p B.length B w0 h) (sh : Bool) (a : Nat) (hl : B.length < 500000000) (hB : af.aY B) (ha : a ≤ 8 * B.length) (o : Except Int (Nat × List Int × List Int)) (ho : aa.told B a = o) : aD Tryz.prog 32 [.pointer (some ⟨b, 0, none⟩)] [av b 59 [.slice p B.length cap, .int .i64 (a : Int), .bool false, .bool sh], R] (aK fun v G => PD b p cap B R o v G) := by
 refine ax [(0, _)] Tryz.func32 rfl Tryz.ntmps32 rfl rfl ?_
 intro w0 F
 have hn1 := af.aU B a 5
 have hn2 := af.aU B (a + 5) 5
 have hn3 := af.aU B (a + 10) 4
 obtain ⟨he1, he2, he3, he4, he5, he6, he7, he8⟩ := aa.wj B a
 have hNN : aa.bO B a = aa.hL B a + aa.hD B a := aa.sG B a
 have hAA : aa.cY B a = a + 14 + 3 * aa.hC B a := aa.sJ B a
 refine rT aw 11 rfl ?_
 refine ai (ou b p cap B R hR a sh hl ha) V.wh  rfl (aE .nil) rfl ?_
 rintro _ _ ⟨rfl, rfl⟩
 refine rO aw 3 rfl ?_
 refine aj rfl (fun h32 => ?_) (fun h32 => ?_)
 ·refine rC aw 9 rfl ?_
  obtain rfl : o = .error 2 := ho.symm.trans (aa.qp (by omega))
  exact an (dL rfl rfl rfl) ⟨rfl, rfl⟩ (sub (.cons ar .nil) cw)
 ·refine rC aw 5 rfl ?_
  refine ai (gN b p cap B R hR a sh 5 hl hB (by omega) (by omega)) V.jB  rfl (aE .nil) rfl ?_
  rintro _ _ ⟨rfl, rfl⟩
  refine rO aw 10 rfl ?_
  refine ai (gN b p cap B R hR (a + 5) sh 5 hl hB (by omega) (by omega)) V.jB  rfl (aE .nil) rfl ?_
  rintro _ _ ⟨rfl, rfl⟩
  refine rO aw 10 rfl ?_
  refine ai (gN b p cap B R hR (a + 10) sh 4 hl hB (by omega) (by omega)) V.jB  rfl (aE .nil) rfl ?_
  rintro _ _ ⟨rfl, rfl⟩
  refine bN aw 20 rfl (by omega) ?_
  rcases (aa.Ka (aa.hL B a ≤ 286) (aa.hD B a ≤ 30)) with ⟨hq1, hq2⟩ | ⟨hq1, hq2⟩ | hq1
  ·refine rC aw 2 rfl ?_
   have h14 : a + 14 ≤ 8 * B.length := by omega
   rw [show af.az B a 5 + 257 = (aa.hL B a : Int) from by omega, show af.az B (a + 5) 5 + 1 = (aa.hD B a : Int) from by omega, show af.az B (a + 10) 4 + 4 = (aa.hC B a : Int) from by omega]
   refine rC aw 2 rfl ?_
   refine oV (bA (cB rfl rfl) (by omega)) ?_
   refine rO aw 2 rfl ?_
   refine al rfl ?_
   refine oV (bA (cB rfl rfl) (by omega)) ?_
   refine rO aw 8 rfl ?_
   refine bP (I3) aa.dv V.aF V.z3 rfl rfl rfl rfl rfl rfl ?_
   intro GM
   refine rO aw 5 rfl ?_
   refine ry 19 19 (I3) rfl rfl V.aF V.z3 rfl rfl rfl rfl (by omega) (by omega) rfl rfl ?_
   intro uV
   refine rO aw 10 rfl ?_
   rw [show List.replicate 19 I3.d = aa.fP B (a + 14) 0 from (aa.xG B (a + 14)).symm]
   refine cx (fun (k : Nat) => [(0, .pointer (some ⟨b, 0, none⟩)), (5, .int .i64 (aa.hL B a : Int)), (7, .int .i64 (aa.hD B a : Int)), (9, .int .i64 (aa.hC B a : Int)), (11, .slice (some ⟨GM, 0, none⟩) 19 19), (12, .slice (some ⟨uV, 0, none⟩) 19 19), (13, .int .i64 (k : Int))]) (fun (k : Nat) => Row I3 (some ⟨uV, 0, none⟩) 19 19 (aa.fP B (a + 14) k) :: Row I3 (some ⟨GM, 0, none⟩) 19 19 aa.dv :: av b 59 [.slice p B.length cap, .int .i64 ((a + 14 + 3 * k) : Int), .bool false, .bool sh] :: R :: F) (fun (k : Nat) => k ≤ aa.hC B a ∧ a + 14 + 3 * k ≤ 8 * B.length) (fun (k : Nat) => aa.hC B a - k) (i1 (0) ?_ (kr (aX ln)) (sub (gA .nil) ao)) ?_
   ·exact ⟨Nat.zero_le _, by omega⟩
   intro k
   rintro ⟨hk, hk2⟩
   refine rL aw 8 rfl ?_
   refine aj rfl (fun h64 => ?_) (fun h64 => ?_)
   ·refine rC aw 4 rfl ?_
    rcases (Nat.lt_or_ge (8 * B.length) ((a + 14 + 3 * k) + 3)) with hx | hx
    ·refine rC aw 3 rfl ?_
     refine ai (k5 b p cap B R hR (a + 14 + 3 * k) sh 3 hl hB (by omega) (by omega) (by omega)) V.jB  rfl (.cons aS (.cons aS .nil)) rfl ?_
     rintro _ _ ⟨rfl, rfl⟩
     refine rO aw 29 rfl ?_
     obtain rfl : o = .error 2 := ho.symm.trans (aa.xz h14 ⟨hq1, hq2⟩ (by omega))
     exact an (dL rfl rfl rfl) ⟨rfl, rfl⟩ (sub (.cons ar .nil) jj)
    ·refine rC aw 3 rfl ?_
     refine ai (gN b p cap B R hR (a + 14 + 3 * k) sh 3 hl hB (by omega) (by omega)) V.jB  rfl (.cons aS (.cons aS .nil)) rfl ?_
     rintro _ _ ⟨rfl, rfl⟩
     refine rO aw 17 rfl ?_
     have hoo : 0 ≤ I3.g aa.dv (k : Int) ∧ I3.g aa.dv (k : Int) < 19 := aa.ue (k := k) (by omega)
     refine rC aw 4 rfl ?_
     refine oV (xI V.aF (own fZ)) ?_
     refine oV (xL V.s3 (own fZ)) ?_
     refine oV (aB rfl) ?_
     refine oV (xI V.aF (own dE)) ?_
     refine bM (eb (c := (I3)) (_) V.s3 rfl rfl rfl (by exact nc) (by omega) (by omega) rfl rfl) ?_
     refine bN aw 8 rfl (by omega) ?_
     rw [show (aa.fP B (a + 14) k).set (I3.g aa.dv (k : Int)).toNat (af.az B (a + 14 + 3 * k) 3) = aa.fP B (a + 14) (k + 1) from (aa.yd B (a + 14) k).symm]
     refine j1 (k + 1) ?_ (kr (aX ln)) (sub (.cons aS (.cons aS (aE .nil))) ao)
     exact ⟨⟨by omega, by omega⟩, by omega⟩
   ·refine rC aw 5 rfl ?_
    rcases (Classical.em (ab.aO (aa.bG B a) = 0)) with hy | hy
    ·refine rC aw 1 rfl ?_
     have hkC : k = aa.hC B a := by omega
     rw [show aa.fP B (a + 14) k = aa.bG B a from by rw [hkC]; exact (aa.oT B a).symm, show ((a : Int) + 14 + 3 * (k : Int)) = ((aa.cY B a : Nat) : Int) from by omega]
     have hta : aa.cY B a ≤ 8 * B.length := by omega
     refine rC aw 2 rfl ?_
     refine ai (oz (some ⟨uV, 0, none⟩) 19 19 (aa.bG B a) (Row I3 (some ⟨uV, 0, none⟩) 19 19 (aa.bG B a)) (aa.eY B a).symm (fun _ _ hh => kz (aa.eY B a).symm hh) hy) V.r9  rfl (au .nil) rfl ?_
     rintro _ _ ⟨bc, rfl, rfl⟩
     refine rO aw 11 rfl ?_
     refine oV (bA (cI rfl rfl) (by decide)) ?_
     refine rO aw 12 rfl ?_
     refine eW (Row I3 none 0 0 []) (Row.nil _ _ _) ?_
     refine mR (fun (l : List Int) (f : Nat) (x : Nat) (q : Option Addr) (c : Nat) => [(0, .pointer (some ⟨b, 0, none⟩)), (5, .int .i64 (aa.hL B a : Int)), (7, .int .i64 (aa.hD B a : Int)), (16, .pointer (some ⟨bc, 0, none⟩)), (18, .slice q l.length c)]) (fun (l : List Int) (f : Nat) (x : Nat) (q : Option Addr) (c : Nat) => Row I3 q l.length c l :: RC bc (aa.bG B a) :: av b 59 [.slice p B.length cap, .int .i64 (x : Int), .bool false, .bool sh] :: R :: F) (fun (l : List Int) (f : Nat) (x : Nat) (q : Option Addr) (c : Nat) => aa.eZ B (aa.bG B a) (aa.bO B a) (aa.bO B a) [] (aa.cY B a) = aa.eZ B (aa.bG B a) (aa.bO B a) f l x ∧ (aa.bO B a) ≤ f + l.length ∧ l.length ≤ (aa.bO B a) ∧ x ≤ 8 * B.length) (fun (l : List Int) (f : Nat) (x : Nat) (q : Option Addr) (c : Nat) => (aa.bO B a) - l.length) (i5 ([]) ((aa.bO B a)) ((aa.cY B a)) (none) (0) ?_ (aX ln) (sub (aE (.cons aS (.cons aS .nil))) fg)) ?_
     ·exact ⟨rfl, Nat.le_add_right _ _, Nat.zero_le _, hta⟩
     intro l f x q c
     rintro ⟨hg, hf, hlt, hx⟩
     refine uN aw 11 rfl (by omega) ?_
     refine aj rfl (fun h93 => ?_) (fun h93 => ?_)
     ·refine rC aw 3 rfl ?_
      rcases (aa.oJ (B := B) (ls := (aa.bG B a)) (a := x) hy (by rw [aa.eY]; decide)) with ⟨e, hs⟩ | ⟨sy, x2, hs, hy0, hy1, hx1, hx2⟩
      ·refine rC aw 4 rfl ?_
       refine ai (vR bc (aa.bG B a) b p cap B R hR sh x hy hl hB hx hs) V.zk  rfl (.cons ar (.cons ar (.cons ar .nil))) rfl ?_
       rintro _ _ ⟨rfl, n9, sh9, rfl⟩
       refine rO aw 11 rfl ?_
       refine oV (ck (cI rfl rfl) (aa.oM hs)) ?_
       refine rO aw 17 rfl ?_
       obtain rfl : o = .error e := ho.symm.trans (aa.iQ h14 ⟨hq1, hq2⟩ hta hy (hg.trans (aa.iE (by omega) hf (aa.pj hs))))
       exact an (dL rfl rfl rfl) ⟨rfl, rfl⟩ (sub (.cons aS .nil) jj)
      ·refine rC aw 4 rfl ?_
       refine ai (wD bc (aa.bG B a) b p cap B R hR sh x hy hl hB hx hs) V.zk  rfl (.cons ar (.cons ar (.cons ar .nil))) rfl ?_
       rintro _ _ ⟨rfl, rfl⟩
       refine rO aw 11 rfl ?_
       refine oV (bA (cI rfl rfl) (by decide)) ?_
       refine rO aw 7 rfl ?_
       rw [aa.eY] at hy1
       refine rC aw 5 rfl ?_
       refine aj rfl (fun h104 => ?_) (fun h104 => ?_)
       ·refine rC aw 4 rfl ?_
        refine bP (I3) [sy] V.aF V.z3 rfl rfl rfl rfl rfl rfl ?_
        intro I2
        refine bQ (c := (I3)) V.aF V.z3 rfl rfl rfl rfl lh (own ak) (by omega) rfl ?_
        intro p108 c108
        refine rO aw 6 rfl ?_
        have hl6 : l.length < aa.bO B a := by omega
        (have hr := aa.vZ (B := B) (l := l) (s := sy) (a := x2) (by omega); have hln : (l ++ [sy]).length = l.length + 1 := (by simp); have hst := aa.gj hs hr; rw [show List.replicate (1 : Int).toNat sy = [sy] from rfl] at hst; rw [show l.length + 1 = (l ++ [sy]).length from hln.symm]; refine j5 (l ++ [sy]) (f - 1) (x2) (_) (_) ?_ (aX ln) (sub (au (.cons ar (.cons ar (.cons ar .nil)))) cw); exact ⟨⟨hg.trans (aa.ka hl6 hf hst (by omega)), by omega, by omega, hx2⟩, by omega⟩)
       ·refine rC aw 2 rfl ?_
        rcases (aa.Nk (s := sy) l (by omega)) with ⟨hs16, hl0⟩ | ⟨hs16, hl0⟩ | hs16 | hs16
        ·refine rC aw 11 rfl ?_
         refine oV (ck (cg rfl rfl) (by omega)) ?_
         refine rO aw 3 rfl ?_
         refine al rfl ?_
         refine oV (bA (cB rfl rfl) (by omega)) ?_
         refine rO aw 10 rfl ?_
         refine oV (bA (cg rfl rfl) (by omega)) ?_
         refine rO aw 9 rfl ?_
         refine oV (bA (cg rfl rfl) (by omega)) ?_
         refine rO aw 5 rfl ?_
         rcases (Nat.lt_or_ge (8 * B.length) (x2 + aa.cW sy)) with hxr | hxr
         ·refine rC aw 1 rfl ?_
          have hrp := aa.nX (s := sy)
          have hnx := af.aU B x2 (aa.cW sy)
          have hpx := af.ig (show aa.cW sy ≤ 24 by omega)
          have hw : I3.g l 0 = 0 ∨ True := .inr trivial
          rw [show ((21 : Nat), Value.int .i64 0) = (21, .int .i64 (aa.gx sy l)) from by rw [aa.tw hs16, List.eq_nil_of_length_eq_zero hl0]; rfl]
          rw [show ((22 : Nat), Value.int .i64 2) = (22, .int .i64 (aa.cW sy : Int)) from by rw [aa.tu hs16]; rfl]
          rw [show ((23 : Nat), Value.int .i64 3) = (23, .int .i64 (aa.gV sy)) from by rw [aa.oN (by omega)]]
          refine rC aw 3 rfl ?_
          refine ai (k5 b p cap B R hR x2 sh (aa.cW sy) hl hB (by omega) (by omega) (by omega)) V.jB  rfl (.cons ar (.cons ar .nil)) rfl ?_
          rintro _ _ ⟨rfl, rfl⟩
          refine rO aw 28 rfl ?_
          obtain rfl : o = .error 2 := ho.symm.trans (aa.iQ h14 ⟨hq1, hq2⟩ hta hy (hg.trans (aa.iE (by omega) hf (aa.jX hs (aa.jS (by omega) hxr)))))
          exact an (dL rfl rfl rfl) ⟨rfl, rfl⟩ (sub (.cons ar .nil) jj)
         ·refine rC aw 1 rfl ?_
          have hrp := aa.nX (s := sy)
          have hnx := af.aU B x2 (aa.cW sy)
          have hpx := af.ig (show aa.cW sy ≤ 24 by omega)
          have hw : I3.g l 0 = 0 ∨ True := .inr trivial
          rw [show ((21 : Nat), Value.int .i64 0) = (21, .int .i64 (aa.gx sy l)) from by rw [aa.tw hs16, List.eq_nil_of_length_eq_zero hl0]; rfl]
          rw [show ((22 : Nat), Value.int .i64 2) = (22, .int .i64 (aa.cW sy : Int)) from by rw [aa.tu hs16]; rfl]
          rw [show ((23 : Nat), Value.int .i64 3) = (23, .int .i64 (aa.gV sy)) from by rw [aa.oN (by omega)]]
          refine rC aw 3 rfl ?_
          refine ai (gN b p cap B R hR x2 sh (aa.cW sy) hl hB (by omega) (by omega)) V.jB  rfl (.cons ar (.cons ar .nil)) rfl ?_
          rintro _ _ ⟨rfl, rfl⟩
          refine rO aw 21 rfl ?_
          refine oV (ck (cg rfl rfl) (by omega)) ?_
          refine rO aw 3 rfl ?_
          refine al rfl ?_
          refine oV (ck (cg rfl rfl) (by omega)) ?_
          refine rO aw 29 rfl ?_
          obtain rfl : o = .error 4 := ho.symm.trans (by exact (aa.iQ h14 ⟨hq1, hq2⟩ hta hy (hg.trans (aa.iE (by omega) hf (aa.jX hs (aa.xB hs16 (List.eq_nil_of_length_eq_zero hl0) (by omega)))))))
          exact an (dL rfl rfl rfl) ⟨rfl, rfl⟩ (sub (.cons ar .nil) jj)
        ·refine rC aw 11 rfl ?_
         refine oV (ck (cg rfl rfl) (by omega)) ?_
         refine rO aw 3 rfl ?_
         refine al rfl ?_
         refine oV (ck (cB rfl rfl) (by omega)) ?_
         refine bN aw 9 rfl (by omega) ?_
         refine oV (xI V.aF (own fZ)) ?_
         refine oV (xL V.s3 (own fZ)) ?_
         refine rO aw 7 rfl ?_
         refine oV (bA (cg rfl rfl) (by omega)) ?_
         refine rO aw 9 rfl ?_
         refine oV (bA (cg rfl rfl) (by omega)) ?_
         refine rO aw 5 rfl ?_
         rcases (Nat.lt_or_ge (8 * B.length) (x2 + aa.cW sy)) with hxr | hxr
         ·refine rC aw 1 rfl ?_
          have hrp := aa.nX (s := sy)
          have hnx := af.aU B x2 (aa.cW sy)
          have hpx := af.ig (show aa.cW sy ≤ 24 by omega)
          have hw : I3.g l ((l.length : Int) - 1) = l.getD (l.length - 1) 0 := gE _ (by omega)
          rw [show ((21 : Nat), Value.int .i64 (I3.g l ((l.length : Int) - 1))) = (21, .int .i64 (aa.gx sy l)) from by rw [aa.tw hs16, hw]]
          rw [show ((22 : Nat), Value.int .i64 2) = (22, .int .i64 (aa.cW sy : Int)) from by rw [aa.tu hs16]; rfl]
          rw [show ((23 : Nat), Value.int .i64 3) = (23, .int .i64 (aa.gV sy)) from by rw [aa.oN (by omega)]]
          refine rC aw 3 rfl ?_
          refine ai (k5 b p cap B R hR x2 sh (aa.cW sy) hl hB (by omega) (by omega) (by omega)) V.jB  rfl (.cons ar (.cons ar .nil)) rfl ?_
          rintro _ _ ⟨rfl, rfl⟩
          refine rO aw 28 rfl ?_
          obtain rfl : o = .error 2 := ho.symm.trans (aa.iQ h14 ⟨hq1, hq2⟩ hta hy (hg.trans (aa.iE (by omega) hf (aa.jX hs (aa.jS (by omega) hxr)))))
          exact an (dL rfl rfl rfl) ⟨rfl, rfl⟩ (sub (.cons ar .nil) jj)
         ·refine rC aw 1 rfl ?_
          have hrp := aa.nX (s := sy)
          have hnx := af.aU B x2 (aa.cW sy)
          have hpx := af.ig (show aa.cW sy ≤ 24 by omega)
          have hw : I3.g l ((l.length : Int) - 1) = l.getD (l.length - 1) 0 := gE _ (by omega)
          rw [show ((21 : Nat), Value.int .i64 (I3.g l ((l.length : Int) - 1))) = (21, .int .i64 (aa.gx sy l)) from by rw [aa.tw hs16, hw]]
          rw [show ((22 : Nat), Value.int .i64 2) = (22, .int .i64 (aa.cW sy : Int)) from by rw [aa.tu hs16]; rfl]
          rw [show ((23 : Nat), Value.int .i64 3) = (23, .int .i64 (aa.gV sy)) from by rw [aa.oN (by omega)]]
          refine rC aw 3 rfl ?_
          refine ai (gN b p cap B R hR x2 sh (aa.cW sy) hl hB (by omega) (by omega)) V.jB  rfl (.cons ar (.cons ar .nil)) rfl ?_
          rintro _ _ ⟨rfl, rfl⟩
          refine rO aw 17 rfl ?_
          rcases (Int.lt_or_le ((aa.bO B a) : Int) ((l.length : Int) + aa.gV sy + (af.az B x2 (aa.cW sy)))) with hbg | hbg
          ·refine rC aw 4 rfl ?_
           refine oV (ck (cg rfl rfl) (by omega)) ?_
           refine rO aw 3 rfl ?_
           refine al rfl ?_
           refine oV (bA (cg rfl rfl) (by omega)) ?_
           refine bN aw 11 rfl (by omega) ?_
           refine al rfl ?_
           refine oV (ck (cB rfl rfl) (by omega)) ?_
           refine rO aw 17 rfl ?_
           obtain rfl : o = .error 4 := ho.symm.trans (by (obtain ⟨nn, hnn⟩ : ∃ nn : Nat, aa.gV sy + (af.az B x2 (aa.cW sy)) = (nn : Int) := ⟨_, (Int.toNat_of_nonneg (by omega)).symm⟩; exact (aa.iQ h14 ⟨hq1, hq2⟩ hta hy (hg.trans (aa.nz (by omega) hf (aa.gj hs (aa.mN (B := B) (l := l) (s := sy) (a := x2) (by omega) hxr (by omega) hnn)) (by rw [List.length_append, List.length_replicate, Int.toNat_natCast]; omega))))))
           exact an (dL rfl rfl rfl) ⟨rfl, rfl⟩ (sub (.cons ar .nil) jj)
          ·refine rC aw 4 rfl ?_
           refine oV (ck (cg rfl rfl) (by omega)) ?_
           refine rO aw 3 rfl ?_
           refine al rfl ?_
           refine oV (bA (cg rfl rfl) (by omega)) ?_
           refine bN aw 11 rfl (by omega) ?_
           refine al rfl ?_
           refine oV (bA (cB rfl rfl) (by omega)) ?_
           refine rO aw 7 rfl ?_
           obtain ⟨nn, hnn⟩ : ∃ nn : Nat, aa.gV sy + (af.az B x2 (aa.cW sy)) = (nn : Int) := ⟨_, (Int.toNat_of_nonneg (by omega)).symm⟩
           have hr := aa.mN (B := B) (l := l) (s := sy) (a := x2) (by omega) hxr (by omega) hnn
           refine rC aw 5 rfl ?_
           rw [show Row I3 q l.length c l = Row I3 q (l.length + 0) c (l ++ List.replicate 0 (aa.gx sy l)) from by rw [List.replicate_zero, List.append_nil, Nat.add_zero]]
           rw [show ((18 : Nat), Value.slice q l.length c) = (18, .slice q (l.length + 0) c) from rfl]
           refine eJ (fun (i : Nat) (q5 : Option Addr) (c5 : Nat) => [(0, .pointer (some ⟨b, 0, none⟩)), (5, .int .i64 (aa.hL B a : Int)), (7, .int .i64 (aa.hD B a : Int)), (16, .pointer (some ⟨bc, 0, none⟩)), (18, .slice q5 (l.length + i) c5), (21, .int .i64 (aa.gx sy l)), (23, .int .i64 (aa.gV sy)), (24, .int .i64 (af.az B x2 (aa.cW sy))), (26, .int .i64 (i : Int))]) (fun (i : Nat) (q5 : Option Addr) (c5 : Nat) => Row I3 q5 (l.length + i) c5 (l ++ List.replicate i (aa.gx sy l)) :: RC bc (aa.bG B a) :: av b 59 [.slice p B.length cap, .int .i64 ((x2 + aa.cW sy) : Int), .bool false, .bool sh] :: R :: F) (fun (i : Nat) (q5 : Option Addr) (c5 : Nat) => i ≤ nn) (fun (i : Nat) (q5 : Option Addr) (c5 : Nat) => nn - i) (i3 (0) (q) (c) ?_ (dI (aX ln)) (sub (.cons dC (.cons aS (aE .nil))) ao)) ?_
           ·exact Nat.zero_le _
           intro i q5 c5
           rintro hi
           refine uN aw 10 rfl (by omega) ?_
           refine aj rfl (fun h157 => ?_) (fun h157 => ?_)
           ·refine rC aw 7 rfl ?_
            refine bP (I3) [aa.gx sy l] V.aF V.z3 rfl rfl rfl rfl rfl rfl ?_
            intro b162
            refine bQ (c := (I3)) V.aF V.z3 rfl rfl rfl rfl ar (own ak) (by omega) rfl ?_
            intro p163 c163
            refine bN aw 9 rfl (by omega) ?_
            rw [List.append_assoc, ← List.replicate_succ', show l.length + i + 1 = l.length + (i + 1) from rfl]
            refine j3 (i + 1) (_) (_) ?_ (dI (aX ln)) (sub (au (.cons ar (.cons ar (.cons ar .nil)))) cw)
            exact ⟨by omega, by omega⟩
           ·refine rC aw 5 rfl ?_
            have hl6 : l.length < aa.bO B a := by omega
            (obtain rfl : i = nn := (by omega); have hln : (l ++ List.replicate i (aa.gx sy l)).length = l.length + i := (by simp); have hst := aa.gj hs hr; rw [Int.toNat_natCast] at hst; rw [show l.length + i = (l ++ List.replicate i (aa.gx sy l)).length from hln.symm]; refine j5 (l ++ List.replicate i (aa.gx sy l)) (f - 1) ((x2 + aa.cW sy)) (_) (_) ?_ (aX ln) (sub (gA .nil) ao); exact ⟨⟨hg.trans (aa.ka hl6 hf hst (by omega)), by omega, by omega, hxr⟩, by omega⟩)
        ·refine rC aw 11 rfl ?_
         refine oV (bA (cg rfl rfl) (by omega)) ?_
         refine rO aw 14 rfl ?_
         refine oV (ck (cg rfl rfl) (by omega)) ?_
         refine rO aw 11 rfl ?_
         refine oV (bA (cg rfl rfl) (by omega)) ?_
         refine rO aw 5 rfl ?_
         rcases (Nat.lt_or_ge (8 * B.length) (x2 + aa.cW sy)) with hxr | hxr
         ·refine rC aw 1 rfl ?_
          have hrp := aa.nX (s := sy)
          have hnx := af.aU B x2 (aa.cW sy)
          have hpx := af.ig (show aa.cW sy ≤ 24 by omega)
          rw [show ((21 : Nat), Value.int .i64 0) = (21, .int .i64 (aa.gx sy l)) from by rw [aa.vI (by omega)]]
          rw [show ((22 : Nat), Value.int .i64 3) = (22, .int .i64 (aa.cW sy : Int)) from by rw [aa.Dd hs16]; rfl]
          rw [show ((23 : Nat), Value.int .i64 3) = (23, .int .i64 (aa.gV sy)) from by rw [aa.oN (by omega)]]
          refine rC aw 3 rfl ?_
          refine ai (k5 b p cap B R hR x2 sh (aa.cW sy) hl hB (by omega) (by omega) (by omega)) V.jB  rfl (.cons ar (.cons ar .nil)) rfl ?_
          rintro _ _ ⟨rfl, rfl⟩
          refine rO aw 28 rfl ?_
          obtain rfl : o = .error 2 := ho.symm.trans (aa.iQ h14 ⟨hq1, hq2⟩ hta hy (hg.trans (aa.iE (by omega) hf (aa.jX hs (aa.jS (by omega) hxr)))))
          exact an (dL rfl rfl rfl) ⟨rfl, rfl⟩ (sub (.cons ar .nil) jj)
         ·refine rC aw 1 rfl ?_
          have hrp := aa.nX (s := sy)
          have hnx := af.aU B x2 (aa.cW sy)
          have hpx := af.ig (show aa.cW sy ≤ 24 by omega)
          rw [show ((21 : Nat), Value.int .i64 0) = (21, .int .i64 (aa.gx sy l)) from by rw [aa.vI (by omega)]]
          rw [show ((22 : Nat), Value.int .i64 3) = (22, .int .i64 (aa.cW sy : Int)) from by rw [aa.Dd hs16]; rfl]
          rw [show ((23 : Nat), Value.int .i64 3) = (23, .int .i64 (aa.gV sy)) from by rw [aa.oN (by omega)]]
          refine rC aw 3 rfl ?_
          refine ai (gN b p cap B R hR x2 sh (aa.cW sy) hl hB (by omega) (by omega)) V.jB  rfl (.cons ar (.cons ar .nil)) rfl ?_
          rintro _ _ ⟨rfl, rfl⟩
          refine rO aw 17 rfl ?_
          rcases (Int.lt_or_le ((aa.bO B a) : Int) ((l.length : Int) + aa.gV sy + (af.az B x2 (aa.cW sy)))) with hbg | hbg
          ·refine rC aw 4 rfl ?_
           refine oV (bA (cg rfl rfl) (by omega)) ?_
           refine bN aw 15 rfl (by omega) ?_
           refine al rfl ?_
           refine oV (ck (cB rfl rfl) (by omega)) ?_
           refine rO aw 17 rfl ?_
           obtain rfl : o = .error 4 := ho.symm.trans (by (obtain ⟨nn, hnn⟩ : ∃ nn : Nat, aa.gV sy + (af.az B x2 (aa.cW sy)) = (nn : Int) := ⟨_, (Int.toNat_of_nonneg (by omega)).symm⟩; exact (aa.iQ h14 ⟨hq1, hq2⟩ hta hy (hg.trans (aa.nz (by omega) hf (aa.gj hs (aa.mN (B := B) (l := l) (s := sy) (a := x2) (by omega) hxr (by omega) hnn)) (by rw [List.length_append, List.length_replicate, Int.toNat_natCast]; omega))))))
           exact an (dL rfl rfl rfl) ⟨rfl, rfl⟩ (sub (.cons ar .nil) jj)
          ·refine rC aw 4 rfl ?_
           refine oV (bA (cg rfl rfl) (by omega)) ?_
           refine bN aw 15 rfl (by omega) ?_
           refine al rfl ?_
           refine oV (bA (cB rfl rfl) (by omega)) ?_
           refine rO aw 7 rfl ?_
           obtain ⟨nn, hnn⟩ : ∃ nn : Nat, aa.gV sy + (af.az B x2 (aa.cW sy)) = (nn : Int) := ⟨_, (Int.toNat_of_nonneg (by omega)).symm⟩
           have hr := aa.mN (B := B) (l := l) (s := sy) (a := x2) (by omega) hxr (by omega) hnn
           refine rC aw 5 rfl ?_
           rw [show Row I3 q l.length c l = Row I3 q (l.length + 0) c (l ++ List.replicate 0 (aa.gx sy l)) from by rw [List.replicate_zero, List.append_nil, Nat.add_zero]]
           rw [show ((18 : Nat), Value.slice q l.length c) = (18, .slice q (l.length + 0) c) from rfl]
           refine eJ (fun (i : Nat) (q5 : Option Addr) (c5 : Nat) => [(0, .pointer (some ⟨b, 0, none⟩)), (5, .int .i64 (aa.hL B a : Int)), (7, .int .i64 (aa.hD B a : Int)), (16, .pointer (some ⟨bc, 0, none⟩)), (18, .slice q5 (l.length + i) c5), (21, .int .i64 (aa.gx sy l)), (23, .int .i64 (aa.gV sy)), (24, .int .i64 (af.az B x2 (aa.cW sy))), (26, .int .i64 (i : Int))]) (fun (i : Nat) (q5 : Option Addr) (c5 : Nat) => Row I3 q5 (l.length + i) c5 (l ++ List.replicate i (aa.gx sy l)) :: RC bc (aa.bG B a) :: av b 59 [.slice p B.length cap, .int .i64 ((x2 + aa.cW sy) : Int), .bool false, .bool sh] :: R :: F) (fun (i : Nat) (q5 : Option Addr) (c5 : Nat) => i ≤ nn) (fun (i : Nat) (q5 : Option Addr) (c5 : Nat) => nn - i) (i3 (0) (q) (c) ?_ (dI (aX ln)) (sub (.cons dC (.cons aS (aE .nil))) ao)) ?_
           ·exact Nat.zero_le _
           intro i q5 c5
           rintro hi
           refine uN aw 10 rfl (by omega) ?_
           refine aj rfl (fun h157 => ?_) (fun h157 => ?_)
           ·refine rC aw 7 rfl ?_
            refine bP (I3) [aa.gx sy l] V.aF V.z3 rfl rfl rfl rfl rfl rfl ?_
            intro b162
            refine bQ (c := (I3)) V.aF V.z3 rfl rfl rfl rfl ar (own ak) (by omega) rfl ?_
            intro p163 c163
            refine bN aw 9 rfl (by omega) ?_
            rw [List.append_assoc, ← List.replicate_succ', show l.length + i + 1 = l.length + (i + 1) from rfl]
            refine j3 (i + 1) (_) (_) ?_ (dI (aX ln)) (sub (au (.cons ar (.cons ar (.cons ar .nil)))) cw)
            exact ⟨by omega, by omega⟩
           ·refine rC aw 5 rfl ?_
            have hl6 : l.length < aa.bO B a := by omega
            (obtain rfl : i = nn := (by omega); have hln : (l ++ List.replicate i (aa.gx sy l)).length = l.length + i := (by simp); have hst := aa.gj hs hr; rw [Int.toNat_natCast] at hst; rw [show l.length + i = (l ++ List.replicate i (aa.gx sy l)).length from hln.symm]; refine j5 (l ++ List.replicate i (aa.gx sy l)) (f - 1) ((x2 + aa.cW sy)) (_) (_) ?_ (aX ln) (sub (gA .nil) ao); exact ⟨⟨hg.trans (aa.ka hl6 hf hst (by omega)), by omega, by omega, hxr⟩, by omega⟩)
        ·refine rC aw 11 rfl ?_
         refine oV (bA (cg rfl rfl) (by omega)) ?_
         refine rO aw 14 rfl ?_
         refine oV (bA (cg rfl rfl) (by omega)) ?_
         refine rO aw 9 rfl ?_
         refine oV (ck (cg rfl rfl) (by omega)) ?_
         refine rO aw 8 rfl ?_
         rcases (Nat.lt_or_ge (8 * B.length) (x2 + aa.cW sy)) with hxr | hxr
         ·refine rC aw 1 rfl ?_
          have hrp := aa.nX (s := sy)
          have hnx := af.aU B x2 (aa.cW sy)
          have hpx := af.ig (show aa.cW sy ≤ 24 by omega)
          rw [show ((21 : Nat), Value.int .i64 0) = (21, .int .i64 (aa.gx sy l)) from by rw [aa.vI (by omega)]]
          rw [show ((22 : Nat), Value.int .i64 7) = (22, .int .i64 (aa.cW sy : Int)) from by rw [aa.DJ hs16]; rfl]
          rw [show ((23 : Nat), Value.int .i64 11) = (23, .int .i64 (aa.gV sy)) from by rw [aa.By hs16]]
          refine rC aw 3 rfl ?_
          refine ai (k5 b p cap B R hR x2 sh (aa.cW sy) hl hB (by omega) (by omega) (by omega)) V.jB  rfl (.cons ar (.cons ar .nil)) rfl ?_
          rintro _ _ ⟨rfl, rfl⟩
          refine rO aw 28 rfl ?_
          obtain rfl : o = .error 2 := ho.symm.trans (aa.iQ h14 ⟨hq1, hq2⟩ hta hy (hg.trans (aa.iE (by omega) hf (aa.jX hs (aa.jS (by omega) hxr)))))
          exact an (dL rfl rfl rfl) ⟨rfl, rfl⟩ (sub (.cons ar .nil) jj)
         ·refine rC aw 1 rfl ?_
          have hrp := aa.nX (s := sy)
          have hnx := af.aU B x2 (aa.cW sy)
          have hpx := af.ig (show aa.cW sy ≤ 24 by omega)
          rw [show ((21 : Nat), Value.int .i64 0) = (21, .int .i64 (aa.gx sy l)) from by rw [aa.vI (by omega)]]
          rw [show ((22 : Nat), Value.int .i64 7) = (22, .int .i64 (aa.cW sy : Int)) from by rw [aa.DJ hs16]; rfl]
          rw [show ((23 : Nat), Value.int .i64 11) = (23, .int .i64 (aa.gV sy)) from by rw [aa.By hs16]]
          refine rC aw 3 rfl ?_
          refine ai (gN b p cap B R hR x2 sh (aa.cW sy) hl hB (by omega) (by omega)) V.jB  rfl (.cons ar (.cons ar .nil)) rfl ?_
          rintro _ _ ⟨rfl, rfl⟩
          refine rO aw 17 rfl ?_
          rcases (Int.lt_or_le ((aa.bO B a) : Int) ((l.length : Int) + aa.gV sy + (af.az B x2 (aa.cW sy)))) with hbg | hbg
          ·refine rC aw 4 rfl ?_
           refine oV (bA (cg rfl rfl) (by omega)) ?_
           refine bN aw 15 rfl (by omega) ?_
           refine al rfl ?_
           refine oV (ck (cB rfl rfl) (by omega)) ?_
           refine rO aw 17 rfl ?_
           obtain rfl : o = .error 4 := ho.symm.trans (by (obtain ⟨nn, hnn⟩ : ∃ nn : Nat, aa.gV sy + (af.az B x2 (aa.cW sy)) = (nn : Int) := ⟨_, (Int.toNat_of_nonneg (by omega)).symm⟩; exact (aa.iQ h14 ⟨hq1, hq2⟩ hta hy (hg.trans (aa.nz (by omega) hf (aa.gj hs (aa.mN (B := B) (l := l) (s := sy) (a := x2) (by omega) hxr (by omega) hnn)) (by rw [List.length_append, List.length_replicate, Int.toNat_natCast]; omega))))))
           exact an (dL rfl rfl rfl) ⟨rfl, rfl⟩ (sub (.cons ar .nil) jj)
          ·refine rC aw 4 rfl ?_
           refine oV (bA (cg rfl rfl) (by omega)) ?_
           refine bN aw 15 rfl (by omega) ?_
           refine al rfl ?_
           refine oV (bA (cB rfl rfl) (by omega)) ?_
           refine rO aw 7 rfl ?_
           obtain ⟨nn, hnn⟩ : ∃ nn : Nat, aa.gV sy + (af.az B x2 (aa.cW sy)) = (nn : Int) := ⟨_, (Int.toNat_of_nonneg (by omega)).symm⟩
           have hr := aa.mN (B := B) (l := l) (s := sy) (a := x2) (by omega) hxr (by omega) hnn
           refine rC aw 5 rfl ?_
           rw [show Row I3 q l.length c l = Row I3 q (l.length + 0) c (l ++ List.replicate 0 (aa.gx sy l)) from by rw [List.replicate_zero, List.append_nil, Nat.add_zero]]
           rw [show ((18 : Nat), Value.slice q l.length c) = (18, .slice q (l.length + 0) c) from rfl]
           refine eJ (fun (i : Nat) (q5 : Option Addr) (c5 : Nat) => [(0, .pointer (some ⟨b, 0, none⟩)), (5, .int .i64 (aa.hL B a : Int)), (7, .int .i64 (aa.hD B a : Int)), (16, .pointer (some ⟨bc, 0, none⟩)), (18, .slice q5 (l.length + i) c5), (21, .int .i64 (aa.gx sy l)), (23, .int .i64 (aa.gV sy)), (24, .int .i64 (af.az B x2 (aa.cW sy))), (26, .int .i64 (i : Int))]) (fun (i : Nat) (q5 : Option Addr) (c5 : Nat) => Row I3 q5 (l.length + i) c5 (l ++ List.replicate i (aa.gx sy l)) :: RC bc (aa.bG B a) :: av b 59 [.slice p B.length cap, .int .i64 ((x2 + aa.cW sy) : Int), .bool false, .bool sh] :: R :: F) (fun (i : Nat) (q5 : Option Addr) (c5 : Nat) => i ≤ nn) (fun (i : Nat) (q5 : Option Addr) (c5 : Nat) => nn - i) (i3 (0) (q) (c) ?_ (dI (aX ln)) (sub (.cons dC (.cons aS (aE .nil))) ao)) ?_
           ·exact Nat.zero_le _
           intro i q5 c5
           rintro hi
           refine uN aw 10 rfl (by omega) ?_
           refine aj rfl (fun h157 => ?_) (fun h157 => ?_)
           ·refine rC aw 7 rfl ?_
            refine bP (I3) [aa.gx sy l] V.aF V.z3 rfl rfl rfl rfl rfl rfl ?_
            intro b162
            refine bQ (c := (I3)) V.aF V.z3 rfl rfl rfl rfl ar (own ak) (by omega) rfl ?_
            intro p163 c163
            refine bN aw 9 rfl (by omega) ?_
            rw [List.append_assoc, ← List.replicate_succ', show l.length + i + 1 = l.length + (i + 1) from rfl]
            refine j3 (i + 1) (_) (_) ?_ (dI (aX ln)) (sub (au (.cons ar (.cons ar (.cons ar .nil)))) cw)
            exact ⟨by omega, by omega⟩
           ·refine rC aw 5 rfl ?_
            have hl6 : l.length < aa.bO B a := by omega
            (obtain rfl : i = nn := (by omega); have hln : (l ++ List.replicate i (aa.gx sy l)).length = l.length + i := (by simp); have hst := aa.gj hs hr; rw [Int.toNat_natCast] at hst; rw [show l.length + i = (l ++ List.replicate i (aa.gx sy l)).length from hln.symm]; refine j5 (l ++ List.replicate i (aa.gx sy l)) (f - 1) ((x2 + aa.cW sy)) (_) (_) ?_ (aX ln) (sub (gA .nil) ao); exact ⟨⟨hg.trans (aa.ka hl6 hf hst (by omega)), by omega, by omega, hxr⟩, by omega⟩)
     ·refine rC aw 7 rfl ?_
      have hlt2 : l.length = aa.bO B a := by omega
      have hz := hg.trans (aa.kK (B := B) (c := aa.bG B a) (f := f) (a := x) (show aa.bO B a ≤ l.length by omega))
      refine vA (p := q) (n := l.length) (cap := c) (l := l) (c := I3) ak fun hcap => ?_
      refine rC aw 2 rfl ?_
      refine oV (xI V.aF (own ak)) ?_
      refine oV (xL V.s3 (own ak)) ?_
      refine rO aw 3 rfl ?_
      refine aj rfl (fun h167 => ?_) (fun h167 => ?_)
      ·refine rC aw 9 rfl ?_
       obtain rfl : o = .error 4 := ho.symm.trans (aa.mA h14 ⟨hq1, hq2⟩ hta hy hz (.inr (.inr (show I3.g l 256 = 0 by omega))))
       exact an (dL rfl rfl rfl) ⟨rfl, rfl⟩ (sub (.cons dC .nil) jj)
      ·refine rC aw 2 rfl ?_
       rcases (Classical.em (ab.aO (l.take (aa.hL B a)) = 0)) with hc1 | hc1
       ·refine rC aw 4 rfl ?_
        refine oV (gh (aa.hL B a) _ V.aF rfl ⟨_, rfl⟩ rfl (by omega) (by omega)) ?_
        refine ai (oz q (aa.hL B a) c (l.take (aa.hL B a)) (Row I3 q l.length c l) (by rw [List.length_take]; omega) (fun _ _ hh => nu rfl (by omega) hh) hc1) V.r9  rfl (au .nil) rfl ?_
        rintro _ _ ⟨x27, rfl, rfl⟩
        refine rO aw 7 rfl ?_
        rcases (Classical.em (ab.aO (l.drop (aa.hL B a)) = 0)) with hc2 | hc2
        ·refine rC aw 4 rfl ?_
         refine oV (fz (aa.hL B a) _ _ V.aF rfl ⟨_, rfl⟩ ⟨rfl, rfl⟩ rfl (by omega) (by omega) (by omega)) ?_
         refine ai (oz (gK q (aa.hL B a) c 1) (l.length - (aa.hL B a)) (c - (aa.hL B a)) (l.drop (aa.hL B a)) (Row I3 q l.length c l) (by rw [List.length_drop]) (fun _ _ hh => lR rfl (by omega) hcap hh) hc2) V.r9  rfl (.cons ar .nil) rfl ?_
         rintro _ _ ⟨x28, rfl, rfl⟩
         refine rO aw 11 rfl ?_
         refine oV (bA (cI rfl rfl) (by decide)) ?_
         refine rO aw 2 rfl ?_
         refine al rfl ?_
         refine oV (bA (cI rfl rfl) (by decide)) ?_
         refine rO aw 16 rfl ?_
         obtain rfl := ho.symm.trans (aa.tC h14 ⟨hq1, hq2⟩ hta hy hz hc1 hc2 (show I3.g l 256 ≠ 0 by omega))
         exact an (dL rfl rfl rfl) ⟨x27, x28, sh, rfl, rfl⟩ (sub (.cons lh (.cons lh (.cons aS (au .nil)))) fg)
        ·refine rC aw 4 rfl ?_
         refine oV (fz (aa.hL B a) _ _ V.aF rfl ⟨_, rfl⟩ ⟨rfl, rfl⟩ rfl (by omega) (by omega) (by omega)) ?_
         refine ai (sO (gK q (aa.hL B a) c 1) (l.length - (aa.hL B a)) (c - (aa.hL B a)) (l.drop (aa.hL B a)) (Row I3 q l.length c l) (by rw [List.length_drop]) (fun _ _ hh => lR rfl (by omega) hcap hh) hc2) V.r9  rfl (.cons ar .nil) rfl ?_
         rintro _ _ ⟨rfl, rfl⟩
         refine rO aw 11 rfl ?_
         refine oV (bA (cI rfl rfl) (by decide)) ?_
         refine rO aw 2 rfl ?_
         refine al rfl ?_
         refine oV (ck (cI rfl rfl) hc2) ?_
         refine rO aw 13 rfl ?_
         obtain rfl : o = .error 4 := ho.symm.trans (by exact (aa.mA h14 ⟨hq1, hq2⟩ hta hy hz (.inr (.inl hc2))))
         exact an (dL rfl rfl rfl) ⟨rfl, rfl⟩ (sub (.cons lh .nil) kT)
       ·refine rC aw 4 rfl ?_
        refine oV (gh (aa.hL B a) _ V.aF rfl ⟨_, rfl⟩ rfl (by omega) (by omega)) ?_
        refine ai (sO q (aa.hL B a) c (l.take (aa.hL B a)) (Row I3 q l.length c l) (by rw [List.length_take]; omega) (fun _ _ hh => nu rfl (by omega) hh) hc1) V.r9  rfl (au .nil) rfl ?_
        rintro _ _ ⟨rfl, rfl⟩
        refine rO aw 7 rfl ?_
        rcases (Classical.em (ab.aO (l.drop (aa.hL B a)) = 0)) with hc2 | hc2
        ·refine rC aw 4 rfl ?_
         refine oV (fz (aa.hL B a) _ _ V.aF rfl ⟨_, rfl⟩ ⟨rfl, rfl⟩ rfl (by omega) (by omega) (by omega)) ?_
         refine ai (oz (gK q (aa.hL B a) c 1) (l.length - (aa.hL B a)) (c - (aa.hL B a)) (l.drop (aa.hL B a)) (Row I3 q l.length c l) (by rw [List.length_drop]) (fun _ _ hh => lR rfl (by omega) hcap hh) hc2) V.r9  rfl (au .nil) rfl ?_
         rintro _ _ ⟨x28, rfl, rfl⟩
         refine rO aw 11 rfl ?_
         refine oV (ck (cI rfl rfl) hc1) ?_
         refine rO aw 16 rfl ?_
         obtain rfl : o = .error 4 := ho.symm.trans (by exact (aa.mA h14 ⟨hq1, hq2⟩ hta hy hz (.inl hc1)))
         exact an (dL rfl rfl rfl) ⟨rfl, rfl⟩ (sub (.cons lh .nil) kT)
        ·refine rC aw 4 rfl ?_
         refine oV (fz (aa.hL B a) _ _ V.aF rfl ⟨_, rfl⟩ ⟨rfl, rfl⟩ rfl (by omega) (by omega) (by omega)) ?_
         refine ai (sO (gK q (aa.hL B a) c 1) (l.length - (aa.hL B a)) (c - (aa.hL B a)) (l.drop (aa.hL B a)) (Row I3 q l.length c l) (by rw [List.length_drop]) (fun _ _ hh => lR rfl (by omega) hcap hh) hc2) V.r9  rfl (au .nil) rfl ?_
         rintro _ _ ⟨rfl, rfl⟩
         refine rO aw 11 rfl ?_
         refine oV (ck (cI rfl rfl) hc1) ?_
         refine rO aw 16 rfl ?_
         obtain rfl : o = .error 4 := ho.symm.trans (by exact (aa.mA h14 ⟨hq1, hq2⟩ hta hy hz (.inl hc1)))
         exact an (dL rfl rfl rfl) ⟨rfl, rfl⟩ (sub (.cons dC .nil) jj)
    ·refine rC aw 1 rfl ?_
     have hkC : k = aa.hC B a := by omega
     rw [show aa.fP B (a + 14) k = aa.bG B a from by rw [hkC]; exact (aa.oT B a).symm, show ((a : Int) + 14 + 3 * (k : Int)) = ((aa.cY B a : Nat) : Int) from by omega]
     have hta : aa.cY B a ≤ 8 * B.length := by omega
     refine rC aw 2 rfl ?_
     refine ai (sO (some ⟨uV, 0, none⟩) 19 19 (aa.bG B a) (Row I3 (some ⟨uV, 0, none⟩) 19 19 (aa.bG B a)) (aa.eY B a).symm (fun _ _ hh => kz (aa.eY B a).symm hh) hy) V.r9  rfl (au .nil) rfl ?_
     rintro _ _ ⟨rfl, rfl⟩
     refine rO aw 11 rfl ?_
     refine oV (ck (cI rfl rfl) hy) ?_
     refine rO aw 12 rfl ?_
     obtain rfl : o = .error 4 := ho.symm.trans (aa.xC h14 ⟨hq1, hq2⟩ hta hy)
     exact an (dL rfl rfl rfl) ⟨rfl, rfl⟩ (sub (.cons dC .nil) jj)
  ·refine rC aw 2 rfl ?_
   have h14 : a + 14 ≤ 8 * B.length := by omega
   rw [show af.az B a 5 + 257 = (aa.hL B a : Int) from by omega, show af.az B (a + 5) 5 + 1 = (aa.hD B a : Int) from by omega, show af.az B (a + 10) 4 + 4 = (aa.hC B a : Int) from by omega]
   refine rC aw 2 rfl ?_
   refine oV (bA (cB rfl rfl) (by omega)) ?_
   refine rO aw 2 rfl ?_
   refine al rfl ?_
   refine oV (ck (cB rfl rfl) (by omega)) ?_
   refine rO aw 13 rfl ?_
   obtain rfl : o = .error 4 := ho.symm.trans (aa.qQ h14 (by omega))
   exact an (dL rfl rfl rfl) ⟨rfl, rfl⟩ (sub (.cons ar .nil) cw)
  ·refine rC aw 2 rfl ?_
   have h14 : a + 14 ≤ 8 * B.length := by omega
   rw [show af.az B a 5 + 257 = (aa.hL B a : Int) from by omega, show af.az B (a + 5) 5 + 1 = (aa.hD B a : Int) from by omega, show af.az B (a + 10) 4 + 4 = (aa.hC B a : Int) from by omega]
   refine rC aw 2 rfl ?_
   refine oV (ck (cB rfl rfl) (by omega)) ?_
   refine rO aw 16 rfl ?_
   obtain rfl : o = .error 4 := ho.symm.trans (aa.qQ h14 (by omega))
   exact an (dL rfl rfl rfl) ⟨rfl, rfl⟩ (sub (.cons ar .nil) cw)
end Go.Proofs.YtmbljkghkcgejaaGreat
namespace Go.Proofs.YtmbljkghkcgejaaGreat
open Go.Sl 
theorem bD : dJ Tryz.prog ⟨[], []⟩ = true := by kernel_rfl
attribute [local irreducible] ab.aO ab.tk ab.ord ab.bx ab.words ab.cF aa.fP aa.bG aa.bO aa.cY aa.hL aa.hD aa.hC aa.eZ aa.told aa.bF aa.iN aa.rep aa.eo aa.dr aa.sym aa.cC af.az aa.eG aa.cT aa.one aa.eE aa.j9 aa.mf aa.ga aa.gH aa.fu
set_option maxHeartbeats 8000000 in
theorem KQ (p : Option Addr) (cap : Nat) (B : List Int) (R : ae) (hR : ∀ w0 h, R w0 h → bJ U5 p B.length B w0 h) (hl : B.length < 500000000) (hB : af.aY B) (mo : Int) (hm1 : mo < 500000000) (q : List Int × Int × Int) (hq : aa.gU B mo q) : aD Tryz.prog 16 [.slice p B.length cap, .int .i64 mo] [R] (aK fun v G => ∃ qq cq, v = .tuple #[.slice qq q.1.length cq, .int .i64 q.2.1, .int .i64 q.2.2] ∧ G = [Row U5 qq q.1.length cq q.1, R]) := by
 refine ax [(0, _), (1, _)] Tryz.func16 rfl Tryz.ntmps16 rfl rfl ?_
 intro w0 F
 refine rT bD 7 rfl ?_
 rcases (Int.lt_or_le mo 0) with hm0 | hm0
 ·refine rC bD 4 rfl ?_
  refine oV (ck (bZ rfl rfl) hm0) ?_
  refine rO bD 12 rfl ?_
  obtain rfl := hq.k8 (.inl ⟨hm0, rfl⟩)
  exact an (dL rfl rfl rfl) ⟨none, 0, rfl, rfl⟩ (Sl.Sub.trans (cL (A := Row U5 none 0 0 []) (fun w0 => Row.nil U5 w0 _)) (sub (aE .nil) ao))
 ·refine rC bD 4 rfl ?_
  refine oV (bA (bZ rfl rfl) (by omega)) ?_
  refine rO bD 6 rfl ?_
  have hm : 0 ≤ mo ∧ mo < 500000000 := ⟨hm0, hm1⟩
  refine rC bD 2 rfl ?_
  refine oV (eP V.MU V.z59 rfl (cs := [_, _, _, _]) rfl) ?_
  refine fG rfl (cs := [_, _, _, _]) rfl rfl ?_
  intro kc
  refine rO bD 5 rfl ?_
  refine bP (U5) [] V.bH V.z5 rfl rfl rfl rfl rfl rfl ?_
  intro DQ
  refine rO bD 4 rfl ?_
  refine bR (M := av kc 59 [.slice p B.length cap, .int .i64 (aa.start.at_ : Int), .bool false, .bool false] :: R :: Row U5 (some ⟨DQ, 0, none⟩) aa.start.out.length 0 aa.start.out :: F) (sub (.cons ar (.cons ar (au .nil))) ao) ?_
  refine kW (fun (S : aa.St) (q2 : Option Addr) (c2 : Nat) (sh : Bool) => [(1, .int .i64 mo), (7, .pointer (some ⟨kc, 0, none⟩)), (8, .slice q2 S.out.length c2)]) (fun (S : aa.St) (q2 : Option Addr) (c2 : Nat) (sh : Bool) => av kc 59 [.slice p B.length cap, .int .i64 (S.at_ : Int), .bool false, .bool sh] :: R :: Row U5 q2 S.out.length c2 S.out :: F) (fun (S : aa.St) (q2 : Option Addr) (c2 : Nat) (sh : Bool) => aa.eD B mo aa.start S ∧ aa.Ok B mo S ∧ S.kind = -1 ∧ S.aq = 0 ∧ S.ended = false) (fun (S : aa.St) (q2 : Option Addr) (c2 : Nat) (sh : Bool) => aa.mu B S) (i4 (aa.start) (some ⟨DQ, 0, none⟩) (0) (false) ?_ (fL ln) (sub (dU .nil) ao)) ?_
  ·exact ⟨aa.eD.refl _ _ _, aa.oP hm0, rfl, rfl, rfl⟩
  intro S q2 c2 sh
  rintro ⟨hgo, hok, hk, hc, he⟩
  refine rL bD 3 rfl ?_
  have hat := hok.at_
  have hro := hok.room
  refine rC bD 2 rfl ?_
  refine ai (ou kc p cap B R hR S.at_ sh hl hok.at_) V.wh  rfl (aE .nil) rfl ?_
  rintro _ _ ⟨rfl, rfl⟩
  refine rO bD 3 rfl ?_
  refine aj rfl (fun h27 => ?_) (fun h27 => ?_)
  ·refine rC bD 12 rfl ?_
   obtain rfl := hq.k8 (.inr ⟨hm0, _, hgo.fail he ((aa.jd (by omega) hk).trans (aa.vy (by omega))), rfl⟩)
   exact an (dL rfl rfl rfl) ⟨none, 0, rfl, rfl⟩ (Sl.Sub.trans (cL (A := Row U5 none 0 0 []) (fun w0 => Row.nil U5 w0 _)) (sub (au (.cons ar .nil)) fg))
  ·refine rC bD 5 rfl ?_
   refine ai (gN kc p cap B R hR S.at_ sh 1 hl hB (by omega) (by omega)) V.jB  rfl (aE .nil) rfl ?_
   rintro _ _ ⟨rfl, rfl⟩
   refine rO bD 10 rfl ?_
   refine ai (gN kc p cap B R hR (S.at_ + 1) sh 2 hl hB (by omega) (by omega)) V.jB  rfl (aE .nil) rfl ?_
   rintro _ _ ⟨rfl, rfl⟩
   refine rO bD 25 rfl ?_
   refine aj rfl (fun h39 => ?_) (fun h39 => ?_)
   ·rcases (aa.Ag (mo := mo) hB hok hk hc) with ⟨e, hbo⟩ | ⟨S2, hbo⟩
    ·refine rC bD 4 rfl ?_
     refine ai (wH kc p cap B R hR sh S mo q2 c2 hl hB hm hok (.error e) hk hc he (by omega) (by omega) hbo) V.Ml  rfl (dU .nil) rfl ?_
     rintro _ _ ⟨rfl, rfl⟩
     refine rO bD 12 rfl ?_
     refine oV (ck (cI rfl rfl) (aa.Af hB hok hk hc he hbo)) ?_
     refine rO bD 16 rfl ?_
     obtain rfl := hq.k8 (.inr ⟨hm0, _, hgo _ ((aa.ko hB hok hk hc he hbo).2 _ rfl), rfl⟩)
     exact an (dL rfl rfl rfl) ⟨none, 0, rfl, rfl⟩ (Sl.Sub.trans (cL (A := Row U5 none 0 0 []) (fun w0 => Row.nil U5 w0 _)) (sub (aE .nil) ao))
    ·refine rC bD 4 rfl ?_
     refine ai (wH kc p cap B R hR sh S mo q2 c2 hl hB hm hok (.ok S2) hk hc he (by omega) (by omega) hbo) V.Ml  rfl (dU .nil) rfl ?_
     rintro _ _ ⟨q9, c9, sh9, rfl, rfl⟩
     refine rO bD 12 rfl ?_
     refine oV (bA (cI rfl rfl) (by decide)) ?_
     refine rO bD 6 rfl ?_
     obtain ⟨g1, g2, g3, g4, g5, g6⟩ := (aa.ko hB hok hk hc he hbo).1 S2 rfl
     have hat2 := g2.at_
     refine rC bD 5 rfl ?_
     refine aj rfl (fun h87 => ?_) (fun h87 => ?_)
     ·refine rC bD 1 rfl ?_
      refine wN [pz 0 [] [8], pz 0 [] [7], pz 2 [1] [], pz 6 [2] [], pz 14 [3] [], pz 30 [4] [], pz 62 [5] [], pz 1 [0] [], pz 255 [6] [], pz 511 [] []] [⟨fun y => av kc 59 [.slice p B.length cap, .int .i64 (S2.at_ : Int), .bool false, .bool sh9], none, none, [4]⟩, ⟨fun y => R, none, none, []⟩, ⟨fun y => Row U5 q9 S2.out.length c9 S2.out, none, none, []⟩] F V.mixed ?_
      iterate 2 refine nM ?_
      refine nN ?_
      refine nG V.tH ?_
      refine nR (fun y FF hA => ag V.s3 rfl ak rfl) ?_
      refine nV (fun y hA L => bU rfl rfl wI) ?_
      refine nV (fun y hA L => ke rfl rfl (by omega) (lN (by omega) (by omega) (by omega))) ?_
      iterate 3 refine nA ?_
      refine aM ?_
      intro y hA
      clear hA
      refine bp ?_
      refine bW _ (.cons (d := 4) rfl (.cons (d := 5) rfl (.cons (d := 6) rfl (.nil _)))) ?_
      refine bR (M := av kc 59 [.slice p B.length cap, .int .i64 (S2.at_ : Int), .bool false, .bool sh9] :: R :: Row U5 q9 S2.out.length c9 S2.out :: F) (fun _ _ h => h) ?_
      refine rC bD 4 rfl ?_
      obtain rfl := hq.k8 (.inr ⟨hm0, _, hgo _ (g1 _ (.done (by rw [g5]; exact decide_eq_true (by omega)))), rfl⟩)
      rw [show ((S2.at_ : Int) + 7) / 8 = (((S2.at_ + 7) / 8 : Nat) : Int) from by omega]
      exact an (dL rfl rfl rfl) ⟨q9, c9, rfl, rfl⟩ (sub (.cons aS (.cons ar .nil)) cw)
     ·refine rC bD 2 rfl ?_
      refine j4 (S2) (q9) (c9) (sh9) ?_ (fL ln) (sub (dU .nil) ao)
      exact ⟨⟨hgo.trans g1, g2, g3, g4, by rw [g5]; exact decide_eq_false (by omega)⟩, g6⟩
   ·refine rC bD 6 rfl ?_
    refine aj rfl (fun h48 => ?_) (fun h48 => ?_)
    ·refine rC bD 2 rfl ?_
     refine ai (Iq) V.lG  rfl .nil rfl ?_
     rintro _ _ ⟨x15, y15, rfl, rfl⟩
     refine rO bD 7 rfl ?_
     rcases (aa.Ag (mo := mo) hB hok hk hc) with ⟨e, hbo⟩ | ⟨S2, hbo⟩
     ·have hbeg := aa.ti (B := B) (s := S) (by omega) (by omega)
      have hbl := hbo.go hbeg
      have hok1 := (aa.dZ hB hok ((aa.jd (by omega) hk).trans hbeg)).ok
      refine rC bD 6 rfl ?_
      refine ai ((rp kc p cap B R hR sh { S with at_ := S.at_ + 3, kind := 1, last := decide ((af.az B S.at_ 1) = 1), lits := aa.bF, cH := aa.fu } mo q2 c2 hl hB hm hok1 (.error e) x15 y15 (show (0 : Int) < 1 by decide) hc he hbl)) V.GD  rfl (.cons aS (.cons aS (dU .nil))) rfl ?_
      rintro _ _ ⟨rfl, rfl⟩
      refine rO bD 12 rfl ?_
      refine oV (ck (cI rfl rfl) (aa.Af hB hok hk hc he hbo)) ?_
      refine rO bD 16 rfl ?_
      obtain rfl := hq.k8 (.inr ⟨hm0, _, hgo _ ((aa.ko hB hok hk hc he hbo).2 _ rfl), rfl⟩)
      exact an (dL rfl rfl rfl) ⟨none, 0, rfl, rfl⟩ (Sl.Sub.trans (cL (A := Row U5 none 0 0 []) (fun w0 => Row.nil U5 w0 _)) (sub (aE .nil) ao))
     ·have hbeg := aa.ti (B := B) (s := S) (by omega) (by omega)
      have hbl := hbo.go hbeg
      have hok1 := (aa.dZ hB hok ((aa.jd (by omega) hk).trans hbeg)).ok
      refine rC bD 6 rfl ?_
      refine ai ((rp kc p cap B R hR sh { S with at_ := S.at_ + 3, kind := 1, last := decide ((af.az B S.at_ 1) = 1), lits := aa.bF, cH := aa.fu } mo q2 c2 hl hB hm hok1 (.ok S2) x15 y15 (show (0 : Int) < 1 by decide) hc he hbl)) V.GD  rfl (.cons aS (.cons aS (dU .nil))) rfl ?_
      rintro _ _ ⟨q9, c9, sh9, rfl, rfl⟩
      refine rO bD 12 rfl ?_
      refine oV (bA (cI rfl rfl) (by decide)) ?_
      refine rO bD 6 rfl ?_
      obtain ⟨g1, g2, g3, g4, g5, g6⟩ := (aa.ko hB hok hk hc he hbo).1 S2 rfl
      have hat2 := g2.at_
      refine rC bD 5 rfl ?_
      refine aj rfl (fun h87 => ?_) (fun h87 => ?_)
      ·refine rC bD 1 rfl ?_
       refine wN [pz 0 [] [8], pz 0 [] [7], pz 2 [1] [], pz 6 [2] [], pz 14 [3] [], pz 30 [4] [], pz 62 [5] [], pz 1 [0] [], pz 255 [6] [], pz 511 [] []] [⟨fun y => av kc 59 [.slice p B.length cap, .int .i64 (S2.at_ : Int), .bool false, .bool sh9], none, none, [4]⟩, ⟨fun y => R, none, none, []⟩, ⟨fun y => Row U5 q9 S2.out.length c9 S2.out, none, none, []⟩] F V.mixed ?_
       iterate 2 refine nM ?_
       refine nN ?_
       refine nG V.tH ?_
       refine nR (fun y FF hA => ag V.s3 rfl ak rfl) ?_
       refine nV (fun y hA L => bU rfl rfl wI) ?_
       refine nV (fun y hA L => ke rfl rfl (by omega) (lN (by omega) (by omega) (by omega))) ?_
       iterate 3 refine nA ?_
       refine aM ?_
       intro y hA
       clear hA
       refine bp ?_
       refine bW _ (.cons (d := 4) rfl (.cons (d := 5) rfl (.cons (d := 6) rfl (.nil _)))) ?_
       refine bR (M := av kc 59 [.slice p B.length cap, .int .i64 (S2.at_ : Int), .bool false, .bool sh9] :: R :: Row U5 q9 S2.out.length c9 S2.out :: F) (fun _ _ h => h) ?_
       refine rC bD 4 rfl ?_
       obtain rfl := hq.k8 (.inr ⟨hm0, _, hgo _ (g1 _ (.done (by rw [g5]; exact decide_eq_true (by omega)))), rfl⟩)
       rw [show ((S2.at_ : Int) + 7) / 8 = (((S2.at_ + 7) / 8 : Nat) : Int) from by omega]
       exact an (dL rfl rfl rfl) ⟨q9, c9, rfl, rfl⟩ (sub (.cons aS (.cons ar .nil)) cw)
      ·refine rC bD 2 rfl ?_
       refine j4 (S2) (q9) (c9) (sh9) ?_ (fL ln) (sub (dU .nil) ao)
       exact ⟨⟨hgo.trans g1, g2, g3, g4, by rw [g5]; exact decide_eq_false (by omega)⟩, g6⟩
    ·refine rC bD 6 rfl ?_
     refine aj rfl (fun h63 => ?_) (fun h63 => ?_)
     ·rcases (aa.eT (aa.told B (S.at_ + 3))) with ⟨e, ht⟩ | ⟨⟨a9, l9, d9⟩, ht⟩
      ·refine rC bD 3 rfl ?_
       refine ai (F6 kc p cap B R hR sh (S.at_ + 3) hl hB (by omega) (.error e) ht) V.Mj  rfl (aE .nil) rfl ?_
       rintro _ _ ⟨rfl, rfl⟩
       refine rO bD 18 rfl ?_
       refine oV (bA (cg rfl rfl) (aa.uy ht)) ?_
       refine rO bD 8 rfl ?_
       have hbo : aa.BO B mo S (.error e) := .inl ⟨e, aa.ya (by omega) (by omega) ht, rfl⟩
       refine rC bD 2 rfl ?_
       refine oV (ck (cI rfl rfl) (aa.uy ht)) ?_
       refine rO bD 16 rfl ?_
       obtain rfl := hq.k8 (.inr ⟨hm0, _, hgo _ ((aa.ko hB hok hk hc he hbo).2 _ rfl), rfl⟩)
       exact an (dL rfl rfl rfl) ⟨none, 0, rfl, rfl⟩ (Sl.Sub.trans (cL (A := Row U5 none 0 0 []) (fun w0 => Row.nil U5 w0 _)) (sub (aE .nil) cw))
      ·refine rC bD 3 rfl ?_
       refine ai (F6 kc p cap B R hR sh (S.at_ + 3) hl hB (by omega) (.ok (a9, l9, d9)) ht) V.Mj  rfl (aE .nil) rfl ?_
       rintro _ _ ⟨x67, y67, sh8, rfl, rfl⟩
       refine rO bD 18 rfl ?_
       refine oV (ck (cg rfl rfl) (by decide)) ?_
       refine rO bD 3 rfl ?_
       rcases (aa.Ag (mo := mo) hB hok hk hc) with ⟨e, hbo⟩ | ⟨S2, hbo⟩
       ·have hbeg := aa.pZ (B := B) (s := S) (by omega) (by omega) ht
        have hbl := hbo.go hbeg
        have hok1 := (aa.dZ hB hok ((aa.jd (by omega) hk).trans hbeg)).ok
        refine rC bD 6 rfl ?_
        refine ai ((rp kc p cap B R hR sh8 { S with at_ := a9, kind := 2, last := decide ((af.az B S.at_ 1) = 1), lits := l9, cH := d9 } mo q2 c2 hl hB hm hok1 (.error e) x67 y67 (show (0 : Int) < 2 by decide) hc he hbl)) V.GD  rfl (lF .nil) rfl ?_
        rintro _ _ ⟨rfl, rfl⟩
        refine rO bD 12 rfl ?_
        refine oV (ck (cI rfl rfl) (aa.Af hB hok hk hc he hbo)) ?_
        refine rO bD 16 rfl ?_
        obtain rfl := hq.k8 (.inr ⟨hm0, _, hgo _ ((aa.ko hB hok hk hc he hbo).2 _ rfl), rfl⟩)
        exact an (dL rfl rfl rfl) ⟨none, 0, rfl, rfl⟩ (Sl.Sub.trans (cL (A := Row U5 none 0 0 []) (fun w0 => Row.nil U5 w0 _)) (sub (aE .nil) ao))
       ·have hbeg := aa.pZ (B := B) (s := S) (by omega) (by omega) ht
        have hbl := hbo.go hbeg
        have hok1 := (aa.dZ hB hok ((aa.jd (by omega) hk).trans hbeg)).ok
        refine rC bD 6 rfl ?_
        refine ai ((rp kc p cap B R hR sh8 { S with at_ := a9, kind := 2, last := decide ((af.az B S.at_ 1) = 1), lits := l9, cH := d9 } mo q2 c2 hl hB hm hok1 (.ok S2) x67 y67 (show (0 : Int) < 2 by decide) hc he hbl)) V.GD  rfl (lF .nil) rfl ?_
        rintro _ _ ⟨q9, c9, sh9, rfl, rfl⟩
        refine rO bD 12 rfl ?_
        refine oV (bA (cI rfl rfl) (by decide)) ?_
        refine rO bD 6 rfl ?_
        obtain ⟨g1, g2, g3, g4, g5, g6⟩ := (aa.ko hB hok hk hc he hbo).1 S2 rfl
        have hat2 := g2.at_
        refine rC bD 5 rfl ?_
        refine aj rfl (fun h87 => ?_) (fun h87 => ?_)
        ·refine rC bD 1 rfl ?_
         refine wN [pz 0 [] [8], pz 0 [] [7], pz 2 [1] [], pz 6 [2] [], pz 14 [3] [], pz 30 [4] [], pz 62 [5] [], pz 1 [0] [], pz 255 [6] [], pz 511 [] []] [⟨fun y => av kc 59 [.slice p B.length cap, .int .i64 (S2.at_ : Int), .bool false, .bool sh9], none, none, [4]⟩, ⟨fun y => R, none, none, []⟩, ⟨fun y => Row U5 q9 S2.out.length c9 S2.out, none, none, []⟩] F V.mixed ?_
         iterate 2 refine nM ?_
         refine nN ?_
         refine nG V.tH ?_
         refine nR (fun y FF hA => ag V.s3 rfl ak rfl) ?_
         refine nV (fun y hA L => bU rfl rfl wI) ?_
         refine nV (fun y hA L => ke rfl rfl (by omega) (lN (by omega) (by omega) (by omega))) ?_
         iterate 3 refine nA ?_
         refine aM ?_
         intro y hA
         clear hA
         refine bp ?_
         refine bW _ (.cons (d := 4) rfl (.cons (d := 5) rfl (.cons (d := 6) rfl (.nil _)))) ?_
         refine bR (M := av kc 59 [.slice p B.length cap, .int .i64 (S2.at_ : Int), .bool false, .bool sh9] :: R :: Row U5 q9 S2.out.length c9 S2.out :: F) (fun _ _ h => h) ?_
         refine rC bD 4 rfl ?_
         obtain rfl := hq.k8 (.inr ⟨hm0, _, hgo _ (g1 _ (.done (by rw [g5]; exact decide_eq_true (by omega)))), rfl⟩)
         rw [show ((S2.at_ : Int) + 7) / 8 = (((S2.at_ + 7) / 8 : Nat) : Int) from by omega]
         exact an (dL rfl rfl rfl) ⟨q9, c9, rfl, rfl⟩ (sub (.cons aS (.cons ar .nil)) cw)
        ·refine rC bD 2 rfl ?_
         refine j4 (S2) (q9) (c9) (sh9) ?_ (fL ln) (sub (dU .nil) ao)
         exact ⟨⟨hgo.trans g1, g2, g3, g4, by rw [g5]; exact decide_eq_false (by omega)⟩, g6⟩
     ·have hbo : aa.BO B mo S (.error 4) := .inl ⟨4, aa.wL (by omega) (by omega) (by omega) (by omega), rfl⟩
      refine rC bD 9 rfl ?_
      refine oV (ck (cI rfl rfl) (by decide)) ?_
      refine rO bD 16 rfl ?_
      obtain rfl := hq.k8 (.inr ⟨hm0, _, hgo _ ((aa.ko hB hok hk hc he hbo).2 _ rfl), rfl⟩)
      exact an (dL rfl rfl rfl) ⟨none, 0, rfl, rfl⟩ (Sl.Sub.trans (cL (A := Row U5 none 0 0 []) (fun w0 => Row.nil U5 w0 _)) (sub (au (.cons ar .nil)) fg))
end Go.Proofs.YtmbljkghkcgejaaGreat
namespace Go.Proofs.YtmbljkghkcgejaaGreat
open Go.Sl
theorem V.NV : jR Tryz.prog 32 = some 2 := by kernel_rfl
theorem V.iI : aC Tryz.prog 10 = true := by kernel_rfl
theorem V.iV : aC Tryz.prog 11 = true := by kernel_rfl
theorem V.qx : aC Tryz.prog 12 = true := by kernel_rfl
theorem V.mV : aC Tryz.prog 13 = true := by kernel_rfl
theorem V.NI : aC Tryz.prog 14 = true := by kernel_rfl
theorem V.eU : aC Tryz.prog 15 = true := by kernel_rfl
theorem V.mI : aC Tryz.prog 16 = true := by kernel_rfl
theorem V.Jh : aC Tryz.prog 17 = true := by kernel_rfl
theorem V.oC : aC Tryz.prog 18 = true := by kernel_rfl
theorem V.NP : aC Tryz.prog 19 = true := by kernel_rfl
theorem V.vn : aC Tryz.prog 26 = true := by kernel_rfl
theorem V.Me : aC Tryz.prog 42 = true := by kernel_rfl
theorem V.b7 : aC Tryz.prog 7 = true := by kernel_rfl
theorem V.b8 : aC Tryz.prog 8 = true := by kernel_rfl
theorem V.b9 : aC Tryz.prog 9 = true := by kernel_rfl
theorem V.N4 : bK Tryz.prog 32 0 = some 0 := by kernel_rfl
theorem V.Od : bK Tryz.prog 32 1 = some 1 := by kernel_rfl
theorem V.r4 : cZ Tryz.prog 30 = true := by kernel_rfl
end Go.Proofs.YtmbljkghkcgejaaGreat

/- Walks of functions that the law reaches, and what they lean on; no conditions. -/
import Derived.Test.YtmbljkghkcgejaaGreatM30
import Derived.Test.YtmbljkghkcgejaaGreatSl22
import Derived.KernelRfl
import Derived.Test.YtmbljkghkcgejaaGreatM51
import Derived.Test.YtmbljkghkcgejaaGreatM35
import Derived.Test.YtmbljkghkcgejaaGreatSl24
set_option linter.unusedVariables false
set_option linter.unusedSimpArgs false
set_option maxRecDepth 100000
namespace Go.Proofs.YtmbljkghkcgejaaGreat
open Go.Sl 
theorem TTZiAA : okT Tryz.prog ⟨[77], []⟩ = true := by kernel_rfl
attribute [local irreducible] HuffP.newE HuffP.tk HuffP.ord HuffP.cntL HuffP.words HuffP.mostL InfP.frs InfP.toldC InfP.toldN InfP.toldA InfP.hL InfP.hD InfP.hC InfP.lnGo InfP.told InfP.fixL InfP.codeE InfP.rep InfP.lenE InfP.awayE InfP.sym InfP.alg BitP.numL InfP.coded InfP.begin_ InfP.one InfP.put_ InfP.lnB InfP.dsB InfP.lnM InfP.dsM InfP.rpB InfP.rpL InfP.rpW InfP.fixD
def PD (b : Nat) (p : Option Addr) (cap : Nat) (B : List Int) (R : HProp) : Except Int (Nat × List Int × List Int) → Value → List HProp → Prop
 | .error e, v, G => v = .tuple #[.pointer none, .pointer none, .int .i64 e] ∧ G = [R]
 | .ok (a, l, d), v, G => ∃ x y sh, v = .tuple #[.pointer (some ⟨x, 0, none⟩), .pointer (some ⟨y, 0, none⟩), .int .i64 0] ∧ G = [Cel b 59 [.slice p B.length cap, .int .i64 (a : Int), .bool false, .bool sh], R, RC x l, RC y d]
set_option maxHeartbeats 8000000 in
theorem d_dyn (b : Nat) (p : Option Addr) (cap : Nat) (B : List Int) (R : HProp) (hR : ∀ w0 h, R w0 h → RdR U5 p B.length B w0 h) (sh : Bool) (a : Nat) (hl : B.length < 500000000) (hB : BitP.Byt B) (ha : a ≤ 8 * B.length) (o : Except Int (Nat × List Int × List Int)) (ho : InfP.told B a = o) : Ctr Tryz.prog 32 [.pointer (some ⟨b, 0, none⟩)] [Cel b 59 [.slice p B.length cap, .int .i64 (a : Int), .bool false, .bool sh], R] (Ret fun v G => PD b p cap B R o v G) := by
 refine spec_of [(0, _)] Tryz.func32 rfl Tryz.ntmps32 rfl rfl ?_
 intro w0 F
 have hn1 := BitP.numL_bound B a 5
 have hn2 := BitP.numL_bound B (a + 5) 5
 have hn3 := BitP.numL_bound B (a + 10) 4
 obtain ⟨he1, he2, he3, he4, he5, he6, he7, he8⟩ := InfP.hd_eqs B a
 have hNN : InfP.toldN B a = InfP.hL B a + InfP.hD B a := InfP.toldN_eq B a
 have hAA : InfP.toldA B a = a + 14 + 3 * InfP.hC B a := InfP.toldA_eq B a
 refine rT TTZiAA 11 rfl ?_
 refine o_call (d_Left b p cap B R hR a sh hl ha) V.b27  rfl (rz2 .nil) rfl ?_
 rintro _ _ ⟨rfl, rfl⟩
 refine rO TTZiAA 3 rfl ?_
 refine w_condD rfl (fun h32 => ?_) (fun h32 => ?_)
 ·refine rC TTZiAA 9 rfl ?_
  obtain rfl : o = .error 2 := ho.symm.trans (InfP.told_1 (by omega))
  exact ret_ok (res3 rfl rfl rfl) ⟨rfl, rfl⟩ (sub (.cons rr1 .nil) dd1)
 ·refine rC TTZiAA 5 rfl ?_
  refine o_call (d_take b p cap B R hR a sh 5 hl hB (by omega) (by omega)) V.b28  rfl (rz2 .nil) rfl ?_
  rintro _ _ ⟨rfl, rfl⟩
  refine rO TTZiAA 10 rfl ?_
  refine o_call (d_take b p cap B R hR (a + 5) sh 5 hl hB (by omega) (by omega)) V.b28  rfl (rz2 .nil) rfl ?_
  rintro _ _ ⟨rfl, rfl⟩
  refine rO TTZiAA 10 rfl ?_
  refine o_call (d_take b p cap B R hR (a + 10) sh 4 hl hB (by omega) (by omega)) V.b28  rfl (rz2 .nil) rfl ?_
  rintro _ _ ⟨rfl, rfl⟩
  refine rOs TTZiAA 20 rfl (by omega) ?_
  rcases (InfP.or3 (InfP.hL B a ≤ 286) (InfP.hD B a ≤ 30)) with ⟨hq1, hq2⟩ | ⟨hq1, hq2⟩ | hq1
  ·refine rC TTZiAA 2 rfl ?_
   have h14 : a + 14 ≤ 8 * B.length := by omega
   rw [show BitP.numL B a 5 + 257 = (InfP.hL B a : Int) from by omega, show BitP.numL B (a + 5) 5 + 1 = (InfP.hD B a : Int) from by omega, show BitP.numL B (a + 10) 4 + 4 = (InfP.hC B a : Int) from by omega]
   refine rC TTZiAA 2 rfl ?_
   refine oV (v_F (v_gtr rfl rfl) (by omega)) ?_
   refine rO TTZiAA 2 rfl ?_
   refine o_want rfl ?_
   refine oV (v_F (v_gtr rfl rfl) (by omega)) ?_
   refine rO TTZiAA 8 rfl ?_
   refine r_build (I3) InfP.ordr V.sl77 V.z3 rfl rfl rfl rfl rfl rfl ?_
   intro b60
   refine rO TTZiAA 5 rfl ?_
   refine r_makeN 19 19 (I3) rfl rfl V.sl77 V.z3 rfl rfl rfl rfl (by omega) (by omega) rfl rfl ?_
   intro b61
   refine rO TTZiAA 10 rfl ?_
   rw [show List.replicate 19 I3.d = InfP.frs B (a + 14) 0 from (InfP.frs_zero B (a + 14)).symm]
   refine w_loop1 (fun (k : Nat) => [(0, .pointer (some ⟨b, 0, none⟩)), (5, .int .i64 (InfP.hL B a : Int)), (7, .int .i64 (InfP.hD B a : Int)), (9, .int .i64 (InfP.hC B a : Int)), (11, .slice (some ⟨b60, 0, none⟩) 19 19), (12, .slice (some ⟨b61, 0, none⟩) 19 19), (13, .int .i64 (k : Int))]) (fun (k : Nat) => Row I3 (some ⟨b61, 0, none⟩) 19 19 (InfP.frs B (a + 14) k) :: Row I3 (some ⟨b60, 0, none⟩) 19 19 InfP.ordr :: Cel b 59 [.slice p B.length cap, .int .i64 ((a + 14 + 3 * k) : Int), .bool false, .bool sh] :: R :: F) (fun (k : Nat) => k ≤ InfP.hC B a ∧ a + 14 + 3 * k ≤ 8 * B.length) (fun (k : Nat) => InfP.hC B a - k) (i1 (0) ?_ (lc2 (lc5 ln)) (sub (rz4 .nil) dd0)) ?_
   ·exact ⟨Nat.zero_le _, by omega⟩
   intro k
   rintro ⟨hk, hk2⟩
   refine rL TTZiAA 8 rfl ?_
   refine w_condD rfl (fun h64 => ?_) (fun h64 => ?_)
   ·refine rC TTZiAA 4 rfl ?_
    rcases (Nat.lt_or_ge (8 * B.length) ((a + 14 + 3 * k) + 3)) with hx | hx
    ·refine rC TTZiAA 3 rfl ?_
     refine o_call (d_takeE b p cap B R hR (a + 14 + 3 * k) sh 3 hl hB (by omega) (by omega) (by omega)) V.b28  rfl (.cons rr2 (.cons rr2 .nil)) rfl ?_
     rintro _ _ ⟨rfl, rfl⟩
     refine rO TTZiAA 29 rfl ?_
     obtain rfl : o = .error 2 := ho.symm.trans (InfP.told_3 h14 ⟨hq1, hq2⟩ (by omega))
     exact ret_ok (res3 rfl rfl rfl) ⟨rfl, rfl⟩ (sub (.cons rr1 .nil) dd3)
    ·refine rC TTZiAA 3 rfl ?_
     refine o_call (d_take b p cap B R hR (a + 14 + 3 * k) sh 3 hl hB (by omega) (by omega)) V.b28  rfl (.cons rr2 (.cons rr2 .nil)) rfl ?_
     rintro _ _ ⟨rfl, rfl⟩
     refine rO TTZiAA 17 rfl ?_
     have hoo : 0 ≤ I3.g InfP.ordr (k : Int) ∧ I3.g InfP.ordr (k : Int) < 19 := InfP.ordr_at (k := k) (by omega)
     refine rC TTZiAA 4 rfl ?_
     refine oV (xI V.sl77 (own mm3)) ?_
     refine oV (xL V.s3 (own mm3)) ?_
     refine oV (v_move rfl) ?_
     refine oV (xI V.sl77 (own mm2)) ?_
     refine o_eff (r_store (c := (I3)) (_) V.s3 rfl rfl rfl (by exact pp2) (by omega) (by omega) rfl rfl) ?_
     refine rOs TTZiAA 8 rfl (by omega) ?_
     rw [show (InfP.frs B (a + 14) k).set (I3.g InfP.ordr (k : Int)).toNat (BitP.numL B (a + 14 + 3 * k) 3) = InfP.frs B (a + 14) (k + 1) from (InfP.frs_succ B (a + 14) k).symm]
     refine j1 (k + 1) ?_ (lc2 (lc5 ln)) (sub (.cons rr2 (.cons rr2 (rz2 .nil))) dd0)
     exact ⟨⟨by omega, by omega⟩, by omega⟩
   ·refine rC TTZiAA 5 rfl ?_
    rcases (Classical.em (HuffP.newE (InfP.toldC B a) = 0)) with hy | hy
    ·refine rC TTZiAA 1 rfl ?_
     have hkC : k = InfP.hC B a := by omega
     rw [show InfP.frs B (a + 14) k = InfP.toldC B a from by rw [hkC]; exact (InfP.toldC_eq B a).symm, show ((a : Int) + 14 + 3 * (k : Int)) = ((InfP.toldA B a : Nat) : Int) from by omega]
     have hta : InfP.toldA B a ≤ 8 * B.length := by omega
     refine rC TTZiAA 2 rfl ?_
     refine o_call (d_newY (some ⟨b61, 0, none⟩) 19 19 (InfP.toldC B a) (Row I3 (some ⟨b61, 0, none⟩) 19 19 (InfP.toldC B a)) (InfP.toldC_len B a).symm (fun _ _ hh => row_rd (InfP.toldC_len B a).symm hh) hy) V.b45  rfl (rz1 .nil) rfl ?_
     rintro _ _ ⟨bc, rfl, rfl⟩
     refine rO TTZiAA 11 rfl ?_
     refine oV (v_F (v_neq rfl rfl) (by decide)) ?_
     refine rO TTZiAA 12 rfl ?_
     refine w_add0 (Row I3 none 0 0 []) (Row.nil _ _ _) ?_
     refine w_loop5 (fun (l : List Int) (f : Nat) (x : Nat) (q : Option Addr) (c : Nat) => [(0, .pointer (some ⟨b, 0, none⟩)), (5, .int .i64 (InfP.hL B a : Int)), (7, .int .i64 (InfP.hD B a : Int)), (16, .pointer (some ⟨bc, 0, none⟩)), (18, .slice q l.length c)]) (fun (l : List Int) (f : Nat) (x : Nat) (q : Option Addr) (c : Nat) => Row I3 q l.length c l :: RC bc (InfP.toldC B a) :: Cel b 59 [.slice p B.length cap, .int .i64 (x : Int), .bool false, .bool sh] :: R :: F) (fun (l : List Int) (f : Nat) (x : Nat) (q : Option Addr) (c : Nat) => InfP.lnGo B (InfP.toldC B a) (InfP.toldN B a) (InfP.toldN B a) [] (InfP.toldA B a) = InfP.lnGo B (InfP.toldC B a) (InfP.toldN B a) f l x ∧ (InfP.toldN B a) ≤ f + l.length ∧ l.length ≤ (InfP.toldN B a) ∧ x ≤ 8 * B.length) (fun (l : List Int) (f : Nat) (x : Nat) (q : Option Addr) (c : Nat) => (InfP.toldN B a) - l.length) (i5 ([]) ((InfP.toldN B a)) ((InfP.toldA B a)) (none) (0) ?_ (lc5 ln) (sub (rz2 (.cons rr2 (.cons rr2 .nil))) dd2)) ?_
     ·exact ⟨rfl, Nat.le_add_right _ _, Nat.zero_le _, hta⟩
     intro l f x q c
     rintro ⟨hg, hf, hlt, hx⟩
     refine rLs TTZiAA 11 rfl (by omega) ?_
     refine w_condD rfl (fun h93 => ?_) (fun h93 => ?_)
     ·refine rC TTZiAA 3 rfl ?_
      rcases (InfP.sym_or (B := B) (ls := (InfP.toldC B a)) (a := x) hy (by rw [InfP.toldC_len]; decide)) with ⟨e, hs⟩ | ⟨sy, x2, hs, hy0, hy1, hx1, hx2⟩
      ·refine rC TTZiAA 4 rfl ?_
       refine o_call (d_symE bc (InfP.toldC B a) b p cap B R hR sh x hy hl hB hx hs) V.b46  rfl (.cons rr1 (.cons rr1 (.cons rr1 .nil))) rfl ?_
       rintro _ _ ⟨rfl, n9, sh9, rfl⟩
       refine rO TTZiAA 11 rfl ?_
       refine oV (v_T (v_neq rfl rfl) (InfP.sym_nz hs)) ?_
       refine rO TTZiAA 17 rfl ?_
       obtain rfl : o = .error e := ho.symm.trans (InfP.told_5 h14 ⟨hq1, hq2⟩ hta hy (hg.trans (InfP.lnGo_err (by omega) hf (InfP.lnStep_1 hs))))
       exact ret_ok (res3 rfl rfl rfl) ⟨rfl, rfl⟩ (sub (.cons rr2 .nil) dd3)
      ·refine rC TTZiAA 4 rfl ?_
       refine o_call (d_symY bc (InfP.toldC B a) b p cap B R hR sh x hy hl hB hx hs) V.b46  rfl (.cons rr1 (.cons rr1 (.cons rr1 .nil))) rfl ?_
       rintro _ _ ⟨rfl, rfl⟩
       refine rO TTZiAA 11 rfl ?_
       refine oV (v_F (v_neq rfl rfl) (by decide)) ?_
       refine rO TTZiAA 7 rfl ?_
       rw [InfP.toldC_len] at hy1
       refine rC TTZiAA 5 rfl ?_
       refine w_condD rfl (fun h104 => ?_) (fun h104 => ?_)
       ·refine rC TTZiAA 4 rfl ?_
        refine r_build (I3) [sy] V.sl77 V.z3 rfl rfl rfl rfl rfl rfl ?_
        intro b107
        refine r_append (c := (I3)) V.sl77 V.z3 rfl rfl rfl rfl rr4 (own mm0) (by omega) rfl ?_
        intro p108 c108
        refine rO TTZiAA 6 rfl ?_
        have hl6 : l.length < InfP.toldN B a := by omega
        (have hr := InfP.rep_lt (B := B) (l := l) (s := sy) (a := x2) (by omega); have hln : (l ++ [sy]).length = l.length + 1 := (by simp); have hst := InfP.lnStep_3 hs hr; rw [show List.replicate (1 : Int).toNat sy = [sy] from rfl] at hst; rw [show l.length + 1 = (l ++ [sy]).length from hln.symm]; refine j5 (l ++ [sy]) (f - 1) (x2) (_) (_) ?_ (lc5 ln) (sub (rz1 (.cons rr1 (.cons rr1 (.cons rr1 .nil)))) dd1); exact ⟨⟨hg.trans (InfP.lnGo_next hl6 hf hst (by omega)), by omega, by omega, hx2⟩, by omega⟩)
       ·refine rC TTZiAA 2 rfl ?_
        rcases (InfP.sy4 (s := sy) l (by omega)) with ⟨hs16, hl0⟩ | ⟨hs16, hl0⟩ | hs16 | hs16
        ·refine rC TTZiAA 11 rfl ?_
         refine oV (v_T (v_eql rfl rfl) (by omega)) ?_
         refine rO TTZiAA 3 rfl ?_
         refine o_want rfl ?_
         refine oV (v_F (v_gtr rfl rfl) (by omega)) ?_
         refine rO TTZiAA 10 rfl ?_
         refine oV (v_F (v_eql rfl rfl) (by omega)) ?_
         refine rO TTZiAA 9 rfl ?_
         refine oV (v_F (v_eql rfl rfl) (by omega)) ?_
         refine rO TTZiAA 5 rfl ?_
         rcases (Nat.lt_or_ge (8 * B.length) (x2 + InfP.rpB sy)) with hxr | hxr
         ·refine rC TTZiAA 1 rfl ?_
          have hrp := InfP.rp_le (s := sy)
          have hnx := BitP.numL_bound B x2 (InfP.rpB sy)
          have hpx := BitP.pow24 (show InfP.rpB sy ≤ 24 by omega)
          have hw : I3.g l 0 = 0 ∨ True := .inr trivial
          rw [show ((21 : Nat), Value.int .i64 0) = (21, .int .i64 (InfP.rpW sy l)) from by rw [InfP.rpW_16 hs16, List.eq_nil_of_length_eq_zero hl0]; rfl]
          rw [show ((22 : Nat), Value.int .i64 2) = (22, .int .i64 (InfP.rpB sy : Int)) from by rw [InfP.rpB_16 hs16]; rfl]
          rw [show ((23 : Nat), Value.int .i64 3) = (23, .int .i64 (InfP.rpL sy)) from by rw [InfP.rpL_16 (by omega)]]
          refine rC TTZiAA 3 rfl ?_
          refine o_call (d_takeE b p cap B R hR x2 sh (InfP.rpB sy) hl hB (by omega) (by omega) (by omega)) V.b28  rfl (.cons rr1 (.cons rr1 .nil)) rfl ?_
          rintro _ _ ⟨rfl, rfl⟩
          refine rO TTZiAA 28 rfl ?_
          obtain rfl : o = .error 2 := ho.symm.trans (InfP.told_5 h14 ⟨hq1, hq2⟩ hta hy (hg.trans (InfP.lnGo_err (by omega) hf (InfP.lnStep_2 hs (InfP.rep_short (by omega) hxr)))))
          exact ret_ok (res3 rfl rfl rfl) ⟨rfl, rfl⟩ (sub (.cons rr1 .nil) dd3)
         ·refine rC TTZiAA 1 rfl ?_
          have hrp := InfP.rp_le (s := sy)
          have hnx := BitP.numL_bound B x2 (InfP.rpB sy)
          have hpx := BitP.pow24 (show InfP.rpB sy ≤ 24 by omega)
          have hw : I3.g l 0 = 0 ∨ True := .inr trivial
          rw [show ((21 : Nat), Value.int .i64 0) = (21, .int .i64 (InfP.rpW sy l)) from by rw [InfP.rpW_16 hs16, List.eq_nil_of_length_eq_zero hl0]; rfl]
          rw [show ((22 : Nat), Value.int .i64 2) = (22, .int .i64 (InfP.rpB sy : Int)) from by rw [InfP.rpB_16 hs16]; rfl]
          rw [show ((23 : Nat), Value.int .i64 3) = (23, .int .i64 (InfP.rpL sy)) from by rw [InfP.rpL_16 (by omega)]]
          refine rC TTZiAA 3 rfl ?_
          refine o_call (d_take b p cap B R hR x2 sh (InfP.rpB sy) hl hB (by omega) (by omega)) V.b28  rfl (.cons rr1 (.cons rr1 .nil)) rfl ?_
          rintro _ _ ⟨rfl, rfl⟩
          refine rO TTZiAA 21 rfl ?_
          refine oV (v_T (v_eql rfl rfl) (by omega)) ?_
          refine rO TTZiAA 3 rfl ?_
          refine o_want rfl ?_
          refine oV (v_T (v_eql rfl rfl) (by omega)) ?_
          refine rO TTZiAA 29 rfl ?_
          obtain rfl : o = .error 4 := ho.symm.trans (by exact (InfP.told_5 h14 ⟨hq1, hq2⟩ hta hy (hg.trans (InfP.lnGo_err (by omega) hf (InfP.lnStep_2 hs (InfP.rep_form hs16 (List.eq_nil_of_length_eq_zero hl0) (by omega)))))))
          exact ret_ok (res3 rfl rfl rfl) ⟨rfl, rfl⟩ (sub (.cons rr1 .nil) dd3)
        ·refine rC TTZiAA 11 rfl ?_
         refine oV (v_T (v_eql rfl rfl) (by omega)) ?_
         refine rO TTZiAA 3 rfl ?_
         refine o_want rfl ?_
         refine oV (v_T (v_gtr rfl rfl) (by omega)) ?_
         refine rOs TTZiAA 9 rfl (by omega) ?_
         refine oV (xI V.sl77 (own mm3)) ?_
         refine oV (xL V.s3 (own mm3)) ?_
         refine rO TTZiAA 7 rfl ?_
         refine oV (v_F (v_eql rfl rfl) (by omega)) ?_
         refine rO TTZiAA 9 rfl ?_
         refine oV (v_F (v_eql rfl rfl) (by omega)) ?_
         refine rO TTZiAA 5 rfl ?_
         rcases (Nat.lt_or_ge (8 * B.length) (x2 + InfP.rpB sy)) with hxr | hxr
         ·refine rC TTZiAA 1 rfl ?_
          have hrp := InfP.rp_le (s := sy)
          have hnx := BitP.numL_bound B x2 (InfP.rpB sy)
          have hpx := BitP.pow24 (show InfP.rpB sy ≤ 24 by omega)
          have hw : I3.g l ((l.length : Int) - 1) = l.getD (l.length - 1) 0 := gE _ (by omega)
          rw [show ((21 : Nat), Value.int .i64 (I3.g l ((l.length : Int) - 1))) = (21, .int .i64 (InfP.rpW sy l)) from by rw [InfP.rpW_16 hs16, hw]]
          rw [show ((22 : Nat), Value.int .i64 2) = (22, .int .i64 (InfP.rpB sy : Int)) from by rw [InfP.rpB_16 hs16]; rfl]
          rw [show ((23 : Nat), Value.int .i64 3) = (23, .int .i64 (InfP.rpL sy)) from by rw [InfP.rpL_16 (by omega)]]
          refine rC TTZiAA 3 rfl ?_
          refine o_call (d_takeE b p cap B R hR x2 sh (InfP.rpB sy) hl hB (by omega) (by omega) (by omega)) V.b28  rfl (.cons rr1 (.cons rr1 .nil)) rfl ?_
          rintro _ _ ⟨rfl, rfl⟩
          refine rO TTZiAA 28 rfl ?_
          obtain rfl : o = .error 2 := ho.symm.trans (InfP.told_5 h14 ⟨hq1, hq2⟩ hta hy (hg.trans (InfP.lnGo_err (by omega) hf (InfP.lnStep_2 hs (InfP.rep_short (by omega) hxr)))))
          exact ret_ok (res3 rfl rfl rfl) ⟨rfl, rfl⟩ (sub (.cons rr1 .nil) dd3)
         ·refine rC TTZiAA 1 rfl ?_
          have hrp := InfP.rp_le (s := sy)
          have hnx := BitP.numL_bound B x2 (InfP.rpB sy)
          have hpx := BitP.pow24 (show InfP.rpB sy ≤ 24 by omega)
          have hw : I3.g l ((l.length : Int) - 1) = l.getD (l.length - 1) 0 := gE _ (by omega)
          rw [show ((21 : Nat), Value.int .i64 (I3.g l ((l.length : Int) - 1))) = (21, .int .i64 (InfP.rpW sy l)) from by rw [InfP.rpW_16 hs16, hw]]
          rw [show ((22 : Nat), Value.int .i64 2) = (22, .int .i64 (InfP.rpB sy : Int)) from by rw [InfP.rpB_16 hs16]; rfl]
          rw [show ((23 : Nat), Value.int .i64 3) = (23, .int .i64 (InfP.rpL sy)) from by rw [InfP.rpL_16 (by omega)]]
          refine rC TTZiAA 3 rfl ?_
          refine o_call (d_take b p cap B R hR x2 sh (InfP.rpB sy) hl hB (by omega) (by omega)) V.b28  rfl (.cons rr1 (.cons rr1 .nil)) rfl ?_
          rintro _ _ ⟨rfl, rfl⟩
          refine rO TTZiAA 17 rfl ?_
          rcases (Int.lt_or_le ((InfP.toldN B a) : Int) ((l.length : Int) + InfP.rpL sy + (BitP.numL B x2 (InfP.rpB sy)))) with hbg | hbg
          ·refine rC TTZiAA 4 rfl ?_
           refine oV (v_T (v_eql rfl rfl) (by omega)) ?_
           refine rO TTZiAA 3 rfl ?_
           refine o_want rfl ?_
           refine oV (v_F (v_eql rfl rfl) (by omega)) ?_
           refine rOs TTZiAA 11 rfl (by omega) ?_
           refine o_want rfl ?_
           refine oV (v_T (v_gtr rfl rfl) (by omega)) ?_
           refine rO TTZiAA 17 rfl ?_
           obtain rfl : o = .error 4 := ho.symm.trans (by (obtain ⟨nn, hnn⟩ : ∃ nn : Nat, InfP.rpL sy + (BitP.numL B x2 (InfP.rpB sy)) = (nn : Int) := ⟨_, (Int.toNat_of_nonneg (by omega)).symm⟩; exact (InfP.told_5 h14 ⟨hq1, hq2⟩ hta hy (hg.trans (InfP.lnGo_big (by omega) hf (InfP.lnStep_3 hs (InfP.rep_big (B := B) (l := l) (s := sy) (a := x2) (by omega) hxr (by omega) hnn)) (by rw [List.length_append, List.length_replicate, Int.toNat_natCast]; omega))))))
           exact ret_ok (res3 rfl rfl rfl) ⟨rfl, rfl⟩ (sub (.cons rr1 .nil) dd3)
          ·refine rC TTZiAA 4 rfl ?_
           refine oV (v_T (v_eql rfl rfl) (by omega)) ?_
           refine rO TTZiAA 3 rfl ?_
           refine o_want rfl ?_
           refine oV (v_F (v_eql rfl rfl) (by omega)) ?_
           refine rOs TTZiAA 11 rfl (by omega) ?_
           refine o_want rfl ?_
           refine oV (v_F (v_gtr rfl rfl) (by omega)) ?_
           refine rO TTZiAA 7 rfl ?_
           obtain ⟨nn, hnn⟩ : ∃ nn : Nat, InfP.rpL sy + (BitP.numL B x2 (InfP.rpB sy)) = (nn : Int) := ⟨_, (Int.toNat_of_nonneg (by omega)).symm⟩
           have hr := InfP.rep_big (B := B) (l := l) (s := sy) (a := x2) (by omega) hxr (by omega) hnn
           refine rC TTZiAA 5 rfl ?_
           rw [show Row I3 q l.length c l = Row I3 q (l.length + 0) c (l ++ List.replicate 0 (InfP.rpW sy l)) from by rw [List.replicate_zero, List.append_nil, Nat.add_zero]]
           rw [show ((18 : Nat), Value.slice q l.length c) = (18, .slice q (l.length + 0) c) from rfl]
           refine w_loop3 (fun (i : Nat) (q5 : Option Addr) (c5 : Nat) => [(0, .pointer (some ⟨b, 0, none⟩)), (5, .int .i64 (InfP.hL B a : Int)), (7, .int .i64 (InfP.hD B a : Int)), (16, .pointer (some ⟨bc, 0, none⟩)), (18, .slice q5 (l.length + i) c5), (21, .int .i64 (InfP.rpW sy l)), (23, .int .i64 (InfP.rpL sy)), (24, .int .i64 (BitP.numL B x2 (InfP.rpB sy))), (26, .int .i64 (i : Int))]) (fun (i : Nat) (q5 : Option Addr) (c5 : Nat) => Row I3 q5 (l.length + i) c5 (l ++ List.replicate i (InfP.rpW sy l)) :: RC bc (InfP.toldC B a) :: Cel b 59 [.slice p B.length cap, .int .i64 ((x2 + InfP.rpB sy) : Int), .bool false, .bool sh] :: R :: F) (fun (i : Nat) (q5 : Option Addr) (c5 : Nat) => i ≤ nn) (fun (i : Nat) (q5 : Option Addr) (c5 : Nat) => nn - i) (i3 (0) (q) (c) ?_ (lc4 (lc5 ln)) (sub (.cons rr3 (.cons rr2 (rz2 .nil))) dd0)) ?_
           ·exact Nat.zero_le _
           intro i q5 c5
           rintro hi
           refine rLs TTZiAA 10 rfl (by omega) ?_
           refine w_condD rfl (fun h157 => ?_) (fun h157 => ?_)
           ·refine rC TTZiAA 7 rfl ?_
            refine r_build (I3) [InfP.rpW sy l] V.sl77 V.z3 rfl rfl rfl rfl rfl rfl ?_
            intro b162
            refine r_append (c := (I3)) V.sl77 V.z3 rfl rfl rfl rfl rr1 (own mm0) (by omega) rfl ?_
            intro p163 c163
            refine rOs TTZiAA 9 rfl (by omega) ?_
            rw [List.append_assoc, ← List.replicate_succ', show l.length + i + 1 = l.length + (i + 1) from rfl]
            refine j3 (i + 1) (_) (_) ?_ (lc4 (lc5 ln)) (sub (rz1 (.cons rr1 (.cons rr1 (.cons rr1 .nil)))) dd1)
            exact ⟨by omega, by omega⟩
           ·refine rC TTZiAA 5 rfl ?_
            have hl6 : l.length < InfP.toldN B a := by omega
            (obtain rfl : i = nn := (by omega); have hln : (l ++ List.replicate i (InfP.rpW sy l)).length = l.length + i := (by simp); have hst := InfP.lnStep_3 hs hr; rw [Int.toNat_natCast] at hst; rw [show l.length + i = (l ++ List.replicate i (InfP.rpW sy l)).length from hln.symm]; refine j5 (l ++ List.replicate i (InfP.rpW sy l)) (f - 1) ((x2 + InfP.rpB sy)) (_) (_) ?_ (lc5 ln) (sub (rz4 .nil) dd0); exact ⟨⟨hg.trans (InfP.lnGo_next hl6 hf hst (by omega)), by omega, by omega, hxr⟩, by omega⟩)
        ·refine rC TTZiAA 11 rfl ?_
         refine oV (v_F (v_eql rfl rfl) (by omega)) ?_
         refine rO TTZiAA 14 rfl ?_
         refine oV (v_T (v_eql rfl rfl) (by omega)) ?_
         refine rO TTZiAA 11 rfl ?_
         refine oV (v_F (v_eql rfl rfl) (by omega)) ?_
         refine rO TTZiAA 5 rfl ?_
         rcases (Nat.lt_or_ge (8 * B.length) (x2 + InfP.rpB sy)) with hxr | hxr
         ·refine rC TTZiAA 1 rfl ?_
          have hrp := InfP.rp_le (s := sy)
          have hnx := BitP.numL_bound B x2 (InfP.rpB sy)
          have hpx := BitP.pow24 (show InfP.rpB sy ≤ 24 by omega)
          rw [show ((21 : Nat), Value.int .i64 0) = (21, .int .i64 (InfP.rpW sy l)) from by rw [InfP.rpW_0 (by omega)]]
          rw [show ((22 : Nat), Value.int .i64 3) = (22, .int .i64 (InfP.rpB sy : Int)) from by rw [InfP.rpB_17 hs16]; rfl]
          rw [show ((23 : Nat), Value.int .i64 3) = (23, .int .i64 (InfP.rpL sy)) from by rw [InfP.rpL_16 (by omega)]]
          refine rC TTZiAA 3 rfl ?_
          refine o_call (d_takeE b p cap B R hR x2 sh (InfP.rpB sy) hl hB (by omega) (by omega) (by omega)) V.b28  rfl (.cons rr1 (.cons rr1 .nil)) rfl ?_
          rintro _ _ ⟨rfl, rfl⟩
          refine rO TTZiAA 28 rfl ?_
          obtain rfl : o = .error 2 := ho.symm.trans (InfP.told_5 h14 ⟨hq1, hq2⟩ hta hy (hg.trans (InfP.lnGo_err (by omega) hf (InfP.lnStep_2 hs (InfP.rep_short (by omega) hxr)))))
          exact ret_ok (res3 rfl rfl rfl) ⟨rfl, rfl⟩ (sub (.cons rr1 .nil) dd3)
         ·refine rC TTZiAA 1 rfl ?_
          have hrp := InfP.rp_le (s := sy)
          have hnx := BitP.numL_bound B x2 (InfP.rpB sy)
          have hpx := BitP.pow24 (show InfP.rpB sy ≤ 24 by omega)
          rw [show ((21 : Nat), Value.int .i64 0) = (21, .int .i64 (InfP.rpW sy l)) from by rw [InfP.rpW_0 (by omega)]]
          rw [show ((22 : Nat), Value.int .i64 3) = (22, .int .i64 (InfP.rpB sy : Int)) from by rw [InfP.rpB_17 hs16]; rfl]
          rw [show ((23 : Nat), Value.int .i64 3) = (23, .int .i64 (InfP.rpL sy)) from by rw [InfP.rpL_16 (by omega)]]
          refine rC TTZiAA 3 rfl ?_
          refine o_call (d_take b p cap B R hR x2 sh (InfP.rpB sy) hl hB (by omega) (by omega)) V.b28  rfl (.cons rr1 (.cons rr1 .nil)) rfl ?_
          rintro _ _ ⟨rfl, rfl⟩
          refine rO TTZiAA 17 rfl ?_
          rcases (Int.lt_or_le ((InfP.toldN B a) : Int) ((l.length : Int) + InfP.rpL sy + (BitP.numL B x2 (InfP.rpB sy)))) with hbg | hbg
          ·refine rC TTZiAA 4 rfl ?_
           refine oV (v_F (v_eql rfl rfl) (by omega)) ?_
           refine rOs TTZiAA 15 rfl (by omega) ?_
           refine o_want rfl ?_
           refine oV (v_T (v_gtr rfl rfl) (by omega)) ?_
           refine rO TTZiAA 17 rfl ?_
           obtain rfl : o = .error 4 := ho.symm.trans (by (obtain ⟨nn, hnn⟩ : ∃ nn : Nat, InfP.rpL sy + (BitP.numL B x2 (InfP.rpB sy)) = (nn : Int) := ⟨_, (Int.toNat_of_nonneg (by omega)).symm⟩; exact (InfP.told_5 h14 ⟨hq1, hq2⟩ hta hy (hg.trans (InfP.lnGo_big (by omega) hf (InfP.lnStep_3 hs (InfP.rep_big (B := B) (l := l) (s := sy) (a := x2) (by omega) hxr (by omega) hnn)) (by rw [List.length_append, List.length_replicate, Int.toNat_natCast]; omega))))))
           exact ret_ok (res3 rfl rfl rfl) ⟨rfl, rfl⟩ (sub (.cons rr1 .nil) dd3)
          ·refine rC TTZiAA 4 rfl ?_
           refine oV (v_F (v_eql rfl rfl) (by omega)) ?_
           refine rOs TTZiAA 15 rfl (by omega) ?_
           refine o_want rfl ?_
           refine oV (v_F (v_gtr rfl rfl) (by omega)) ?_
           refine rO TTZiAA 7 rfl ?_
           obtain ⟨nn, hnn⟩ : ∃ nn : Nat, InfP.rpL sy + (BitP.numL B x2 (InfP.rpB sy)) = (nn : Int) := ⟨_, (Int.toNat_of_nonneg (by omega)).symm⟩
           have hr := InfP.rep_big (B := B) (l := l) (s := sy) (a := x2) (by omega) hxr (by omega) hnn
           refine rC TTZiAA 5 rfl ?_
           rw [show Row I3 q l.length c l = Row I3 q (l.length + 0) c (l ++ List.replicate 0 (InfP.rpW sy l)) from by rw [List.replicate_zero, List.append_nil, Nat.add_zero]]
           rw [show ((18 : Nat), Value.slice q l.length c) = (18, .slice q (l.length + 0) c) from rfl]
           refine w_loop3 (fun (i : Nat) (q5 : Option Addr) (c5 : Nat) => [(0, .pointer (some ⟨b, 0, none⟩)), (5, .int .i64 (InfP.hL B a : Int)), (7, .int .i64 (InfP.hD B a : Int)), (16, .pointer (some ⟨bc, 0, none⟩)), (18, .slice q5 (l.length + i) c5), (21, .int .i64 (InfP.rpW sy l)), (23, .int .i64 (InfP.rpL sy)), (24, .int .i64 (BitP.numL B x2 (InfP.rpB sy))), (26, .int .i64 (i : Int))]) (fun (i : Nat) (q5 : Option Addr) (c5 : Nat) => Row I3 q5 (l.length + i) c5 (l ++ List.replicate i (InfP.rpW sy l)) :: RC bc (InfP.toldC B a) :: Cel b 59 [.slice p B.length cap, .int .i64 ((x2 + InfP.rpB sy) : Int), .bool false, .bool sh] :: R :: F) (fun (i : Nat) (q5 : Option Addr) (c5 : Nat) => i ≤ nn) (fun (i : Nat) (q5 : Option Addr) (c5 : Nat) => nn - i) (i3 (0) (q) (c) ?_ (lc4 (lc5 ln)) (sub (.cons rr3 (.cons rr2 (rz2 .nil))) dd0)) ?_
           ·exact Nat.zero_le _
           intro i q5 c5
           rintro hi
           refine rLs TTZiAA 10 rfl (by omega) ?_
           refine w_condD rfl (fun h157 => ?_) (fun h157 => ?_)
           ·refine rC TTZiAA 7 rfl ?_
            refine r_build (I3) [InfP.rpW sy l] V.sl77 V.z3 rfl rfl rfl rfl rfl rfl ?_
            intro b162
            refine r_append (c := (I3)) V.sl77 V.z3 rfl rfl rfl rfl rr1 (own mm0) (by omega) rfl ?_
            intro p163 c163
            refine rOs TTZiAA 9 rfl (by omega) ?_
            rw [List.append_assoc, ← List.replicate_succ', show l.length + i + 1 = l.length + (i + 1) from rfl]
            refine j3 (i + 1) (_) (_) ?_ (lc4 (lc5 ln)) (sub (rz1 (.cons rr1 (.cons rr1 (.cons rr1 .nil)))) dd1)
            exact ⟨by omega, by omega⟩
           ·refine rC TTZiAA 5 rfl ?_
            have hl6 : l.length < InfP.toldN B a := by omega
            (obtain rfl : i = nn := (by omega); have hln : (l ++ List.replicate i (InfP.rpW sy l)).length = l.length + i := (by simp); have hst := InfP.lnStep_3 hs hr; rw [Int.toNat_natCast] at hst; rw [show l.length + i = (l ++ List.replicate i (InfP.rpW sy l)).length from hln.symm]; refine j5 (l ++ List.replicate i (InfP.rpW sy l)) (f - 1) ((x2 + InfP.rpB sy)) (_) (_) ?_ (lc5 ln) (sub (rz4 .nil) dd0); exact ⟨⟨hg.trans (InfP.lnGo_next hl6 hf hst (by omega)), by omega, by omega, hxr⟩, by omega⟩)
        ·refine rC TTZiAA 11 rfl ?_
         refine oV (v_F (v_eql rfl rfl) (by omega)) ?_
         refine rO TTZiAA 14 rfl ?_
         refine oV (v_F (v_eql rfl rfl) (by omega)) ?_
         refine rO TTZiAA 9 rfl ?_
         refine oV (v_T (v_eql rfl rfl) (by omega)) ?_
         refine rO TTZiAA 8 rfl ?_
         rcases (Nat.lt_or_ge (8 * B.length) (x2 + InfP.rpB sy)) with hxr | hxr
         ·refine rC TTZiAA 1 rfl ?_
          have hrp := InfP.rp_le (s := sy)
          have hnx := BitP.numL_bound B x2 (InfP.rpB sy)
          have hpx := BitP.pow24 (show InfP.rpB sy ≤ 24 by omega)
          rw [show ((21 : Nat), Value.int .i64 0) = (21, .int .i64 (InfP.rpW sy l)) from by rw [InfP.rpW_0 (by omega)]]
          rw [show ((22 : Nat), Value.int .i64 7) = (22, .int .i64 (InfP.rpB sy : Int)) from by rw [InfP.rpB_18 hs16]; rfl]
          rw [show ((23 : Nat), Value.int .i64 11) = (23, .int .i64 (InfP.rpL sy)) from by rw [InfP.rpL_18 hs16]]
          refine rC TTZiAA 3 rfl ?_
          refine o_call (d_takeE b p cap B R hR x2 sh (InfP.rpB sy) hl hB (by omega) (by omega) (by omega)) V.b28  rfl (.cons rr1 (.cons rr1 .nil)) rfl ?_
          rintro _ _ ⟨rfl, rfl⟩
          refine rO TTZiAA 28 rfl ?_
          obtain rfl : o = .error 2 := ho.symm.trans (InfP.told_5 h14 ⟨hq1, hq2⟩ hta hy (hg.trans (InfP.lnGo_err (by omega) hf (InfP.lnStep_2 hs (InfP.rep_short (by omega) hxr)))))
          exact ret_ok (res3 rfl rfl rfl) ⟨rfl, rfl⟩ (sub (.cons rr1 .nil) dd3)
         ·refine rC TTZiAA 1 rfl ?_
          have hrp := InfP.rp_le (s := sy)
          have hnx := BitP.numL_bound B x2 (InfP.rpB sy)
          have hpx := BitP.pow24 (show InfP.rpB sy ≤ 24 by omega)
          rw [show ((21 : Nat), Value.int .i64 0) = (21, .int .i64 (InfP.rpW sy l)) from by rw [InfP.rpW_0 (by omega)]]
          rw [show ((22 : Nat), Value.int .i64 7) = (22, .int .i64 (InfP.rpB sy : Int)) from by rw [InfP.rpB_18 hs16]; rfl]
          rw [show ((23 : Nat), Value.int .i64 11) = (23, .int .i64 (InfP.rpL sy)) from by rw [InfP.rpL_18 hs16]]
          refine rC TTZiAA 3 rfl ?_
          refine o_call (d_take b p cap B R hR x2 sh (InfP.rpB sy) hl hB (by omega) (by omega)) V.b28  rfl (.cons rr1 (.cons rr1 .nil)) rfl ?_
          rintro _ _ ⟨rfl, rfl⟩
          refine rO TTZiAA 17 rfl ?_
          rcases (Int.lt_or_le ((InfP.toldN B a) : Int) ((l.length : Int) + InfP.rpL sy + (BitP.numL B x2 (InfP.rpB sy)))) with hbg | hbg
          ·refine rC TTZiAA 4 rfl ?_
           refine oV (v_F (v_eql rfl rfl) (by omega)) ?_
           refine rOs TTZiAA 15 rfl (by omega) ?_
           refine o_want rfl ?_
           refine oV (v_T (v_gtr rfl rfl) (by omega)) ?_
           refine rO TTZiAA 17 rfl ?_
           obtain rfl : o = .error 4 := ho.symm.trans (by (obtain ⟨nn, hnn⟩ : ∃ nn : Nat, InfP.rpL sy + (BitP.numL B x2 (InfP.rpB sy)) = (nn : Int) := ⟨_, (Int.toNat_of_nonneg (by omega)).symm⟩; exact (InfP.told_5 h14 ⟨hq1, hq2⟩ hta hy (hg.trans (InfP.lnGo_big (by omega) hf (InfP.lnStep_3 hs (InfP.rep_big (B := B) (l := l) (s := sy) (a := x2) (by omega) hxr (by omega) hnn)) (by rw [List.length_append, List.length_replicate, Int.toNat_natCast]; omega))))))
           exact ret_ok (res3 rfl rfl rfl) ⟨rfl, rfl⟩ (sub (.cons rr1 .nil) dd3)
          ·refine rC TTZiAA 4 rfl ?_
           refine oV (v_F (v_eql rfl rfl) (by omega)) ?_
           refine rOs TTZiAA 15 rfl (by omega) ?_
           refine o_want rfl ?_
           refine oV (v_F (v_gtr rfl rfl) (by omega)) ?_
           refine rO TTZiAA 7 rfl ?_
           obtain ⟨nn, hnn⟩ : ∃ nn : Nat, InfP.rpL sy + (BitP.numL B x2 (InfP.rpB sy)) = (nn : Int) := ⟨_, (Int.toNat_of_nonneg (by omega)).symm⟩
           have hr := InfP.rep_big (B := B) (l := l) (s := sy) (a := x2) (by omega) hxr (by omega) hnn
           refine rC TTZiAA 5 rfl ?_
           rw [show Row I3 q l.length c l = Row I3 q (l.length + 0) c (l ++ List.replicate 0 (InfP.rpW sy l)) from by rw [List.replicate_zero, List.append_nil, Nat.add_zero]]
           rw [show ((18 : Nat), Value.slice q l.length c) = (18, .slice q (l.length + 0) c) from rfl]
           refine w_loop3 (fun (i : Nat) (q5 : Option Addr) (c5 : Nat) => [(0, .pointer (some ⟨b, 0, none⟩)), (5, .int .i64 (InfP.hL B a : Int)), (7, .int .i64 (InfP.hD B a : Int)), (16, .pointer (some ⟨bc, 0, none⟩)), (18, .slice q5 (l.length + i) c5), (21, .int .i64 (InfP.rpW sy l)), (23, .int .i64 (InfP.rpL sy)), (24, .int .i64 (BitP.numL B x2 (InfP.rpB sy))), (26, .int .i64 (i : Int))]) (fun (i : Nat) (q5 : Option Addr) (c5 : Nat) => Row I3 q5 (l.length + i) c5 (l ++ List.replicate i (InfP.rpW sy l)) :: RC bc (InfP.toldC B a) :: Cel b 59 [.slice p B.length cap, .int .i64 ((x2 + InfP.rpB sy) : Int), .bool false, .bool sh] :: R :: F) (fun (i : Nat) (q5 : Option Addr) (c5 : Nat) => i ≤ nn) (fun (i : Nat) (q5 : Option Addr) (c5 : Nat) => nn - i) (i3 (0) (q) (c) ?_ (lc4 (lc5 ln)) (sub (.cons rr3 (.cons rr2 (rz2 .nil))) dd0)) ?_
           ·exact Nat.zero_le _
           intro i q5 c5
           rintro hi
           refine rLs TTZiAA 10 rfl (by omega) ?_
           refine w_condD rfl (fun h157 => ?_) (fun h157 => ?_)
           ·refine rC TTZiAA 7 rfl ?_
            refine r_build (I3) [InfP.rpW sy l] V.sl77 V.z3 rfl rfl rfl rfl rfl rfl ?_
            intro b162
            refine r_append (c := (I3)) V.sl77 V.z3 rfl rfl rfl rfl rr1 (own mm0) (by omega) rfl ?_
            intro p163 c163
            refine rOs TTZiAA 9 rfl (by omega) ?_
            rw [List.append_assoc, ← List.replicate_succ', show l.length + i + 1 = l.length + (i + 1) from rfl]
            refine j3 (i + 1) (_) (_) ?_ (lc4 (lc5 ln)) (sub (rz1 (.cons rr1 (.cons rr1 (.cons rr1 .nil)))) dd1)
            exact ⟨by omega, by omega⟩
           ·refine rC TTZiAA 5 rfl ?_
            have hl6 : l.length < InfP.toldN B a := by omega
            (obtain rfl : i = nn := (by omega); have hln : (l ++ List.replicate i (InfP.rpW sy l)).length = l.length + i := (by simp); have hst := InfP.lnStep_3 hs hr; rw [Int.toNat_natCast] at hst; rw [show l.length + i = (l ++ List.replicate i (InfP.rpW sy l)).length from hln.symm]; refine j5 (l ++ List.replicate i (InfP.rpW sy l)) (f - 1) ((x2 + InfP.rpB sy)) (_) (_) ?_ (lc5 ln) (sub (rz4 .nil) dd0); exact ⟨⟨hg.trans (InfP.lnGo_next hl6 hf hst (by omega)), by omega, by omega, hxr⟩, by omega⟩)
     ·refine rC TTZiAA 7 rfl ?_
      have hlt2 : l.length = InfP.toldN B a := by omega
      have hz := hg.trans (InfP.lnGo_end (B := B) (c := InfP.toldC B a) (f := f) (a := x) (show InfP.toldN B a ≤ l.length by omega))
      refine w_cap (p := q) (n := l.length) (cap := c) (l := l) (c := I3) mm0 fun hcap => ?_
      refine rC TTZiAA 2 rfl ?_
      refine oV (xI V.sl77 (own mm0)) ?_
      refine oV (xL V.s3 (own mm0)) ?_
      refine rO TTZiAA 3 rfl ?_
      refine w_condD rfl (fun h167 => ?_) (fun h167 => ?_)
      ·refine rC TTZiAA 9 rfl ?_
       obtain rfl : o = .error 4 := ho.symm.trans (InfP.told_6 h14 ⟨hq1, hq2⟩ hta hy hz (.inr (.inr (show I3.g l 256 = 0 by omega))))
       exact ret_ok (res3 rfl rfl rfl) ⟨rfl, rfl⟩ (sub (.cons rr3 .nil) dd3)
      ·refine rC TTZiAA 2 rfl ?_
       rcases (Classical.em (HuffP.newE (l.take (InfP.hL B a)) = 0)) with hc1 | hc1
       ·refine rC TTZiAA 4 rfl ?_
        refine oV (v_slice0 (InfP.hL B a) _ V.sl77 rfl ⟨_, rfl⟩ rfl (by omega) (by omega)) ?_
        refine o_call (d_newY q (InfP.hL B a) c (l.take (InfP.hL B a)) (Row I3 q l.length c l) (by rw [List.length_take]; omega) (fun _ _ hh => row_take rfl (by omega) hh) hc1) V.b45  rfl (rz1 .nil) rfl ?_
        rintro _ _ ⟨x27, rfl, rfl⟩
        refine rO TTZiAA 7 rfl ?_
        rcases (Classical.em (HuffP.newE (l.drop (InfP.hL B a)) = 0)) with hc2 | hc2
        ·refine rC TTZiAA 4 rfl ?_
         refine oV (v_slice (InfP.hL B a) _ _ V.sl77 rfl ⟨_, rfl⟩ ⟨rfl, rfl⟩ rfl (by omega) (by omega) (by omega)) ?_
         refine o_call (d_newY (subP q (InfP.hL B a) c 1) (l.length - (InfP.hL B a)) (c - (InfP.hL B a)) (l.drop (InfP.hL B a)) (Row I3 q l.length c l) (by rw [List.length_drop]) (fun _ _ hh => row_drop rfl (by omega) hcap hh) hc2) V.b45  rfl (.cons rr1 .nil) rfl ?_
         rintro _ _ ⟨x28, rfl, rfl⟩
         refine rO TTZiAA 11 rfl ?_
         refine oV (v_F (v_neq rfl rfl) (by decide)) ?_
         refine rO TTZiAA 2 rfl ?_
         refine o_want rfl ?_
         refine oV (v_F (v_neq rfl rfl) (by decide)) ?_
         refine rO TTZiAA 16 rfl ?_
         obtain rfl := ho.symm.trans (InfP.told_7 h14 ⟨hq1, hq2⟩ hta hy hz hc1 hc2 (show I3.g l 256 ≠ 0 by omega))
         exact ret_ok (res3 rfl rfl rfl) ⟨x27, x28, sh, rfl, rfl⟩ (sub (.cons rr4 (.cons rr4 (.cons rr2 (rz1 .nil)))) dd2)
        ·refine rC TTZiAA 4 rfl ?_
         refine oV (v_slice (InfP.hL B a) _ _ V.sl77 rfl ⟨_, rfl⟩ ⟨rfl, rfl⟩ rfl (by omega) (by omega) (by omega)) ?_
         refine o_call (d_newX (subP q (InfP.hL B a) c 1) (l.length - (InfP.hL B a)) (c - (InfP.hL B a)) (l.drop (InfP.hL B a)) (Row I3 q l.length c l) (by rw [List.length_drop]) (fun _ _ hh => row_drop rfl (by omega) hcap hh) hc2) V.b45  rfl (.cons rr1 .nil) rfl ?_
         rintro _ _ ⟨rfl, rfl⟩
         refine rO TTZiAA 11 rfl ?_
         refine oV (v_F (v_neq rfl rfl) (by decide)) ?_
         refine rO TTZiAA 2 rfl ?_
         refine o_want rfl ?_
         refine oV (v_T (v_neq rfl rfl) hc2) ?_
         refine rO TTZiAA 13 rfl ?_
         obtain rfl : o = .error 4 := ho.symm.trans (by exact (InfP.told_6 h14 ⟨hq1, hq2⟩ hta hy hz (.inr (.inl hc2))))
         exact ret_ok (res3 rfl rfl rfl) ⟨rfl, rfl⟩ (sub (.cons rr4 .nil) dd4)
       ·refine rC TTZiAA 4 rfl ?_
        refine oV (v_slice0 (InfP.hL B a) _ V.sl77 rfl ⟨_, rfl⟩ rfl (by omega) (by omega)) ?_
        refine o_call (d_newX q (InfP.hL B a) c (l.take (InfP.hL B a)) (Row I3 q l.length c l) (by rw [List.length_take]; omega) (fun _ _ hh => row_take rfl (by omega) hh) hc1) V.b45  rfl (rz1 .nil) rfl ?_
        rintro _ _ ⟨rfl, rfl⟩
        refine rO TTZiAA 7 rfl ?_
        rcases (Classical.em (HuffP.newE (l.drop (InfP.hL B a)) = 0)) with hc2 | hc2
        ·refine rC TTZiAA 4 rfl ?_
         refine oV (v_slice (InfP.hL B a) _ _ V.sl77 rfl ⟨_, rfl⟩ ⟨rfl, rfl⟩ rfl (by omega) (by omega) (by omega)) ?_
         refine o_call (d_newY (subP q (InfP.hL B a) c 1) (l.length - (InfP.hL B a)) (c - (InfP.hL B a)) (l.drop (InfP.hL B a)) (Row I3 q l.length c l) (by rw [List.length_drop]) (fun _ _ hh => row_drop rfl (by omega) hcap hh) hc2) V.b45  rfl (rz1 .nil) rfl ?_
         rintro _ _ ⟨x28, rfl, rfl⟩
         refine rO TTZiAA 11 rfl ?_
         refine oV (v_T (v_neq rfl rfl) hc1) ?_
         refine rO TTZiAA 16 rfl ?_
         obtain rfl : o = .error 4 := ho.symm.trans (by exact (InfP.told_6 h14 ⟨hq1, hq2⟩ hta hy hz (.inl hc1)))
         exact ret_ok (res3 rfl rfl rfl) ⟨rfl, rfl⟩ (sub (.cons rr4 .nil) dd4)
        ·refine rC TTZiAA 4 rfl ?_
         refine oV (v_slice (InfP.hL B a) _ _ V.sl77 rfl ⟨_, rfl⟩ ⟨rfl, rfl⟩ rfl (by omega) (by omega) (by omega)) ?_
         refine o_call (d_newX (subP q (InfP.hL B a) c 1) (l.length - (InfP.hL B a)) (c - (InfP.hL B a)) (l.drop (InfP.hL B a)) (Row I3 q l.length c l) (by rw [List.length_drop]) (fun _ _ hh => row_drop rfl (by omega) hcap hh) hc2) V.b45  rfl (rz1 .nil) rfl ?_
         rintro _ _ ⟨rfl, rfl⟩
         refine rO TTZiAA 11 rfl ?_
         refine oV (v_T (v_neq rfl rfl) hc1) ?_
         refine rO TTZiAA 16 rfl ?_
         obtain rfl : o = .error 4 := ho.symm.trans (by exact (InfP.told_6 h14 ⟨hq1, hq2⟩ hta hy hz (.inl hc1)))
         exact ret_ok (res3 rfl rfl rfl) ⟨rfl, rfl⟩ (sub (.cons rr3 .nil) dd3)
    ·refine rC TTZiAA 1 rfl ?_
     have hkC : k = InfP.hC B a := by omega
     rw [show InfP.frs B (a + 14) k = InfP.toldC B a from by rw [hkC]; exact (InfP.toldC_eq B a).symm, show ((a : Int) + 14 + 3 * (k : Int)) = ((InfP.toldA B a : Nat) : Int) from by omega]
     have hta : InfP.toldA B a ≤ 8 * B.length := by omega
     refine rC TTZiAA 2 rfl ?_
     refine o_call (d_newX (some ⟨b61, 0, none⟩) 19 19 (InfP.toldC B a) (Row I3 (some ⟨b61, 0, none⟩) 19 19 (InfP.toldC B a)) (InfP.toldC_len B a).symm (fun _ _ hh => row_rd (InfP.toldC_len B a).symm hh) hy) V.b45  rfl (rz1 .nil) rfl ?_
     rintro _ _ ⟨rfl, rfl⟩
     refine rO TTZiAA 11 rfl ?_
     refine oV (v_T (v_neq rfl rfl) hy) ?_
     refine rO TTZiAA 12 rfl ?_
     obtain rfl : o = .error 4 := ho.symm.trans (InfP.told_4 h14 ⟨hq1, hq2⟩ hta hy)
     exact ret_ok (res3 rfl rfl rfl) ⟨rfl, rfl⟩ (sub (.cons rr3 .nil) dd3)
  ·refine rC TTZiAA 2 rfl ?_
   have h14 : a + 14 ≤ 8 * B.length := by omega
   rw [show BitP.numL B a 5 + 257 = (InfP.hL B a : Int) from by omega, show BitP.numL B (a + 5) 5 + 1 = (InfP.hD B a : Int) from by omega, show BitP.numL B (a + 10) 4 + 4 = (InfP.hC B a : Int) from by omega]
   refine rC TTZiAA 2 rfl ?_
   refine oV (v_F (v_gtr rfl rfl) (by omega)) ?_
   refine rO TTZiAA 2 rfl ?_
   refine o_want rfl ?_
   refine oV (v_T (v_gtr rfl rfl) (by omega)) ?_
   refine rO TTZiAA 13 rfl ?_
   obtain rfl : o = .error 4 := ho.symm.trans (InfP.told_2 h14 (by omega))
   exact ret_ok (res3 rfl rfl rfl) ⟨rfl, rfl⟩ (sub (.cons rr1 .nil) dd1)
  ·refine rC TTZiAA 2 rfl ?_
   have h14 : a + 14 ≤ 8 * B.length := by omega
   rw [show BitP.numL B a 5 + 257 = (InfP.hL B a : Int) from by omega, show BitP.numL B (a + 5) 5 + 1 = (InfP.hD B a : Int) from by omega, show BitP.numL B (a + 10) 4 + 4 = (InfP.hC B a : Int) from by omega]
   refine rC TTZiAA 2 rfl ?_
   refine oV (v_T (v_gtr rfl rfl) (by omega)) ?_
   refine rO TTZiAA 16 rfl ?_
   obtain rfl : o = .error 4 := ho.symm.trans (InfP.told_2 h14 (by omega))
   exact ret_ok (res3 rfl rfl rfl) ⟨rfl, rfl⟩ (sub (.cons rr1 .nil) dd1)
end Go.Proofs.YtmbljkghkcgejaaGreat
namespace Go.Proofs.YtmbljkghkcgejaaGreat
open Go.Sl 
theorem TTZiAB : okT Tryz.prog ⟨[], []⟩ = true := by kernel_rfl
attribute [local irreducible] HuffP.newE HuffP.tk HuffP.ord HuffP.cntL HuffP.words HuffP.mostL InfP.frs InfP.toldC InfP.toldN InfP.toldA InfP.hL InfP.hD InfP.hC InfP.lnGo InfP.told InfP.fixL InfP.codeE InfP.rep InfP.lenE InfP.awayE InfP.sym InfP.alg BitP.numL InfP.coded InfP.begin_ InfP.one InfP.put_ InfP.lnB InfP.dsB InfP.lnM InfP.dsM InfP.fixD
set_option maxHeartbeats 8000000 in
theorem d_inf (p : Option Addr) (cap : Nat) (B : List Int) (R : HProp) (hR : ∀ w0 h, R w0 h → RdR U5 p B.length B w0 h) (hl : B.length < 500000000) (hB : BitP.Byt B) (mo : Int) (hm1 : mo < 500000000) (q : List Int × Int × Int) (hq : InfP.Res B mo q) : Ctr Tryz.prog 16 [.slice p B.length cap, .int .i64 mo] [R] (Ret fun v G => ∃ qq cq, v = .tuple #[.slice qq q.1.length cq, .int .i64 q.2.1, .int .i64 q.2.2] ∧ G = [Row U5 qq q.1.length cq q.1, R]) := by
 refine spec_of [(0, _), (1, _)] Tryz.func16 rfl Tryz.ntmps16 rfl rfl ?_
 intro w0 F
 refine rT TTZiAB 7 rfl ?_
 rcases (Int.lt_or_le mo 0) with hm0 | hm0
 ·refine rC TTZiAB 4 rfl ?_
  refine oV (v_T (v_lss rfl rfl) hm0) ?_
  refine rO TTZiAB 12 rfl ?_
  obtain rfl := hq.det (.inl ⟨hm0, rfl⟩)
  exact ret_ok (res3 rfl rfl rfl) ⟨none, 0, rfl, rfl⟩ (Sl.Sub.trans (sub_add0 (A := Row U5 none 0 0 []) (fun w0 => Row.nil U5 w0 _)) (sub (rz2 .nil) dd0))
 ·refine rC TTZiAB 4 rfl ?_
  refine oV (v_F (v_lss rfl rfl) (by omega)) ?_
  refine rO TTZiAB 6 rfl ?_
  have hm : 0 ≤ mo ∧ mo < 500000000 := ⟨hm0, hm1⟩
  refine rC TTZiAB 2 rfl ?_
  refine oV (v_build V.pl59 V.z59 rfl (cs := [_, _, _, _]) rfl) ?_
  refine o_box rfl (cs := [_, _, _, _]) rfl rfl ?_
  intro b23
  refine rO TTZiAB 5 rfl ?_
  refine r_build (U5) [] V.sl22 V.z5 rfl rfl rfl rfl rfl rfl ?_
  intro b24
  refine rO TTZiAB 4 rfl ?_
  refine w_sub (M := Cel b23 59 [.slice p B.length cap, .int .i64 (InfP.start.at_ : Int), .bool false, .bool false] :: R :: Row U5 (some ⟨b24, 0, none⟩) InfP.start.out.length 0 InfP.start.out :: F) (sub (.cons rr1 (.cons rr1 (rz1 .nil))) dd0) ?_
  refine w_loop4 (fun (S : InfP.St) (q2 : Option Addr) (c2 : Nat) (sh : Bool) => [(1, .int .i64 mo), (7, .pointer (some ⟨b23, 0, none⟩)), (8, .slice q2 S.out.length c2)]) (fun (S : InfP.St) (q2 : Option Addr) (c2 : Nat) (sh : Bool) => Cel b23 59 [.slice p B.length cap, .int .i64 (S.at_ : Int), .bool false, .bool sh] :: R :: Row U5 q2 S.out.length c2 S.out :: F) (fun (S : InfP.St) (q2 : Option Addr) (c2 : Nat) (sh : Bool) => InfP.Goes B mo InfP.start S ∧ InfP.Ok B mo S ∧ S.kind = -1 ∧ S.copies = 0 ∧ S.ended = false) (fun (S : InfP.St) (q2 : Option Addr) (c2 : Nat) (sh : Bool) => InfP.mu B S) (i4 (InfP.start) (some ⟨b24, 0, none⟩) (0) (false) ?_ (lc3 ln) (sub (rz3 .nil) dd0)) ?_
  ·exact ⟨InfP.Goes.refl _ _ _, InfP.start_ok hm0, rfl, rfl, rfl⟩
  intro S q2 c2 sh
  rintro ⟨hgo, hok, hk, hc, he⟩
  refine rL TTZiAB 3 rfl ?_
  have hat := hok.at_
  have hro := hok.room
  refine rC TTZiAB 2 rfl ?_
  refine o_call (d_Left b23 p cap B R hR S.at_ sh hl hok.at_) V.b27  rfl (rz2 .nil) rfl ?_
  rintro _ _ ⟨rfl, rfl⟩
  refine rO TTZiAB 3 rfl ?_
  refine w_condD rfl (fun h27 => ?_) (fun h27 => ?_)
  ·refine rC TTZiAB 12 rfl ?_
   obtain rfl := hq.det (.inr ⟨hm0, _, hgo.fail he ((InfP.one_b (by omega) hk).trans (InfP.beg_1 (by omega))), rfl⟩)
   exact ret_ok (res3 rfl rfl rfl) ⟨none, 0, rfl, rfl⟩ (Sl.Sub.trans (sub_add0 (A := Row U5 none 0 0 []) (fun w0 => Row.nil U5 w0 _)) (sub (rz1 (.cons rr1 .nil)) dd2))
  ·refine rC TTZiAB 5 rfl ?_
   refine o_call (d_take b23 p cap B R hR S.at_ sh 1 hl hB (by omega) (by omega)) V.b28  rfl (rz2 .nil) rfl ?_
   rintro _ _ ⟨rfl, rfl⟩
   refine rO TTZiAB 10 rfl ?_
   refine o_call (d_take b23 p cap B R hR (S.at_ + 1) sh 2 hl hB (by omega) (by omega)) V.b28  rfl (rz2 .nil) rfl ?_
   rintro _ _ ⟨rfl, rfl⟩
   refine rO TTZiAB 25 rfl ?_
   refine w_condD rfl (fun h39 => ?_) (fun h39 => ?_)
   ·rcases (InfP.bo_or (mo := mo) hB hok hk hc) with ⟨e, hbo⟩ | ⟨S2, hbo⟩
    ·refine rC TTZiAB 4 rfl ?_
     refine o_call (d_stored b23 p cap B R hR sh S mo q2 c2 hl hB hm hok (.error e) hk hc he (by omega) (by omega) hbo) V.b29  rfl (rz3 .nil) rfl ?_
     rintro _ _ ⟨rfl, rfl⟩
     refine rO TTZiAB 12 rfl ?_
     refine oV (v_T (v_neq rfl rfl) (InfP.bo_nz hB hok hk hc he hbo)) ?_
     refine rO TTZiAB 16 rfl ?_
     obtain rfl := hq.det (.inr ⟨hm0, _, hgo _ ((InfP.bo_good hB hok hk hc he hbo).2 _ rfl), rfl⟩)
     exact ret_ok (res3 rfl rfl rfl) ⟨none, 0, rfl, rfl⟩ (Sl.Sub.trans (sub_add0 (A := Row U5 none 0 0 []) (fun w0 => Row.nil U5 w0 _)) (sub (rz2 .nil) dd0))
    ·refine rC TTZiAB 4 rfl ?_
     refine o_call (d_stored b23 p cap B R hR sh S mo q2 c2 hl hB hm hok (.ok S2) hk hc he (by omega) (by omega) hbo) V.b29  rfl (rz3 .nil) rfl ?_
     rintro _ _ ⟨q9, c9, sh9, rfl, rfl⟩
     refine rO TTZiAB 12 rfl ?_
     refine oV (v_F (v_neq rfl rfl) (by decide)) ?_
     refine rO TTZiAB 6 rfl ?_
     obtain ⟨g1, g2, g3, g4, g5, g6⟩ := (InfP.bo_good hB hok hk hc he hbo).1 S2 rfl
     have hat2 := g2.at_
     refine rC TTZiAB 5 rfl ?_
     refine w_condD rfl (fun h87 => ?_) (fun h87 => ?_)
     ·refine rC TTZiAB 1 rfl ?_
      refine wN [pz 0 [] [8], pz 0 [] [7], pz 2 [1] [], pz 6 [2] [], pz 14 [3] [], pz 30 [4] [], pz 62 [5] [], pz 1 [0] [], pz 255 [6] [], pz 511 [] []] [⟨fun y => Cel b23 59 [.slice p B.length cap, .int .i64 (S2.at_ : Int), .bool false, .bool sh9], none, none, [4]⟩, ⟨fun y => R, none, none, []⟩, ⟨fun y => Row U5 q9 S2.out.length c9 S2.out, none, none, []⟩] F V.mixed ?_
      iterate 2 refine nM ?_
      refine nN ?_
      refine nG V.f59_1 ?_
      refine nR (fun y FF hA => v_load V.s3 rfl mm0 rfl) ?_
      refine nV (fun y hA L => v_add rfl rfl wI) ?_
      refine nV (fun y hA L => v_quo rfl rfl (by omega) (quoI (by omega) (by omega) (by omega))) ?_
      iterate 3 refine nA ?_
      refine net_nil ?_
      intro y hA
      clear hA
      refine thn_n ?_
      refine w_keep _ (.cons (d := 4) rfl (.cons (d := 5) rfl (.cons (d := 6) rfl (.nil _)))) ?_
      refine w_sub (M := Cel b23 59 [.slice p B.length cap, .int .i64 (S2.at_ : Int), .bool false, .bool sh9] :: R :: Row U5 q9 S2.out.length c9 S2.out :: F) (fun _ _ h => h) ?_
      refine rC TTZiAB 4 rfl ?_
      obtain rfl := hq.det (.inr ⟨hm0, _, hgo _ (g1 _ (.done (by rw [g5]; exact decide_eq_true (by omega)))), rfl⟩)
      rw [show ((S2.at_ : Int) + 7) / 8 = (((S2.at_ + 7) / 8 : Nat) : Int) from by omega]
      exact ret_ok (res3 rfl rfl rfl) ⟨q9, c9, rfl, rfl⟩ (sub (.cons rr2 (.cons rr1 .nil)) dd1)
     ·refine rC TTZiAB 2 rfl ?_
      refine j4 (S2) (q9) (c9) (sh9) ?_ (lc3 ln) (sub (rz3 .nil) dd0)
      exact ⟨⟨hgo.trans g1, g2, g3, g4, by rw [g5]; exact decide_eq_false (by omega)⟩, g6⟩
   ·refine rC TTZiAB 6 rfl ?_
    refine w_condD rfl (fun h48 => ?_) (fun h48 => ?_)
    ·refine rC TTZiAB 2 rfl ?_
     refine o_call (d_fixed) V.b30  rfl .nil rfl ?_
     rintro _ _ ⟨x15, y15, rfl, rfl⟩
     refine rO TTZiAB 7 rfl ?_
     rcases (InfP.bo_or (mo := mo) hB hok hk hc) with ⟨e, hbo⟩ | ⟨S2, hbo⟩
     ·have hbeg := InfP.beg_f (B := B) (s := S) (by omega) (by omega)
      have hbl := hbo.go hbeg
      have hok1 := (InfP.one_good hB hok ((InfP.one_b (by omega) hk).trans hbeg)).ok
      refine rC TTZiAB 6 rfl ?_
      refine o_call ((d_coded b23 p cap B R hR sh { S with at_ := S.at_ + 3, kind := 1, last := decide ((BitP.numL B S.at_ 1) = 1), lits := InfP.fixL, dist := InfP.fixD } mo q2 c2 hl hB hm hok1 (.error e) x15 y15 (show (0 : Int) < 1 by decide) hc he hbl)) V.b31  rfl (.cons rr2 (.cons rr2 (rz3 .nil))) rfl ?_
      rintro _ _ ⟨rfl, rfl⟩
      refine rO TTZiAB 12 rfl ?_
      refine oV (v_T (v_neq rfl rfl) (InfP.bo_nz hB hok hk hc he hbo)) ?_
      refine rO TTZiAB 16 rfl ?_
      obtain rfl := hq.det (.inr ⟨hm0, _, hgo _ ((InfP.bo_good hB hok hk hc he hbo).2 _ rfl), rfl⟩)
      exact ret_ok (res3 rfl rfl rfl) ⟨none, 0, rfl, rfl⟩ (Sl.Sub.trans (sub_add0 (A := Row U5 none 0 0 []) (fun w0 => Row.nil U5 w0 _)) (sub (rz2 .nil) dd0))
     ·have hbeg := InfP.beg_f (B := B) (s := S) (by omega) (by omega)
      have hbl := hbo.go hbeg
      have hok1 := (InfP.one_good hB hok ((InfP.one_b (by omega) hk).trans hbeg)).ok
      refine rC TTZiAB 6 rfl ?_
      refine o_call ((d_coded b23 p cap B R hR sh { S with at_ := S.at_ + 3, kind := 1, last := decide ((BitP.numL B S.at_ 1) = 1), lits := InfP.fixL, dist := InfP.fixD } mo q2 c2 hl hB hm hok1 (.ok S2) x15 y15 (show (0 : Int) < 1 by decide) hc he hbl)) V.b31  rfl (.cons rr2 (.cons rr2 (rz3 .nil))) rfl ?_
      rintro _ _ ⟨q9, c9, sh9, rfl, rfl⟩
      refine rO TTZiAB 12 rfl ?_
      refine oV (v_F (v_neq rfl rfl) (by decide)) ?_
      refine rO TTZiAB 6 rfl ?_
      obtain ⟨g1, g2, g3, g4, g5, g6⟩ := (InfP.bo_good hB hok hk hc he hbo).1 S2 rfl
      have hat2 := g2.at_
      refine rC TTZiAB 5 rfl ?_
      refine w_condD rfl (fun h87 => ?_) (fun h87 => ?_)
      ·refine rC TTZiAB 1 rfl ?_
       refine wN [pz 0 [] [8], pz 0 [] [7], pz 2 [1] [], pz 6 [2] [], pz 14 [3] [], pz 30 [4] [], pz 62 [5] [], pz 1 [0] [], pz 255 [6] [], pz 511 [] []] [⟨fun y => Cel b23 59 [.slice p B.length cap, .int .i64 (S2.at_ : Int), .bool false, .bool sh9], none, none, [4]⟩, ⟨fun y => R, none, none, []⟩, ⟨fun y => Row U5 q9 S2.out.length c9 S2.out, none, none, []⟩] F V.mixed ?_
       iterate 2 refine nM ?_
       refine nN ?_
       refine nG V.f59_1 ?_
       refine nR (fun y FF hA => v_load V.s3 rfl mm0 rfl) ?_
       refine nV (fun y hA L => v_add rfl rfl wI) ?_
       refine nV (fun y hA L => v_quo rfl rfl (by omega) (quoI (by omega) (by omega) (by omega))) ?_
       iterate 3 refine nA ?_
       refine net_nil ?_
       intro y hA
       clear hA
       refine thn_n ?_
       refine w_keep _ (.cons (d := 4) rfl (.cons (d := 5) rfl (.cons (d := 6) rfl (.nil _)))) ?_
       refine w_sub (M := Cel b23 59 [.slice p B.length cap, .int .i64 (S2.at_ : Int), .bool false, .bool sh9] :: R :: Row U5 q9 S2.out.length c9 S2.out :: F) (fun _ _ h => h) ?_
       refine rC TTZiAB 4 rfl ?_
       obtain rfl := hq.det (.inr ⟨hm0, _, hgo _ (g1 _ (.done (by rw [g5]; exact decide_eq_true (by omega)))), rfl⟩)
       rw [show ((S2.at_ : Int) + 7) / 8 = (((S2.at_ + 7) / 8 : Nat) : Int) from by omega]
       exact ret_ok (res3 rfl rfl rfl) ⟨q9, c9, rfl, rfl⟩ (sub (.cons rr2 (.cons rr1 .nil)) dd1)
      ·refine rC TTZiAB 2 rfl ?_
       refine j4 (S2) (q9) (c9) (sh9) ?_ (lc3 ln) (sub (rz3 .nil) dd0)
       exact ⟨⟨hgo.trans g1, g2, g3, g4, by rw [g5]; exact decide_eq_false (by omega)⟩, g6⟩
    ·refine rC TTZiAB 6 rfl ?_
     refine w_condD rfl (fun h63 => ?_) (fun h63 => ?_)
     ·rcases (InfP.ex_or (InfP.told B (S.at_ + 3))) with ⟨e, ht⟩ | ⟨⟨a9, l9, d9⟩, ht⟩
      ·refine rC TTZiAB 3 rfl ?_
       refine o_call (d_dyn b23 p cap B R hR sh (S.at_ + 3) hl hB (by omega) (.error e) ht) V.b32  rfl (rz2 .nil) rfl ?_
       rintro _ _ ⟨rfl, rfl⟩
       refine rO TTZiAB 18 rfl ?_
       refine oV (v_F (v_eql rfl rfl) (InfP.told_nz ht)) ?_
       refine rO TTZiAB 8 rfl ?_
       have hbo : InfP.BO B mo S (.error e) := .inl ⟨e, InfP.beg_dn (by omega) (by omega) ht, rfl⟩
       refine rC TTZiAB 2 rfl ?_
       refine oV (v_T (v_neq rfl rfl) (InfP.told_nz ht)) ?_
       refine rO TTZiAB 16 rfl ?_
       obtain rfl := hq.det (.inr ⟨hm0, _, hgo _ ((InfP.bo_good hB hok hk hc he hbo).2 _ rfl), rfl⟩)
       exact ret_ok (res3 rfl rfl rfl) ⟨none, 0, rfl, rfl⟩ (Sl.Sub.trans (sub_add0 (A := Row U5 none 0 0 []) (fun w0 => Row.nil U5 w0 _)) (sub (rz2 .nil) dd1))
      ·refine rC TTZiAB 3 rfl ?_
       refine o_call (d_dyn b23 p cap B R hR sh (S.at_ + 3) hl hB (by omega) (.ok (a9, l9, d9)) ht) V.b32  rfl (rz2 .nil) rfl ?_
       rintro _ _ ⟨x67, y67, sh8, rfl, rfl⟩
       refine rO TTZiAB 18 rfl ?_
       refine oV (v_T (v_eql rfl rfl) (by decide)) ?_
       refine rO TTZiAB 3 rfl ?_
       rcases (InfP.bo_or (mo := mo) hB hok hk hc) with ⟨e, hbo⟩ | ⟨S2, hbo⟩
       ·have hbeg := InfP.beg_dy (B := B) (s := S) (by omega) (by omega) ht
        have hbl := hbo.go hbeg
        have hok1 := (InfP.one_good hB hok ((InfP.one_b (by omega) hk).trans hbeg)).ok
        refine rC TTZiAB 6 rfl ?_
        refine o_call ((d_coded b23 p cap B R hR sh8 { S with at_ := a9, kind := 2, last := decide ((BitP.numL B S.at_ 1) = 1), lits := l9, dist := d9 } mo q2 c2 hl hB hm hok1 (.error e) x67 y67 (show (0 : Int) < 2 by decide) hc he hbl)) V.b31  rfl (rz5 .nil) rfl ?_
        rintro _ _ ⟨rfl, rfl⟩
        refine rO TTZiAB 12 rfl ?_
        refine oV (v_T (v_neq rfl rfl) (InfP.bo_nz hB hok hk hc he hbo)) ?_
        refine rO TTZiAB 16 rfl ?_
        obtain rfl := hq.det (.inr ⟨hm0, _, hgo _ ((InfP.bo_good hB hok hk hc he hbo).2 _ rfl), rfl⟩)
        exact ret_ok (res3 rfl rfl rfl) ⟨none, 0, rfl, rfl⟩ (Sl.Sub.trans (sub_add0 (A := Row U5 none 0 0 []) (fun w0 => Row.nil U5 w0 _)) (sub (rz2 .nil) dd0))
       ·have hbeg := InfP.beg_dy (B := B) (s := S) (by omega) (by omega) ht
        have hbl := hbo.go hbeg
        have hok1 := (InfP.one_good hB hok ((InfP.one_b (by omega) hk).trans hbeg)).ok
        refine rC TTZiAB 6 rfl ?_
        refine o_call ((d_coded b23 p cap B R hR sh8 { S with at_ := a9, kind := 2, last := decide ((BitP.numL B S.at_ 1) = 1), lits := l9, dist := d9 } mo q2 c2 hl hB hm hok1 (.ok S2) x67 y67 (show (0 : Int) < 2 by decide) hc he hbl)) V.b31  rfl (rz5 .nil) rfl ?_
        rintro _ _ ⟨q9, c9, sh9, rfl, rfl⟩
        refine rO TTZiAB 12 rfl ?_
        refine oV (v_F (v_neq rfl rfl) (by decide)) ?_
        refine rO TTZiAB 6 rfl ?_
        obtain ⟨g1, g2, g3, g4, g5, g6⟩ := (InfP.bo_good hB hok hk hc he hbo).1 S2 rfl
        have hat2 := g2.at_
        refine rC TTZiAB 5 rfl ?_
        refine w_condD rfl (fun h87 => ?_) (fun h87 => ?_)
        ·refine rC TTZiAB 1 rfl ?_
         refine wN [pz 0 [] [8], pz 0 [] [7], pz 2 [1] [], pz 6 [2] [], pz 14 [3] [], pz 30 [4] [], pz 62 [5] [], pz 1 [0] [], pz 255 [6] [], pz 511 [] []] [⟨fun y => Cel b23 59 [.slice p B.length cap, .int .i64 (S2.at_ : Int), .bool false, .bool sh9], none, none, [4]⟩, ⟨fun y => R, none, none, []⟩, ⟨fun y => Row U5 q9 S2.out.length c9 S2.out, none, none, []⟩] F V.mixed ?_
         iterate 2 refine nM ?_
         refine nN ?_
         refine nG V.f59_1 ?_
         refine nR (fun y FF hA => v_load V.s3 rfl mm0 rfl) ?_
         refine nV (fun y hA L => v_add rfl rfl wI) ?_
         refine nV (fun y hA L => v_quo rfl rfl (by omega) (quoI (by omega) (by omega) (by omega))) ?_
         iterate 3 refine nA ?_
         refine net_nil ?_
         intro y hA
         clear hA
         refine thn_n ?_
         refine w_keep _ (.cons (d := 4) rfl (.cons (d := 5) rfl (.cons (d := 6) rfl (.nil _)))) ?_
         refine w_sub (M := Cel b23 59 [.slice p B.length cap, .int .i64 (S2.at_ : Int), .bool false, .bool sh9] :: R :: Row U5 q9 S2.out.length c9 S2.out :: F) (fun _ _ h => h) ?_
         refine rC TTZiAB 4 rfl ?_
         obtain rfl := hq.det (.inr ⟨hm0, _, hgo _ (g1 _ (.done (by rw [g5]; exact decide_eq_true (by omega)))), rfl⟩)
         rw [show ((S2.at_ : Int) + 7) / 8 = (((S2.at_ + 7) / 8 : Nat) : Int) from by omega]
         exact ret_ok (res3 rfl rfl rfl) ⟨q9, c9, rfl, rfl⟩ (sub (.cons rr2 (.cons rr1 .nil)) dd1)
        ·refine rC TTZiAB 2 rfl ?_
         refine j4 (S2) (q9) (c9) (sh9) ?_ (lc3 ln) (sub (rz3 .nil) dd0)
         exact ⟨⟨hgo.trans g1, g2, g3, g4, by rw [g5]; exact decide_eq_false (by omega)⟩, g6⟩
     ·have hbo : InfP.BO B mo S (.error 4) := .inl ⟨4, InfP.beg_no (by omega) (by omega) (by omega) (by omega), rfl⟩
      refine rC TTZiAB 9 rfl ?_
      refine oV (v_T (v_neq rfl rfl) (by decide)) ?_
      refine rO TTZiAB 16 rfl ?_
      obtain rfl := hq.det (.inr ⟨hm0, _, hgo _ ((InfP.bo_good hB hok hk hc he hbo).2 _ rfl), rfl⟩)
      exact ret_ok (res3 rfl rfl rfl) ⟨none, 0, rfl, rfl⟩ (Sl.Sub.trans (sub_add0 (A := Row U5 none 0 0 []) (fun w0 => Row.nil U5 w0 _)) (sub (rz1 (.cons rr1 .nil)) dd2))
end Go.Proofs.YtmbljkghkcgejaaGreat
namespace Go.Proofs.YtmbljkghkcgejaaGreat
open Go.Sl
theorem V.b11 : bodyB Tryz.prog 11 = true := by kernel_rfl
theorem V.b13 : bodyB Tryz.prog 13 = true := by kernel_rfl
theorem V.b14 : bodyB Tryz.prog 14 = true := by kernel_rfl
theorem V.b15 : bodyB Tryz.prog 15 = true := by kernel_rfl
theorem V.b16 : bodyB Tryz.prog 16 = true := by kernel_rfl
theorem V.b17 : bodyB Tryz.prog 17 = true := by kernel_rfl
theorem V.b18 : bodyB Tryz.prog 18 = true := by kernel_rfl
theorem V.b26 : bodyB Tryz.prog 26 = true := by kernel_rfl
theorem V.b42 : bodyB Tryz.prog 42 = true := by kernel_rfl
theorem V.b7 : bodyB Tryz.prog 7 = true := by kernel_rfl
theorem V.b8 : bodyB Tryz.prog 8 = true := by kernel_rfl
theorem V.b9 : bodyB Tryz.prog 9 = true := by kernel_rfl
end Go.Proofs.YtmbljkghkcgejaaGreat

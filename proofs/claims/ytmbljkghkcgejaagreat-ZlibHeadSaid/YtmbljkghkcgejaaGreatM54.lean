/- Walks of functions that the law reaches, and what they lean on; no conditions. -/
import Derived.Test.YtmbljkghkcgejaaGreatM30
import Derived.Test.YtmbljkghkcgejaaGreatSl22
import Derived.KernelRfl
import Derived.Test.YtmbljkghkcgejaaGreatM53
import Derived.Test.YtmbljkghkcgejaaGreatSl13
import Derived.Test.YtmbljkghkcgejaaGreatSlLim
import Derived.Test.YtmbljkghkcgejaaGreatM34
set_option linter.unusedVariables false
set_option linter.unusedSimpArgs false
set_option maxRecDepth 100000
namespace Go.Proofs.YtmbljkghkcgejaaGreat
open Go.Sl 
theorem TTZlC : okT Tryz.prog ⟨[22, 30], [(32, 0, 0), (32, 1, 1)]⟩ = true := by kernel_rfl
attribute [local irreducible] DefP.shF InfP.Res DefP.most BitP.Byt
end Go.Proofs.YtmbljkghkcgejaaGreat
namespace Go.Proofs.YtmbljkghkcgejaaGreat
open Go.Sl 
theorem TTZlD : okT Tryz.prog ⟨[22], []⟩ = true := by kernel_rfl
attribute [local irreducible] DefP.shF InfP.Res DefP.most BitP.Byt ZlP.adl ZlP.adB ZlP.adN
theorem z_openR (p : Option Addr) (c n : Nat) (L : List Int) (hn : L.length = n) (hl : n < 500000000) (hB : BitP.Byt L) (mo : Int) (hm : mo < 500000000) (x : List Int) (e : Int) (hq : ZlP.Opn L mo (x, e)) : Ctr Tryz.prog 8 [.slice p n c, .int .i64 mo] [Row U5 p n c L] (Ret fun v G => ∃ qq cq, v = .tuple #[.slice qq x.length cq, .int .i64 e] ∧ G = [Row U5 qq x.length cq x, Row U5 p n c L]) := fun w0 F w hi => by
 subst hn
 have hcap : L.length ≤ c := by
  obtain ⟨F2, hb, h, a, h1, h2, d, l1, l2, hp, _⟩ := hi.mem (mm0 (L := F))
  rcases hp.2 with ⟨e1, e2, e3, _⟩ | ⟨b, o, pre, post, _, _, _, _, _, e⟩
  ·omega
  ·exact e
 exact z_open p c L (Row U5 p L.length c L) (fun _ _ hh => hh.rd) hcap hl hB mo hm (x, e) hq w0 F w hi
theorem z_closeN (p : Option Addr) (c n : Nat) (B : List Int) (R : HProp) (hR : ∀ w0 h, R w0 h → RdR U5 p n B w0 h) (hn : B.length = n) (hl : n ≤ 4194304) (hB : BitP.Byt B) : Ctr Tryz.prog 11 [.slice p n c] [R] (Ret fun v G => ∃ qq cq, v = .slice qq (ZlP.zS B).length cq ∧ G = [Row U5 qq (ZlP.zS B).length cq (ZlP.zS B), R]) := by
 subst hn
 exact z_close p c B R hR hl hB
set_option maxHeartbeats 2000000 in
theorem l_awake  : Ctr Tryz.prog 7 [] [] (Ret fun v G => v = .bool true ∧ G = []) := by
 refine spec_of [] Tryz.func7 rfl Tryz.ntmps7 rfl rfl ?_
 intro w0 F
 have hab : BitP.Byt ([97, 98, 99] : List Int) := by unfold BitP.Byt; decide
 have hbd := DefP.shF_bd (B := ([97, 98, 99] : List Int)) hab (by decide)
 have hzl := ZlP.zS_len ([97, 98, 99] : List Int)
 refine rT TTZlD 7 rfl ?_
 refine r_build (U5) [120, 1, 3, 0, 0, 0, 0, 1] V.sl22 V.z5 rfl rfl rfl rfl rfl rfl ?_
 intro b6
 refine o_call (z_openR (some ⟨b6, 0, none⟩) 8 8 [120, 1, 3, 0, 0, 0, 0, 1] rfl (by decide) (by unfold BitP.Byt; decide) 0 (by decide) ([] : List Int) 0 ZlP.awake1) V.b8  rfl (rz1 .nil) rfl ?_
 rintro _ _ ⟨q7, c7, rfl, rfl⟩
 refine rO TTZlD 9 rfl ?_
 refine r_build (U5) [97, 98, 99] V.sl22 V.z5 rfl rfl rfl rfl rfl rfl ?_
 intro b11
 refine oV (v_convB (c := U5) Tryz.underlying22 Tryz.underlying5 rfl (by decide) rr0) ?_
 refine o_call (z_closeN (some ⟨b11, 0, none⟩) 3 3 ([97, 98, 99] : List Int) (RdR U5 (some ⟨b11, 0, none⟩) 3 ([97, 98, 99] : List Int)) (fun _ _ hh => hh) rfl (by decide) hab) V.b11  rfl (rz1 .nil) rfl ?_
 rintro _ _ ⟨q13, c13, rfl, rfl⟩
 refine o_call (z_openR q13 c13 (ZlP.zS ([97, 98, 99] : List Int)).length (ZlP.zS ([97, 98, 99] : List Int)) rfl (by omega) (ZlP.zS_byt hab (by decide)) 3 (by decide) ([97, 98, 99] : List Int) 0 (ZlP.opn_zS hab (by decide))) V.b8  rfl (rz1 .nil) rfl ?_
 rintro _ _ ⟨q14, c14, rfl, rfl⟩
 refine rO TTZlD 10 rfl ?_
 refine oV (v_T (v_eql rfl rfl) rfl) ?_
 refine rO TTZlD 3 rfl ?_
 refine o_want rfl ?_
 refine oV (v_T (v_eql rfl rfl) rfl) ?_
 refine rO TTZlD 3 rfl ?_
 refine o_want rfl ?_
 refine oV (v_T (v_eql rfl rfl) rfl) ?_
 refine rO TTZlD 3 rfl ?_
 refine o_want rfl ?_
 refine oV (v_str (T := 5) Tryz.underlying22 Tryz.underlying5 Tryz.underlying9 rfl (own mm0)) ?_
 refine o_want rfl ?_
 refine oV (v_sself (s := strOfNums ([97, 98, 99] : List Int)) rfl rfl) ?_
 refine rO TTZlD 5 rfl ?_
 exact ret_ok (res1 rfl) ⟨rfl, rfl⟩ (sub .nil dd5)
set_option maxHeartbeats 4000000 in
theorem l_head (a : Int) (ha : 0 ≤ a ∧ a < 256) (b : Int) (hb : 0 ≤ b ∧ b < 256) (p : Option Addr) (cap : Nat) (B : List Int) (hB : BitP.Byt B) (hcap : B.length ≤ cap) : Ctr Tryz.prog 5 [.int .u8 a, .int .u8 b, .slice p B.length cap] [RdR U5 p B.length B] (Ret fun v G => v = .bool true ∧ G = [RdR U5 p B.length B]) := by
 refine spec_of [(0, _), (1, _), (2, _)] Tryz.func5 rfl Tryz.ntmps5 rfl rfl ?_
 intro w0 F
 refine rT TTZlD 8 rfl ?_
 refine o_call (l_awake) V.b7  rfl .nil rfl ?_
 rintro _ _ ⟨rfl, rfl⟩
 refine rO TTZlD 6 rfl ?_
 rcases (Nat.lt_or_ge 1000 B.length) with hl1 | hl1
 ·refine rC TTZlD 5 rfl ?_
  refine oV (v_T (v_gtr rfl rfl) (by omega)) ?_
  refine rO TTZlD 10 rfl ?_
  exact ret_ok (res1 rfl) ⟨rfl, rfl⟩ (sub (rz1 .nil) dd0)
 ·refine rC TTZlD 5 rfl ?_
  refine oV (v_F (v_gtr rfl rfl) (by omega)) ?_
  refine rO TTZlD 8 rfl ?_
  refine o_call (z_close p cap B (RdR U5 p B.length B) (fun _ _ hh => hh) (by omega) hB) V.b11  rfl (rz1 .nil) rfl ?_
  rintro _ _ ⟨q17, c17, rfl, rfl⟩
  refine rO TTZlD 4 rfl ?_
  have hzl := ZlP.zS_len B
  have hbd := DefP.shF_bd (B := B) hB (by omega)
  refine rC TTZlD 5 rfl ?_
  refine oV (xI V.sl22 (own mm0)) ?_
  refine o_eff (r_store (c := (U5)) (a) V.s5 rfl rfl rfl (by exact pp0) (by omega) (by omega) rfl rfl) ?_
  refine oV (xI V.sl22 (own mm0)) ?_
  refine o_eff (r_store (c := (U5)) (b) V.s5 rfl rfl rfl (by exact pp0) (by omega) (by omega) rfl rfl) ?_
  rw [show ((ZlP.zS B).set (0 : Int).toNat a).set (1 : Int).toNat b = (a :: b :: (DefP.shF B ++ ZlP.adB B)) from ZlP.zS_set B a b]
  refine rO TTZlD 2 rfl ?_
  rcases (ZlP.hd_or a b) with h1 | ⟨h1, h2⟩ | ⟨h1, h2, h3⟩ | ⟨h1, h2, h3, h4⟩ | ⟨h1, h2, h3, h4⟩
  ·refine rC TTZlD 1 rfl ?_
   have hnh : ¬ ZlP.Hd a b := fun hh => h1 hh.1
   refine rC TTZlD 4 rfl ?_
   refine o_call (z_openR q17 c17 (ZlP.zS B).length (a :: b :: (DefP.shF B ++ ZlP.adB B)) (ZlP.zS_hlen B a b) (by omega) (ZlP.zS_hbyt hB (by omega) ha hb) (B.length : Int) (by omega) ([] : List Int) 4 (ZlP.opn_head hB (by omega) _ (.inr ⟨hnh, rfl⟩))) V.b8  rfl (rz1 .nil) rfl ?_
   rintro _ _ ⟨q28, c28, rfl, rfl⟩
   refine rO TTZlD 10 rfl ?_
   refine oV (v_and (r := a % 16) rfl rfl (ZlP.and15b ha)) ?_
   refine oV (v_F (v_eql rfl rfl) (by omega)) ?_
   refine rO TTZlD 34 rfl ?_
   refine oV (v_T (v_eql rfl rfl) rfl) ?_
   refine rO TTZlD 3 rfl ?_
   refine o_want rfl ?_
   refine oV (v_T (v_eql rfl rfl) rfl) ?_
   refine rO TTZlD 6 rfl ?_
   exact ret_ok (res1 rfl) ⟨rfl, rfl⟩ (sub (.cons rr2 .nil) dd2)
  ·refine rC TTZlD 1 rfl ?_
   have hnh : ¬ ZlP.Hd a b := fun hh => h2 hh.2.1
   refine rC TTZlD 4 rfl ?_
   refine o_call (z_openR q17 c17 (ZlP.zS B).length (a :: b :: (DefP.shF B ++ ZlP.adB B)) (ZlP.zS_hlen B a b) (by omega) (ZlP.zS_hbyt hB (by omega) ha hb) (B.length : Int) (by omega) ([] : List Int) 4 (ZlP.opn_head hB (by omega) _ (.inr ⟨hnh, rfl⟩))) V.b8  rfl (rz1 .nil) rfl ?_
   rintro _ _ ⟨q28, c28, rfl, rfl⟩
   refine rO TTZlD 10 rfl ?_
   refine oV (v_and (r := a % 16) rfl rfl (ZlP.and15b ha)) ?_
   refine oV (v_T (v_eql rfl rfl) (by omega)) ?_
   refine rO TTZlD 2 rfl ?_
   refine o_want rfl ?_
   refine oV (v_shr (r := a / 16) rfl rfl (by decide) (ZlP.sh4b ha.1)) ?_
   refine o_want rfl ?_
   refine oV (v_F (v_leq rfl rfl) (by omega)) ?_
   refine rO TTZlD 30 rfl ?_
   refine oV (v_T (v_eql rfl rfl) rfl) ?_
   refine rO TTZlD 3 rfl ?_
   refine o_want rfl ?_
   refine oV (v_T (v_eql rfl rfl) rfl) ?_
   refine rO TTZlD 6 rfl ?_
   exact ret_ok (res1 rfl) ⟨rfl, rfl⟩ (sub (.cons rr2 .nil) dd2)
  ·refine rC TTZlD 1 rfl ?_
   have hnh : ¬ ZlP.Hd a b := fun hh => h3 hh.2.2.1
   refine rC TTZlD 4 rfl ?_
   refine o_call (z_openR q17 c17 (ZlP.zS B).length (a :: b :: (DefP.shF B ++ ZlP.adB B)) (ZlP.zS_hlen B a b) (by omega) (ZlP.zS_hbyt hB (by omega) ha hb) (B.length : Int) (by omega) ([] : List Int) 4 (ZlP.opn_head hB (by omega) _ (.inr ⟨hnh, rfl⟩))) V.b8  rfl (rz1 .nil) rfl ?_
   rintro _ _ ⟨q28, c28, rfl, rfl⟩
   refine rO TTZlD 10 rfl ?_
   refine oV (v_and (r := a % 16) rfl rfl (ZlP.and15b ha)) ?_
   refine oV (v_T (v_eql rfl rfl) (by omega)) ?_
   refine rO TTZlD 2 rfl ?_
   refine o_want rfl ?_
   refine oV (v_shr (r := a / 16) rfl rfl (by decide) (ZlP.sh4b ha.1)) ?_
   refine o_want rfl ?_
   refine oV (v_T (v_leq rfl rfl) (by omega)) ?_
   refine rO TTZlD 3 rfl ?_
   refine o_want rfl ?_
   refine oV (v_conv V.u5 Tryz.underlying3 rfl wI) ?_
   refine o_want rfl ?_
   refine oV (v_shl (r := a * 256) rfl rfl (by decide) (ZlP.shlI (n := 8) rfl (by decide) rfl (by omega) (by omega))) ?_
   refine o_want rfl ?_
   refine oV (v_move rfl) ?_
   refine o_want rfl ?_
   refine oV (v_conv V.u5 Tryz.underlying3 rfl wI) ?_
   refine rOs TTZlD 1 rfl (by omega) ?_
   refine o_want rfl ?_
   refine oV (v_rem (r := (a * 256 + b) % 31) rfl rfl (by omega) (remI (by omega))) ?_
   refine o_want rfl ?_
   refine oV (v_F (v_eql rfl rfl) (by omega)) ?_
   refine rO TTZlD 20 rfl ?_
   refine oV (v_T (v_eql rfl rfl) rfl) ?_
   refine rO TTZlD 3 rfl ?_
   refine o_want rfl ?_
   refine oV (v_T (v_eql rfl rfl) rfl) ?_
   refine rO TTZlD 6 rfl ?_
   exact ret_ok (res1 rfl) ⟨rfl, rfl⟩ (sub (.cons rr2 .nil) dd2)
  ·refine rC TTZlD 1 rfl ?_
   have hnh : ¬ ZlP.Hd a b := fun hh => h4 hh.2.2.2
   refine rC TTZlD 4 rfl ?_
   refine o_call (z_openR q17 c17 (ZlP.zS B).length (a :: b :: (DefP.shF B ++ ZlP.adB B)) (ZlP.zS_hlen B a b) (by omega) (ZlP.zS_hbyt hB (by omega) ha hb) (B.length : Int) (by omega) ([] : List Int) 4 (ZlP.opn_head hB (by omega) _ (.inr ⟨hnh, rfl⟩))) V.b8  rfl (rz1 .nil) rfl ?_
   rintro _ _ ⟨q28, c28, rfl, rfl⟩
   refine rO TTZlD 10 rfl ?_
   refine oV (v_and (r := a % 16) rfl rfl (ZlP.and15b ha)) ?_
   refine oV (v_T (v_eql rfl rfl) (by omega)) ?_
   refine rO TTZlD 2 rfl ?_
   refine o_want rfl ?_
   refine oV (v_shr (r := a / 16) rfl rfl (by decide) (ZlP.sh4b ha.1)) ?_
   refine o_want rfl ?_
   refine oV (v_T (v_leq rfl rfl) (by omega)) ?_
   refine rO TTZlD 3 rfl ?_
   refine o_want rfl ?_
   refine oV (v_conv V.u5 Tryz.underlying3 rfl wI) ?_
   refine o_want rfl ?_
   refine oV (v_shl (r := a * 256) rfl rfl (by decide) (ZlP.shlI (n := 8) rfl (by decide) rfl (by omega) (by omega))) ?_
   refine o_want rfl ?_
   refine oV (v_move rfl) ?_
   refine o_want rfl ?_
   refine oV (v_conv V.u5 Tryz.underlying3 rfl wI) ?_
   refine rOs TTZlD 1 rfl (by omega) ?_
   refine o_want rfl ?_
   refine oV (v_rem (r := (a * 256 + b) % 31) rfl rfl (by omega) (remI (by omega))) ?_
   refine o_want rfl ?_
   refine oV (v_T (v_eql rfl rfl) (by omega)) ?_
   refine rO TTZlD 3 rfl ?_
   refine o_want rfl ?_
   refine oV (v_and (r := 32 * (b / 32 % 2)) rfl rfl (ZlP.and32b hb)) ?_
   refine o_want rfl ?_
   refine oV (v_F (v_eql rfl rfl) (by omega)) ?_
   refine rO TTZlD 15 rfl ?_
   refine oV (v_T (v_eql rfl rfl) rfl) ?_
   refine rO TTZlD 3 rfl ?_
   refine o_want rfl ?_
   refine oV (v_T (v_eql rfl rfl) rfl) ?_
   refine rO TTZlD 6 rfl ?_
   exact ret_ok (res1 rfl) ⟨rfl, rfl⟩ (sub (.cons rr2 .nil) dd2)
  ·refine rC TTZlD 5 rfl ?_
   refine o_call (z_openR q17 c17 (ZlP.zS B).length (a :: b :: (DefP.shF B ++ ZlP.adB B)) (ZlP.zS_hlen B a b) (by omega) (ZlP.zS_hbyt hB (by omega) ha hb) (B.length : Int) (by omega) B 0 (ZlP.opn_head hB (by omega) _ (.inl ⟨⟨h1, h2, h3, h4⟩, rfl⟩))) V.b8  rfl (rz1 .nil) rfl ?_
   rintro _ _ ⟨q28, c28, rfl, rfl⟩
   refine rO TTZlD 10 rfl ?_
   refine oV (v_and (r := a % 16) rfl rfl (ZlP.and15b ha)) ?_
   refine oV (v_T (v_eql rfl rfl) (by omega)) ?_
   refine rO TTZlD 2 rfl ?_
   refine o_want rfl ?_
   refine oV (v_shr (r := a / 16) rfl rfl (by decide) (ZlP.sh4b ha.1)) ?_
   refine o_want rfl ?_
   refine oV (v_T (v_leq rfl rfl) (by omega)) ?_
   refine rO TTZlD 3 rfl ?_
   refine o_want rfl ?_
   refine oV (v_conv V.u5 Tryz.underlying3 rfl wI) ?_
   refine o_want rfl ?_
   refine oV (v_shl (r := a * 256) rfl rfl (by decide) (ZlP.shlI (n := 8) rfl (by decide) rfl (by omega) (by omega))) ?_
   refine o_want rfl ?_
   refine oV (v_move rfl) ?_
   refine o_want rfl ?_
   refine oV (v_conv V.u5 Tryz.underlying3 rfl wI) ?_
   refine rOs TTZlD 1 rfl (by omega) ?_
   refine o_want rfl ?_
   refine oV (v_rem (r := (a * 256 + b) % 31) rfl rfl (by omega) (remI (by omega))) ?_
   refine o_want rfl ?_
   refine oV (v_T (v_eql rfl rfl) (by omega)) ?_
   refine rO TTZlD 3 rfl ?_
   refine o_want rfl ?_
   refine oV (v_and (r := 32 * (b / 32 % 2)) rfl rfl (ZlP.and32b hb)) ?_
   refine o_want rfl ?_
   refine oV (v_T (v_eql rfl rfl) (by omega)) ?_
   refine rO TTZlD 17 rfl ?_
   refine oV (v_T (v_eql rfl rfl) rfl) ?_
   refine rO TTZlD 2 rfl ?_
   refine o_want rfl ?_
   refine oV (v_str (T := 5) Tryz.underlying22 Tryz.underlying5 Tryz.underlying9 rfl (own mm0)) ?_
   refine o_want rfl ?_
   refine oV (v_move rfl) ?_
   refine o_want rfl ?_
   refine oV (v_str (T := 5) Tryz.underlying22 Tryz.underlying5 Tryz.underlying9 rfl (by exact rdH (fun _ _ h => h) mm2)) ?_
   refine o_want rfl ?_
   refine oV (v_sself rfl rfl) ?_
   refine rO TTZlD 5 rfl ?_
   exact ret_ok (res1 rfl) ⟨rfl, rfl⟩ (sub (.cons rr2 .nil) dd2)
end Go.Proofs.YtmbljkghkcgejaaGreat

/-
 Steps of the proof: walks of functions that the statement reaches; printed by a program of ours.
-/
import Derived.Test.YtoplcgkafaoafaaInfZ
namespace Go.Proofs.Ytoplcgkafaoafaa
open Go.Sl 
set_option linter.unusedVariables false
set_option linter.unusedSimpArgs false

attribute [local irreducible] HuffP.newE HuffP.tk HuffP.ord HuffP.cntL HuffP.words HuffP.mostL InfP.frs InfP.toldC InfP.toldN InfP.toldA InfP.hL InfP.hD InfP.hC InfP.lnGo InfP.told InfP.fixL InfP.codeE InfP.rep InfP.lenE InfP.awayE InfP.sym InfP.alg BitP.numL InfP.coded InfP.begin_ InfP.one InfP.put_ InfP.lnB InfP.dsB InfP.lnM InfP.dsM InfP.rpB InfP.rpL InfP.rpW InfP.fixD


/-- What is said of a block's codes. -/
def PD (b : Nat) (p : Option Addr) (cap : Nat) (B : List Int) (R : HProp) : Except Int (Nat × List Int × List Int) → Value → List HProp → Prop
 | .error e, v, G => v = .tuple #[.pointer none, .pointer none, .int .i64 e] ∧ G = [R]
 | .ok (a, l, d), v, G => ∃ x y sh, v = .tuple #[.pointer (some ⟨x, 0, none⟩), .pointer (some ⟨y, 0, none⟩), .int .i64 0] ∧ G = [Cel b 52 [.slice p B.length cap, .int .i64 (a : Int), .bool false, .bool sh], R, RC x l, RC y d]


set_option maxHeartbeats 8000000 in
set_option maxRecDepth 100000 in
theorem d_dyn (b : Nat) (p : Option Addr) (cap : Nat) (B : List Int) (R : HProp) (hR : ∀ w0 h, R w0 h → RdR U5 p B.length B w0 h) (sh : Bool) (a : Nat) (hl : B.length < 500000000) (hB : BitP.Byt B) (ha : a ≤ 8 * B.length) (o : Except Int (Nat × List Int × List Int)) (ho : InfP.told B a = o) : Ctr Try.prog 27 [.pointer (some ⟨b, 0, none⟩)] [Cel b 52 [.slice p B.length cap, .int .i64 (a : Int), .bool false, .bool sh], R] (Ret fun v G => PD b p cap B R o v G) := by
 refine spec_of [(0, _)] Try.func27 rfl Try.ntmps27 rfl rfl ?_
 intro w0 F
 have hn1 := BitP.numL_bound B a 5
 have hn2 := BitP.numL_bound B (a + 5) 5
 have hn3 := BitP.numL_bound B (a + 10) 4
 obtain ⟨he1, he2, he3, he4, he5, he6, he7, he8⟩ := InfP.hd_eqs B a
 have hNN : InfP.toldN B a = InfP.hL B a + InfP.hD B a := InfP.toldN_eq B a
 have hAA : InfP.toldA B a = a + 14 + 3 * InfP.hC B a := InfP.toldA_eq B a
 refine w_seq ?_
 refine w_region ?_
 refine o_val (v_assign rfl) rfl ?_
 refine o_val (v_assign rfl) rfl ?_
 refine o_val (v_assign rfl) rfl ?_
 refine o_nil ?_
 refine thn_n ?_
 refine w_seq ?_
 refine w_seq ?_
 refine w_region ?_
 refine o_val (v_move rfl) rfl ?_
 refine o_call (d_Left b p cap B R hR a sh hl ha) V.b22  rfl (.cons (by repeat first | exact .head | apply Rem.tail) (.cons (by repeat first | exact .head | apply Rem.tail) .nil)) rfl ?_
 rintro _ _ ⟨rfl, rfl⟩
 refine o_val (v_lss rfl rfl) rfl ?_
 refine o_nil ?_
 refine thn_n ?_
 first | refine w_condD rfl (fun h32 => ?_) (fun h32 => ?_) | refine w_cond rfl (fun h32 => ?_) (fun h32 => ?_)
 ·
  refine w_seq ?_
  refine w_region ?_
  refine o_val (v_assign rfl) rfl ?_
  refine o_val (v_assign rfl) rfl ?_
  refine o_val (v_assign rfl) rfl ?_
  refine o_nil ?_
  refine thn_n ?_
  refine w_ret ?_
  refine (thn_r ?_)
  obtain rfl : o = .error 2 := ho.symm.trans (InfP.told_1 (by omega))
  exact ret_ok (G := [R]) (res3 rfl rfl rfl) ⟨rfl, rfl⟩ (sub (.cons (by repeat first | exact .head | apply Rem.tail) .nil) (by repeat first | exact .refl | apply Drop.skip))
 ·
  refine w_skip ?_
  refine thn_n ?_
  refine w_seq ?_
  refine w_region ?_
  refine o_val (v_move rfl) rfl ?_
  refine o_call (d_take b p cap B R hR a sh 5 hl hB (by omega) (by omega)) V.b23  rfl (.cons (by repeat first | exact .head | apply Rem.tail) (.cons (by repeat first | exact .head | apply Rem.tail) .nil)) rfl ?_
  rintro _ _ ⟨rfl, rfl⟩
  refine o_val (v_move rfl) rfl ?_
  refine o_val (v_extract rfl rfl) rfl ?_
  refine o_val (v_extract rfl rfl) rfl ?_
  refine o_val (v_assign rfl) rfl ?_
  refine o_val (v_assign rfl) rfl ?_
  refine o_nil ?_
  refine thn_n ?_
  refine w_seq ?_
  refine w_region ?_
  refine o_val (v_move rfl) rfl ?_
  refine o_call (d_take b p cap B R hR (a + 5) sh 5 hl hB (by omega) (by omega)) V.b23  rfl (.cons (by repeat first | exact .head | apply Rem.tail) (.cons (by repeat first | exact .head | apply Rem.tail) .nil)) rfl ?_
  rintro _ _ ⟨rfl, rfl⟩
  refine o_val (v_move rfl) rfl ?_
  refine o_val (v_extract rfl rfl) rfl ?_
  refine o_val (v_extract rfl rfl) rfl ?_
  refine o_val (v_assign rfl) rfl ?_
  refine o_val (v_assign rfl) rfl ?_
  refine o_nil ?_
  refine thn_n ?_
  refine w_seq ?_
  refine w_region ?_
  refine o_val (v_move rfl) rfl ?_
  refine o_call (d_take b p cap B R hR (a + 10) sh 4 hl hB (by omega) (by omega)) V.b23  rfl (.cons (by repeat first | exact .head | apply Rem.tail) (.cons (by repeat first | exact .head | apply Rem.tail) .nil)) rfl ?_
  rintro _ _ ⟨rfl, rfl⟩
  refine o_val (v_move rfl) rfl ?_
  refine o_val (v_extract rfl rfl) rfl ?_
  refine o_val (v_extract rfl rfl) rfl ?_
  refine o_val (v_assign rfl) rfl ?_
  refine o_val (v_assign rfl) rfl ?_
  refine o_nil ?_
  refine thn_n ?_
  refine w_seq ?_
  refine w_region ?_
  refine o_val (v_move rfl) rfl ?_
  refine o_val (v_add rfl rfl (wrapI (by omega) (by omega))) rfl ?_
  refine o_val (v_move rfl) rfl ?_
  refine o_val (v_add rfl rfl (wrapI (by omega) (by omega))) rfl ?_
  refine o_val (v_move rfl) rfl ?_
  refine o_val (v_add rfl rfl (wrapI (by omega) (by omega))) rfl ?_
  refine o_val (v_assign rfl) rfl ?_
  refine o_val (v_assign rfl) rfl ?_
  refine o_val (v_assign rfl) rfl ?_
  refine o_nil ?_
  refine thn_n ?_
  rcases (InfP.or3 (InfP.hL B a ≤ 286) (InfP.hD B a ≤ 30)) with ⟨hq1, hq2⟩ | ⟨hq1, hq2⟩ | hq1
  ·
   refine w_seq ?_
   refine w_seq ?_
   have h14 : a + 14 ≤ 8 * B.length := by omega
   rw [show BitP.numL B a 5 + 257 = (InfP.hL B a : Int) from by omega, show BitP.numL B (a + 5) 5 + 1 = (InfP.hD B a : Int) from by omega, show BitP.numL B (a + 10) 4 + 4 = (InfP.hC B a : Int) from by omega]
   refine w_region ?_
   refine o_val (v_move rfl) rfl ?_
   refine o_val (v_F (v_gtr rfl rfl) (by omega)) rfl ?_
   refine o_val (v_move rfl) rfl ?_
   refine o_want rfl ?_
   refine o_val (v_move rfl) rfl ?_
   refine o_want rfl ?_
   refine o_val (v_F (v_gtr rfl rfl) (by omega)) rfl ?_
   refine o_val (v_pickF rfl rfl) rfl ?_
   refine o_nil ?_
   refine thn_n ?_
   refine w_condF rfl ?_
   refine w_skip ?_
   refine thn_n ?_
   refine w_seq ?_
   refine w_region ?_
   refine r_build (I3) InfP.ordr V.sl30 V.z3 rfl rfl rfl rfl rfl rfl ?_
   intro b60
   refine o_val (v_assign rfl) rfl ?_
   refine o_nil ?_
   refine thn_n ?_
   refine w_seq ?_
   refine w_region ?_
   refine r_makeN 19 19 (I3) rfl rfl V.sl30 V.z3 rfl rfl rfl rfl (by omega) (by omega) rfl rfl ?_
   intro b61
   refine o_val (v_assign rfl) rfl ?_
   refine o_nil ?_
   refine thn_n ?_
   refine w_seq ?_
   refine w_seq ?_
   refine w_region ?_
   refine o_val (v_assign rfl) rfl ?_
   refine o_nil ?_
   refine thn_n ?_
   refine w_block ?_
   rw [show List.replicate 19 I3.d = InfP.frs B (a + 14) 0 from (InfP.frs_zero B (a + 14)).symm]
   refine w_loop1 (fun (k : Nat) => [(0, .pointer (some ⟨b, 0, none⟩)), (5, .int .i64 (InfP.hL B a : Int)), (7, .int .i64 (InfP.hD B a : Int)), (9, .int .i64 (InfP.hC B a : Int)), (11, .slice (some ⟨b60, 0, none⟩) 19 19), (12, .slice (some ⟨b61, 0, none⟩) 19 19), (13, .int .i64 (k : Int))]) (fun (k : Nat) => Row I3 (some ⟨b61, 0, none⟩) 19 19 (InfP.frs B (a + 14) k) :: Row I3 (some ⟨b60, 0, none⟩) 19 19 InfP.ordr :: Cel b 52 [.slice p B.length cap, .int .i64 ((a + 14 + 3 * k) : Int), .bool false, .bool sh] :: R :: F) (fun (k : Nat) => k ≤ InfP.hC B a ∧ a + 14 + 3 * k ≤ 8 * B.length) (fun (k : Nat) => InfP.hC B a - k) (i1 (0) ?_ (.cons rfl (.cons rfl (.cons rfl (.cons rfl (.cons rfl (.cons rfl (.cons rfl (.nil _)))))))) (sub (.cons (by repeat first | exact .head | apply Rem.tail) (.cons (by repeat first | exact .head | apply Rem.tail) (.cons (by repeat first | exact .head | apply Rem.tail) (.cons (by repeat first | exact .head | apply Rem.tail) .nil)))) (by repeat first | exact .refl | apply Drop.skip))) ?_
   ·
    exact ⟨Nat.zero_le _, by omega⟩
   intro k
   rintro ⟨hk, hk2⟩
   refine w_seq ?_
   refine w_seq ?_
   refine w_region ?_
   refine o_val (v_move rfl) rfl ?_
   refine o_val (v_move rfl) rfl ?_
   refine o_val (v_lss rfl rfl) rfl ?_
   refine o_nil ?_
   refine thn_n ?_
   first | refine w_condD rfl (fun h64 => ?_) (fun h64 => ?_) | refine w_cond rfl (fun h64 => ?_) (fun h64 => ?_)
   ·
    refine w_skip ?_
    refine thn_n ?_
    refine w_seq ?_
    refine w_block ?_
    rcases (Nat.lt_or_ge (8 * B.length) ((a + 14 + 3 * k) + 3)) with hx | hx
    ·
     refine w_seq ?_
     refine w_region ?_
     refine o_val (v_move rfl) rfl ?_
     refine o_call (d_takeE b p cap B R hR (a + 14 + 3 * k) sh 3 hl hB (by omega) (by omega) (by omega)) V.b23  rfl (.cons (by repeat first | exact .head | apply Rem.tail) (.cons (by repeat first | exact .head | apply Rem.tail) .nil)) rfl ?_
     rintro _ _ ⟨rfl, rfl⟩
     refine o_val (v_move rfl) rfl ?_
     refine o_val (v_extract rfl rfl) rfl ?_
     refine o_val (v_extract rfl rfl) rfl ?_
     refine o_val (v_assign rfl) rfl ?_
     refine o_val (v_assign rfl) rfl ?_
     refine o_nil ?_
     refine thn_n ?_
     refine w_seq ?_
     refine w_seq ?_
     refine w_region ?_
     refine o_val (v_move rfl) rfl ?_
     refine o_val (v_to (v := .bool true) (v_not rfl) rfl) rfl ?_
     refine o_nil ?_
     refine thn_n ?_
     refine w_condT rfl ?_
     refine w_seq ?_
     refine w_region ?_
     refine o_val (v_assign rfl) rfl ?_
     refine o_val (v_assign rfl) rfl ?_
     refine o_val (v_assign rfl) rfl ?_
     refine o_nil ?_
     refine thn_n ?_
     refine w_ret ?_
     refine (thn_r (blk_r (thn_r (thn_r (blk_r (thn_r ?_))))))
     obtain rfl : o = .error 2 := ho.symm.trans (InfP.told_3 h14 ⟨hq1, hq2⟩ (by omega))
     exact ret_ok (G := [R]) (res3 rfl rfl rfl) ⟨rfl, rfl⟩ (sub (.cons (by repeat first | exact .head | apply Rem.tail) .nil) (by repeat first | exact .refl | apply Drop.skip))
    ·
     refine w_seq ?_
     refine w_region ?_
     refine o_val (v_move rfl) rfl ?_
     refine o_call (d_take b p cap B R hR (a + 14 + 3 * k) sh 3 hl hB (by omega) (by omega)) V.b23  rfl (.cons (by repeat first | exact .head | apply Rem.tail) (.cons (by repeat first | exact .head | apply Rem.tail) .nil)) rfl ?_
     rintro _ _ ⟨rfl, rfl⟩
     refine o_val (v_move rfl) rfl ?_
     refine o_val (v_extract rfl rfl) rfl ?_
     refine o_val (v_extract rfl rfl) rfl ?_
     refine o_val (v_assign rfl) rfl ?_
     refine o_val (v_assign rfl) rfl ?_
     refine o_nil ?_
     refine thn_n ?_
     refine w_seq ?_
     refine w_seq ?_
     refine w_region ?_
     refine o_val (v_move rfl) rfl ?_
     refine o_val (v_to (v := .bool false) (v_not rfl) rfl) rfl ?_
     refine o_nil ?_
     refine thn_n ?_
     refine w_condF rfl ?_
     refine w_skip ?_
     refine thn_n ?_
     have hoo : 0 ≤ I3.g InfP.ordr (k : Int) ∧ I3.g InfP.ordr (k : Int) < 19 := InfP.ordr_at (k := k) (by omega)
     refine w_region ?_
     refine o_val (v_move rfl) rfl ?_
     refine o_val (v_move rfl) rfl ?_
     refine o_val (v_move rfl) rfl ?_
     refine o_val (r_index (c := (I3)) V.sl30 rfl rfl (by first | exact own mm0 | exact own mm1 | exact own mm2 | exact own mm3 | exact own mm4 | exact own mm5 | exact own mm6 | exact own mm7 | exact own mm8 | exact own mm9 | exact own mm10 | exact own mm11 | exact rdH hR mm0 | exact rdH hR mm1 | exact rdH hR mm2 | exact rdH hR mm3 | exact rdH hR mm4 | exact rdH hR mm5 | exact rdH hR mm6 | exact rdH hR mm7 | exact rdH hR mm8 | exact rdH hR mm9 | exact rdH hR mm10 | exact rdH hR mm11) (by omega) (by omega)) rfl ?_
     refine o_val (r_load (c := (I3)) V.s3 rfl (by first | exact own mm0 | exact own mm1 | exact own mm2 | exact own mm3 | exact own mm4 | exact own mm5 | exact own mm6 | exact own mm7 | exact own mm8 | exact own mm9 | exact own mm10 | exact own mm11 | exact rdH hR mm0 | exact rdH hR mm1 | exact rdH hR mm2 | exact rdH hR mm3 | exact rdH hR mm4 | exact rdH hR mm5 | exact rdH hR mm6 | exact rdH hR mm7 | exact rdH hR mm8 | exact rdH hR mm9 | exact rdH hR mm10 | exact rdH hR mm11) (by omega) (by omega) rfl rfl) rfl ?_
     refine o_val (v_move rfl) rfl ?_
     refine o_val (r_index (c := (I3)) V.sl30 rfl rfl (by first | exact own mm0 | exact own mm1 | exact own mm2 | exact own mm3 | exact own mm4 | exact own mm5 | exact own mm6 | exact own mm7 | exact own mm8 | exact own mm9 | exact own mm10 | exact own mm11 | exact rdH hR mm0 | exact rdH hR mm1 | exact rdH hR mm2 | exact rdH hR mm3 | exact rdH hR mm4 | exact rdH hR mm5 | exact rdH hR mm6 | exact rdH hR mm7 | exact rdH hR mm8 | exact rdH hR mm9 | exact rdH hR mm10 | exact rdH hR mm11) (by omega) (by omega)) rfl ?_
     refine o_eff (r_store (c := (I3)) (_) V.s3 rfl rfl rfl (by repeat first | exact .head | apply Rep.tail) (by omega) (by omega) rfl rfl) ?_
     refine o_nil ?_
     refine blk_n ?_
     refine thn_n ?_
     refine w_region ?_
     refine o_val (v_move rfl) rfl ?_
     refine o_val (v_add rfl rfl (wrapI (by omega) (by omega))) rfl ?_
     refine o_val (v_assign rfl) rfl ?_
     refine o_nil ?_
     rw [show (InfP.frs B (a + 14) k).set (I3.g InfP.ordr (k : Int)).toNat (BitP.numL B (a + 14 + 3 * k) 3) = InfP.frs B (a + 14) (k + 1) from (InfP.frs_succ B (a + 14) k).symm]
     refine j1 (k + 1) ?_ (.cons rfl (.cons rfl (.cons rfl (.cons rfl (.cons rfl (.cons rfl (.cons rfl (.nil _)))))))) (sub (.cons (by repeat first | exact .head | apply Rem.tail) (.cons (by repeat first | exact .head | apply Rem.tail) (.cons (by repeat first | exact .head | apply Rem.tail) (.cons (by repeat first | exact .head | apply Rem.tail) .nil)))) (by repeat first | exact .refl | apply Drop.skip))
     exact ⟨⟨by omega, by omega⟩, by omega⟩
   ·
    refine w_exit ?_
    refine thn_e ?_
    refine thn_e ?_
    refine blk_x ?_
    refine thn_n ?_
    rcases (Classical.em (HuffP.newE (InfP.toldC B a) = 0)) with hy | hy
    ·
     refine w_seq ?_
     have hkC : k = InfP.hC B a := by omega
     rw [show InfP.frs B (a + 14) k = InfP.toldC B a from by rw [hkC]; exact (InfP.toldC_eq B a).symm, show ((a : Int) + 14 + 3 * (k : Int)) = ((InfP.toldA B a : Nat) : Int) from by omega]
     have hta : InfP.toldA B a ≤ 8 * B.length := by omega
     refine w_region ?_
     refine o_val (v_move rfl) rfl ?_
     refine o_call (d_newY (some ⟨b61, 0, none⟩) 19 19 (InfP.toldC B a) (Row I3 (some ⟨b61, 0, none⟩) 19 19 (InfP.toldC B a)) (InfP.toldC_len B a).symm (fun _ _ hh => row_rd (InfP.toldC_len B a).symm hh) hy) V.b36  rfl (.cons (by repeat first | exact .head | apply Rem.tail) .nil) rfl ?_
     rintro _ _ ⟨bc, rfl, rfl⟩
     refine o_val (v_move rfl) rfl ?_
     refine o_val (v_extract rfl rfl) rfl ?_
     refine o_val (v_extract rfl rfl) rfl ?_
     refine o_val (v_assign rfl) rfl ?_
     refine o_val (v_assign rfl) rfl ?_
     refine o_nil ?_
     refine thn_n ?_
     refine w_seq ?_
     refine w_seq ?_
     refine w_region ?_
     refine o_val (v_move rfl) rfl ?_
     refine o_val (v_F (v_neq rfl rfl) (by decide)) rfl ?_
     refine o_nil ?_
     refine thn_n ?_
     refine w_condF rfl ?_
     refine w_skip ?_
     refine thn_n ?_
     refine w_seq ?_
     refine w_region ?_
     refine o_val (v_assign rfl) rfl ?_
     refine o_nil ?_
     refine thn_n ?_
     refine w_seq ?_
     refine w_block ?_
     refine w_add0 (Row I3 none 0 0 []) (Row.nil _ _ _) ?_
     refine w_loop5 (fun (l : List Int) (f : Nat) (x : Nat) (q : Option Addr) (c : Nat) => [(0, .pointer (some ⟨b, 0, none⟩)), (5, .int .i64 (InfP.hL B a : Int)), (7, .int .i64 (InfP.hD B a : Int)), (16, .pointer (some ⟨bc, 0, none⟩)), (18, .slice q l.length c)]) (fun (l : List Int) (f : Nat) (x : Nat) (q : Option Addr) (c : Nat) => Row I3 q l.length c l :: RC bc (InfP.toldC B a) :: Cel b 52 [.slice p B.length cap, .int .i64 (x : Int), .bool false, .bool sh] :: R :: F) (fun (l : List Int) (f : Nat) (x : Nat) (q : Option Addr) (c : Nat) => InfP.lnGo B (InfP.toldC B a) (InfP.toldN B a) (InfP.toldN B a) [] (InfP.toldA B a) = InfP.lnGo B (InfP.toldC B a) (InfP.toldN B a) f l x ∧ (InfP.toldN B a) ≤ f + l.length ∧ l.length ≤ (InfP.toldN B a) ∧ x ≤ 8 * B.length) (fun (l : List Int) (f : Nat) (x : Nat) (q : Option Addr) (c : Nat) => (InfP.toldN B a) - l.length) (i5 ([]) ((InfP.toldN B a)) ((InfP.toldA B a)) (none) (0) ?_ (.cons rfl (.cons rfl (.cons rfl (.cons rfl (.cons rfl (.nil _)))))) (sub (.cons (by repeat first | exact .head | apply Rem.tail) (.cons (by repeat first | exact .head | apply Rem.tail) (.cons (by repeat first | exact .head | apply Rem.tail) (.cons (by repeat first | exact .head | apply Rem.tail) .nil)))) (by repeat first | exact .refl | apply Drop.skip))) ?_
     ·
      exact ⟨rfl, Nat.le_add_right _ _, Nat.zero_le _, hta⟩
     intro l f x q c
     rintro ⟨hg, hf, hlt, hx⟩
     refine w_seq ?_
     refine w_seq ?_
     refine w_region ?_
     refine o_val (v_move rfl) rfl ?_
     refine o_val (v_len (ty' := 0) Try.underlying30 rfl) rfl ?_
     refine o_val (v_move rfl) rfl ?_
     refine o_val (v_move rfl) rfl ?_
     refine o_val (v_add rfl rfl (wrapI (by omega) (by omega))) rfl ?_
     refine o_val (v_lss rfl rfl) rfl ?_
     refine o_nil ?_
     refine thn_n ?_
     first | refine w_condD rfl (fun h93 => ?_) (fun h93 => ?_) | refine w_cond rfl (fun h93 => ?_) (fun h93 => ?_)
     ·
      refine w_skip ?_
      refine thn_n ?_
      refine w_block ?_
      rcases (InfP.sym_or (B := B) (ls := (InfP.toldC B a)) (a := x) hy (by rw [InfP.toldC_len]; decide)) with ⟨e, hs⟩ | ⟨sy, x2, hs, hy0, hy1, hx1, hx2⟩
      ·
       refine w_seq ?_
       refine w_region ?_
       refine o_val (v_move rfl) rfl ?_
       refine o_val (v_move rfl) rfl ?_
       refine o_call (d_symE bc (InfP.toldC B a) b p cap B R hR sh x hy hl hB hx hs) V.b37  rfl (.cons (by repeat first | exact .head | apply Rem.tail) (.cons (by repeat first | exact .head | apply Rem.tail) (.cons (by repeat first | exact .head | apply Rem.tail) .nil))) rfl ?_
       rintro _ _ ⟨rfl, n9, sh9, rfl⟩
       refine o_val (v_move rfl) rfl ?_
       refine o_val (v_extract rfl rfl) rfl ?_
       refine o_val (v_extract rfl rfl) rfl ?_
       refine o_val (v_assign rfl) rfl ?_
       refine o_val (v_assign rfl) rfl ?_
       refine o_nil ?_
       refine thn_n ?_
       refine w_seq ?_
       refine w_seq ?_
       refine w_region ?_
       refine o_val (v_move rfl) rfl ?_
       refine o_val (v_T (v_neq rfl rfl) (InfP.sym_nz hs)) rfl ?_
       refine o_nil ?_
       refine thn_n ?_
       refine w_condT rfl ?_
       refine w_seq ?_
       refine w_region ?_
       refine o_val (v_move rfl) rfl ?_
       refine o_val (v_assign rfl) rfl ?_
       refine o_val (v_assign rfl) rfl ?_
       refine o_val (v_assign rfl) rfl ?_
       refine o_nil ?_
       refine thn_n ?_
       refine w_ret ?_
       refine (thn_r (blk_r (thn_r (blk_r (thn_r ?_)))))
       obtain rfl : o = .error e := ho.symm.trans (InfP.told_5 h14 ⟨hq1, hq2⟩ hta hy (hg.trans (InfP.lnGo_err (by omega) hf (InfP.lnStep_1 hs))))
       exact ret_ok (G := [R]) (res3 rfl rfl rfl) ⟨rfl, rfl⟩ (sub (.cons (by repeat first | exact .head | apply Rem.tail) .nil) (by repeat first | exact .refl | apply Drop.skip))
      ·
       refine w_seq ?_
       refine w_region ?_
       refine o_val (v_move rfl) rfl ?_
       refine o_val (v_move rfl) rfl ?_
       refine o_call (d_symY bc (InfP.toldC B a) b p cap B R hR sh x hy hl hB hx hs) V.b37  rfl (.cons (by repeat first | exact .head | apply Rem.tail) (.cons (by repeat first | exact .head | apply Rem.tail) (.cons (by repeat first | exact .head | apply Rem.tail) .nil))) rfl ?_
       rintro _ _ ⟨rfl, rfl⟩
       refine o_val (v_move rfl) rfl ?_
       refine o_val (v_extract rfl rfl) rfl ?_
       refine o_val (v_extract rfl rfl) rfl ?_
       refine o_val (v_assign rfl) rfl ?_
       refine o_val (v_assign rfl) rfl ?_
       refine o_nil ?_
       refine thn_n ?_
       refine w_seq ?_
       refine w_seq ?_
       refine w_region ?_
       refine o_val (v_move rfl) rfl ?_
       refine o_val (v_F (v_neq rfl rfl) (by decide)) rfl ?_
       refine o_nil ?_
       refine thn_n ?_
       refine w_condF rfl ?_
       refine w_skip ?_
       refine thn_n ?_
       refine w_seq ?_
       refine w_seq ?_
       rw [InfP.toldC_len] at hy1
       refine w_region ?_
       refine o_val (v_move rfl) rfl ?_
       refine o_val (v_lss rfl rfl) rfl ?_
       refine o_nil ?_
       refine thn_n ?_
       first | refine w_condD rfl (fun h104 => ?_) (fun h104 => ?_) | refine w_cond rfl (fun h104 => ?_) (fun h104 => ?_)
       ·
        refine w_seq ?_
        refine w_region ?_
        refine o_val (v_move rfl) rfl ?_
        refine o_val (v_move rfl) rfl ?_
        refine r_build (I3) [sy] V.sl30 V.z3 rfl rfl rfl rfl rfl rfl ?_
        intro b107
        refine r_append (c := (I3)) V.sl30 V.z3 rfl rfl rfl rfl (by repeat first | exact .head | apply Rem.tail) (by first | exact own mm0 | exact own mm1 | exact own mm2 | exact own mm3 | exact own mm4 | exact own mm5 | exact own mm6 | exact own mm7 | exact own mm8 | exact own mm9 | exact own mm10 | exact own mm11 | exact rdH hR mm0 | exact rdH hR mm1 | exact rdH hR mm2 | exact rdH hR mm3 | exact rdH hR mm4 | exact rdH hR mm5 | exact rdH hR mm6 | exact rdH hR mm7 | exact rdH hR mm8 | exact rdH hR mm9 | exact rdH hR mm10 | exact rdH hR mm11) (by omega) rfl ?_
        intro p108 c108
        refine o_val (v_assign rfl) rfl ?_
        refine o_nil ?_
        refine thn_n ?_
        refine w_exit ?_
        refine thn_e ?_
        refine blk_x ?_
        have hl6 : l.length < InfP.toldN B a := by omega
        first
        | (have hr := InfP.rep_lt (B := B) (l := l) (s := sy) (a := x2) (by omega); have hln : (l ++ [sy]).length = l.length + 1 := (by simp); have hst := InfP.lnStep_3 hs hr; rw [show List.replicate (1 : Int).toNat sy = [sy] from rfl] at hst; rw [show l.length + 1 = (l ++ [sy]).length from hln.symm]; refine j5 (l ++ [sy]) (f - 1) (x2) (_) (_) ?_ (.cons rfl (.cons rfl (.cons rfl (.cons rfl (.cons rfl (.nil _)))))) (sub (.cons (by repeat first | exact .head | apply Rem.tail) (.cons (by repeat first | exact .head | apply Rem.tail) (.cons (by repeat first | exact .head | apply Rem.tail) (.cons (by repeat first | exact .head | apply Rem.tail) .nil)))) (by repeat first | exact .refl | apply Drop.skip)); exact ⟨⟨hg.trans (InfP.lnGo_next hl6 hf hst (by omega)), by omega, by omega, hx2⟩, by omega⟩)
        | (obtain rfl : i = nn := (by omega); have hln : (l ++ List.replicate i (InfP.rpW sy l)).length = l.length + i := (by simp); have hst := InfP.lnStep_3 hs hr; rw [Int.toNat_natCast] at hst; rw [show l.length + i = (l ++ List.replicate i (InfP.rpW sy l)).length from hln.symm]; refine j5 (l ++ List.replicate i (InfP.rpW sy l)) (f - 1) ((x2 + InfP.rpB sy)) (_) (_) ?_ (.cons rfl (.cons rfl (.cons rfl (.cons rfl (.cons rfl (.nil _)))))) (sub (.cons (by repeat first | exact .head | apply Rem.tail) (.cons (by repeat first | exact .head | apply Rem.tail) (.cons (by repeat first | exact .head | apply Rem.tail) (.cons (by repeat first | exact .head | apply Rem.tail) .nil)))) (by repeat first | exact .refl | apply Drop.skip)); exact ⟨⟨hg.trans (InfP.lnGo_next hl6 hf hst (by omega)), by omega, by omega, hxr⟩, by omega⟩)
       ·
        refine w_skip ?_
        refine thn_n ?_
        rcases (InfP.sy4 (s := sy) l (by omega)) with ⟨hs16, hl0⟩ | ⟨hs16, hl0⟩ | hs16 | hs16
        ·
         refine w_seq ?_
         refine w_region ?_
         refine o_val (v_assign rfl) rfl ?_
         refine o_val (v_assign rfl) rfl ?_
         refine o_val (v_assign rfl) rfl ?_
         refine o_nil ?_
         refine thn_n ?_
         refine w_seq ?_
         refine w_seq ?_
         refine w_region ?_
         refine o_val (v_move rfl) rfl ?_
         refine o_val (v_T (v_eql rfl rfl) (by omega)) rfl ?_
         refine o_val (v_move rfl) rfl ?_
         refine o_want rfl ?_
         refine o_val (v_move rfl) rfl ?_
         refine o_want rfl ?_
         refine o_val (v_len (ty' := 0) Try.underlying30 rfl) rfl ?_
         refine o_want rfl ?_
         refine o_val (v_F (v_gtr rfl rfl) (by omega)) rfl ?_
         refine o_val (v_pickT rfl rfl) rfl ?_
         refine o_nil ?_
         refine thn_n ?_
         refine w_condF rfl ?_
         refine w_skip ?_
         refine thn_n ?_
         refine w_seq ?_
         refine w_seq ?_
         refine w_region ?_
         refine o_val (v_move rfl) rfl ?_
         refine o_val (v_F (v_eql rfl rfl) (by omega)) rfl ?_
         refine o_nil ?_
         refine thn_n ?_
         refine w_condF rfl ?_
         refine w_skip ?_
         refine thn_n ?_
         refine w_seq ?_
         refine w_seq ?_
         refine w_region ?_
         refine o_val (v_move rfl) rfl ?_
         refine o_val (v_F (v_eql rfl rfl) (by omega)) rfl ?_
         refine o_nil ?_
         refine thn_n ?_
         refine w_condF rfl ?_
         refine w_skip ?_
         refine thn_n ?_
         rcases (Nat.lt_or_ge (8 * B.length) (x2 + InfP.rpB sy)) with hxr | hxr
         ·
          refine w_seq ?_
          have hrp := InfP.rp_le (s := sy)
          have hnx := BitP.numL_bound B x2 (InfP.rpB sy)
          have hpx := BitP.pow24 (show InfP.rpB sy ≤ 24 by omega)
          have hw : I3.g l 0 = 0 ∨ True := .inr trivial
          rw [show ((21 : Nat), Value.int .i64 0) = (21, .int .i64 (InfP.rpW sy l)) from by rw [InfP.rpW_16 hs16, List.eq_nil_of_length_eq_zero hl0]; rfl]
          rw [show ((22 : Nat), Value.int .i64 2) = (22, .int .i64 (InfP.rpB sy : Int)) from by rw [InfP.rpB_16 hs16]; rfl]
          rw [show ((23 : Nat), Value.int .i64 3) = (23, .int .i64 (InfP.rpL sy)) from by rw [InfP.rpL_16 (by omega)]]
          refine w_region ?_
          refine o_val (v_move rfl) rfl ?_
          refine o_val (v_move rfl) rfl ?_
          refine o_call (d_takeE b p cap B R hR x2 sh (InfP.rpB sy) hl hB (by omega) (by omega) (by omega)) V.b23  rfl (.cons (by repeat first | exact .head | apply Rem.tail) (.cons (by repeat first | exact .head | apply Rem.tail) .nil)) rfl ?_
          rintro _ _ ⟨rfl, rfl⟩
          refine o_val (v_move rfl) rfl ?_
          refine o_val (v_extract rfl rfl) rfl ?_
          refine o_val (v_extract rfl rfl) rfl ?_
          refine o_val (v_assign rfl) rfl ?_
          refine o_val (v_assign rfl) rfl ?_
          refine o_nil ?_
          refine thn_n ?_
          refine w_seq ?_
          refine w_seq ?_
          refine w_region ?_
          refine o_val (v_move rfl) rfl ?_
          refine o_val (v_to (v := .bool true) (v_not rfl) rfl) rfl ?_
          refine o_nil ?_
          refine thn_n ?_
          refine w_condT rfl ?_
          refine w_seq ?_
          refine w_region ?_
          refine o_val (v_assign rfl) rfl ?_
          refine o_val (v_assign rfl) rfl ?_
          refine o_val (v_assign rfl) rfl ?_
          refine o_nil ?_
          refine thn_n ?_
          refine w_ret ?_
          refine (thn_r (blk_r (thn_r (blk_r (thn_r ?_)))))
          obtain rfl : o = .error 2 := ho.symm.trans (InfP.told_5 h14 ⟨hq1, hq2⟩ hta hy (hg.trans (InfP.lnGo_err (by omega) hf (InfP.lnStep_2 hs (InfP.rep_short (by omega) hxr)))))
          exact ret_ok (G := [R]) (res3 rfl rfl rfl) ⟨rfl, rfl⟩ (sub (.cons (by repeat first | exact .head | apply Rem.tail) .nil) (by repeat first | exact .refl | apply Drop.skip))
         ·
          refine w_seq ?_
          have hrp := InfP.rp_le (s := sy)
          have hnx := BitP.numL_bound B x2 (InfP.rpB sy)
          have hpx := BitP.pow24 (show InfP.rpB sy ≤ 24 by omega)
          have hw : I3.g l 0 = 0 ∨ True := .inr trivial
          rw [show ((21 : Nat), Value.int .i64 0) = (21, .int .i64 (InfP.rpW sy l)) from by rw [InfP.rpW_16 hs16, List.eq_nil_of_length_eq_zero hl0]; rfl]
          rw [show ((22 : Nat), Value.int .i64 2) = (22, .int .i64 (InfP.rpB sy : Int)) from by rw [InfP.rpB_16 hs16]; rfl]
          rw [show ((23 : Nat), Value.int .i64 3) = (23, .int .i64 (InfP.rpL sy)) from by rw [InfP.rpL_16 (by omega)]]
          refine w_region ?_
          refine o_val (v_move rfl) rfl ?_
          refine o_val (v_move rfl) rfl ?_
          refine o_call (d_take b p cap B R hR x2 sh (InfP.rpB sy) hl hB (by omega) (by omega)) V.b23  rfl (.cons (by repeat first | exact .head | apply Rem.tail) (.cons (by repeat first | exact .head | apply Rem.tail) .nil)) rfl ?_
          rintro _ _ ⟨rfl, rfl⟩
          refine o_val (v_move rfl) rfl ?_
          refine o_val (v_extract rfl rfl) rfl ?_
          refine o_val (v_extract rfl rfl) rfl ?_
          refine o_val (v_assign rfl) rfl ?_
          refine o_val (v_assign rfl) rfl ?_
          refine o_nil ?_
          refine thn_n ?_
          refine w_seq ?_
          refine w_seq ?_
          refine w_region ?_
          refine o_val (v_move rfl) rfl ?_
          refine o_val (v_to (v := .bool false) (v_not rfl) rfl) rfl ?_
          refine o_nil ?_
          refine thn_n ?_
          refine w_condF rfl ?_
          refine w_skip ?_
          refine thn_n ?_
          refine w_seq ?_
          refine w_seq ?_
          refine w_region ?_
          refine o_val (v_move rfl) rfl ?_
          refine o_val (v_T (v_eql rfl rfl) (by omega)) rfl ?_
          refine o_val (v_move rfl) rfl ?_
          refine o_want rfl ?_
          refine o_val (v_move rfl) rfl ?_
          refine o_want rfl ?_
          refine o_val (v_len (ty' := 0) Try.underlying30 rfl) rfl ?_
          refine o_want rfl ?_
          refine o_val (v_T (v_eql rfl rfl) (by omega)) rfl ?_
          refine o_val (v_pickT rfl rfl) rfl ?_
          refine o_val (v_move rfl) rfl ?_
          refine o_pass rfl rfl rfl ?_
          refine o_pass rfl rfl rfl ?_
          refine o_pass rfl rfl rfl ?_
          refine o_pass rfl rfl rfl ?_
          refine o_pass rfl rfl rfl ?_
          refine o_pass rfl rfl rfl ?_
          refine o_pass rfl rfl rfl ?_
          refine o_pass rfl rfl rfl ?_
          refine o_pass rfl rfl rfl ?_
          refine o_pass rfl rfl rfl ?_
          refine o_val (v_pickT rfl rfl) rfl ?_
          refine o_nil ?_
          refine thn_n ?_
          refine w_condT rfl ?_
          refine w_seq ?_
          refine w_region ?_
          refine o_val (v_assign rfl) rfl ?_
          refine o_val (v_assign rfl) rfl ?_
          refine o_val (v_assign rfl) rfl ?_
          refine o_nil ?_
          refine thn_n ?_
          refine w_ret ?_
          refine (thn_r (blk_r (thn_r (blk_r (thn_r ?_)))))
          obtain rfl : o = .error 4 := ho.symm.trans (by first | exact (InfP.told_5 h14 ⟨hq1, hq2⟩ hta hy (hg.trans (InfP.lnGo_err (by omega) hf (InfP.lnStep_2 hs (InfP.rep_form hs16 (List.eq_nil_of_length_eq_zero hl0) (by omega)))))) | (obtain ⟨nn, hnn⟩ : ∃ nn : Nat, InfP.rpL sy + (BitP.numL B x2 (InfP.rpB sy)) = (nn : Int) := ⟨_, (Int.toNat_of_nonneg (by omega)).symm⟩; exact (InfP.told_5 h14 ⟨hq1, hq2⟩ hta hy (hg.trans (InfP.lnGo_big (by omega) hf (InfP.lnStep_3 hs (InfP.rep_big (B := B) (l := l) (s := sy) (a := x2) (by omega) hxr (by omega) hnn)) (by rw [List.length_append, List.length_replicate, Int.toNat_natCast]; omega))))))
          exact ret_ok (G := [R]) (res3 rfl rfl rfl) ⟨rfl, rfl⟩ (sub (.cons (by repeat first | exact .head | apply Rem.tail) .nil) (by repeat first | exact .refl | apply Drop.skip))
        ·
         refine w_seq ?_
         refine w_region ?_
         refine o_val (v_assign rfl) rfl ?_
         refine o_val (v_assign rfl) rfl ?_
         refine o_val (v_assign rfl) rfl ?_
         refine o_nil ?_
         refine thn_n ?_
         refine w_seq ?_
         refine w_seq ?_
         refine w_region ?_
         refine o_val (v_move rfl) rfl ?_
         refine o_val (v_T (v_eql rfl rfl) (by omega)) rfl ?_
         refine o_val (v_move rfl) rfl ?_
         refine o_want rfl ?_
         refine o_val (v_move rfl) rfl ?_
         refine o_want rfl ?_
         refine o_val (v_len (ty' := 0) Try.underlying30 rfl) rfl ?_
         refine o_want rfl ?_
         refine o_val (v_T (v_gtr rfl rfl) (by omega)) rfl ?_
         refine o_val (v_pickT rfl rfl) rfl ?_
         refine o_nil ?_
         refine thn_n ?_
         refine w_condT rfl ?_
         refine w_region ?_
         refine o_val (v_move rfl) rfl ?_
         refine o_val (v_move rfl) rfl ?_
         refine o_val (v_len (ty' := 0) Try.underlying30 rfl) rfl ?_
         refine o_val (v_sub rfl rfl (wrapI (by omega) (by omega))) rfl ?_
         refine o_val (r_index (c := (I3)) V.sl30 rfl rfl (by first | exact own mm0 | exact own mm1 | exact own mm2 | exact own mm3 | exact own mm4 | exact own mm5 | exact own mm6 | exact own mm7 | exact own mm8 | exact own mm9 | exact own mm10 | exact own mm11 | exact rdH hR mm0 | exact rdH hR mm1 | exact rdH hR mm2 | exact rdH hR mm3 | exact rdH hR mm4 | exact rdH hR mm5 | exact rdH hR mm6 | exact rdH hR mm7 | exact rdH hR mm8 | exact rdH hR mm9 | exact rdH hR mm10 | exact rdH hR mm11) (by omega) (by omega)) rfl ?_
         refine o_val (r_load (c := (I3)) V.s3 rfl (by first | exact own mm0 | exact own mm1 | exact own mm2 | exact own mm3 | exact own mm4 | exact own mm5 | exact own mm6 | exact own mm7 | exact own mm8 | exact own mm9 | exact own mm10 | exact own mm11 | exact rdH hR mm0 | exact rdH hR mm1 | exact rdH hR mm2 | exact rdH hR mm3 | exact rdH hR mm4 | exact rdH hR mm5 | exact rdH hR mm6 | exact rdH hR mm7 | exact rdH hR mm8 | exact rdH hR mm9 | exact rdH hR mm10 | exact rdH hR mm11) (by omega) (by omega) rfl rfl) rfl ?_
         refine o_val (v_assign rfl) rfl ?_
         refine o_nil ?_
         refine thn_n ?_
         refine w_seq ?_
         refine w_seq ?_
         refine w_region ?_
         refine o_val (v_move rfl) rfl ?_
         refine o_val (v_F (v_eql rfl rfl) (by omega)) rfl ?_
         refine o_nil ?_
         refine thn_n ?_
         refine w_condF rfl ?_
         refine w_skip ?_
         refine thn_n ?_
         refine w_seq ?_
         refine w_seq ?_
         refine w_region ?_
         refine o_val (v_move rfl) rfl ?_
         refine o_val (v_F (v_eql rfl rfl) (by omega)) rfl ?_
         refine o_nil ?_
         refine thn_n ?_
         refine w_condF rfl ?_
         refine w_skip ?_
         refine thn_n ?_
         rcases (Nat.lt_or_ge (8 * B.length) (x2 + InfP.rpB sy)) with hxr | hxr
         ·
          refine w_seq ?_
          have hrp := InfP.rp_le (s := sy)
          have hnx := BitP.numL_bound B x2 (InfP.rpB sy)
          have hpx := BitP.pow24 (show InfP.rpB sy ≤ 24 by omega)
          have hw : I3.g l ((l.length : Int) - 1) = l.getD (l.length - 1) 0 := gE _ (by omega)
          rw [show ((21 : Nat), Value.int .i64 (I3.g l ((l.length : Int) - 1))) = (21, .int .i64 (InfP.rpW sy l)) from by rw [InfP.rpW_16 hs16, hw]]
          rw [show ((22 : Nat), Value.int .i64 2) = (22, .int .i64 (InfP.rpB sy : Int)) from by rw [InfP.rpB_16 hs16]; rfl]
          rw [show ((23 : Nat), Value.int .i64 3) = (23, .int .i64 (InfP.rpL sy)) from by rw [InfP.rpL_16 (by omega)]]
          refine w_region ?_
          refine o_val (v_move rfl) rfl ?_
          refine o_val (v_move rfl) rfl ?_
          refine o_call (d_takeE b p cap B R hR x2 sh (InfP.rpB sy) hl hB (by omega) (by omega) (by omega)) V.b23  rfl (.cons (by repeat first | exact .head | apply Rem.tail) (.cons (by repeat first | exact .head | apply Rem.tail) .nil)) rfl ?_
          rintro _ _ ⟨rfl, rfl⟩
          refine o_val (v_move rfl) rfl ?_
          refine o_val (v_extract rfl rfl) rfl ?_
          refine o_val (v_extract rfl rfl) rfl ?_
          refine o_val (v_assign rfl) rfl ?_
          refine o_val (v_assign rfl) rfl ?_
          refine o_nil ?_
          refine thn_n ?_
          refine w_seq ?_
          refine w_seq ?_
          refine w_region ?_
          refine o_val (v_move rfl) rfl ?_
          refine o_val (v_to (v := .bool true) (v_not rfl) rfl) rfl ?_
          refine o_nil ?_
          refine thn_n ?_
          refine w_condT rfl ?_
          refine w_seq ?_
          refine w_region ?_
          refine o_val (v_assign rfl) rfl ?_
          refine o_val (v_assign rfl) rfl ?_
          refine o_val (v_assign rfl) rfl ?_
          refine o_nil ?_
          refine thn_n ?_
          refine w_ret ?_
          refine (thn_r (blk_r (thn_r (blk_r (thn_r ?_)))))
          obtain rfl : o = .error 2 := ho.symm.trans (InfP.told_5 h14 ⟨hq1, hq2⟩ hta hy (hg.trans (InfP.lnGo_err (by omega) hf (InfP.lnStep_2 hs (InfP.rep_short (by omega) hxr)))))
          exact ret_ok (G := [R]) (res3 rfl rfl rfl) ⟨rfl, rfl⟩ (sub (.cons (by repeat first | exact .head | apply Rem.tail) .nil) (by repeat first | exact .refl | apply Drop.skip))
         ·
          refine w_seq ?_
          have hrp := InfP.rp_le (s := sy)
          have hnx := BitP.numL_bound B x2 (InfP.rpB sy)
          have hpx := BitP.pow24 (show InfP.rpB sy ≤ 24 by omega)
          have hw : I3.g l ((l.length : Int) - 1) = l.getD (l.length - 1) 0 := gE _ (by omega)
          rw [show ((21 : Nat), Value.int .i64 (I3.g l ((l.length : Int) - 1))) = (21, .int .i64 (InfP.rpW sy l)) from by rw [InfP.rpW_16 hs16, hw]]
          rw [show ((22 : Nat), Value.int .i64 2) = (22, .int .i64 (InfP.rpB sy : Int)) from by rw [InfP.rpB_16 hs16]; rfl]
          rw [show ((23 : Nat), Value.int .i64 3) = (23, .int .i64 (InfP.rpL sy)) from by rw [InfP.rpL_16 (by omega)]]
          refine w_region ?_
          refine o_val (v_move rfl) rfl ?_
          refine o_val (v_move rfl) rfl ?_
          refine o_call (d_take b p cap B R hR x2 sh (InfP.rpB sy) hl hB (by omega) (by omega)) V.b23  rfl (.cons (by repeat first | exact .head | apply Rem.tail) (.cons (by repeat first | exact .head | apply Rem.tail) .nil)) rfl ?_
          rintro _ _ ⟨rfl, rfl⟩
          refine o_val (v_move rfl) rfl ?_
          refine o_val (v_extract rfl rfl) rfl ?_
          refine o_val (v_extract rfl rfl) rfl ?_
          refine o_val (v_assign rfl) rfl ?_
          refine o_val (v_assign rfl) rfl ?_
          refine o_nil ?_
          refine thn_n ?_
          refine w_seq ?_
          refine w_seq ?_
          refine w_region ?_
          refine o_val (v_move rfl) rfl ?_
          refine o_val (v_to (v := .bool false) (v_not rfl) rfl) rfl ?_
          refine o_nil ?_
          refine thn_n ?_
          refine w_condF rfl ?_
          refine w_skip ?_
          refine thn_n ?_
          rcases (Int.lt_or_le ((InfP.toldN B a) : Int) ((l.length : Int) + InfP.rpL sy + (BitP.numL B x2 (InfP.rpB sy)))) with hbg | hbg
          ·
           refine w_seq ?_
           refine w_seq ?_
           refine w_region ?_
           refine o_val (v_move rfl) rfl ?_
           refine o_val (v_T (v_eql rfl rfl) (by omega)) rfl ?_
           refine o_val (v_move rfl) rfl ?_
           refine o_want rfl ?_
           refine o_val (v_move rfl) rfl ?_
           refine o_want rfl ?_
           refine o_val (v_len (ty' := 0) Try.underlying30 rfl) rfl ?_
           refine o_want rfl ?_
           refine o_val (v_F (v_eql rfl rfl) (by omega)) rfl ?_
           refine o_val (v_pickT rfl rfl) rfl ?_
           refine o_val (v_move rfl) rfl ?_
           refine o_want rfl ?_
           refine o_val (v_move rfl) rfl ?_
           refine o_want rfl ?_
           refine o_val (v_len (ty' := 0) Try.underlying30 rfl) rfl ?_
           refine o_want rfl ?_
           refine o_val (v_move rfl) rfl ?_
           refine o_want rfl ?_
           refine o_val (v_add rfl rfl (wrapI (by omega) (by omega))) rfl ?_
           refine o_want rfl ?_
           refine o_val (v_move rfl) rfl ?_
           refine o_want rfl ?_
           refine o_val (v_add rfl rfl (wrapI (by omega) (by omega))) rfl ?_
           refine o_want rfl ?_
           refine o_val (v_move rfl) rfl ?_
           refine o_want rfl ?_
           refine o_val (v_move rfl) rfl ?_
           refine o_want rfl ?_
           refine o_val (v_add rfl rfl (wrapI (by omega) (by omega))) rfl ?_
           refine o_want rfl ?_
           refine o_val (v_T (v_gtr rfl rfl) (by omega)) rfl ?_
           refine o_val (v_pickF rfl rfl) rfl ?_
           refine o_nil ?_
           refine thn_n ?_
           refine w_condT rfl ?_
           refine w_seq ?_
           refine w_region ?_
           refine o_val (v_assign rfl) rfl ?_
           refine o_val (v_assign rfl) rfl ?_
           refine o_val (v_assign rfl) rfl ?_
           refine o_nil ?_
           refine thn_n ?_
           refine w_ret ?_
           refine (thn_r (blk_r (thn_r (blk_r (thn_r ?_)))))
           obtain rfl : o = .error 4 := ho.symm.trans (by first | exact (InfP.told_5 h14 ⟨hq1, hq2⟩ hta hy (hg.trans (InfP.lnGo_err (by omega) hf (InfP.lnStep_2 hs (InfP.rep_form hs16 (List.eq_nil_of_length_eq_zero hl0) (by omega)))))) | (obtain ⟨nn, hnn⟩ : ∃ nn : Nat, InfP.rpL sy + (BitP.numL B x2 (InfP.rpB sy)) = (nn : Int) := ⟨_, (Int.toNat_of_nonneg (by omega)).symm⟩; exact (InfP.told_5 h14 ⟨hq1, hq2⟩ hta hy (hg.trans (InfP.lnGo_big (by omega) hf (InfP.lnStep_3 hs (InfP.rep_big (B := B) (l := l) (s := sy) (a := x2) (by omega) hxr (by omega) hnn)) (by rw [List.length_append, List.length_replicate, Int.toNat_natCast]; omega))))))
           exact ret_ok (G := [R]) (res3 rfl rfl rfl) ⟨rfl, rfl⟩ (sub (.cons (by repeat first | exact .head | apply Rem.tail) .nil) (by repeat first | exact .refl | apply Drop.skip))
          ·
           refine w_seq ?_
           refine w_seq ?_
           refine w_region ?_
           refine o_val (v_move rfl) rfl ?_
           refine o_val (v_T (v_eql rfl rfl) (by omega)) rfl ?_
           refine o_val (v_move rfl) rfl ?_
           refine o_want rfl ?_
           refine o_val (v_move rfl) rfl ?_
           refine o_want rfl ?_
           refine o_val (v_len (ty' := 0) Try.underlying30 rfl) rfl ?_
           refine o_want rfl ?_
           refine o_val (v_F (v_eql rfl rfl) (by omega)) rfl ?_
           refine o_val (v_pickT rfl rfl) rfl ?_
           refine o_val (v_move rfl) rfl ?_
           refine o_want rfl ?_
           refine o_val (v_move rfl) rfl ?_
           refine o_want rfl ?_
           refine o_val (v_len (ty' := 0) Try.underlying30 rfl) rfl ?_
           refine o_want rfl ?_
           refine o_val (v_move rfl) rfl ?_
           refine o_want rfl ?_
           refine o_val (v_add rfl rfl (wrapI (by omega) (by omega))) rfl ?_
           refine o_want rfl ?_
           refine o_val (v_move rfl) rfl ?_
           refine o_want rfl ?_
           refine o_val (v_add rfl rfl (wrapI (by omega) (by omega))) rfl ?_
           refine o_want rfl ?_
           refine o_val (v_move rfl) rfl ?_
           refine o_want rfl ?_
           refine o_val (v_move rfl) rfl ?_
           refine o_want rfl ?_
           refine o_val (v_add rfl rfl (wrapI (by omega) (by omega))) rfl ?_
           refine o_want rfl ?_
           refine o_val (v_F (v_gtr rfl rfl) (by omega)) rfl ?_
           refine o_val (v_pickF rfl rfl) rfl ?_
           refine o_nil ?_
           refine thn_n ?_
           refine w_condF rfl ?_
           refine w_skip ?_
           refine thn_n ?_
           refine w_seq ?_
           obtain ⟨nn, hnn⟩ : ∃ nn : Nat, InfP.rpL sy + (BitP.numL B x2 (InfP.rpB sy)) = (nn : Int) := ⟨_, (Int.toNat_of_nonneg (by omega)).symm⟩
           have hr := InfP.rep_big (B := B) (l := l) (s := sy) (a := x2) (by omega) hxr (by omega) hnn
           refine w_region ?_
           refine o_val (v_assign rfl) rfl ?_
           refine o_nil ?_
           refine thn_n ?_
           refine w_block ?_
           rw [show Row I3 q l.length c l = Row I3 q (l.length + 0) c (l ++ List.replicate 0 (InfP.rpW sy l)) from by rw [List.replicate_zero, List.append_nil, Nat.add_zero]]
           rw [show ((18 : Nat), Value.slice q l.length c) = (18, .slice q (l.length + 0) c) from rfl]
           refine w_loop3 (fun (i : Nat) (q5 : Option Addr) (c5 : Nat) => [(0, .pointer (some ⟨b, 0, none⟩)), (5, .int .i64 (InfP.hL B a : Int)), (7, .int .i64 (InfP.hD B a : Int)), (16, .pointer (some ⟨bc, 0, none⟩)), (18, .slice q5 (l.length + i) c5), (21, .int .i64 (InfP.rpW sy l)), (23, .int .i64 (InfP.rpL sy)), (24, .int .i64 (BitP.numL B x2 (InfP.rpB sy))), (26, .int .i64 (i : Int))]) (fun (i : Nat) (q5 : Option Addr) (c5 : Nat) => Row I3 q5 (l.length + i) c5 (l ++ List.replicate i (InfP.rpW sy l)) :: RC bc (InfP.toldC B a) :: Cel b 52 [.slice p B.length cap, .int .i64 ((x2 + InfP.rpB sy) : Int), .bool false, .bool sh] :: R :: F) (fun (i : Nat) (q5 : Option Addr) (c5 : Nat) => i ≤ nn) (fun (i : Nat) (q5 : Option Addr) (c5 : Nat) => nn - i) (i3 (0) (q) (c) ?_ (.cons rfl (.cons rfl (.cons rfl (.cons rfl (.cons rfl (.cons rfl (.cons rfl (.cons rfl (.cons rfl (.nil _)))))))))) (sub (.cons (by repeat first | exact .head | apply Rem.tail) (.cons (by repeat first | exact .head | apply Rem.tail) (.cons (by repeat first | exact .head | apply Rem.tail) (.cons (by repeat first | exact .head | apply Rem.tail) .nil)))) (by repeat first | exact .refl | apply Drop.skip))) ?_
           ·
            exact Nat.zero_le _
           intro i q5 c5
           rintro hi
           refine w_seq ?_
           refine w_seq ?_
           refine w_region ?_
           refine o_val (v_move rfl) rfl ?_
           refine o_val (v_move rfl) rfl ?_
           refine o_val (v_move rfl) rfl ?_
           refine o_val (v_add rfl rfl (wrapI (by omega) (by omega))) rfl ?_
           refine o_val (v_lss rfl rfl) rfl ?_
           refine o_nil ?_
           refine thn_n ?_
           first | refine w_condD rfl (fun h157 => ?_) (fun h157 => ?_) | refine w_cond rfl (fun h157 => ?_) (fun h157 => ?_)
           ·
            refine w_skip ?_
            refine thn_n ?_
            refine w_seq ?_
            refine w_block ?_
            refine w_region ?_
            refine o_val (v_move rfl) rfl ?_
            refine o_val (v_move rfl) rfl ?_
            refine r_build (I3) [InfP.rpW sy l] V.sl30 V.z3 rfl rfl rfl rfl rfl rfl ?_
            intro b162
            refine r_append (c := (I3)) V.sl30 V.z3 rfl rfl rfl rfl (by repeat first | exact .head | apply Rem.tail) (by first | exact own mm0 | exact own mm1 | exact own mm2 | exact own mm3 | exact own mm4 | exact own mm5 | exact own mm6 | exact own mm7 | exact own mm8 | exact own mm9 | exact own mm10 | exact own mm11 | exact rdH hR mm0 | exact rdH hR mm1 | exact rdH hR mm2 | exact rdH hR mm3 | exact rdH hR mm4 | exact rdH hR mm5 | exact rdH hR mm6 | exact rdH hR mm7 | exact rdH hR mm8 | exact rdH hR mm9 | exact rdH hR mm10 | exact rdH hR mm11) (by omega) rfl ?_
            intro p163 c163
            refine o_val (v_assign rfl) rfl ?_
            refine o_nil ?_
            refine blk_n ?_
            refine thn_n ?_
            refine w_region ?_
            refine o_val (v_move rfl) rfl ?_
            refine o_val (v_add rfl rfl (wrapI (by omega) (by omega))) rfl ?_
            refine o_val (v_assign rfl) rfl ?_
            refine o_nil ?_
            rw [List.append_assoc, ← List.replicate_succ', show l.length + i + 1 = l.length + (i + 1) from rfl]
            refine j3 (i + 1) (_) (_) ?_ (.cons rfl (.cons rfl (.cons rfl (.cons rfl (.cons rfl (.cons rfl (.cons rfl (.cons rfl (.cons rfl (.nil _)))))))))) (sub (.cons (by repeat first | exact .head | apply Rem.tail) (.cons (by repeat first | exact .head | apply Rem.tail) (.cons (by repeat first | exact .head | apply Rem.tail) (.cons (by repeat first | exact .head | apply Rem.tail) .nil)))) (by repeat first | exact .refl | apply Drop.skip))
            exact ⟨by omega, by omega⟩
           ·
            refine w_exit ?_
            refine thn_e ?_
            refine thn_e ?_
            refine blk_x ?_
            refine blk_n ?_
            have hl6 : l.length < InfP.toldN B a := by omega
            first
            | (have hr := InfP.rep_lt (B := B) (l := l) (s := sy) (a := x2) (by omega); have hln : (l ++ [sy]).length = l.length + 1 := (by simp); have hst := InfP.lnStep_3 hs hr; rw [show List.replicate (1 : Int).toNat sy = [sy] from rfl] at hst; rw [show l.length + 1 = (l ++ [sy]).length from hln.symm]; refine j5 (l ++ [sy]) (f - 1) (x2) (_) (_) ?_ (.cons rfl (.cons rfl (.cons rfl (.cons rfl (.cons rfl (.nil _)))))) (sub (.cons (by repeat first | exact .head | apply Rem.tail) (.cons (by repeat first | exact .head | apply Rem.tail) (.cons (by repeat first | exact .head | apply Rem.tail) (.cons (by repeat first | exact .head | apply Rem.tail) .nil)))) (by repeat first | exact .refl | apply Drop.skip)); exact ⟨⟨hg.trans (InfP.lnGo_next hl6 hf hst (by omega)), by omega, by omega, hx2⟩, by omega⟩)
            | (obtain rfl : i = nn := (by omega); have hln : (l ++ List.replicate i (InfP.rpW sy l)).length = l.length + i := (by simp); have hst := InfP.lnStep_3 hs hr; rw [Int.toNat_natCast] at hst; rw [show l.length + i = (l ++ List.replicate i (InfP.rpW sy l)).length from hln.symm]; refine j5 (l ++ List.replicate i (InfP.rpW sy l)) (f - 1) ((x2 + InfP.rpB sy)) (_) (_) ?_ (.cons rfl (.cons rfl (.cons rfl (.cons rfl (.cons rfl (.nil _)))))) (sub (.cons (by repeat first | exact .head | apply Rem.tail) (.cons (by repeat first | exact .head | apply Rem.tail) (.cons (by repeat first | exact .head | apply Rem.tail) (.cons (by repeat first | exact .head | apply Rem.tail) .nil)))) (by repeat first | exact .refl | apply Drop.skip)); exact ⟨⟨hg.trans (InfP.lnGo_next hl6 hf hst (by omega)), by omega, by omega, hxr⟩, by omega⟩)
        ·
         refine w_seq ?_
         refine w_region ?_
         refine o_val (v_assign rfl) rfl ?_
         refine o_val (v_assign rfl) rfl ?_
         refine o_val (v_assign rfl) rfl ?_
         refine o_nil ?_
         refine thn_n ?_
         refine w_seq ?_
         refine w_seq ?_
         refine w_region ?_
         refine o_val (v_move rfl) rfl ?_
         refine o_val (v_F (v_eql rfl rfl) (by omega)) rfl ?_
         refine o_val (v_move rfl) rfl ?_
         refine o_pass rfl rfl rfl ?_
         refine o_pass rfl rfl rfl ?_
         refine o_pass rfl rfl rfl ?_
         refine o_val (v_pickF rfl rfl) rfl ?_
         refine o_nil ?_
         refine thn_n ?_
         refine w_condF rfl ?_
         refine w_skip ?_
         refine thn_n ?_
         refine w_seq ?_
         refine w_seq ?_
         refine w_region ?_
         refine o_val (v_move rfl) rfl ?_
         refine o_val (v_T (v_eql rfl rfl) (by omega)) rfl ?_
         refine o_nil ?_
         refine thn_n ?_
         refine w_condT rfl ?_
         refine w_region ?_
         refine o_val (v_assign rfl) rfl ?_
         refine o_nil ?_
         refine thn_n ?_
         refine w_seq ?_
         refine w_seq ?_
         refine w_region ?_
         refine o_val (v_move rfl) rfl ?_
         refine o_val (v_F (v_eql rfl rfl) (by omega)) rfl ?_
         refine o_nil ?_
         refine thn_n ?_
         refine w_condF rfl ?_
         refine w_skip ?_
         refine thn_n ?_
         rcases (Nat.lt_or_ge (8 * B.length) (x2 + InfP.rpB sy)) with hxr | hxr
         ·
          refine w_seq ?_
          have hrp := InfP.rp_le (s := sy)
          have hnx := BitP.numL_bound B x2 (InfP.rpB sy)
          have hpx := BitP.pow24 (show InfP.rpB sy ≤ 24 by omega)
          rw [show ((21 : Nat), Value.int .i64 0) = (21, .int .i64 (InfP.rpW sy l)) from by rw [InfP.rpW_0 (by omega)]]
          rw [show ((22 : Nat), Value.int .i64 3) = (22, .int .i64 (InfP.rpB sy : Int)) from by rw [InfP.rpB_17 hs16]; rfl]
          rw [show ((23 : Nat), Value.int .i64 3) = (23, .int .i64 (InfP.rpL sy)) from by rw [InfP.rpL_16 (by omega)]]
          refine w_region ?_
          refine o_val (v_move rfl) rfl ?_
          refine o_val (v_move rfl) rfl ?_
          refine o_call (d_takeE b p cap B R hR x2 sh (InfP.rpB sy) hl hB (by omega) (by omega) (by omega)) V.b23  rfl (.cons (by repeat first | exact .head | apply Rem.tail) (.cons (by repeat first | exact .head | apply Rem.tail) .nil)) rfl ?_
          rintro _ _ ⟨rfl, rfl⟩
          refine o_val (v_move rfl) rfl ?_
          refine o_val (v_extract rfl rfl) rfl ?_
          refine o_val (v_extract rfl rfl) rfl ?_
          refine o_val (v_assign rfl) rfl ?_
          refine o_val (v_assign rfl) rfl ?_
          refine o_nil ?_
          refine thn_n ?_
          refine w_seq ?_
          refine w_seq ?_
          refine w_region ?_
          refine o_val (v_move rfl) rfl ?_
          refine o_val (v_to (v := .bool true) (v_not rfl) rfl) rfl ?_
          refine o_nil ?_
          refine thn_n ?_
          refine w_condT rfl ?_
          refine w_seq ?_
          refine w_region ?_
          refine o_val (v_assign rfl) rfl ?_
          refine o_val (v_assign rfl) rfl ?_
          refine o_val (v_assign rfl) rfl ?_
          refine o_nil ?_
          refine thn_n ?_
          refine w_ret ?_
          refine (thn_r (blk_r (thn_r (blk_r (thn_r ?_)))))
          obtain rfl : o = .error 2 := ho.symm.trans (InfP.told_5 h14 ⟨hq1, hq2⟩ hta hy (hg.trans (InfP.lnGo_err (by omega) hf (InfP.lnStep_2 hs (InfP.rep_short (by omega) hxr)))))
          exact ret_ok (G := [R]) (res3 rfl rfl rfl) ⟨rfl, rfl⟩ (sub (.cons (by repeat first | exact .head | apply Rem.tail) .nil) (by repeat first | exact .refl | apply Drop.skip))
         ·
          refine w_seq ?_
          have hrp := InfP.rp_le (s := sy)
          have hnx := BitP.numL_bound B x2 (InfP.rpB sy)
          have hpx := BitP.pow24 (show InfP.rpB sy ≤ 24 by omega)
          rw [show ((21 : Nat), Value.int .i64 0) = (21, .int .i64 (InfP.rpW sy l)) from by rw [InfP.rpW_0 (by omega)]]
          rw [show ((22 : Nat), Value.int .i64 3) = (22, .int .i64 (InfP.rpB sy : Int)) from by rw [InfP.rpB_17 hs16]; rfl]
          rw [show ((23 : Nat), Value.int .i64 3) = (23, .int .i64 (InfP.rpL sy)) from by rw [InfP.rpL_16 (by omega)]]
          refine w_region ?_
          refine o_val (v_move rfl) rfl ?_
          refine o_val (v_move rfl) rfl ?_
          refine o_call (d_take b p cap B R hR x2 sh (InfP.rpB sy) hl hB (by omega) (by omega)) V.b23  rfl (.cons (by repeat first | exact .head | apply Rem.tail) (.cons (by repeat first | exact .head | apply Rem.tail) .nil)) rfl ?_
          rintro _ _ ⟨rfl, rfl⟩
          refine o_val (v_move rfl) rfl ?_
          refine o_val (v_extract rfl rfl) rfl ?_
          refine o_val (v_extract rfl rfl) rfl ?_
          refine o_val (v_assign rfl) rfl ?_
          refine o_val (v_assign rfl) rfl ?_
          refine o_nil ?_
          refine thn_n ?_
          refine w_seq ?_
          refine w_seq ?_
          refine w_region ?_
          refine o_val (v_move rfl) rfl ?_
          refine o_val (v_to (v := .bool false) (v_not rfl) rfl) rfl ?_
          refine o_nil ?_
          refine thn_n ?_
          refine w_condF rfl ?_
          refine w_skip ?_
          refine thn_n ?_
          rcases (Int.lt_or_le ((InfP.toldN B a) : Int) ((l.length : Int) + InfP.rpL sy + (BitP.numL B x2 (InfP.rpB sy)))) with hbg | hbg
          ·
           refine w_seq ?_
           refine w_seq ?_
           refine w_region ?_
           refine o_val (v_move rfl) rfl ?_
           refine o_val (v_F (v_eql rfl rfl) (by omega)) rfl ?_
           refine o_val (v_move rfl) rfl ?_
           refine o_pass rfl rfl rfl ?_
           refine o_pass rfl rfl rfl ?_
           refine o_pass rfl rfl rfl ?_
           refine o_val (v_pickF rfl rfl) rfl ?_
           refine o_val (v_move rfl) rfl ?_
           refine o_want rfl ?_
           refine o_val (v_move rfl) rfl ?_
           refine o_want rfl ?_
           refine o_val (v_len (ty' := 0) Try.underlying30 rfl) rfl ?_
           refine o_want rfl ?_
           refine o_val (v_move rfl) rfl ?_
           refine o_want rfl ?_
           refine o_val (v_add rfl rfl (wrapI (by omega) (by omega))) rfl ?_
           refine o_want rfl ?_
           refine o_val (v_move rfl) rfl ?_
           refine o_want rfl ?_
           refine o_val (v_add rfl rfl (wrapI (by omega) (by omega))) rfl ?_
           refine o_want rfl ?_
           refine o_val (v_move rfl) rfl ?_
           refine o_want rfl ?_
           refine o_val (v_move rfl) rfl ?_
           refine o_want rfl ?_
           refine o_val (v_add rfl rfl (wrapI (by omega) (by omega))) rfl ?_
           refine o_want rfl ?_
           refine o_val (v_T (v_gtr rfl rfl) (by omega)) rfl ?_
           refine o_val (v_pickF rfl rfl) rfl ?_
           refine o_nil ?_
           refine thn_n ?_
           refine w_condT rfl ?_
           refine w_seq ?_
           refine w_region ?_
           refine o_val (v_assign rfl) rfl ?_
           refine o_val (v_assign rfl) rfl ?_
           refine o_val (v_assign rfl) rfl ?_
           refine o_nil ?_
           refine thn_n ?_
           refine w_ret ?_
           refine (thn_r (blk_r (thn_r (blk_r (thn_r ?_)))))
           obtain rfl : o = .error 4 := ho.symm.trans (by first | exact (InfP.told_5 h14 ⟨hq1, hq2⟩ hta hy (hg.trans (InfP.lnGo_err (by omega) hf (InfP.lnStep_2 hs (InfP.rep_form hs16 (List.eq_nil_of_length_eq_zero hl0) (by omega)))))) | (obtain ⟨nn, hnn⟩ : ∃ nn : Nat, InfP.rpL sy + (BitP.numL B x2 (InfP.rpB sy)) = (nn : Int) := ⟨_, (Int.toNat_of_nonneg (by omega)).symm⟩; exact (InfP.told_5 h14 ⟨hq1, hq2⟩ hta hy (hg.trans (InfP.lnGo_big (by omega) hf (InfP.lnStep_3 hs (InfP.rep_big (B := B) (l := l) (s := sy) (a := x2) (by omega) hxr (by omega) hnn)) (by rw [List.length_append, List.length_replicate, Int.toNat_natCast]; omega))))))
           exact ret_ok (G := [R]) (res3 rfl rfl rfl) ⟨rfl, rfl⟩ (sub (.cons (by repeat first | exact .head | apply Rem.tail) .nil) (by repeat first | exact .refl | apply Drop.skip))
          ·
           refine w_seq ?_
           refine w_seq ?_
           refine w_region ?_
           refine o_val (v_move rfl) rfl ?_
           refine o_val (v_F (v_eql rfl rfl) (by omega)) rfl ?_
           refine o_val (v_move rfl) rfl ?_
           refine o_pass rfl rfl rfl ?_
           refine o_pass rfl rfl rfl ?_
           refine o_pass rfl rfl rfl ?_
           refine o_val (v_pickF rfl rfl) rfl ?_
           refine o_val (v_move rfl) rfl ?_
           refine o_want rfl ?_
           refine o_val (v_move rfl) rfl ?_
           refine o_want rfl ?_
           refine o_val (v_len (ty' := 0) Try.underlying30 rfl) rfl ?_
           refine o_want rfl ?_
           refine o_val (v_move rfl) rfl ?_
           refine o_want rfl ?_
           refine o_val (v_add rfl rfl (wrapI (by omega) (by omega))) rfl ?_
           refine o_want rfl ?_
           refine o_val (v_move rfl) rfl ?_
           refine o_want rfl ?_
           refine o_val (v_add rfl rfl (wrapI (by omega) (by omega))) rfl ?_
           refine o_want rfl ?_
           refine o_val (v_move rfl) rfl ?_
           refine o_want rfl ?_
           refine o_val (v_move rfl) rfl ?_
           refine o_want rfl ?_
           refine o_val (v_add rfl rfl (wrapI (by omega) (by omega))) rfl ?_
           refine o_want rfl ?_
           refine o_val (v_F (v_gtr rfl rfl) (by omega)) rfl ?_
           refine o_val (v_pickF rfl rfl) rfl ?_
           refine o_nil ?_
           refine thn_n ?_
           refine w_condF rfl ?_
           refine w_skip ?_
           refine thn_n ?_
           refine w_seq ?_
           obtain ⟨nn, hnn⟩ : ∃ nn : Nat, InfP.rpL sy + (BitP.numL B x2 (InfP.rpB sy)) = (nn : Int) := ⟨_, (Int.toNat_of_nonneg (by omega)).symm⟩
           have hr := InfP.rep_big (B := B) (l := l) (s := sy) (a := x2) (by omega) hxr (by omega) hnn
           refine w_region ?_
           refine o_val (v_assign rfl) rfl ?_
           refine o_nil ?_
           refine thn_n ?_
           refine w_block ?_
           rw [show Row I3 q l.length c l = Row I3 q (l.length + 0) c (l ++ List.replicate 0 (InfP.rpW sy l)) from by rw [List.replicate_zero, List.append_nil, Nat.add_zero]]
           rw [show ((18 : Nat), Value.slice q l.length c) = (18, .slice q (l.length + 0) c) from rfl]
           refine w_loop3 (fun (i : Nat) (q5 : Option Addr) (c5 : Nat) => [(0, .pointer (some ⟨b, 0, none⟩)), (5, .int .i64 (InfP.hL B a : Int)), (7, .int .i64 (InfP.hD B a : Int)), (16, .pointer (some ⟨bc, 0, none⟩)), (18, .slice q5 (l.length + i) c5), (21, .int .i64 (InfP.rpW sy l)), (23, .int .i64 (InfP.rpL sy)), (24, .int .i64 (BitP.numL B x2 (InfP.rpB sy))), (26, .int .i64 (i : Int))]) (fun (i : Nat) (q5 : Option Addr) (c5 : Nat) => Row I3 q5 (l.length + i) c5 (l ++ List.replicate i (InfP.rpW sy l)) :: RC bc (InfP.toldC B a) :: Cel b 52 [.slice p B.length cap, .int .i64 ((x2 + InfP.rpB sy) : Int), .bool false, .bool sh] :: R :: F) (fun (i : Nat) (q5 : Option Addr) (c5 : Nat) => i ≤ nn) (fun (i : Nat) (q5 : Option Addr) (c5 : Nat) => nn - i) (i3 (0) (q) (c) ?_ (.cons rfl (.cons rfl (.cons rfl (.cons rfl (.cons rfl (.cons rfl (.cons rfl (.cons rfl (.cons rfl (.nil _)))))))))) (sub (.cons (by repeat first | exact .head | apply Rem.tail) (.cons (by repeat first | exact .head | apply Rem.tail) (.cons (by repeat first | exact .head | apply Rem.tail) (.cons (by repeat first | exact .head | apply Rem.tail) .nil)))) (by repeat first | exact .refl | apply Drop.skip))) ?_
           ·
            exact Nat.zero_le _
           intro i q5 c5
           rintro hi
           refine w_seq ?_
           refine w_seq ?_
           refine w_region ?_
           refine o_val (v_move rfl) rfl ?_
           refine o_val (v_move rfl) rfl ?_
           refine o_val (v_move rfl) rfl ?_
           refine o_val (v_add rfl rfl (wrapI (by omega) (by omega))) rfl ?_
           refine o_val (v_lss rfl rfl) rfl ?_
           refine o_nil ?_
           refine thn_n ?_
           first | refine w_condD rfl (fun h157 => ?_) (fun h157 => ?_) | refine w_cond rfl (fun h157 => ?_) (fun h157 => ?_)
           ·
            refine w_skip ?_
            refine thn_n ?_
            refine w_seq ?_
            refine w_block ?_
            refine w_region ?_
            refine o_val (v_move rfl) rfl ?_
            refine o_val (v_move rfl) rfl ?_
            refine r_build (I3) [InfP.rpW sy l] V.sl30 V.z3 rfl rfl rfl rfl rfl rfl ?_
            intro b162
            refine r_append (c := (I3)) V.sl30 V.z3 rfl rfl rfl rfl (by repeat first | exact .head | apply Rem.tail) (by first | exact own mm0 | exact own mm1 | exact own mm2 | exact own mm3 | exact own mm4 | exact own mm5 | exact own mm6 | exact own mm7 | exact own mm8 | exact own mm9 | exact own mm10 | exact own mm11 | exact rdH hR mm0 | exact rdH hR mm1 | exact rdH hR mm2 | exact rdH hR mm3 | exact rdH hR mm4 | exact rdH hR mm5 | exact rdH hR mm6 | exact rdH hR mm7 | exact rdH hR mm8 | exact rdH hR mm9 | exact rdH hR mm10 | exact rdH hR mm11) (by omega) rfl ?_
            intro p163 c163
            refine o_val (v_assign rfl) rfl ?_
            refine o_nil ?_
            refine blk_n ?_
            refine thn_n ?_
            refine w_region ?_
            refine o_val (v_move rfl) rfl ?_
            refine o_val (v_add rfl rfl (wrapI (by omega) (by omega))) rfl ?_
            refine o_val (v_assign rfl) rfl ?_
            refine o_nil ?_
            rw [List.append_assoc, ← List.replicate_succ', show l.length + i + 1 = l.length + (i + 1) from rfl]
            refine j3 (i + 1) (_) (_) ?_ (.cons rfl (.cons rfl (.cons rfl (.cons rfl (.cons rfl (.cons rfl (.cons rfl (.cons rfl (.cons rfl (.nil _)))))))))) (sub (.cons (by repeat first | exact .head | apply Rem.tail) (.cons (by repeat first | exact .head | apply Rem.tail) (.cons (by repeat first | exact .head | apply Rem.tail) (.cons (by repeat first | exact .head | apply Rem.tail) .nil)))) (by repeat first | exact .refl | apply Drop.skip))
            exact ⟨by omega, by omega⟩
           ·
            refine w_exit ?_
            refine thn_e ?_
            refine thn_e ?_
            refine blk_x ?_
            refine blk_n ?_
            have hl6 : l.length < InfP.toldN B a := by omega
            first
            | (have hr := InfP.rep_lt (B := B) (l := l) (s := sy) (a := x2) (by omega); have hln : (l ++ [sy]).length = l.length + 1 := (by simp); have hst := InfP.lnStep_3 hs hr; rw [show List.replicate (1 : Int).toNat sy = [sy] from rfl] at hst; rw [show l.length + 1 = (l ++ [sy]).length from hln.symm]; refine j5 (l ++ [sy]) (f - 1) (x2) (_) (_) ?_ (.cons rfl (.cons rfl (.cons rfl (.cons rfl (.cons rfl (.nil _)))))) (sub (.cons (by repeat first | exact .head | apply Rem.tail) (.cons (by repeat first | exact .head | apply Rem.tail) (.cons (by repeat first | exact .head | apply Rem.tail) (.cons (by repeat first | exact .head | apply Rem.tail) .nil)))) (by repeat first | exact .refl | apply Drop.skip)); exact ⟨⟨hg.trans (InfP.lnGo_next hl6 hf hst (by omega)), by omega, by omega, hx2⟩, by omega⟩)
            | (obtain rfl : i = nn := (by omega); have hln : (l ++ List.replicate i (InfP.rpW sy l)).length = l.length + i := (by simp); have hst := InfP.lnStep_3 hs hr; rw [Int.toNat_natCast] at hst; rw [show l.length + i = (l ++ List.replicate i (InfP.rpW sy l)).length from hln.symm]; refine j5 (l ++ List.replicate i (InfP.rpW sy l)) (f - 1) ((x2 + InfP.rpB sy)) (_) (_) ?_ (.cons rfl (.cons rfl (.cons rfl (.cons rfl (.cons rfl (.nil _)))))) (sub (.cons (by repeat first | exact .head | apply Rem.tail) (.cons (by repeat first | exact .head | apply Rem.tail) (.cons (by repeat first | exact .head | apply Rem.tail) (.cons (by repeat first | exact .head | apply Rem.tail) .nil)))) (by repeat first | exact .refl | apply Drop.skip)); exact ⟨⟨hg.trans (InfP.lnGo_next hl6 hf hst (by omega)), by omega, by omega, hxr⟩, by omega⟩)
        ·
         refine w_seq ?_
         refine w_region ?_
         refine o_val (v_assign rfl) rfl ?_
         refine o_val (v_assign rfl) rfl ?_
         refine o_val (v_assign rfl) rfl ?_
         refine o_nil ?_
         refine thn_n ?_
         refine w_seq ?_
         refine w_seq ?_
         refine w_region ?_
         refine o_val (v_move rfl) rfl ?_
         refine o_val (v_F (v_eql rfl rfl) (by omega)) rfl ?_
         refine o_val (v_move rfl) rfl ?_
         refine o_pass rfl rfl rfl ?_
         refine o_pass rfl rfl rfl ?_
         refine o_pass rfl rfl rfl ?_
         refine o_val (v_pickF rfl rfl) rfl ?_
         refine o_nil ?_
         refine thn_n ?_
         refine w_condF rfl ?_
         refine w_skip ?_
         refine thn_n ?_
         refine w_seq ?_
         refine w_seq ?_
         refine w_region ?_
         refine o_val (v_move rfl) rfl ?_
         refine o_val (v_F (v_eql rfl rfl) (by omega)) rfl ?_
         refine o_nil ?_
         refine thn_n ?_
         refine w_condF rfl ?_
         refine w_skip ?_
         refine thn_n ?_
         refine w_seq ?_
         refine w_seq ?_
         refine w_region ?_
         refine o_val (v_move rfl) rfl ?_
         refine o_val (v_T (v_eql rfl rfl) (by omega)) rfl ?_
         refine o_nil ?_
         refine thn_n ?_
         refine w_condT rfl ?_
         refine w_region ?_
         refine o_val (v_assign rfl) rfl ?_
         refine o_val (v_assign rfl) rfl ?_
         refine o_nil ?_
         refine thn_n ?_
         rcases (Nat.lt_or_ge (8 * B.length) (x2 + InfP.rpB sy)) with hxr | hxr
         ·
          refine w_seq ?_
          have hrp := InfP.rp_le (s := sy)
          have hnx := BitP.numL_bound B x2 (InfP.rpB sy)
          have hpx := BitP.pow24 (show InfP.rpB sy ≤ 24 by omega)
          rw [show ((21 : Nat), Value.int .i64 0) = (21, .int .i64 (InfP.rpW sy l)) from by rw [InfP.rpW_0 (by omega)]]
          rw [show ((22 : Nat), Value.int .i64 7) = (22, .int .i64 (InfP.rpB sy : Int)) from by rw [InfP.rpB_18 hs16]; rfl]
          rw [show ((23 : Nat), Value.int .i64 11) = (23, .int .i64 (InfP.rpL sy)) from by rw [InfP.rpL_18 hs16]]
          refine w_region ?_
          refine o_val (v_move rfl) rfl ?_
          refine o_val (v_move rfl) rfl ?_
          refine o_call (d_takeE b p cap B R hR x2 sh (InfP.rpB sy) hl hB (by omega) (by omega) (by omega)) V.b23  rfl (.cons (by repeat first | exact .head | apply Rem.tail) (.cons (by repeat first | exact .head | apply Rem.tail) .nil)) rfl ?_
          rintro _ _ ⟨rfl, rfl⟩
          refine o_val (v_move rfl) rfl ?_
          refine o_val (v_extract rfl rfl) rfl ?_
          refine o_val (v_extract rfl rfl) rfl ?_
          refine o_val (v_assign rfl) rfl ?_
          refine o_val (v_assign rfl) rfl ?_
          refine o_nil ?_
          refine thn_n ?_
          refine w_seq ?_
          refine w_seq ?_
          refine w_region ?_
          refine o_val (v_move rfl) rfl ?_
          refine o_val (v_to (v := .bool true) (v_not rfl) rfl) rfl ?_
          refine o_nil ?_
          refine thn_n ?_
          refine w_condT rfl ?_
          refine w_seq ?_
          refine w_region ?_
          refine o_val (v_assign rfl) rfl ?_
          refine o_val (v_assign rfl) rfl ?_
          refine o_val (v_assign rfl) rfl ?_
          refine o_nil ?_
          refine thn_n ?_
          refine w_ret ?_
          refine (thn_r (blk_r (thn_r (blk_r (thn_r ?_)))))
          obtain rfl : o = .error 2 := ho.symm.trans (InfP.told_5 h14 ⟨hq1, hq2⟩ hta hy (hg.trans (InfP.lnGo_err (by omega) hf (InfP.lnStep_2 hs (InfP.rep_short (by omega) hxr)))))
          exact ret_ok (G := [R]) (res3 rfl rfl rfl) ⟨rfl, rfl⟩ (sub (.cons (by repeat first | exact .head | apply Rem.tail) .nil) (by repeat first | exact .refl | apply Drop.skip))
         ·
          refine w_seq ?_
          have hrp := InfP.rp_le (s := sy)
          have hnx := BitP.numL_bound B x2 (InfP.rpB sy)
          have hpx := BitP.pow24 (show InfP.rpB sy ≤ 24 by omega)
          rw [show ((21 : Nat), Value.int .i64 0) = (21, .int .i64 (InfP.rpW sy l)) from by rw [InfP.rpW_0 (by omega)]]
          rw [show ((22 : Nat), Value.int .i64 7) = (22, .int .i64 (InfP.rpB sy : Int)) from by rw [InfP.rpB_18 hs16]; rfl]
          rw [show ((23 : Nat), Value.int .i64 11) = (23, .int .i64 (InfP.rpL sy)) from by rw [InfP.rpL_18 hs16]]
          refine w_region ?_
          refine o_val (v_move rfl) rfl ?_
          refine o_val (v_move rfl) rfl ?_
          refine o_call (d_take b p cap B R hR x2 sh (InfP.rpB sy) hl hB (by omega) (by omega)) V.b23  rfl (.cons (by repeat first | exact .head | apply Rem.tail) (.cons (by repeat first | exact .head | apply Rem.tail) .nil)) rfl ?_
          rintro _ _ ⟨rfl, rfl⟩
          refine o_val (v_move rfl) rfl ?_
          refine o_val (v_extract rfl rfl) rfl ?_
          refine o_val (v_extract rfl rfl) rfl ?_
          refine o_val (v_assign rfl) rfl ?_
          refine o_val (v_assign rfl) rfl ?_
          refine o_nil ?_
          refine thn_n ?_
          refine w_seq ?_
          refine w_seq ?_
          refine w_region ?_
          refine o_val (v_move rfl) rfl ?_
          refine o_val (v_to (v := .bool false) (v_not rfl) rfl) rfl ?_
          refine o_nil ?_
          refine thn_n ?_
          refine w_condF rfl ?_
          refine w_skip ?_
          refine thn_n ?_
          rcases (Int.lt_or_le ((InfP.toldN B a) : Int) ((l.length : Int) + InfP.rpL sy + (BitP.numL B x2 (InfP.rpB sy)))) with hbg | hbg
          ·
           refine w_seq ?_
           refine w_seq ?_
           refine w_region ?_
           refine o_val (v_move rfl) rfl ?_
           refine o_val (v_F (v_eql rfl rfl) (by omega)) rfl ?_
           refine o_val (v_move rfl) rfl ?_
           refine o_pass rfl rfl rfl ?_
           refine o_pass rfl rfl rfl ?_
           refine o_pass rfl rfl rfl ?_
           refine o_val (v_pickF rfl rfl) rfl ?_
           refine o_val (v_move rfl) rfl ?_
           refine o_want rfl ?_
           refine o_val (v_move rfl) rfl ?_
           refine o_want rfl ?_
           refine o_val (v_len (ty' := 0) Try.underlying30 rfl) rfl ?_
           refine o_want rfl ?_
           refine o_val (v_move rfl) rfl ?_
           refine o_want rfl ?_
           refine o_val (v_add rfl rfl (wrapI (by omega) (by omega))) rfl ?_
           refine o_want rfl ?_
           refine o_val (v_move rfl) rfl ?_
           refine o_want rfl ?_
           refine o_val (v_add rfl rfl (wrapI (by omega) (by omega))) rfl ?_
           refine o_want rfl ?_
           refine o_val (v_move rfl) rfl ?_
           refine o_want rfl ?_
           refine o_val (v_move rfl) rfl ?_
           refine o_want rfl ?_
           refine o_val (v_add rfl rfl (wrapI (by omega) (by omega))) rfl ?_
           refine o_want rfl ?_
           refine o_val (v_T (v_gtr rfl rfl) (by omega)) rfl ?_
           refine o_val (v_pickF rfl rfl) rfl ?_
           refine o_nil ?_
           refine thn_n ?_
           refine w_condT rfl ?_
           refine w_seq ?_
           refine w_region ?_
           refine o_val (v_assign rfl) rfl ?_
           refine o_val (v_assign rfl) rfl ?_
           refine o_val (v_assign rfl) rfl ?_
           refine o_nil ?_
           refine thn_n ?_
           refine w_ret ?_
           refine (thn_r (blk_r (thn_r (blk_r (thn_r ?_)))))
           obtain rfl : o = .error 4 := ho.symm.trans (by first | exact (InfP.told_5 h14 ⟨hq1, hq2⟩ hta hy (hg.trans (InfP.lnGo_err (by omega) hf (InfP.lnStep_2 hs (InfP.rep_form hs16 (List.eq_nil_of_length_eq_zero hl0) (by omega)))))) | (obtain ⟨nn, hnn⟩ : ∃ nn : Nat, InfP.rpL sy + (BitP.numL B x2 (InfP.rpB sy)) = (nn : Int) := ⟨_, (Int.toNat_of_nonneg (by omega)).symm⟩; exact (InfP.told_5 h14 ⟨hq1, hq2⟩ hta hy (hg.trans (InfP.lnGo_big (by omega) hf (InfP.lnStep_3 hs (InfP.rep_big (B := B) (l := l) (s := sy) (a := x2) (by omega) hxr (by omega) hnn)) (by rw [List.length_append, List.length_replicate, Int.toNat_natCast]; omega))))))
           exact ret_ok (G := [R]) (res3 rfl rfl rfl) ⟨rfl, rfl⟩ (sub (.cons (by repeat first | exact .head | apply Rem.tail) .nil) (by repeat first | exact .refl | apply Drop.skip))
          ·
           refine w_seq ?_
           refine w_seq ?_
           refine w_region ?_
           refine o_val (v_move rfl) rfl ?_
           refine o_val (v_F (v_eql rfl rfl) (by omega)) rfl ?_
           refine o_val (v_move rfl) rfl ?_
           refine o_pass rfl rfl rfl ?_
           refine o_pass rfl rfl rfl ?_
           refine o_pass rfl rfl rfl ?_
           refine o_val (v_pickF rfl rfl) rfl ?_
           refine o_val (v_move rfl) rfl ?_
           refine o_want rfl ?_
           refine o_val (v_move rfl) rfl ?_
           refine o_want rfl ?_
           refine o_val (v_len (ty' := 0) Try.underlying30 rfl) rfl ?_
           refine o_want rfl ?_
           refine o_val (v_move rfl) rfl ?_
           refine o_want rfl ?_
           refine o_val (v_add rfl rfl (wrapI (by omega) (by omega))) rfl ?_
           refine o_want rfl ?_
           refine o_val (v_move rfl) rfl ?_
           refine o_want rfl ?_
           refine o_val (v_add rfl rfl (wrapI (by omega) (by omega))) rfl ?_
           refine o_want rfl ?_
           refine o_val (v_move rfl) rfl ?_
           refine o_want rfl ?_
           refine o_val (v_move rfl) rfl ?_
           refine o_want rfl ?_
           refine o_val (v_add rfl rfl (wrapI (by omega) (by omega))) rfl ?_
           refine o_want rfl ?_
           refine o_val (v_F (v_gtr rfl rfl) (by omega)) rfl ?_
           refine o_val (v_pickF rfl rfl) rfl ?_
           refine o_nil ?_
           refine thn_n ?_
           refine w_condF rfl ?_
           refine w_skip ?_
           refine thn_n ?_
           refine w_seq ?_
           obtain ⟨nn, hnn⟩ : ∃ nn : Nat, InfP.rpL sy + (BitP.numL B x2 (InfP.rpB sy)) = (nn : Int) := ⟨_, (Int.toNat_of_nonneg (by omega)).symm⟩
           have hr := InfP.rep_big (B := B) (l := l) (s := sy) (a := x2) (by omega) hxr (by omega) hnn
           refine w_region ?_
           refine o_val (v_assign rfl) rfl ?_
           refine o_nil ?_
           refine thn_n ?_
           refine w_block ?_
           rw [show Row I3 q l.length c l = Row I3 q (l.length + 0) c (l ++ List.replicate 0 (InfP.rpW sy l)) from by rw [List.replicate_zero, List.append_nil, Nat.add_zero]]
           rw [show ((18 : Nat), Value.slice q l.length c) = (18, .slice q (l.length + 0) c) from rfl]
           refine w_loop3 (fun (i : Nat) (q5 : Option Addr) (c5 : Nat) => [(0, .pointer (some ⟨b, 0, none⟩)), (5, .int .i64 (InfP.hL B a : Int)), (7, .int .i64 (InfP.hD B a : Int)), (16, .pointer (some ⟨bc, 0, none⟩)), (18, .slice q5 (l.length + i) c5), (21, .int .i64 (InfP.rpW sy l)), (23, .int .i64 (InfP.rpL sy)), (24, .int .i64 (BitP.numL B x2 (InfP.rpB sy))), (26, .int .i64 (i : Int))]) (fun (i : Nat) (q5 : Option Addr) (c5 : Nat) => Row I3 q5 (l.length + i) c5 (l ++ List.replicate i (InfP.rpW sy l)) :: RC bc (InfP.toldC B a) :: Cel b 52 [.slice p B.length cap, .int .i64 ((x2 + InfP.rpB sy) : Int), .bool false, .bool sh] :: R :: F) (fun (i : Nat) (q5 : Option Addr) (c5 : Nat) => i ≤ nn) (fun (i : Nat) (q5 : Option Addr) (c5 : Nat) => nn - i) (i3 (0) (q) (c) ?_ (.cons rfl (.cons rfl (.cons rfl (.cons rfl (.cons rfl (.cons rfl (.cons rfl (.cons rfl (.cons rfl (.nil _)))))))))) (sub (.cons (by repeat first | exact .head | apply Rem.tail) (.cons (by repeat first | exact .head | apply Rem.tail) (.cons (by repeat first | exact .head | apply Rem.tail) (.cons (by repeat first | exact .head | apply Rem.tail) .nil)))) (by repeat first | exact .refl | apply Drop.skip))) ?_
           ·
            exact Nat.zero_le _
           intro i q5 c5
           rintro hi
           refine w_seq ?_
           refine w_seq ?_
           refine w_region ?_
           refine o_val (v_move rfl) rfl ?_
           refine o_val (v_move rfl) rfl ?_
           refine o_val (v_move rfl) rfl ?_
           refine o_val (v_add rfl rfl (wrapI (by omega) (by omega))) rfl ?_
           refine o_val (v_lss rfl rfl) rfl ?_
           refine o_nil ?_
           refine thn_n ?_
           first | refine w_condD rfl (fun h157 => ?_) (fun h157 => ?_) | refine w_cond rfl (fun h157 => ?_) (fun h157 => ?_)
           ·
            refine w_skip ?_
            refine thn_n ?_
            refine w_seq ?_
            refine w_block ?_
            refine w_region ?_
            refine o_val (v_move rfl) rfl ?_
            refine o_val (v_move rfl) rfl ?_
            refine r_build (I3) [InfP.rpW sy l] V.sl30 V.z3 rfl rfl rfl rfl rfl rfl ?_
            intro b162
            refine r_append (c := (I3)) V.sl30 V.z3 rfl rfl rfl rfl (by repeat first | exact .head | apply Rem.tail) (by first | exact own mm0 | exact own mm1 | exact own mm2 | exact own mm3 | exact own mm4 | exact own mm5 | exact own mm6 | exact own mm7 | exact own mm8 | exact own mm9 | exact own mm10 | exact own mm11 | exact rdH hR mm0 | exact rdH hR mm1 | exact rdH hR mm2 | exact rdH hR mm3 | exact rdH hR mm4 | exact rdH hR mm5 | exact rdH hR mm6 | exact rdH hR mm7 | exact rdH hR mm8 | exact rdH hR mm9 | exact rdH hR mm10 | exact rdH hR mm11) (by omega) rfl ?_
            intro p163 c163
            refine o_val (v_assign rfl) rfl ?_
            refine o_nil ?_
            refine blk_n ?_
            refine thn_n ?_
            refine w_region ?_
            refine o_val (v_move rfl) rfl ?_
            refine o_val (v_add rfl rfl (wrapI (by omega) (by omega))) rfl ?_
            refine o_val (v_assign rfl) rfl ?_
            refine o_nil ?_
            rw [List.append_assoc, ← List.replicate_succ', show l.length + i + 1 = l.length + (i + 1) from rfl]
            refine j3 (i + 1) (_) (_) ?_ (.cons rfl (.cons rfl (.cons rfl (.cons rfl (.cons rfl (.cons rfl (.cons rfl (.cons rfl (.cons rfl (.nil _)))))))))) (sub (.cons (by repeat first | exact .head | apply Rem.tail) (.cons (by repeat first | exact .head | apply Rem.tail) (.cons (by repeat first | exact .head | apply Rem.tail) (.cons (by repeat first | exact .head | apply Rem.tail) .nil)))) (by repeat first | exact .refl | apply Drop.skip))
            exact ⟨by omega, by omega⟩
           ·
            refine w_exit ?_
            refine thn_e ?_
            refine thn_e ?_
            refine blk_x ?_
            refine blk_n ?_
            have hl6 : l.length < InfP.toldN B a := by omega
            first
            | (have hr := InfP.rep_lt (B := B) (l := l) (s := sy) (a := x2) (by omega); have hln : (l ++ [sy]).length = l.length + 1 := (by simp); have hst := InfP.lnStep_3 hs hr; rw [show List.replicate (1 : Int).toNat sy = [sy] from rfl] at hst; rw [show l.length + 1 = (l ++ [sy]).length from hln.symm]; refine j5 (l ++ [sy]) (f - 1) (x2) (_) (_) ?_ (.cons rfl (.cons rfl (.cons rfl (.cons rfl (.cons rfl (.nil _)))))) (sub (.cons (by repeat first | exact .head | apply Rem.tail) (.cons (by repeat first | exact .head | apply Rem.tail) (.cons (by repeat first | exact .head | apply Rem.tail) (.cons (by repeat first | exact .head | apply Rem.tail) .nil)))) (by repeat first | exact .refl | apply Drop.skip)); exact ⟨⟨hg.trans (InfP.lnGo_next hl6 hf hst (by omega)), by omega, by omega, hx2⟩, by omega⟩)
            | (obtain rfl : i = nn := (by omega); have hln : (l ++ List.replicate i (InfP.rpW sy l)).length = l.length + i := (by simp); have hst := InfP.lnStep_3 hs hr; rw [Int.toNat_natCast] at hst; rw [show l.length + i = (l ++ List.replicate i (InfP.rpW sy l)).length from hln.symm]; refine j5 (l ++ List.replicate i (InfP.rpW sy l)) (f - 1) ((x2 + InfP.rpB sy)) (_) (_) ?_ (.cons rfl (.cons rfl (.cons rfl (.cons rfl (.cons rfl (.nil _)))))) (sub (.cons (by repeat first | exact .head | apply Rem.tail) (.cons (by repeat first | exact .head | apply Rem.tail) (.cons (by repeat first | exact .head | apply Rem.tail) (.cons (by repeat first | exact .head | apply Rem.tail) .nil)))) (by repeat first | exact .refl | apply Drop.skip)); exact ⟨⟨hg.trans (InfP.lnGo_next hl6 hf hst (by omega)), by omega, by omega, hxr⟩, by omega⟩)
     ·
      refine w_exit ?_
      refine thn_e ?_
      refine thn_e ?_
      refine blk_x ?_
      refine thn_n ?_
      refine w_seq ?_
      refine w_seq ?_
      have hlt2 : l.length = InfP.toldN B a := by omega
      have hz := hg.trans (InfP.lnGo_end (B := B) (c := InfP.toldC B a) (f := f) (a := x) (show InfP.toldN B a ≤ l.length by omega))
      refine w_cap (p := q) (n := l.length) (cap := c) (l := l) (c := I3) (by repeat first | exact .head _ | apply List.Mem.tail) fun hcap => ?_
      refine w_region ?_
      refine o_val (v_move rfl) rfl ?_
      refine o_val (r_index (c := (I3)) V.sl30 rfl rfl (by first | exact own mm0 | exact own mm1 | exact own mm2 | exact own mm3 | exact own mm4 | exact own mm5 | exact own mm6 | exact own mm7 | exact own mm8 | exact own mm9 | exact own mm10 | exact own mm11 | exact rdH hR mm0 | exact rdH hR mm1 | exact rdH hR mm2 | exact rdH hR mm3 | exact rdH hR mm4 | exact rdH hR mm5 | exact rdH hR mm6 | exact rdH hR mm7 | exact rdH hR mm8 | exact rdH hR mm9 | exact rdH hR mm10 | exact rdH hR mm11) (by omega) (by omega)) rfl ?_
      refine o_val (r_load (c := (I3)) V.s3 rfl (by first | exact own mm0 | exact own mm1 | exact own mm2 | exact own mm3 | exact own mm4 | exact own mm5 | exact own mm6 | exact own mm7 | exact own mm8 | exact own mm9 | exact own mm10 | exact own mm11 | exact rdH hR mm0 | exact rdH hR mm1 | exact rdH hR mm2 | exact rdH hR mm3 | exact rdH hR mm4 | exact rdH hR mm5 | exact rdH hR mm6 | exact rdH hR mm7 | exact rdH hR mm8 | exact rdH hR mm9 | exact rdH hR mm10 | exact rdH hR mm11) (by omega) (by omega) rfl rfl) rfl ?_
      refine o_val (v_eql rfl rfl) rfl ?_
      refine o_nil ?_
      refine thn_n ?_
      first | refine w_condD rfl (fun h167 => ?_) (fun h167 => ?_) | refine w_cond rfl (fun h167 => ?_) (fun h167 => ?_)
      ·
       refine w_seq ?_
       refine w_region ?_
       refine o_val (v_assign rfl) rfl ?_
       refine o_val (v_assign rfl) rfl ?_
       refine o_val (v_assign rfl) rfl ?_
       refine o_nil ?_
       refine thn_n ?_
       refine w_ret ?_
       refine (thn_r ?_)
       obtain rfl : o = .error 4 := ho.symm.trans (InfP.told_6 h14 ⟨hq1, hq2⟩ hta hy hz (.inr (.inr (show I3.g l 256 = 0 by omega))))
       exact ret_ok (G := [R]) (res3 rfl rfl rfl) ⟨rfl, rfl⟩ (sub (.cons (by repeat first | exact .head | apply Rem.tail) .nil) (by repeat first | exact .refl | apply Drop.skip))
      ·
       refine w_skip ?_
       refine thn_n ?_
       rcases (Classical.em (HuffP.newE (l.take (InfP.hL B a)) = 0)) with hc1 | hc1
       ·
        refine w_seq ?_
        refine w_region ?_
        refine o_val (v_move rfl) rfl ?_
        refine o_val (v_move rfl) rfl ?_
        refine o_val (v_slice0 (InfP.hL B a) _ V.sl30 rfl ⟨_, rfl⟩ rfl (by omega) (by omega)) rfl ?_
        refine o_call (d_newY q (InfP.hL B a) c (l.take (InfP.hL B a)) (Row I3 q l.length c l) (by rw [List.length_take]; omega) (fun _ _ hh => row_take rfl (by omega) hh) hc1) V.b36  rfl (.cons (by repeat first | exact .head | apply Rem.tail) .nil) rfl ?_
        rintro _ _ ⟨x27, rfl, rfl⟩
        refine o_val (v_move rfl) rfl ?_
        refine o_val (v_extract rfl rfl) rfl ?_
        refine o_val (v_extract rfl rfl) rfl ?_
        refine o_val (v_assign rfl) rfl ?_
        refine o_val (v_assign rfl) rfl ?_
        refine o_nil ?_
        refine thn_n ?_
        rcases (Classical.em (HuffP.newE (l.drop (InfP.hL B a)) = 0)) with hc2 | hc2
        ·
         refine w_seq ?_
         refine w_region ?_
         refine o_val (v_move rfl) rfl ?_
         refine o_val (v_move rfl) rfl ?_
         refine o_val (v_slice (InfP.hL B a) _ _ V.sl30 rfl ⟨_, rfl⟩ ⟨rfl, rfl⟩ rfl (by omega) (by omega) (by omega)) rfl ?_
         refine o_call (d_newY (subP q (InfP.hL B a) c 1) (l.length - (InfP.hL B a)) (c - (InfP.hL B a)) (l.drop (InfP.hL B a)) (Row I3 q l.length c l) (by rw [List.length_drop]) (fun _ _ hh => row_drop rfl (by omega) hcap hh) hc2) V.b36  rfl (.cons (by repeat first | exact .head | apply Rem.tail) .nil) rfl ?_
         rintro _ _ ⟨x28, rfl, rfl⟩
         refine o_val (v_move rfl) rfl ?_
         refine o_val (v_extract rfl rfl) rfl ?_
         refine o_val (v_extract rfl rfl) rfl ?_
         refine o_val (v_assign rfl) rfl ?_
         refine o_val (v_assign rfl) rfl ?_
         refine o_nil ?_
         refine thn_n ?_
         refine w_seq ?_
         refine w_seq ?_
         refine w_region ?_
         refine o_val (v_move rfl) rfl ?_
         refine o_val (v_F (v_neq rfl rfl) (by decide)) rfl ?_
         refine o_val (v_move rfl) rfl ?_
         refine o_want rfl ?_
         refine o_val (v_move rfl) rfl ?_
         refine o_want rfl ?_
         refine o_val (v_F (v_neq rfl rfl) (by decide)) rfl ?_
         refine o_val (v_pickF rfl rfl) rfl ?_
         refine o_nil ?_
         refine thn_n ?_
         refine w_condF rfl ?_
         refine w_skip ?_
         refine thn_n ?_
         refine w_seq ?_
         refine w_region ?_
         refine o_val (v_move rfl) rfl ?_
         refine o_val (v_move rfl) rfl ?_
         refine o_val (v_assign rfl) rfl ?_
         refine o_val (v_assign rfl) rfl ?_
         refine o_val (v_assign rfl) rfl ?_
         refine o_nil ?_
         refine thn_n ?_
         refine w_ret ?_
         obtain rfl := ho.symm.trans (InfP.told_7 h14 ⟨hq1, hq2⟩ hta hy hz hc1 hc2 (show I3.g l 256 ≠ 0 by omega))
         exact ret_ok (G := [Cel b 52 [.slice p B.length cap, .int .i64 (x : Int), .bool false, .bool sh], R, RC x27 (l.take (InfP.hL B a)), RC x28 (l.drop (InfP.hL B a))]) (res3 rfl rfl rfl) ⟨x27, x28, sh, rfl, rfl⟩ (sub (.cons (by repeat first | exact .head | apply Rem.tail) (.cons (by repeat first | exact .head | apply Rem.tail) (.cons (by repeat first | exact .head | apply Rem.tail) (.cons (by repeat first | exact .head | apply Rem.tail) .nil)))) (by repeat first | exact .refl | apply Drop.skip))
        ·
         refine w_seq ?_
         refine w_region ?_
         refine o_val (v_move rfl) rfl ?_
         refine o_val (v_move rfl) rfl ?_
         refine o_val (v_slice (InfP.hL B a) _ _ V.sl30 rfl ⟨_, rfl⟩ ⟨rfl, rfl⟩ rfl (by omega) (by omega) (by omega)) rfl ?_
         refine o_call (d_newX (subP q (InfP.hL B a) c 1) (l.length - (InfP.hL B a)) (c - (InfP.hL B a)) (l.drop (InfP.hL B a)) (Row I3 q l.length c l) (by rw [List.length_drop]) (fun _ _ hh => row_drop rfl (by omega) hcap hh) hc2) V.b36  rfl (.cons (by repeat first | exact .head | apply Rem.tail) .nil) rfl ?_
         rintro _ _ ⟨rfl, rfl⟩
         refine o_val (v_move rfl) rfl ?_
         refine o_val (v_extract rfl rfl) rfl ?_
         refine o_val (v_extract rfl rfl) rfl ?_
         refine o_val (v_assign rfl) rfl ?_
         refine o_val (v_assign rfl) rfl ?_
         refine o_nil ?_
         refine thn_n ?_
         refine w_seq ?_
         refine w_seq ?_
         refine w_region ?_
         refine o_val (v_move rfl) rfl ?_
         refine o_val (v_F (v_neq rfl rfl) (by decide)) rfl ?_
         refine o_val (v_move rfl) rfl ?_
         refine o_want rfl ?_
         refine o_val (v_move rfl) rfl ?_
         refine o_want rfl ?_
         refine o_val (v_T (v_neq rfl rfl) hc2) rfl ?_
         refine o_val (v_pickF rfl rfl) rfl ?_
         refine o_nil ?_
         refine thn_n ?_
         refine w_condT rfl ?_
         refine w_seq ?_
         refine w_region ?_
         refine o_val (v_assign rfl) rfl ?_
         refine o_val (v_assign rfl) rfl ?_
         refine o_val (v_assign rfl) rfl ?_
         refine o_nil ?_
         refine thn_n ?_
         refine w_ret ?_
         refine (thn_r ?_)
         obtain rfl : o = .error 4 := ho.symm.trans (by first | exact (InfP.told_6 h14 ⟨hq1, hq2⟩ hta hy hz (.inl hc1)) | exact (InfP.told_6 h14 ⟨hq1, hq2⟩ hta hy hz (.inr (.inl hc2))))
         exact ret_ok (G := [R]) (res3 rfl rfl rfl) ⟨rfl, rfl⟩ (sub (.cons (by repeat first | exact .head | apply Rem.tail) .nil) (by repeat first | exact .refl | apply Drop.skip))
       ·
        refine w_seq ?_
        refine w_region ?_
        refine o_val (v_move rfl) rfl ?_
        refine o_val (v_move rfl) rfl ?_
        refine o_val (v_slice0 (InfP.hL B a) _ V.sl30 rfl ⟨_, rfl⟩ rfl (by omega) (by omega)) rfl ?_
        refine o_call (d_newX q (InfP.hL B a) c (l.take (InfP.hL B a)) (Row I3 q l.length c l) (by rw [List.length_take]; omega) (fun _ _ hh => row_take rfl (by omega) hh) hc1) V.b36  rfl (.cons (by repeat first | exact .head | apply Rem.tail) .nil) rfl ?_
        rintro _ _ ⟨rfl, rfl⟩
        refine o_val (v_move rfl) rfl ?_
        refine o_val (v_extract rfl rfl) rfl ?_
        refine o_val (v_extract rfl rfl) rfl ?_
        refine o_val (v_assign rfl) rfl ?_
        refine o_val (v_assign rfl) rfl ?_
        refine o_nil ?_
        refine thn_n ?_
        rcases (Classical.em (HuffP.newE (l.drop (InfP.hL B a)) = 0)) with hc2 | hc2
        ·
         refine w_seq ?_
         refine w_region ?_
         refine o_val (v_move rfl) rfl ?_
         refine o_val (v_move rfl) rfl ?_
         refine o_val (v_slice (InfP.hL B a) _ _ V.sl30 rfl ⟨_, rfl⟩ ⟨rfl, rfl⟩ rfl (by omega) (by omega) (by omega)) rfl ?_
         refine o_call (d_newY (subP q (InfP.hL B a) c 1) (l.length - (InfP.hL B a)) (c - (InfP.hL B a)) (l.drop (InfP.hL B a)) (Row I3 q l.length c l) (by rw [List.length_drop]) (fun _ _ hh => row_drop rfl (by omega) hcap hh) hc2) V.b36  rfl (.cons (by repeat first | exact .head | apply Rem.tail) .nil) rfl ?_
         rintro _ _ ⟨x28, rfl, rfl⟩
         refine o_val (v_move rfl) rfl ?_
         refine o_val (v_extract rfl rfl) rfl ?_
         refine o_val (v_extract rfl rfl) rfl ?_
         refine o_val (v_assign rfl) rfl ?_
         refine o_val (v_assign rfl) rfl ?_
         refine o_nil ?_
         refine thn_n ?_
         refine w_seq ?_
         refine w_seq ?_
         refine w_region ?_
         refine o_val (v_move rfl) rfl ?_
         refine o_val (v_T (v_neq rfl rfl) hc1) rfl ?_
         refine o_val (v_move rfl) rfl ?_
         refine o_pass rfl rfl rfl ?_
         refine o_pass rfl rfl rfl ?_
         refine o_val (v_pickT rfl rfl) rfl ?_
         refine o_nil ?_
         refine thn_n ?_
         refine w_condT rfl ?_
         refine w_seq ?_
         refine w_region ?_
         refine o_val (v_assign rfl) rfl ?_
         refine o_val (v_assign rfl) rfl ?_
         refine o_val (v_assign rfl) rfl ?_
         refine o_nil ?_
         refine thn_n ?_
         refine w_ret ?_
         refine (thn_r ?_)
         obtain rfl : o = .error 4 := ho.symm.trans (by first | exact (InfP.told_6 h14 ⟨hq1, hq2⟩ hta hy hz (.inl hc1)) | exact (InfP.told_6 h14 ⟨hq1, hq2⟩ hta hy hz (.inr (.inl hc2))))
         exact ret_ok (G := [R]) (res3 rfl rfl rfl) ⟨rfl, rfl⟩ (sub (.cons (by repeat first | exact .head | apply Rem.tail) .nil) (by repeat first | exact .refl | apply Drop.skip))
        ·
         refine w_seq ?_
         refine w_region ?_
         refine o_val (v_move rfl) rfl ?_
         refine o_val (v_move rfl) rfl ?_
         refine o_val (v_slice (InfP.hL B a) _ _ V.sl30 rfl ⟨_, rfl⟩ ⟨rfl, rfl⟩ rfl (by omega) (by omega) (by omega)) rfl ?_
         refine o_call (d_newX (subP q (InfP.hL B a) c 1) (l.length - (InfP.hL B a)) (c - (InfP.hL B a)) (l.drop (InfP.hL B a)) (Row I3 q l.length c l) (by rw [List.length_drop]) (fun _ _ hh => row_drop rfl (by omega) hcap hh) hc2) V.b36  rfl (.cons (by repeat first | exact .head | apply Rem.tail) .nil) rfl ?_
         rintro _ _ ⟨rfl, rfl⟩
         refine o_val (v_move rfl) rfl ?_
         refine o_val (v_extract rfl rfl) rfl ?_
         refine o_val (v_extract rfl rfl) rfl ?_
         refine o_val (v_assign rfl) rfl ?_
         refine o_val (v_assign rfl) rfl ?_
         refine o_nil ?_
         refine thn_n ?_
         refine w_seq ?_
         refine w_seq ?_
         refine w_region ?_
         refine o_val (v_move rfl) rfl ?_
         refine o_val (v_T (v_neq rfl rfl) hc1) rfl ?_
         refine o_val (v_move rfl) rfl ?_
         refine o_pass rfl rfl rfl ?_
         refine o_pass rfl rfl rfl ?_
         refine o_val (v_pickT rfl rfl) rfl ?_
         refine o_nil ?_
         refine thn_n ?_
         refine w_condT rfl ?_
         refine w_seq ?_
         refine w_region ?_
         refine o_val (v_assign rfl) rfl ?_
         refine o_val (v_assign rfl) rfl ?_
         refine o_val (v_assign rfl) rfl ?_
         refine o_nil ?_
         refine thn_n ?_
         refine w_ret ?_
         refine (thn_r ?_)
         obtain rfl : o = .error 4 := ho.symm.trans (by first | exact (InfP.told_6 h14 ⟨hq1, hq2⟩ hta hy hz (.inl hc1)) | exact (InfP.told_6 h14 ⟨hq1, hq2⟩ hta hy hz (.inr (.inl hc2))))
         exact ret_ok (G := [R]) (res3 rfl rfl rfl) ⟨rfl, rfl⟩ (sub (.cons (by repeat first | exact .head | apply Rem.tail) .nil) (by repeat first | exact .refl | apply Drop.skip))
    ·
     refine w_seq ?_
     have hkC : k = InfP.hC B a := by omega
     rw [show InfP.frs B (a + 14) k = InfP.toldC B a from by rw [hkC]; exact (InfP.toldC_eq B a).symm, show ((a : Int) + 14 + 3 * (k : Int)) = ((InfP.toldA B a : Nat) : Int) from by omega]
     have hta : InfP.toldA B a ≤ 8 * B.length := by omega
     refine w_region ?_
     refine o_val (v_move rfl) rfl ?_
     refine o_call (d_newX (some ⟨b61, 0, none⟩) 19 19 (InfP.toldC B a) (Row I3 (some ⟨b61, 0, none⟩) 19 19 (InfP.toldC B a)) (InfP.toldC_len B a).symm (fun _ _ hh => row_rd (InfP.toldC_len B a).symm hh) hy) V.b36  rfl (.cons (by repeat first | exact .head | apply Rem.tail) .nil) rfl ?_
     rintro _ _ ⟨rfl, rfl⟩
     refine o_val (v_move rfl) rfl ?_
     refine o_val (v_extract rfl rfl) rfl ?_
     refine o_val (v_extract rfl rfl) rfl ?_
     refine o_val (v_assign rfl) rfl ?_
     refine o_val (v_assign rfl) rfl ?_
     refine o_nil ?_
     refine thn_n ?_
     refine w_seq ?_
     refine w_seq ?_
     refine w_region ?_
     refine o_val (v_move rfl) rfl ?_
     refine o_val (v_T (v_neq rfl rfl) hy) rfl ?_
     refine o_nil ?_
     refine thn_n ?_
     refine w_condT rfl ?_
     refine w_seq ?_
     refine w_region ?_
     refine o_val (v_assign rfl) rfl ?_
     refine o_val (v_assign rfl) rfl ?_
     refine o_val (v_assign rfl) rfl ?_
     refine o_nil ?_
     refine thn_n ?_
     refine w_ret ?_
     refine (thn_r ?_)
     obtain rfl : o = .error 4 := ho.symm.trans (InfP.told_4 h14 ⟨hq1, hq2⟩ hta hy)
     exact ret_ok (G := [R]) (res3 rfl rfl rfl) ⟨rfl, rfl⟩ (sub (.cons (by repeat first | exact .head | apply Rem.tail) .nil) (by repeat first | exact .refl | apply Drop.skip))
  ·
   refine w_seq ?_
   refine w_seq ?_
   have h14 : a + 14 ≤ 8 * B.length := by omega
   rw [show BitP.numL B a 5 + 257 = (InfP.hL B a : Int) from by omega, show BitP.numL B (a + 5) 5 + 1 = (InfP.hD B a : Int) from by omega, show BitP.numL B (a + 10) 4 + 4 = (InfP.hC B a : Int) from by omega]
   refine w_region ?_
   refine o_val (v_move rfl) rfl ?_
   refine o_val (v_F (v_gtr rfl rfl) (by omega)) rfl ?_
   refine o_val (v_move rfl) rfl ?_
   refine o_want rfl ?_
   refine o_val (v_move rfl) rfl ?_
   refine o_want rfl ?_
   refine o_val (v_T (v_gtr rfl rfl) (by omega)) rfl ?_
   refine o_val (v_pickF rfl rfl) rfl ?_
   refine o_nil ?_
   refine thn_n ?_
   refine w_condT rfl ?_
   refine w_seq ?_
   refine w_region ?_
   refine o_val (v_assign rfl) rfl ?_
   refine o_val (v_assign rfl) rfl ?_
   refine o_val (v_assign rfl) rfl ?_
   refine o_nil ?_
   refine thn_n ?_
   refine w_ret ?_
   refine (thn_r ?_)
   obtain rfl : o = .error 4 := ho.symm.trans (InfP.told_2 h14 (by omega))
   exact ret_ok (G := [R]) (res3 rfl rfl rfl) ⟨rfl, rfl⟩ (sub (.cons (by repeat first | exact .head | apply Rem.tail) .nil) (by repeat first | exact .refl | apply Drop.skip))
  ·
   refine w_seq ?_
   refine w_seq ?_
   have h14 : a + 14 ≤ 8 * B.length := by omega
   rw [show BitP.numL B a 5 + 257 = (InfP.hL B a : Int) from by omega, show BitP.numL B (a + 5) 5 + 1 = (InfP.hD B a : Int) from by omega, show BitP.numL B (a + 10) 4 + 4 = (InfP.hC B a : Int) from by omega]
   refine w_region ?_
   refine o_val (v_move rfl) rfl ?_
   refine o_val (v_T (v_gtr rfl rfl) (by omega)) rfl ?_
   refine o_val (v_move rfl) rfl ?_
   refine o_pass rfl rfl rfl ?_
   refine o_pass rfl rfl rfl ?_
   refine o_val (v_pickT rfl rfl) rfl ?_
   refine o_nil ?_
   refine thn_n ?_
   refine w_condT rfl ?_
   refine w_seq ?_
   refine w_region ?_
   refine o_val (v_assign rfl) rfl ?_
   refine o_val (v_assign rfl) rfl ?_
   refine o_val (v_assign rfl) rfl ?_
   refine o_nil ?_
   refine thn_n ?_
   refine w_ret ?_
   refine (thn_r ?_)
   obtain rfl : o = .error 4 := ho.symm.trans (InfP.told_2 h14 (by omega))
   exact ret_ok (G := [R]) (res3 rfl rfl rfl) ⟨rfl, rfl⟩ (sub (.cons (by repeat first | exact .head | apply Rem.tail) .nil) (by repeat first | exact .refl | apply Drop.skip))
end Go.Proofs.Ytoplcgkafaoafaa

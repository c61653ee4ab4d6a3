/- Walks of functions that the law reaches, and what they lean on; no conditions. -/
import Derived.Test.YtmbljkghkcgejaaGreatM30
import Derived.Test.YtmbljkghkcgejaaGreatSl22
import Derived.KernelRfl
import Derived.Test.YtmbljkghkcgejaaGreatM43
import Derived.Test.YtmbljkghkcgejaaGreatM33
set_option linter.unusedVariables false
set_option linter.unusedSimpArgs false
set_option maxRecDepth 100000
namespace Go.Proofs.YtmbljkghkcgejaaGreat
open Go.Sl 
theorem TTZiY : okT Tryz.prog ⟨[], [(59, 1, 1)]⟩ = true := by kernel_rfl
attribute [local irreducible] HuffP.newE HuffP.tk HuffP.ord HuffP.cntL HuffP.words HuffP.mostL InfP.frs InfP.toldC InfP.toldN InfP.toldA InfP.hL InfP.hD InfP.hC InfP.lnGo InfP.told InfP.fixL InfP.codeE InfP.rep InfP.lenE InfP.awayE InfP.sym InfP.alg BitP.numL InfP.coded InfP.begin_ InfP.one InfP.put_ InfP.lnB InfP.dsB InfP.lnM InfP.dsM
theorem d_align (b : Nat) (p : Option Addr) (cap : Nat) (B : List Int) (sh : Bool) (a : Nat) (hl : B.length < 500000000) (ha : a ≤ 8 * B.length) : Ctr Tryz.prog 44 [.pointer (some ⟨b, 0, none⟩)] [Cel b 59 [.slice p B.length cap, .int .i64 (a : Int), .bool false, .bool sh]] (Ret fun v G => v = .tuple #[] ∧ G = [Cel b 59 [.slice p B.length cap, .int .i64 ((InfP.alg a) : Int), .bool false, .bool sh]]) := by
 refine spec_of [(0, _)] Tryz.func44 rfl Tryz.ntmps44 rfl rfl ?_
 intro w0 F
 refine rT TTZiY 5 rfl ?_
 refine oV (v_load V.s3 rfl mm0 rfl) ?_
 refine rOs TTZiY 1 rfl (by omega) ?_
 refine oV (v_quo rfl rfl (by omega) (quoI (by omega) (by omega) (by omega))) ?_
 refine rOs TTZiY 3 rfl (by omega) ?_
 refine o_eff (v_store V.s3 rfl rfl rfl (by exact pp0) (by exact Nat.le_of_ble_eq_true rfl) rfl) ?_
 refine o_nil ?_
 rw [show ((a : Int) + 7) / 8 * 8 = ((InfP.alg a : Nat) : Int) from by rw [InfP.alg_eq]; omega]
 exact end_ok res0 ⟨rfl, rfl⟩ (sub (rz1 .nil) dd0)
theorem d_lenNo (s : Int) (h : 257 ≤ s ∧ s < 1000) (hx : 285 < s) : Ctr Tryz.prog 47 [.int .i64 s] [] (Ret fun v G => v = .tuple #[.int .i64 0, .int .i64 0, .bool false] ∧ G = []) := by
 refine spec_of [(0, _)] Tryz.func47 rfl Tryz.ntmps47 rfl rfl ?_
 intro w0 F
 refine rT TTZiY 9 rfl ?_
 refine r_build (I3) InfP.baseT V.sl77 V.z3 rfl rfl rfl rfl rfl rfl ?_
 intro b7
 refine rO TTZiY 5 rfl ?_
 refine r_build (I3) InfP.moreT V.sl77 V.z3 rfl rfl rfl rfl rfl rfl ?_
 intro b8
 refine rO TTZiY 7 rfl ?_
 refine oV (v_F (v_lss rfl rfl) (by omega)) ?_
 refine rO TTZiY 2 rfl ?_
 refine o_want rfl ?_
 refine oV (v_T (v_gtr rfl rfl) hx) ?_
 refine rO TTZiY 13 rfl ?_
 exact ret_ok (res3 rfl rfl rfl) ⟨rfl, rfl⟩ (sub .nil dd2)
set_option maxHeartbeats 1000000 in
theorem d_lenYes (s : Int) (h : 257 ≤ s ∧ s ≤ 285) : Ctr Tryz.prog 47 [.int .i64 s] [] (Ret fun v G => v = .tuple #[.int .i64 (InfP.lnB (s - 257)), .int .i64 (InfP.lnM (s - 257) : Int), .bool true] ∧ G = []) := by
 refine spec_of [(0, _)] Tryz.func47 rfl Tryz.ntmps47 rfl rfl ?_
 intro w0 F
 refine rT TTZiY 9 rfl ?_
 refine r_build (I3) InfP.baseT V.sl77 V.z3 rfl rfl rfl rfl rfl rfl ?_
 intro b7
 refine rO TTZiY 5 rfl ?_
 refine r_build (I3) InfP.moreT V.sl77 V.z3 rfl rfl rfl rfl rfl rfl ?_
 intro b8
 refine rO TTZiY 7 rfl ?_
 refine oV (v_F (v_lss rfl rfl) (by omega)) ?_
 refine rO TTZiY 2 rfl ?_
 refine o_want rfl ?_
 refine oV (v_F (v_gtr rfl rfl) (by omega)) ?_
 refine rO TTZiY 7 rfl ?_
 have hb := InfP.base_at (s := s - 257) (by omega)
 have hb1 : I3.g InfP.baseT (s - 257) = InfP.lnB (s - 257) := hb.1
 have hb2 : I3.g InfP.moreT (s - 257) = (InfP.lnM (s - 257) : Int) := hb.2
 refine wN [pz 0 [] [5], pz 0 [] [0], pz 2 [1] [], pz 7 [0, 2] [], pz 15 [3] [], pz 0 [] [6], pz 0 [] [0], pz 64 [6] [], pz 224 [5, 7] [], pz 480 [8] [], pz 31 [4] [], pz 2047 [9] [], pz 4095 [] []] [⟨fun y => Row I3 (some ⟨b8, 0, none⟩) 29 29 InfP.moreT, none, none, [8, 9]⟩, ⟨fun y => Row I3 (some ⟨b7, 0, none⟩) 29 29 InfP.baseT, none, none, [3, 4]⟩] F V.mixed ?_
 iterate 2 refine nM ?_
 refine nV (fun y hA L => v_sub rfl rfl wI) ?_
 refine nR (fun y FF hA => xI V.sl77 (own mm0)) ?_
 refine nR (fun y FF hA => xL V.s3 (own mm0)) ?_
 iterate 2 refine nM ?_
 refine nV (fun y hA L => v_sub rfl rfl wI) ?_
 refine nR (fun y FF hA => xI V.sl77 (own mm0)) ?_
 refine nR (fun y FF hA => xL V.s3 (own mm0)) ?_
 iterate 3 refine nA ?_
 refine net_nil ?_
 intro y hA
 clear hA
 refine thn_n ?_
 refine w_keep _ (.cons (d := 2) rfl (.cons (d := 3) rfl (.cons (d := 4) rfl (.nil _)))) ?_
 refine w_sub (M := Row I3 (some ⟨b8, 0, none⟩) 29 29 InfP.moreT :: Row I3 (some ⟨b7, 0, none⟩) 29 29 InfP.baseT :: F) (fun _ _ h => h) ?_
 refine w_sub (sub .nil (.skip (.skip .refl))) ?_
 simp only [List.nil_append]
 refine rC TTZiY 1 rfl ?_
 rw [hb1, hb2]
 exact ret_ok (res3 rfl rfl rfl) ⟨rfl, rfl⟩ (sub .nil dd0)
theorem d_distNo (s : Int) (h : 0 ≤ s ∧ s < 1000) (hx : 29 < s) : Ctr Tryz.prog 48 [.int .i64 s] [] (Ret fun v G => v = .tuple #[.int .i64 0, .int .i64 0, .bool false] ∧ G = []) := by
 refine spec_of [(0, _)] Tryz.func48 rfl Tryz.ntmps48 rfl rfl ?_
 intro w0 F
 refine rT TTZiY 11 rfl ?_
 refine oV (v_F (v_lss rfl rfl) (by omega)) ?_
 refine rO TTZiY 2 rfl ?_
 refine o_want rfl ?_
 refine oV (v_T (v_gtr rfl rfl) hx) ?_
 refine rO TTZiY 13 rfl ?_
 exact ret_ok (res3 rfl rfl rfl) ⟨rfl, rfl⟩ (sub .nil dd0)
set_option maxHeartbeats 1000000 in
theorem d_distYes (s : Int) (h : 0 ≤ s ∧ s ≤ 29) : Ctr Tryz.prog 48 [.int .i64 s] [] (Ret fun v G => v = .tuple #[.int .i64 (InfP.dsB s), .int .i64 (InfP.dsM s : Int), .bool true] ∧ G = []) := by
 refine spec_of [(0, _)] Tryz.func48 rfl Tryz.ntmps48 rfl rfl ?_
 intro w0 F
 refine rT TTZiY 11 rfl ?_
 refine oV (v_F (v_lss rfl rfl) (by omega)) ?_
 refine rO TTZiY 2 rfl ?_
 refine o_want rfl ?_
 refine oV (v_F (v_gtr rfl rfl) (by omega)) ?_
 refine rO TTZiY 13 rfl ?_
 refine w_condD rfl (fun h13 => ?_) (fun h13 => ?_)
 ·refine rCs TTZiY 11 rfl (by omega) ?_
  rw [InfP.dsB_few (by omega), InfP.dsM_few (by omega), Int.add_comm 1 s]
  exact ret_ok (res3 rfl rfl rfl) ⟨rfl, rfl⟩ (sub .nil dd0)
 ·refine rC TTZiY 5 rfl ?_
  refine oV (v_quo rfl rfl (by omega) (quoI (by omega) (by omega) (by omega))) ?_
  refine rOs TTZiY 5 rfl (by omega) ?_
  obtain ⟨hk1, hk2, hk3⟩ := InfP.dsK_le (s := s) (by omega) (by omega)
  have hsh := InfP.shl_small (x := 2 + s % 2) (n := InfP.dsK s) (by omega) (by omega) (by omega) rfl
  rw [hk1]
  refine rC TTZiY 2 rfl ?_
  refine oV (v_rem rfl rfl (by omega) (remI (by omega))) ?_
  refine rOs TTZiY 2 rfl (by omega) ?_
  refine oV (v_conv V.u3 Tryz.underlying38 rfl (wrapU (by omega) (by omega))) ?_
  refine oV (v_shl (r := (2 + s % 2) * 2 ^ InfP.dsK s) rfl rfl (by omega) hsh.1) ?_
  refine rOs TTZiY 8 rfl (by omega) ?_
  rw [InfP.dsB_k (by omega), InfP.dsM_k (by omega), Int.add_comm 1 _]
  exact ret_ok (res3 rfl rfl rfl) ⟨rfl, rfl⟩ (sub .nil dd0)
section
variable (b2 : Nat) (ls : List Int) (b : Nat) (p : Option Addr) (cap : Nat) (B : List Int) (R : HProp) (hR : ∀ w0 h, R w0 h → RdR U5 p B.length B w0 h) (sh : Bool) (a : Nat) (hE : HuffP.newE ls = 0) (hl : B.length < 500000000) (hB : BitP.Byt B) (ha : a ≤ 8 * B.length)
include hR hE hl hB ha
theorem d_symY {s : Int} {a' : Nat} (hs : InfP.sym ls B a = .ok (s, a')) : Ctr Tryz.prog 46 [.pointer (some ⟨b2, 0, none⟩), .pointer (some ⟨b, 0, none⟩)] [RC b2 ls, Cel b 59 [.slice p B.length cap, .int .i64 (a : Int), .bool false, .bool sh], R] (Ret fun v G => v = .tuple #[.int .i64 s, .int .i64 0] ∧ G = [RC b2 ls, Cel b 59 [.slice p B.length cap, .int .i64 (a' : Int), .bool false, .bool sh], R]) := (r_take b2 ls b p cap B R hR a sh hE hl hB ha).mono fun e G h => by
 unfold InfP.sym at hs
 rcases h with ⟨v, rfl, ⟨n, s', h, rfl, rfl⟩ | ⟨n, h, rfl, rfl⟩ | ⟨n, h, rfl, rfl⟩⟩
 ·rw [h] at hs; cases hs; exact ⟨_, rfl, rfl, rfl⟩
 ·rw [h] at hs; cases hs
 ·rw [h] at hs; cases hs
theorem d_symE {e : Int} (hs : InfP.sym ls B a = .error e) : Ctr Tryz.prog 46 [.pointer (some ⟨b2, 0, none⟩), .pointer (some ⟨b, 0, none⟩)] [RC b2 ls, Cel b 59 [.slice p B.length cap, .int .i64 (a : Int), .bool false, .bool sh], R] (Ret fun v G => v = .tuple #[.int .i64 0, .int .i64 e] ∧ ∃ n sh', G = [RC b2 ls, Cel b 59 [.slice p B.length cap, .int .i64 ((n : Nat) : Int), .bool false, .bool sh'], R]) := (r_take b2 ls b p cap B R hR a sh hE hl hB ha).mono fun e G h => by
 unfold InfP.sym at hs
 rcases h with ⟨v, rfl, ⟨n, s', h, rfl, rfl⟩ | ⟨n, h, rfl, rfl⟩ | ⟨n, h, rfl, rfl⟩⟩
 ·rw [h] at hs; cases hs
 ·rw [h] at hs; cases hs; exact ⟨_, rfl, rfl, _, _, rfl⟩
 ·rw [h] at hs; cases hs; exact ⟨_, rfl, rfl, _, _, rfl⟩
end
end Go.Proofs.YtmbljkghkcgejaaGreat
namespace Go.Proofs.YtmbljkghkcgejaaGreat
open Go.Sl 
theorem TTZiZ : okT Tryz.prog ⟨[22], []⟩ = true := by kernel_rfl
attribute [local irreducible] HuffP.newE HuffP.tk HuffP.ord HuffP.cntL HuffP.words HuffP.mostL InfP.frs InfP.toldC InfP.toldN InfP.toldA InfP.hL InfP.hD InfP.hC InfP.lnGo InfP.told InfP.fixL InfP.codeE InfP.rep InfP.lenE InfP.awayE InfP.sym InfP.alg BitP.numL InfP.coded InfP.begin_ InfP.one InfP.put_ InfP.lnB InfP.dsB InfP.lnM InfP.dsM
def PO (b : Nat) (p : Option Addr) (cap : Nat) (B : List Int) (R : HProp) : Except Int InfP.St → Value → List HProp → Prop
 | .error e, v, G => v = .tuple #[.slice none 0 0, .int .i64 e] ∧ G = [R]
 | .ok S, v, G => ∃ q c sh, v = .tuple #[.slice q S.out.length c, .int .i64 0] ∧ G = [Cel b 59 [.slice p B.length cap, .int .i64 (S.at_ : Int), .bool false, .bool sh], R, Row U5 q S.out.length c S.out]
theorem d_newY (p : Option Addr) (n cap : Nat) (ls : List Int) (R : HProp) (hn : n = ls.length) (hR : ∀ w0 h, R w0 h → RdR I3 p ls.length ls w0 h) (hE : HuffP.newE ls = 0) : Ctr Tryz.prog 45 [.slice p n cap] [R] (Ret fun v G => ∃ b, v = .tuple #[.pointer (some ⟨b, 0, none⟩), .int .i64 0] ∧ G = [RC b ls, R]) := by subst hn; exact r_new_yes p cap ls R hR hE
theorem d_newX (p : Option Addr) (n cap : Nat) (ls : List Int) (R : HProp) (hn : n = ls.length) (hR : ∀ w0 h, R w0 h → RdR I3 p ls.length ls w0 h) (hE : HuffP.newE ls ≠ 0) : Ctr Tryz.prog 45 [.slice p n cap] [R] (Ret fun v G => v = .tuple #[.pointer none, .int .i64 (HuffP.newE ls)] ∧ G = [R]) := by subst hn; exact r_new_no p cap ls R hR hE
set_option maxHeartbeats 4000000 in
theorem d_stored (b : Nat) (p : Option Addr) (cap : Nat) (B : List Int) (R : HProp) (hR : ∀ w0 h, R w0 h → RdR U5 p B.length B w0 h) (sh : Bool) (S : InfP.St) (mo : Int) (po : Option Addr) (co : Nat) (hl : B.length < 500000000) (hB : BitP.Byt B) (hm : 0 ≤ mo ∧ mo < 500000000) (hok : InfP.Ok B mo S) (o : Except Int InfP.St) (hk1 : S.kind = -1) (hc1 : S.copies = 0) (he1 : S.ended = false) (hr1 : S.at_ + 3 ≤ 8 * B.length) (h01 : BitP.numL B (S.at_ + 1) 2 = 0) (hbo : InfP.BO B mo S o) : Ctr Tryz.prog 29 [.pointer (some ⟨b, 0, none⟩), .slice po S.out.length co, .int .i64 mo] [Cel b 59 [.slice p B.length cap, .int .i64 ((S.at_ + 3) : Int), .bool false, .bool sh], R, Row U5 po S.out.length co S.out] (Ret fun v G => PO b p cap B R o v G) := by
 refine spec_of [(0, _), (1, _), (2, _)] Tryz.func29 rfl Tryz.ntmps29 rfl rfl ?_
 intro w0 F
 have hal := InfP.alg_le (n := B.length) hr1
 have hb1 := BitP.numL_bound B (InfP.alg (S.at_ + 3)) 16
 have hb2 := BitP.numL_bound B (InfP.alg (S.at_ + 3) + 16) 16
 refine rT TTZiZ 9 rfl ?_
 refine o_call (d_align b p cap B sh (S.at_ + 3) hl hr1) V.b44  rfl (rz1 .nil) rfl ?_
 rintro _ _ ⟨rfl, rfl⟩
 refine rO TTZiZ 6 rfl ?_
 refine o_call (d_Left b p cap B R hR (InfP.alg (S.at_ + 3)) sh hl (by omega)) V.b27  rfl (rz2 .nil) rfl ?_
 rintro _ _ ⟨rfl, rfl⟩
 refine rO TTZiZ 3 rfl ?_
 refine w_condD rfl (fun h19 => ?_) (fun h19 => ?_)
 ·refine rC TTZiZ 8 rfl ?_
  obtain rfl := hbo.err (InfP.beg_0s hr1 h01 (by omega))
  exact ret_ok (res2 rfl rfl) ⟨rfl, rfl⟩ (sub (.cons rr1 .nil) dd2)
 ·refine rC TTZiZ 5 rfl ?_
  refine o_call (d_take b p cap B R hR (InfP.alg (S.at_ + 3)) sh 16 hl hB (by omega) (by omega)) V.b28  rfl (rz2 .nil) rfl ?_
  rintro _ _ ⟨rfl, rfl⟩
  refine rO TTZiZ 10 rfl ?_
  refine o_call (d_take b p cap B R hR (InfP.alg (S.at_ + 3) + 16) sh 16 hl hB (by omega) (by omega)) V.b28  rfl (rz2 .nil) rfl ?_
  rintro _ _ ⟨rfl, rfl⟩
  refine rOs TTZiZ 16 rfl (by omega) ?_
  refine w_condD rfl (fun h33 => ?_) (fun h33 => ?_)
  ·refine rC TTZiZ 8 rfl ?_
   obtain rfl := hbo.err (InfP.beg_0n hr1 h01 (by omega) (by omega))
   exact ret_ok (res2 rfl rfl) ⟨rfl, rfl⟩ (sub (.cons rr1 .nil) dd2)
  ·refine rC TTZiZ 4 rfl ?_
   have hbl := hbo.go (InfP.beg_0y hr1 h01 (by omega) (by omega))
   have hok1 := (InfP.one_good hB hok ((InfP.one_b (by omega) hk1).trans (InfP.beg_0y hr1 h01 (by omega) (by omega)))).ok
   refine rC TTZiZ 5 rfl ?_
   refine w_loop4 (fun (s : InfP.St) (i : Nat) (q : Option Addr) (c : Nat) => [(0, .pointer (some ⟨b, 0, none⟩)), (1, .slice q s.out.length c), (2, .int .i64 mo), (8, .int .i64 (BitP.numL B (InfP.alg (S.at_ + 3)) 16)), (12, .int .i64 (i : Int))]) (fun (s : InfP.St) (i : Nat) (q : Option Addr) (c : Nat) => Cel b 59 [.slice p B.length cap, .int .i64 (s.at_ : Int), .bool false, .bool sh] :: R :: Row U5 q s.out.length c s.out :: F) (fun (s : InfP.St) (i : Nat) (q : Option Addr) (c : Nat) => InfP.Bl B mo s o ∧ InfP.Ok B mo s ∧ s.kind = 0 ∧ s.copies = 0 ∧ (s.left : Int) + (i : Int) = (BitP.numL B (InfP.alg (S.at_ + 3)) 16)) (fun (s : InfP.St) (i : Nat) (q : Option Addr) (c : Nat) => s.left) (i4 ({ S with at_ := (InfP.alg (S.at_ + 3) + 32), kind := 0, left := (BitP.numL B (InfP.alg (S.at_ + 3)) 16).toNat, last := decide (BitP.numL B S.at_ 1 = 1) }) (0) (po) (co) ?_ (lc5 ln) (sub (rz3 .nil) dd0)) ?_
   ·exact ⟨hbl, hok1, rfl, hc1, by show (((BitP.numL B (InfP.alg (S.at_ + 3)) 16).toNat : Nat) : Int) + ((0 : Nat) : Int) = _; omega⟩
   intro s i q c
   rintro ⟨hbs, hok2, hk, hcs, hli⟩
   refine rL TTZiZ 8 rfl ?_
   refine w_condD rfl (fun h36 => ?_) (fun h36 => ?_)
   ·refine rC TTZiZ 6 rfl ?_
    have hat := hok2.at_
    have hro := hok2.room
    have hlf := hok2.left
    have hnb := BitP.numL_bound B s.at_ 8
    have hl0 : ¬ s.left = 0 := by omega
    refine rC TTZiZ 2 rfl ?_
    refine o_call (d_Left b p cap B R hR s.at_ sh hl (by omega)) V.b27  rfl (rz2 .nil) rfl ?_
    rintro _ _ ⟨rfl, rfl⟩
    refine rO TTZiZ 3 rfl ?_
    refine w_condD rfl (fun h41 => ?_) (fun h41 => ?_)
    ·refine rC TTZiZ 13 rfl ?_
     obtain rfl := hbs.err (fun h => absurd (hk.symm.trans h) (by decide)) (InfP.one_ls (by omega) (fun h => absurd (hk.symm.trans h) (by decide)) hk hl0 (by omega))
     exact ret_ok (res2 rfl rfl) ⟨rfl, rfl⟩ (sub (.cons rr1 .nil) dd2)
    ·refine rC TTZiZ 11 rfl ?_
     refine w_condD rfl (fun h45 => ?_) (fun h45 => ?_)
     ·refine rC TTZiZ 13 rfl ?_
      obtain rfl := hbs.err (fun h => absurd (hk.symm.trans h) (by decide)) ((InfP.one_lp (by omega) (fun h => absurd (hk.symm.trans h) (by decide)) hk hl0 (by omega)).trans (InfP.put_no (by show ¬ (s.out.length : Int) < mo; omega)))
      exact ret_ok (res2 rfl rfl) ⟨rfl, rfl⟩ (sub (.cons rr1 .nil) dd2)
     ·refine rC TTZiZ 5 rfl ?_
      refine o_call (d_take b p cap B R hR s.at_ sh 8 hl hB (by omega) (by omega)) V.b28  rfl (rz2 .nil) rfl ?_
      rintro _ _ ⟨rfl, rfl⟩
      refine rO TTZiZ 10 rfl ?_
      refine oV (v_conv V.u3 Tryz.underlying5 rfl (wrap8 (by omega) (by omega))) ?_
      refine r_build (U5) [(BitP.numL B s.at_ 8)] V.sl22 V.z5 rfl rfl rfl rfl rfl rfl ?_
      intro b54
      refine r_append (c := (U5)) V.sl22 V.z5 rfl rfl rfl rfl rr3 (own mm0) (by omega) rfl ?_
      intro p55 c55
      refine rOs TTZiZ 9 rfl (by omega) ?_
      have hone := InfP.one_ly (B := B) (mo := mo) (s := s) (by omega) (fun h => absurd (hk.symm.trans h) (by decide)) hk hl0 (by omega) (by omega)
      have hg2 := InfP.one_good hB hok2 hone
      rw [show s.out.length + 1 = (s.out ++ [(BitP.numL B s.at_ 8)]).length from by simp]
      refine j4 ({ s with at_ := s.at_ + 8, left := s.left - 1, out := s.out ++ [(BitP.numL B s.at_ 8)] }) (i + 1) (_) (_) ?_ (lc5 ln) (sub (.cons rr2 (.cons rr2 (rz1 .nil))) dd1)
      exact ⟨⟨hbs.next (fun h => absurd (hk.symm.trans h) (by decide)) hone, hg2.ok, hk, hcs, by show ((s.left - 1 : Nat) : Int) + ((i + 1 : Nat) : Int) = _; omega⟩, by show s.left - 1 < s.left; omega⟩
   ·refine rC TTZiZ 6 rfl ?_
    have hl0 : s.left = 0 := by omega
    refine rC TTZiZ 7 rfl ?_
    have hone := InfP.one_l0 (B := B) (mo := mo) (s := s) (by omega) (fun h => absurd (hk.symm.trans h) (by decide)) hk hl0
    obtain rfl := (hbs.next (fun h => absurd (hk.symm.trans h) (by decide)) hone).end_ rfl
    exact ret_ok (res2 rfl rfl) ⟨q, c, sh, rfl, rfl⟩ (sub (rz3 .nil) dd0)
set_option maxHeartbeats 1000000 in
theorem d_fixed  : Ctr Tryz.prog 30 [] [] (Ret fun v G => ∃ x y, v = .tuple #[.pointer (some ⟨x, 0, none⟩), .pointer (some ⟨y, 0, none⟩)] ∧ G = [RC x InfP.fixL, RC y InfP.fixD]) := by
 refine spec_of [] Tryz.func30 rfl Tryz.ntmps30 rfl rfl ?_
 intro w0 F
 refine rT TTZiZ 19 rfl ?_
 refine w_add0 (Row I3 none 0 0 []) (Row.nil _ _ _) ?_
 refine w_loop3 (fun (k : Nat) (q : Option Addr) (c : Nat) => [(2, .slice q k c), (3, .slice none 0 0), (4, .int .i64 (k : Int))]) (fun (k : Nat) (q : Option Addr) (c : Nat) => Row I3 q k c (InfP.fixL.take k) :: F) (fun (k : Nat) (q : Option Addr) (c : Nat) => k ≤ 288) (fun (k : Nat) (q : Option Addr) (c : Nat) => 288 - k) (i3 (0) (none) (0) ?_ (lc3 ln) (sub (rz1 .nil) dd0)) ?_
 ·exact Nat.zero_le _
 intro k q c
 rintro hk
 refine rL TTZiZ 7 rfl ?_
 refine w_condD rfl (fun h11 => ?_) (fun h11 => ?_)
 ·refine rC TTZiZ 12 rfl ?_
  refine w_condD rfl (fun h17 => ?_) (fun h17 => ?_)
  ·refine rC TTZiZ 2 rfl ?_
   refine r_build (I3) [8] V.sl77 V.z3 rfl rfl rfl rfl rfl rfl ?_
   intro b21
   refine r_append (c := (I3)) V.sl77 V.z3 rfl rfl rfl rfl rr1 (own mm0) (by omega) rfl ?_
   intro p22 c22
   refine rOs TTZiZ 10 rfl (by omega) ?_
   (rw [InfP.fixL_8 (k := k) (by omega)]; refine j3 (k + 1) _ _ ?_ (lc3 ln) (sub (rz1 .nil) dd1); exact ⟨by omega, by omega⟩)
  ·refine rC TTZiZ 7 rfl ?_
   refine w_condD rfl (fun h23 => ?_) (fun h23 => ?_)
   ·refine rC TTZiZ 2 rfl ?_
    refine r_build (I3) [9] V.sl77 V.z3 rfl rfl rfl rfl rfl rfl ?_
    intro b27
    refine r_append (c := (I3)) V.sl77 V.z3 rfl rfl rfl rfl rr1 (own mm0) (by omega) rfl ?_
    intro p28 c28
    refine rOs TTZiZ 10 rfl (by omega) ?_
    (rw [InfP.fixL_9 (k := k) (by omega)]; refine j3 (k + 1) _ _ ?_ (lc3 ln) (sub (rz1 .nil) dd1); exact ⟨by omega, by omega⟩)
   ·refine rC TTZiZ 7 rfl ?_
    refine w_condD rfl (fun h29 => ?_) (fun h29 => ?_)
    ·refine rC TTZiZ 2 rfl ?_
     refine r_build (I3) [7] V.sl77 V.z3 rfl rfl rfl rfl rfl rfl ?_
     intro b33
     refine r_append (c := (I3)) V.sl77 V.z3 rfl rfl rfl rfl rr1 (own mm0) (by omega) rfl ?_
     intro p34 c34
     refine rOs TTZiZ 10 rfl (by omega) ?_
     (rw [InfP.fixL_7 (k := k) (by omega)]; refine j3 (k + 1) _ _ ?_ (lc3 ln) (sub (rz1 .nil) dd1); exact ⟨by omega, by omega⟩)
    ·refine rC TTZiZ 2 rfl ?_
     refine r_build (I3) [8] V.sl77 V.z3 rfl rfl rfl rfl rfl rfl ?_
     intro b15
     refine r_append (c := (I3)) V.sl77 V.z3 rfl rfl rfl rfl rr1 (own mm0) (by omega) rfl ?_
     intro p16 c16
     refine rOs TTZiZ 10 rfl (by omega) ?_
     (rw [InfP.fixL_8b (k := k) (by omega)]; refine j3 (k + 1) _ _ ?_ (lc3 ln) (sub (rz1 .nil) dd1); exact ⟨by omega, by omega⟩)
 ·refine rC TTZiZ 12 rfl ?_
  refine w_add0 (Row I3 none 0 0 (List.replicate 0 5)) (Row.nil _ _ _) ?_
  refine w_loop3 (fun (m : Nat) (q2 : Option Addr) (c2 : Nat) => [(2, .slice q k c), (3, .slice q2 m c2), (5, .int .i64 (m : Int))]) (fun (m : Nat) (q2 : Option Addr) (c2 : Nat) => Row I3 q2 m c2 (List.replicate m 5) :: Row I3 q k c (InfP.fixL.take k) :: F) (fun (m : Nat) (q2 : Option Addr) (c2 : Nat) => m ≤ 32) (fun (m : Nat) (q2 : Option Addr) (c2 : Nat) => 32 - m) (i3 (0) (none) (0) ?_ (lc3 ln) (sub (rz2 .nil) dd0)) ?_
  ·exact Nat.zero_le _
  intro m q2 c2
  rintro hm
  refine rL TTZiZ 7 rfl ?_
  refine w_condD rfl (fun h36 => ?_) (fun h36 => ?_)
  ·refine rC TTZiZ 6 rfl ?_
   refine r_build (I3) [5] V.sl77 V.z3 rfl rfl rfl rfl rfl rfl ?_
   intro b40
   refine r_append (c := (I3)) V.sl77 V.z3 rfl rfl rfl rfl rr1 (own mm0) (by omega) rfl ?_
   intro p41 c41
   refine rOs TTZiZ 9 rfl (by omega) ?_
   rw [← List.replicate_succ']
   refine j3 (m + 1) (_) (_) ?_ (lc3 ln) (sub (rz1 (.cons rr1 .nil)) dd1)
   exact ⟨by omega, by omega⟩
  ·refine rC TTZiZ 6 rfl ?_
   obtain rfl : m = 32 := by omega
   obtain rfl : k = 288 := by omega
   rw [show (InfP.fixL.take 288) = InfP.fixL from List.take_of_length_le (by rw [InfP.fixL_len]; decide), show List.replicate 32 5 = InfP.fixD from rfl]
   refine rC TTZiZ 2 rfl ?_
   refine o_call (d_newY q 288 c InfP.fixL (Row I3 q 288 c InfP.fixL) InfP.fixL_len.symm (fun _ _ hh => row_rd InfP.fixL_len.symm hh) InfP.fixL_ok) V.b45  rfl (.cons rr1 .nil) rfl ?_
   rintro _ _ ⟨x, rfl, rfl⟩
   refine rO TTZiZ 10 rfl ?_
   refine o_call (d_newY q2 32 c2 InfP.fixD (Row I3 q2 32 c2 InfP.fixD) InfP.fixD_len.symm (fun _ _ hh => row_rd InfP.fixD_len.symm hh) InfP.fixD_ok) V.b45  rfl (.cons rr2 .nil) rfl ?_
   rintro _ _ ⟨z, rfl, rfl⟩
   refine rO TTZiZ 16 rfl ?_
   exact ret_ok (res2 rfl rfl) ⟨x, z, rfl, rfl⟩ (sub (.cons rr2 (rz1 .nil)) dd2)
set_option maxHeartbeats 8000000 in
theorem d_coded (b : Nat) (p : Option Addr) (cap : Nat) (B : List Int) (R : HProp) (hR : ∀ w0 h, R w0 h → RdR U5 p B.length B w0 h) (sh : Bool) (S : InfP.St) (mo : Int) (po : Option Addr) (co : Nat) (hl : B.length < 500000000) (hB : BitP.Byt B) (hm : 0 ≤ mo ∧ mo < 500000000) (hok : InfP.Ok B mo S) (o : Except Int InfP.St) (l d : Nat) (hkp : 0 < S.kind) (hc1 : S.copies = 0) (he1 : S.ended = false) (hbo : InfP.Bl B mo S o) : Ctr Tryz.prog 31 [.pointer (some ⟨b, 0, none⟩), .pointer (some ⟨l, 0, none⟩), .pointer (some ⟨d, 0, none⟩), .slice po S.out.length co, .int .i64 mo] [Cel b 59 [.slice p B.length cap, .int .i64 (S.at_ : Int), .bool false, .bool sh], R, RC l S.lits, RC d S.dist, Row U5 po S.out.length co S.out] (Ret fun v G => PO b p cap B R o v G) := by
 refine spec_of [(0, _), (1, _), (2, _), (3, _), (4, _)] Tryz.func31 rfl Tryz.ntmps31 rfl rfl ?_
 intro w0 F
 obtain ⟨hE1, hE2, hz1, hz2⟩ := hok.codes hkp
 have hll := InfP.code_len hE1
 have hdl := InfP.code_len hE2
 refine rT TTZiZ 7 rfl ?_
 refine w_loop3 (fun (s : InfP.St) (q : Option Addr) (c : Nat) => [(0, .pointer (some ⟨b, 0, none⟩)), (1, .pointer (some ⟨l, 0, none⟩)), (2, .pointer (some ⟨d, 0, none⟩)), (3, .slice q s.out.length c), (4, .int .i64 mo)]) (fun (s : InfP.St) (q : Option Addr) (c : Nat) => Cel b 59 [.slice p B.length cap, .int .i64 (s.at_ : Int), .bool false, .bool sh] :: R :: RC l S.lits :: RC d S.dist :: Row U5 q s.out.length c s.out :: F) (fun (s : InfP.St) (q : Option Addr) (c : Nat) => InfP.Bl B mo s o ∧ InfP.Ok B mo s ∧ s.kind = S.kind ∧ s.copies = 0 ∧ s.lits = S.lits ∧ s.dist = S.dist) (fun (s : InfP.St) (q : Option Addr) (c : Nat) => InfP.mu B s) (i3 (S) (po) (co) ?_ (lc5 ln) (sub (rz5 .nil) dd0)) ?_
 ·exact ⟨hbo, hok, rfl, hc1, rfl, rfl⟩
 intro s q c
 rintro ⟨hbs, hoks, hk, hcs, hlt, hdt⟩
 refine rL TTZiZ 1 rfl ?_
 rcases (InfP.sym_or (B := B) (ls := S.lits) (a := s.at_) hE1 hz1) with ⟨e, hs⟩ | ⟨sy, a1, hs, hy0, hy1, ha0, ha1⟩
 ·refine rC TTZiZ 1 rfl ?_
  have hat := hoks.at_
  have hro := hoks.room
  refine rC TTZiZ 3 rfl ?_
  refine o_call (d_symE l S.lits b p cap B R hR sh s.at_ hE1 hl hB hat hs) V.b46  rfl (.cons rr2 (rz2 .nil)) rfl ?_
  rintro _ _ ⟨rfl, n9, sh9, rfl⟩
  refine rO TTZiZ 11 rfl ?_
  refine oV (v_T (v_neq rfl rfl) (InfP.sym_nz hs)) ?_
  refine rO TTZiZ 15 rfl ?_
  obtain rfl := hbs.err (by omega) ((InfP.one_c (by omega) (by omega) (by omega)).trans (InfP.cod_e (by rw [hlt]; exact hs)))
  exact ret_ok (res2 rfl rfl) ⟨rfl, rfl⟩ (sub (.cons rr2 .nil) dd4)
 ·refine rC TTZiZ 1 rfl ?_
  have hat := hoks.at_
  have hro := hoks.room
  refine rC TTZiZ 3 rfl ?_
  refine o_call (d_symY l S.lits b p cap B R hR sh s.at_ hE1 hl hB hat hs) V.b46  rfl (.cons rr2 (rz2 .nil)) rfl ?_
  rintro _ _ ⟨rfl, rfl⟩
  refine rO TTZiZ 11 rfl ?_
  refine oV (v_F (v_neq rfl rfl) (by decide)) ?_
  refine rO TTZiZ 12 rfl ?_
  refine w_condD rfl (fun h31 => ?_) (fun h31 => ?_)
  ·refine rC TTZiZ 12 rfl ?_
   have hone := (InfP.one_c (B := B) (mo := mo) (s := s) (by omega) (by omega) (by omega)).trans (InfP.cod_end (B := B) (most := mo) (s := s) (by rw [hlt]; exact hs) (by omega))
   obtain rfl := (hbs.next (by omega) hone).end_ rfl
   exact ret_ok (res2 rfl rfl) ⟨q, c, sh, rfl, rfl⟩ (sub (.cons rr1 (.cons rr1 (.cons rr2 .nil))) dd2)
  ·refine rC TTZiZ 9 rfl ?_
   refine w_condD rfl (fun h34 => ?_) (fun h34 => ?_)
   ·refine rC TTZiZ 9 rfl ?_
    refine w_condD rfl (fun h38 => ?_) (fun h38 => ?_)
    ·refine rC TTZiZ 12 rfl ?_
     obtain rfl := hbs.err (by omega) ((InfP.one_c (by omega) (by omega) (by omega)).trans ((InfP.cod_put (by rw [hlt]; exact hs) (by omega)).trans (InfP.put_no (by show ¬ (s.out.length : Int) < mo; omega))))
     exact ret_ok (res2 rfl rfl) ⟨rfl, rfl⟩ (sub (.cons rr2 .nil) dd4)
    ·refine rC TTZiZ 6 rfl ?_
     refine oV (v_conv V.u3 Tryz.underlying5 rfl (wrap8 (by omega) (by omega))) ?_
     refine r_build (U5) [sy] V.sl22 V.z5 rfl rfl rfl rfl rfl rfl ?_
     intro b42
     refine r_append (c := (U5)) V.sl22 V.z5 rfl rfl rfl rfl rr5 (own mm0) (by omega) rfl ?_
     intro p43 c43
     refine rO TTZiZ 6 rfl ?_
     (have hone := (InfP.one_c (B := B) (mo := mo) (s := s) (by omega) (by omega) (by omega)).trans ((InfP.cod_put (by rw [hlt]; exact hs) (by omega)).trans (InfP.put_yes (by show (s.out.length : Int) < mo; omega))); have hg1 := InfP.one_good hB hoks hone; rw [show s.out.length + 1 = (s.out ++ [sy]).length from by simp]; refine j3 ({ s with at_ := a1, out := s.out ++ [sy] }) (_) (_) ?_ (lc5 ln) (sub (.cons rr3 (.cons rr3 (.cons rr2 (.cons rr2 (rz1 .nil))))) dd1); exact ⟨⟨hbs.next (by omega) hone, hg1.ok, hk, hcs, hlt, hdt⟩, hg1.less⟩)
   ·refine rC TTZiZ 2 rfl ?_
    rcases (Nat.lt_or_ge 285 sy.toNat) with hsy | hsy
    ·refine rC TTZiZ 3 rfl ?_
     refine o_call (d_lenNo sy (by omega) (by omega)) V.b47  rfl .nil rfl ?_
     rintro _ _ ⟨rfl, rfl⟩
     refine rO TTZiZ 28 rfl ?_
     obtain rfl := hbs.err (by omega) ((InfP.one_c (by omega) (by omega) (by omega)).trans (InfP.cod_l (by rw [hlt]; exact hs) (by omega) (InfP.len_no (by omega))))
     exact ret_ok (res2 rfl rfl) ⟨rfl, rfl⟩ (sub (.cons rr2 .nil) dd4)
    ·refine rC TTZiZ 3 rfl ?_
     refine o_call (d_lenYes sy (by omega)) V.b47  rfl .nil rfl ?_
     rintro _ _ ⟨rfl, rfl⟩
     refine rO TTZiZ 19 rfl ?_
     rcases (Nat.lt_or_ge (8 * B.length) (a1 + InfP.lnM (sy - 257))) with hx1 | hx1
     ·refine rC TTZiZ 1 rfl ?_
      have hlb := InfP.lnB_le (s := sy - 257) (by omega)
      have hnl := BitP.numL_bound B a1 (InfP.lnM (sy - 257))
      have hpl := BitP.pow24 (show (InfP.lnM (sy - 257)) ≤ 24 by omega)
      refine rC TTZiZ 3 rfl ?_
      refine o_call (d_takeE b p cap B R hR a1 sh (InfP.lnM (sy - 257)) hl hB (by omega) (by omega) (by omega)) V.b28  rfl (.cons rr1 (.cons rr1 .nil)) rfl ?_
      rintro _ _ ⟨rfl, rfl⟩
      refine rO TTZiZ 26 rfl ?_
      obtain rfl := hbs.err (by omega) ((InfP.one_c (by omega) (by omega) (by omega)).trans (InfP.cod_l (by rw [hlt]; exact hs) (by omega) (InfP.lenE_sh (by omega) (by omega))))
      exact ret_ok (res2 rfl rfl) ⟨rfl, rfl⟩ (sub (.cons rr1 .nil) dd4)
     ·refine rC TTZiZ 1 rfl ?_
      have hlb := InfP.lnB_le (s := sy - 257) (by omega)
      have hnl := BitP.numL_bound B a1 (InfP.lnM (sy - 257))
      have hpl := BitP.pow24 (show (InfP.lnM (sy - 257)) ≤ 24 by omega)
      refine rC TTZiZ 3 rfl ?_
      refine o_call (d_take b p cap B R hR a1 sh (InfP.lnM (sy - 257)) hl hB (by omega) (by omega)) V.b28  rfl (.cons rr1 (.cons rr1 .nil)) rfl ?_
      rintro _ _ ⟨rfl, rfl⟩
      refine rOs TTZiZ 25 rfl (by omega) ?_
      rcases (InfP.sym_or (B := B) (ls := S.dist) (a := (a1 + InfP.lnM (sy - 257))) hE2 hz2) with ⟨e, hs2⟩ | ⟨dy, a3, hs2, hd0, hd1, ha2, ha3⟩
      ·refine rC TTZiZ 1 rfl ?_
       obtain ⟨n, hn⟩ : ∃ n : Nat, (InfP.lnB (sy - 257)) + BitP.numL B a1 (InfP.lnM (sy - 257)) = (n : Int) := ⟨_, (Int.toNat_of_nonneg (by omega)).symm⟩
       rw [hn]
       have hle := InfP.lenE_ok (by omega) hx1 hn
       refine rC TTZiZ 3 rfl ?_
       refine o_call (d_symE d S.dist b p cap B R hR sh (a1 + InfP.lnM (sy - 257)) hE2 hl hB (by omega) hs2) V.b46  rfl (.cons rr3 (rz2 .nil)) rfl ?_
       rintro _ _ ⟨rfl, n9, sh9, rfl⟩
       refine rO TTZiZ 11 rfl ?_
       refine oV (v_T (v_neq rfl rfl) (InfP.sym_nz hs2)) ?_
       refine rO TTZiZ 15 rfl ?_
       obtain rfl := hbs.err (by omega) ((InfP.one_c (by omega) (by omega) (by omega)).trans (InfP.cod_a (by rw [hlt]; exact hs) (by omega) hle (by rw [hdt]; exact InfP.away_e hs2)))
       exact ret_ok (res2 rfl rfl) ⟨rfl, rfl⟩ (sub (.cons rr2 .nil) dd4)
      ·refine rC TTZiZ 1 rfl ?_
       obtain ⟨n, hn⟩ : ∃ n : Nat, (InfP.lnB (sy - 257)) + BitP.numL B a1 (InfP.lnM (sy - 257)) = (n : Int) := ⟨_, (Int.toNat_of_nonneg (by omega)).symm⟩
       rw [hn]
       have hle := InfP.lenE_ok (by omega) hx1 hn
       refine rC TTZiZ 3 rfl ?_
       refine o_call (d_symY d S.dist b p cap B R hR sh (a1 + InfP.lnM (sy - 257)) hE2 hl hB (by omega) hs2) V.b46  rfl (.cons rr3 (rz2 .nil)) rfl ?_
       rintro _ _ ⟨rfl, rfl⟩
       refine rO TTZiZ 11 rfl ?_
       refine oV (v_F (v_neq rfl rfl) (by decide)) ?_
       refine rO TTZiZ 5 rfl ?_
       rcases (Nat.lt_or_ge 29 dy.toNat) with hdy | hdy
       ·refine rC TTZiZ 3 rfl ?_
        refine o_call (d_distNo dy (by omega) (by omega)) V.b48  rfl .nil rfl ?_
        rintro _ _ ⟨rfl, rfl⟩
        refine rO TTZiZ 28 rfl ?_
        obtain rfl := hbs.err (by omega) ((InfP.one_c (by omega) (by omega) (by omega)).trans (InfP.cod_a (by rw [hlt]; exact hs) (by omega) hle (by rw [hdt]; exact InfP.away_no hs2 (by omega))))
        exact ret_ok (res2 rfl rfl) ⟨rfl, rfl⟩ (sub (.cons rr2 .nil) dd4)
       ·refine rC TTZiZ 3 rfl ?_
        refine o_call (d_distYes dy (by omega)) V.b48  rfl .nil rfl ?_
        rintro _ _ ⟨rfl, rfl⟩
        refine rO TTZiZ 19 rfl ?_
        rcases (Nat.lt_or_ge (8 * B.length) (a3 + InfP.dsM dy)) with hx2 | hx2
        ·refine rC TTZiZ 1 rfl ?_
         have hdb := InfP.dsB_le (s := dy) (by omega)
         have hnd := BitP.numL_bound B a3 (InfP.dsM dy)
         have hpd := BitP.pow24 (show (InfP.dsM dy) ≤ 24 by omega)
         refine rC TTZiZ 3 rfl ?_
         refine o_call (d_takeE b p cap B R hR a3 sh (InfP.dsM dy) hl hB (by omega) (by omega) (by omega)) V.b28  rfl (.cons rr1 (.cons rr1 .nil)) rfl ?_
         rintro _ _ ⟨rfl, rfl⟩
         refine rO TTZiZ 26 rfl ?_
         obtain rfl := hbs.err (by omega) ((InfP.one_c (by omega) (by omega) (by omega)).trans (InfP.cod_a (by rw [hlt]; exact hs) (by omega) hle (by rw [hdt]; exact InfP.awayE_sh hs2 (by omega) (by omega))))
         exact ret_ok (res2 rfl rfl) ⟨rfl, rfl⟩ (sub (.cons rr1 .nil) dd4)
        ·refine rC TTZiZ 1 rfl ?_
         have hdb := InfP.dsB_le (s := dy) (by omega)
         have hnd := BitP.numL_bound B a3 (InfP.dsM dy)
         have hpd := BitP.pow24 (show (InfP.dsM dy) ≤ 24 by omega)
         refine rC TTZiZ 3 rfl ?_
         refine o_call (d_take b p cap B R hR a3 sh (InfP.dsM dy) hl hB (by omega) (by omega)) V.b28  rfl (.cons rr1 (.cons rr1 .nil)) rfl ?_
         rintro _ _ ⟨rfl, rfl⟩
         refine rOs TTZiZ 27 rfl (by omega) ?_
         obtain ⟨f, hf⟩ : ∃ f : Nat, (InfP.dsB dy) + BitP.numL B a3 (InfP.dsM dy) = (f : Int) := ⟨_, (Int.toNat_of_nonneg (by omega)).symm⟩
         rw [hf]
         have haw := InfP.awayE_ok hs2 (by omega) hx2 hf
         have hn4 := InfP.lenE_good (by omega) ha1 hle
         refine rC TTZiZ 7 rfl ?_
         refine w_condD rfl (fun h94 => ?_) (fun h94 => ?_)
         ·refine rC TTZiZ 11 rfl ?_
          obtain rfl := hbs.err (by omega) ((InfP.one_c (by omega) (by omega) (by omega)).trans (InfP.cod_n (by rw [hlt]; exact hs) (by omega) hle (by rw [hdt]; exact haw) (by omega)))
          exact ret_ok (res2 rfl rfl) ⟨rfl, rfl⟩ (sub (.cons rr1 .nil) dd4)
         ·refine rC TTZiZ 3 rfl ?_
          have hone := (InfP.one_c (B := B) (mo := mo) (s := s) (by omega) (by omega) (by omega)).trans (InfP.cod_y (by rw [hlt]; exact hs) (by omega) hle (by rw [hdt]; exact haw) (by omega))
          rw [Int.toNat_natCast, Int.toNat_natCast] at hone
          have hg1 := InfP.one_good hB hoks hone
          have hb5 := hbs.next (by omega) hone
          refine rC TTZiZ 5 rfl ?_
          refine w_loop4 (fun (s5 : InfP.St) (i : Nat) (q5 : Option Addr) (c5 : Nat) => [(0, .pointer (some ⟨b, 0, none⟩)), (1, .pointer (some ⟨l, 0, none⟩)), (2, .pointer (some ⟨d, 0, none⟩)), (3, .slice q5 s5.out.length c5), (4, .int .i64 mo), (14, .int .i64 (n : Int)), (19, .int .i64 (f : Int)), (20, .int .i64 (i : Int))]) (fun (s5 : InfP.St) (i : Nat) (q5 : Option Addr) (c5 : Nat) => Cel b 59 [.slice p B.length cap, .int .i64 ((a3 + InfP.dsM dy) : Int), .bool false, .bool sh] :: R :: RC l S.lits :: RC d S.dist :: Row U5 q5 s5.out.length c5 s5.out :: F) (fun (s5 : InfP.St) (i : Nat) (q5 : Option Addr) (c5 : Nat) => InfP.Bl B mo s5 o ∧ InfP.Ok B mo s5 ∧ s5.kind = S.kind ∧ s5.copies + i = n ∧ s5.lits = S.lits ∧ s5.dist = S.dist ∧ s5.far = f ∧ s5.at_ = (a3 + InfP.dsM dy) ∧ InfP.mu B s5 < InfP.mu B s) (fun (s5 : InfP.St) (i : Nat) (q5 : Option Addr) (c5 : Nat) => s5.copies) (i4 ({ s with at_ := (a3 + InfP.dsM dy), copies := n, far := f }) (0) (q) (c) ?_ (lc3 (lc5 ln)) (sub (rz2 (.cons rr1 (.cons rr0 (.cons rr0 .nil)))) dd0)) ?_
          ·exact ⟨hb5, hg1.ok, hk, rfl, hlt, hdt, rfl, rfl, hg1.less⟩
          intro s5 i q5 c5
          rintro ⟨hb6, hok5, hk5, hi5, hl5, hd5, hf5, ha5, hmu5⟩
          refine rL TTZiZ 8 rfl ?_
          refine w_condD rfl (fun h97 => ?_) (fun h97 => ?_)
          ·refine rC TTZiZ 6 rfl ?_
           have hro5 := hok5.room
           have hcp : 0 < s5.copies := by omega
           have hfr := hok5.far hcp
           refine rC TTZiZ 7 rfl ?_
           refine w_condD rfl (fun h103 => ?_) (fun h103 => ?_)
           ·refine rC TTZiZ 15 rfl ?_
            obtain rfl := hb6.err (by omega) (InfP.one_ce hcp (InfP.put_no (by omega)))
            exact ret_ok (res2 rfl rfl) ⟨rfl, rfl⟩ (sub (.cons rr1 .nil) dd4)
           ·refine rC TTZiZ 2 rfl ?_
            have hge : (U5.g s5.out ((s5.out.length : Int) - (f : Int))) = s5.out.getD (s5.out.length - s5.far) 0 := by rw [hf5]; exact gE _ (by omega)
            refine rCs TTZiZ 7 rfl (by omega) ?_
            refine oV (xI V.sl22 (own mm4)) ?_
            refine oV (xL V.s5 (own mm4)) ?_
            refine r_build (U5) [(U5.g s5.out ((s5.out.length : Int) - (f : Int)))] V.sl22 V.z5 rfl rfl rfl rfl rfl rfl ?_
            intro b112
            refine r_append (c := (U5)) V.sl22 V.z5 rfl rfl rfl rfl rr5 (own mm0) (by omega) rfl ?_
            intro p113 c113
            refine rOs TTZiZ 9 rfl (by omega) ?_
            have hone5 := InfP.one_cy (B := B) (mo := mo) (s := s5) hcp (by omega)
            rw [← hge] at hone5
            have hg5 := InfP.one_good hB hok5 hone5
            rw [show s5.out.length + 1 = (s5.out ++ [(U5.g s5.out ((s5.out.length : Int) - (f : Int)))]).length from by simp]
            refine j4 ({ s5 with copies := s5.copies - 1, out := s5.out ++ [(U5.g s5.out ((s5.out.length : Int) - (f : Int)))] }) (i + 1) (_) (_) ?_ (lc3 (lc5 ln)) (sub (.cons rr2 (.cons rr2 (.cons rr2 (.cons rr2 (rz1 .nil))))) dd1)
            exact ⟨⟨hb6.next (by omega) hone5, hg5.ok, hk5, by show s5.copies - 1 + (i + 1) = n; omega, hl5, hd5, hf5, ha5, Nat.lt_trans hg5.less hmu5⟩, by show s5.copies - 1 < s5.copies; omega⟩
          ·refine rC TTZiZ 5 rfl ?_
           (have hi0 : s5.copies = 0 := (by omega); rw [show ((a3 : Int) + (InfP.dsM dy : Int)) = (s5.at_ : Int) from (by omega)]; refine j3 (s5) (_) (_) ?_ (lc5 ln) (sub (rz5 .nil) dd0); exact ⟨⟨hb6, hok5, hk5, hi0, hl5, hd5⟩, hmu5⟩)
end Go.Proofs.YtmbljkghkcgejaaGreat

/-
 Steps of the proof: walks of functions that the statement reaches; printed by a program of ours.
-/
import Derived.Test.YtoplcgkafaoafaaM45
namespace Go.Proofs.Ytoplcgkafaoafaa
open Go.Sl 
set_option linter.unusedVariables false
set_option linter.unusedSimpArgs false

attribute [local irreducible] HuffP.newE HuffP.tk HuffP.ord HuffP.cntL HuffP.words HuffP.mostL InfP.frs InfP.toldC InfP.toldN InfP.toldA InfP.hL InfP.hD InfP.hC InfP.lnGo InfP.told InfP.fixL InfP.codeE InfP.rep InfP.lenE InfP.awayE InfP.sym InfP.alg BitP.numL InfP.coded InfP.begin_ InfP.one InfP.put_ InfP.lnB InfP.dsB InfP.lnM InfP.dsM


/-- What a block's reader says. -/
def PO (b : Nat) (p : Option Addr) (cap : Nat) (B : List Int) (R : HProp) : Except Int InfP.St → Value → List HProp → Prop
 | .error e, v, G => v = .tuple #[.slice none 0 0, .int .i64 e] ∧ G = [R]
 | .ok S, v, G => ∃ q c sh, v = .tuple #[.slice q S.out.length c, .int .i64 0] ∧ G = [Cel b 52 [.slice p B.length cap, .int .i64 (S.at_ : Int), .bool false, .bool sh], R, Row U5 q S.out.length c S.out]



theorem d_newY (p : Option Addr) (n cap : Nat) (ls : List Int) (R : HProp) (hn : n = ls.length) (hR : ∀ w0 h, R w0 h → RdR I3 p ls.length ls w0 h) (hE : HuffP.newE ls = 0) : Ctr Try.prog 36 [.slice p n cap] [R] (Ret fun v G => ∃ b, v = .tuple #[.pointer (some ⟨b, 0, none⟩), .int .i64 0] ∧ G = [RC b ls, R]) := by subst hn; exact r_new_yes p cap ls R hR hE
theorem d_newX (p : Option Addr) (n cap : Nat) (ls : List Int) (R : HProp) (hn : n = ls.length) (hR : ∀ w0 h, R w0 h → RdR I3 p ls.length ls w0 h) (hE : HuffP.newE ls ≠ 0) : Ctr Try.prog 36 [.slice p n cap] [R] (Ret fun v G => v = .tuple #[.pointer none, .int .i64 (HuffP.newE ls)] ∧ G = [R]) := by subst hn; exact r_new_no p cap ls R hR hE


set_option maxHeartbeats 4000000 in
set_option maxRecDepth 100000 in
theorem d_stored (b : Nat) (p : Option Addr) (cap : Nat) (B : List Int) (R : HProp) (hR : ∀ w0 h, R w0 h → RdR U5 p B.length B w0 h) (sh : Bool) (S : InfP.St) (mo : Int) (po : Option Addr) (co : Nat) (hl : B.length < 500000000) (hB : BitP.Byt B) (hm : 0 ≤ mo ∧ mo < 500000000) (hok : InfP.Ok B mo S) (o : Except Int InfP.St) (hk1 : S.kind = -1) (hc1 : S.copies = 0) (he1 : S.ended = false) (hr1 : S.at_ + 3 ≤ 8 * B.length) (h01 : BitP.numL B (S.at_ + 1) 2 = 0) (hbo : InfP.BO B mo S o) : Ctr Try.prog 24 [.pointer (some ⟨b, 0, none⟩), .slice po S.out.length co, .int .i64 mo] [Cel b 52 [.slice p B.length cap, .int .i64 ((S.at_ + 3) : Int), .bool false, .bool sh], R, Row U5 po S.out.length co S.out] (Ret fun v G => PO b p cap B R o v G) := by
 refine spec_of [(0, _), (1, _), (2, _)] Try.func24 rfl Try.ntmps24 rfl rfl ?_
 intro w0 F
 have hal := InfP.alg_le (n := B.length) hr1
 have hb1 := BitP.numL_bound B (InfP.alg (S.at_ + 3)) 16
 have hb2 := BitP.numL_bound B (InfP.alg (S.at_ + 3) + 16) 16
 refine w_seq ?_
 refine w_region ?_
 refine o_val (v_assign rfl) rfl ?_
 refine o_val (v_assign rfl) rfl ?_
 refine o_nil ?_
 refine thn_n ?_
 refine w_seq ?_
 refine w_region ?_
 refine o_val (v_move rfl) rfl ?_
 refine o_call (d_align b p cap B sh (S.at_ + 3) hl hr1) V.b35  rfl (.cons (by repeat first | exact .head | apply Rem.tail) .nil) rfl ?_
 rintro _ _ ⟨rfl, rfl⟩
 refine o_nil ?_
 refine thn_n ?_
 refine w_seq ?_
 refine w_seq ?_
 refine w_region ?_
 refine o_val (v_move rfl) rfl ?_
 refine o_call (d_Left b p cap B R hR (InfP.alg (S.at_ + 3)) sh hl (by omega)) V.b22  rfl (.cons (by repeat first | exact .head | apply Rem.tail) (.cons (by repeat first | exact .head | apply Rem.tail) .nil)) rfl ?_
 rintro _ _ ⟨rfl, rfl⟩
 refine o_val (v_lss rfl rfl) rfl ?_
 refine o_nil ?_
 refine thn_n ?_
 first | refine w_condD rfl (fun h19 => ?_) (fun h19 => ?_) | refine w_cond rfl (fun h19 => ?_) (fun h19 => ?_)
 ·
  refine w_seq ?_
  refine w_region ?_
  refine o_val (v_assign rfl) rfl ?_
  refine o_val (v_assign rfl) rfl ?_
  refine o_nil ?_
  refine thn_n ?_
  refine w_ret ?_
  refine (thn_r ?_)
  obtain rfl := hbo.err (InfP.beg_0s hr1 h01 (by omega))
  exact ret_ok (G := [R]) (res2 rfl rfl) ⟨rfl, rfl⟩ (sub (.cons (by repeat first | exact .head | apply Rem.tail) .nil) (by repeat first | exact .refl | apply Drop.skip))
 ·
  refine w_skip ?_
  refine thn_n ?_
  refine w_seq ?_
  refine w_region ?_
  refine o_val (v_move rfl) rfl ?_
  refine o_call (d_take b p cap B R hR (InfP.alg (S.at_ + 3)) sh 16 hl hB (by omega) (by omega)) V.b23  rfl (.cons (by repeat first | exact .head | apply Rem.tail) (.cons (by repeat first | exact .head | apply Rem.tail) .nil)) rfl ?_
  rintro _ _ ⟨rfl, rfl⟩
  refine o_val (v_move rfl) rfl ?_
  refine o_val (v_extract rfl rfl) rfl ?_
  refine o_val (v_extract rfl rfl) rfl ?_
  refine o_val (v_assign rfl) rfl ?_
  refine o_val (v_assign rfl) rfl ?_
  refine o_nil ?_
  refine thn_n ?_
  refine w_seq ?_
  refine w_region ?_
  refine o_val (v_move rfl) rfl ?_
  refine o_call (d_take b p cap B R hR (InfP.alg (S.at_ + 3) + 16) sh 16 hl hB (by omega) (by omega)) V.b23  rfl (.cons (by repeat first | exact .head | apply Rem.tail) (.cons (by repeat first | exact .head | apply Rem.tail) .nil)) rfl ?_
  rintro _ _ ⟨rfl, rfl⟩
  refine o_val (v_move rfl) rfl ?_
  refine o_val (v_extract rfl rfl) rfl ?_
  refine o_val (v_extract rfl rfl) rfl ?_
  refine o_val (v_assign rfl) rfl ?_
  refine o_val (v_assign rfl) rfl ?_
  refine o_nil ?_
  refine thn_n ?_
  refine w_seq ?_
  refine w_seq ?_
  refine w_region ?_
  refine o_val (v_move rfl) rfl ?_
  refine o_val (v_move rfl) rfl ?_
  refine o_val (v_sub rfl rfl (wrapI (by omega) (by omega))) rfl ?_
  refine o_val (v_neq rfl rfl) rfl ?_
  refine o_nil ?_
  refine thn_n ?_
  first | refine w_condD rfl (fun h33 => ?_) (fun h33 => ?_) | refine w_cond rfl (fun h33 => ?_) (fun h33 => ?_)
  ·
   refine w_seq ?_
   refine w_region ?_
   refine o_val (v_assign rfl) rfl ?_
   refine o_val (v_assign rfl) rfl ?_
   refine o_nil ?_
   refine thn_n ?_
   refine w_ret ?_
   refine (thn_r ?_)
   obtain rfl := hbo.err (InfP.beg_0n hr1 h01 (by omega) (by omega))
   exact ret_ok (G := [R]) (res2 rfl rfl) ⟨rfl, rfl⟩ (sub (.cons (by repeat first | exact .head | apply Rem.tail) .nil) (by repeat first | exact .refl | apply Drop.skip))
  ·
   refine w_skip ?_
   refine thn_n ?_
   refine w_seq ?_
   refine w_seq ?_
   have hbl := hbo.go (InfP.beg_0y hr1 h01 (by omega) (by omega))
   have hok1 := (InfP.one_good hB hok ((InfP.one_b (by omega) hk1).trans (InfP.beg_0y hr1 h01 (by omega) (by omega)))).ok
   refine w_region ?_
   refine o_val (v_assign rfl) rfl ?_
   refine o_nil ?_
   refine thn_n ?_
   refine w_block ?_
   refine w_loop4 (fun (s : InfP.St) (i : Nat) (q : Option Addr) (c : Nat) => [(0, .pointer (some ⟨b, 0, none⟩)), (1, .slice q s.out.length c), (2, .int .i64 mo), (8, .int .i64 (BitP.numL B (InfP.alg (S.at_ + 3)) 16)), (12, .int .i64 (i : Int))]) (fun (s : InfP.St) (i : Nat) (q : Option Addr) (c : Nat) => Cel b 52 [.slice p B.length cap, .int .i64 (s.at_ : Int), .bool false, .bool sh] :: R :: Row U5 q s.out.length c s.out :: F) (fun (s : InfP.St) (i : Nat) (q : Option Addr) (c : Nat) => InfP.Bl B mo s o ∧ InfP.Ok B mo s ∧ s.kind = 0 ∧ s.copies = 0 ∧ (s.left : Int) + (i : Int) = (BitP.numL B (InfP.alg (S.at_ + 3)) 16)) (fun (s : InfP.St) (i : Nat) (q : Option Addr) (c : Nat) => s.left) (i4 ({ S with at_ := (InfP.alg (S.at_ + 3) + 32), kind := 0, left := (BitP.numL B (InfP.alg (S.at_ + 3)) 16).toNat, last := decide (BitP.numL B S.at_ 1 = 1) }) (0) (po) (co) ?_ (.cons rfl (.cons rfl (.cons rfl (.cons rfl (.cons rfl (.nil _)))))) (sub (.cons (by repeat first | exact .head | apply Rem.tail) (.cons (by repeat first | exact .head | apply Rem.tail) (.cons (by repeat first | exact .head | apply Rem.tail) .nil))) (by repeat first | exact .refl | apply Drop.skip))) ?_
   ·
    exact ⟨hbl, hok1, rfl, hc1, by show (((BitP.numL B (InfP.alg (S.at_ + 3)) 16).toNat : Nat) : Int) + ((0 : Nat) : Int) = _; omega⟩
   intro s i q c
   rintro ⟨hbs, hok2, hk, hcs, hli⟩
   refine w_seq ?_
   refine w_seq ?_
   refine w_region ?_
   refine o_val (v_move rfl) rfl ?_
   refine o_val (v_move rfl) rfl ?_
   refine o_val (v_lss rfl rfl) rfl ?_
   refine o_nil ?_
   refine thn_n ?_
   first | refine w_condD rfl (fun h36 => ?_) (fun h36 => ?_) | refine w_cond rfl (fun h36 => ?_) (fun h36 => ?_)
   ·
    refine w_skip ?_
    refine thn_n ?_
    refine w_seq ?_
    refine w_block ?_
    refine w_seq ?_
    refine w_seq ?_
    have hat := hok2.at_
    have hro := hok2.room
    have hlf := hok2.left
    have hnb := BitP.numL_bound B s.at_ 8
    have hl0 : ¬ s.left = 0 := by omega
    refine w_region ?_
    refine o_val (v_move rfl) rfl ?_
    refine o_call (d_Left b p cap B R hR s.at_ sh hl (by omega)) V.b22  rfl (.cons (by repeat first | exact .head | apply Rem.tail) (.cons (by repeat first | exact .head | apply Rem.tail) .nil)) rfl ?_
    rintro _ _ ⟨rfl, rfl⟩
    refine o_val (v_lss rfl rfl) rfl ?_
    refine o_nil ?_
    refine thn_n ?_
    first | refine w_condD rfl (fun h41 => ?_) (fun h41 => ?_) | refine w_cond rfl (fun h41 => ?_) (fun h41 => ?_)
    ·
     refine w_seq ?_
     refine w_region ?_
     refine o_val (v_assign rfl) rfl ?_
     refine o_val (v_assign rfl) rfl ?_
     refine o_nil ?_
     refine thn_n ?_
     refine w_ret ?_
     refine (thn_r (blk_r (thn_r (thn_r (blk_r (thn_r ?_))))))
     obtain rfl := hbs.err (fun h => absurd (hk.symm.trans h) (by decide)) (InfP.one_ls (by omega) (fun h => absurd (hk.symm.trans h) (by decide)) hk hl0 (by omega))
     exact ret_ok (G := [R]) (res2 rfl rfl) ⟨rfl, rfl⟩ (sub (.cons (by repeat first | exact .head | apply Rem.tail) .nil) (by repeat first | exact .refl | apply Drop.skip))
    ·
     refine w_skip ?_
     refine thn_n ?_
     refine w_seq ?_
     refine w_seq ?_
     refine w_region ?_
     refine o_val (v_move rfl) rfl ?_
     refine o_val (v_len (ty' := 0) Try.underlying22 rfl) rfl ?_
     refine o_val (v_move rfl) rfl ?_
     refine o_val (v_geq rfl rfl) rfl ?_
     refine o_nil ?_
     refine thn_n ?_
     first | refine w_condD rfl (fun h45 => ?_) (fun h45 => ?_) | refine w_cond rfl (fun h45 => ?_) (fun h45 => ?_)
     ·
      refine w_seq ?_
      refine w_region ?_
      refine o_val (v_assign rfl) rfl ?_
      refine o_val (v_assign rfl) rfl ?_
      refine o_nil ?_
      refine thn_n ?_
      refine w_ret ?_
      refine (thn_r (blk_r (thn_r (thn_r (blk_r (thn_r ?_))))))
      obtain rfl := hbs.err (fun h => absurd (hk.symm.trans h) (by decide)) ((InfP.one_lp (by omega) (fun h => absurd (hk.symm.trans h) (by decide)) hk hl0 (by omega)).trans (InfP.put_no (by show ¬ (s.out.length : Int) < mo; omega)))
      exact ret_ok (G := [R]) (res2 rfl rfl) ⟨rfl, rfl⟩ (sub (.cons (by repeat first | exact .head | apply Rem.tail) .nil) (by repeat first | exact .refl | apply Drop.skip))
     ·
      refine w_skip ?_
      refine thn_n ?_
      refine w_seq ?_
      refine w_region ?_
      refine o_val (v_move rfl) rfl ?_
      refine o_call (d_take b p cap B R hR s.at_ sh 8 hl hB (by omega) (by omega)) V.b23  rfl (.cons (by repeat first | exact .head | apply Rem.tail) (.cons (by repeat first | exact .head | apply Rem.tail) .nil)) rfl ?_
      rintro _ _ ⟨rfl, rfl⟩
      refine o_val (v_move rfl) rfl ?_
      refine o_val (v_extract rfl rfl) rfl ?_
      refine o_val (v_extract rfl rfl) rfl ?_
      refine o_val (v_assign rfl) rfl ?_
      refine o_val (v_assign rfl) rfl ?_
      refine o_nil ?_
      refine thn_n ?_
      refine w_region ?_
      refine o_val (v_move rfl) rfl ?_
      refine o_val (v_move rfl) rfl ?_
      refine o_val (v_conv V.u3 Try.underlying5 rfl (wrap8 (by omega) (by omega))) rfl ?_
      refine r_build (U5) [(BitP.numL B s.at_ 8)] V.sl22 V.z5 rfl rfl rfl rfl rfl rfl ?_
      intro b54
      refine r_append (c := (U5)) V.sl22 V.z5 rfl rfl rfl rfl (by repeat first | exact .head | apply Rem.tail) (by first | exact own mm0 | exact own mm1 | exact own mm2 | exact own mm3 | exact own mm4 | exact own mm5 | exact own mm6 | exact own mm7 | exact own mm8 | exact own mm9 | exact own mm10 | exact own mm11 | exact rdH hR mm0 | exact rdH hR mm1 | exact rdH hR mm2 | exact rdH hR mm3 | exact rdH hR mm4 | exact rdH hR mm5 | exact rdH hR mm6 | exact rdH hR mm7 | exact rdH hR mm8 | exact rdH hR mm9 | exact rdH hR mm10 | exact rdH hR mm11) (by omega) rfl ?_
      intro p55 c55
      refine o_val (v_assign rfl) rfl ?_
      refine o_nil ?_
      refine blk_n ?_
      refine thn_n ?_
      refine w_region ?_
      refine o_val (v_move rfl) rfl ?_
      refine o_val (v_add rfl rfl (wrapI (by omega) (by omega))) rfl ?_
      refine o_val (v_assign rfl) rfl ?_
      refine o_nil ?_
      have hone := InfP.one_ly (B := B) (mo := mo) (s := s) (by omega) (fun h => absurd (hk.symm.trans h) (by decide)) hk hl0 (by omega) (by omega)
      have hg2 := InfP.one_good hB hok2 hone
      rw [show s.out.length + 1 = (s.out ++ [(BitP.numL B s.at_ 8)]).length from by simp]
      refine j4 ({ s with at_ := s.at_ + 8, left := s.left - 1, out := s.out ++ [(BitP.numL B s.at_ 8)] }) (i + 1) (_) (_) ?_ (.cons rfl (.cons rfl (.cons rfl (.cons rfl (.cons rfl (.nil _)))))) (sub (.cons (by repeat first | exact .head | apply Rem.tail) (.cons (by repeat first | exact .head | apply Rem.tail) (.cons (by repeat first | exact .head | apply Rem.tail) .nil))) (by repeat first | exact .refl | apply Drop.skip))
      exact ⟨⟨hbs.next (fun h => absurd (hk.symm.trans h) (by decide)) hone, hg2.ok, hk, hcs, by show ((s.left - 1 : Nat) : Int) + ((i + 1 : Nat) : Int) = _; omega⟩, by show s.left - 1 < s.left; omega⟩
   ·
    refine w_exit ?_
    refine thn_e ?_
    refine thn_e ?_
    refine blk_x ?_
    refine thn_n ?_
    refine w_seq ?_
    have hl0 : s.left = 0 := by omega
    refine w_region ?_
    refine o_val (v_move rfl) rfl ?_
    refine o_val (v_assign rfl) rfl ?_
    refine o_val (v_assign rfl) rfl ?_
    refine o_nil ?_
    refine thn_n ?_
    refine w_ret ?_
    have hone := InfP.one_l0 (B := B) (mo := mo) (s := s) (by omega) (fun h => absurd (hk.symm.trans h) (by decide)) hk hl0
    obtain rfl := (hbs.next (fun h => absurd (hk.symm.trans h) (by decide)) hone).end_ rfl
    exact ret_ok (G := [Cel b 52 [.slice p B.length cap, .int .i64 (s.at_ : Int), .bool false, .bool sh], R, Row U5 q s.out.length c s.out]) (res2 rfl rfl) ⟨q, c, sh, rfl, rfl⟩ (sub (.cons (by repeat first | exact .head | apply Rem.tail) (.cons (by repeat first | exact .head | apply Rem.tail) (.cons (by repeat first | exact .head | apply Rem.tail) .nil))) (by repeat first | exact .refl | apply Drop.skip))

set_option maxHeartbeats 1000000 in
set_option maxRecDepth 100000 in
theorem d_fixed  : Ctr Try.prog 25 [] [] (Ret fun v G => ∃ x y, v = .tuple #[.pointer (some ⟨x, 0, none⟩), .pointer (some ⟨y, 0, none⟩)] ∧ G = [RC x InfP.fixL, RC y InfP.fixD]) := by
 refine spec_of [] Try.func25 rfl Try.ntmps25 rfl rfl ?_
 intro w0 F
 refine w_seq ?_
 refine w_region ?_
 refine o_val (v_assign rfl) rfl ?_
 refine o_val (v_assign rfl) rfl ?_
 refine o_nil ?_
 refine thn_n ?_
 refine w_seq ?_
 refine w_region ?_
 refine o_val (v_assign rfl) rfl ?_
 refine o_val (v_assign rfl) rfl ?_
 refine o_nil ?_
 refine thn_n ?_
 refine w_seq ?_
 refine w_seq ?_
 refine w_region ?_
 refine o_val (v_assign rfl) rfl ?_
 refine o_nil ?_
 refine thn_n ?_
 refine w_block ?_
 refine w_add0 (Row I3 none 0 0 []) (Row.nil _ _ _) ?_
 refine w_loop3 (fun (k : Nat) (q : Option Addr) (c : Nat) => [(2, .slice q k c), (3, .slice none 0 0), (4, .int .i64 (k : Int))]) (fun (k : Nat) (q : Option Addr) (c : Nat) => Row I3 q k c (InfP.fixL.take k) :: F) (fun (k : Nat) (q : Option Addr) (c : Nat) => k ≤ 288) (fun (k : Nat) (q : Option Addr) (c : Nat) => 288 - k) (i3 (0) (none) (0) ?_ (.cons rfl (.cons rfl (.cons rfl (.nil _)))) (sub (.cons (by repeat first | exact .head | apply Rem.tail) .nil) (by repeat first | exact .refl | apply Drop.skip))) ?_
 ·
  exact Nat.zero_le _
 intro k q c
 rintro hk
 refine w_seq ?_
 refine w_seq ?_
 refine w_region ?_
 refine o_val (v_move rfl) rfl ?_
 refine o_val (v_lss rfl rfl) rfl ?_
 refine o_nil ?_
 refine thn_n ?_
 first | refine w_condD rfl (fun h11 => ?_) (fun h11 => ?_) | refine w_cond rfl (fun h11 => ?_) (fun h11 => ?_)
 ·
  refine w_skip ?_
  refine thn_n ?_
  refine w_seq ?_
  refine w_block ?_
  refine w_block ?_
  refine w_seq ?_
  refine w_region ?_
  refine o_val (v_move rfl) rfl ?_
  refine o_val (v_lss rfl rfl) rfl ?_
  refine o_val (v_assign rfl) rfl ?_
  refine o_nil ?_
  refine thn_n ?_
  first | refine w_condD rfl (fun h17 => ?_) (fun h17 => ?_) | refine w_cond rfl (fun h17 => ?_) (fun h17 => ?_)
  ·
   refine w_region ?_
   refine o_val (v_move rfl) rfl ?_
   refine r_build (I3) [8] V.sl30 V.z3 rfl rfl rfl rfl rfl rfl ?_
   intro b21
   refine r_append (c := (I3)) V.sl30 V.z3 rfl rfl rfl rfl (by repeat first | exact .head | apply Rem.tail) (own (by repeat first | exact .head _ | apply List.Mem.tail)) (by omega) rfl ?_
   intro p22 c22
   refine o_val (v_assign rfl) rfl ?_
   refine o_nil ?_
   refine blk_n ?_
   refine blk_n ?_
   refine thn_n ?_
   refine w_region ?_
   refine o_val (v_move rfl) rfl ?_
   refine o_val (v_add rfl rfl (wrapI (by omega) (by omega))) rfl ?_
   refine o_val (v_assign rfl) rfl ?_
   refine o_nil ?_
   first | (rw [InfP.fixL_8 (k := k) (by omega)]; refine j3 (k + 1) _ _ ?_ (.cons rfl (.cons rfl (.cons rfl (.nil _)))) (sub (.cons (by repeat first | exact .head | apply Rem.tail) .nil) (by repeat first | exact .refl | apply Drop.skip)); exact ⟨by omega, by omega⟩) | (rw [InfP.fixL_9 (k := k) (by omega)]; refine j3 (k + 1) _ _ ?_ (.cons rfl (.cons rfl (.cons rfl (.nil _)))) (sub (.cons (by repeat first | exact .head | apply Rem.tail) .nil) (by repeat first | exact .refl | apply Drop.skip)); exact ⟨by omega, by omega⟩) | (rw [InfP.fixL_7 (k := k) (by omega)]; refine j3 (k + 1) _ _ ?_ (.cons rfl (.cons rfl (.cons rfl (.nil _)))) (sub (.cons (by repeat first | exact .head | apply Rem.tail) .nil) (by repeat first | exact .refl | apply Drop.skip)); exact ⟨by omega, by omega⟩) | (rw [InfP.fixL_8b (k := k) (by omega)]; refine j3 (k + 1) _ _ ?_ (.cons rfl (.cons rfl (.cons rfl (.nil _)))) (sub (.cons (by repeat first | exact .head | apply Rem.tail) .nil) (by repeat first | exact .refl | apply Drop.skip)); exact ⟨by omega, by omega⟩)
  ·
   refine w_seq ?_
   refine w_region ?_
   refine o_val (v_move rfl) rfl ?_
   refine o_val (v_lss rfl rfl) rfl ?_
   refine o_val (v_assign rfl) rfl ?_
   refine o_nil ?_
   refine thn_n ?_
   first | refine w_condD rfl (fun h23 => ?_) (fun h23 => ?_) | refine w_cond rfl (fun h23 => ?_) (fun h23 => ?_)
   ·
    refine w_region ?_
    refine o_val (v_move rfl) rfl ?_
    refine r_build (I3) [9] V.sl30 V.z3 rfl rfl rfl rfl rfl rfl ?_
    intro b27
    refine r_append (c := (I3)) V.sl30 V.z3 rfl rfl rfl rfl (by repeat first | exact .head | apply Rem.tail) (own (by repeat first | exact .head _ | apply List.Mem.tail)) (by omega) rfl ?_
    intro p28 c28
    refine o_val (v_assign rfl) rfl ?_
    refine o_nil ?_
    refine blk_n ?_
    refine blk_n ?_
    refine thn_n ?_
    refine w_region ?_
    refine o_val (v_move rfl) rfl ?_
    refine o_val (v_add rfl rfl (wrapI (by omega) (by omega))) rfl ?_
    refine o_val (v_assign rfl) rfl ?_
    refine o_nil ?_
    first | (rw [InfP.fixL_8 (k := k) (by omega)]; refine j3 (k + 1) _ _ ?_ (.cons rfl (.cons rfl (.cons rfl (.nil _)))) (sub (.cons (by repeat first | exact .head | apply Rem.tail) .nil) (by repeat first | exact .refl | apply Drop.skip)); exact ⟨by omega, by omega⟩) | (rw [InfP.fixL_9 (k := k) (by omega)]; refine j3 (k + 1) _ _ ?_ (.cons rfl (.cons rfl (.cons rfl (.nil _)))) (sub (.cons (by repeat first | exact .head | apply Rem.tail) .nil) (by repeat first | exact .refl | apply Drop.skip)); exact ⟨by omega, by omega⟩) | (rw [InfP.fixL_7 (k := k) (by omega)]; refine j3 (k + 1) _ _ ?_ (.cons rfl (.cons rfl (.cons rfl (.nil _)))) (sub (.cons (by repeat first | exact .head | apply Rem.tail) .nil) (by repeat first | exact .refl | apply Drop.skip)); exact ⟨by omega, by omega⟩) | (rw [InfP.fixL_8b (k := k) (by omega)]; refine j3 (k + 1) _ _ ?_ (.cons rfl (.cons rfl (.cons rfl (.nil _)))) (sub (.cons (by repeat first | exact .head | apply Rem.tail) .nil) (by repeat first | exact .refl | apply Drop.skip)); exact ⟨by omega, by omega⟩)
   ·
    refine w_seq ?_
    refine w_region ?_
    refine o_val (v_move rfl) rfl ?_
    refine o_val (v_lss rfl rfl) rfl ?_
    refine o_val (v_assign rfl) rfl ?_
    refine o_nil ?_
    refine thn_n ?_
    first | refine w_condD rfl (fun h29 => ?_) (fun h29 => ?_) | refine w_cond rfl (fun h29 => ?_) (fun h29 => ?_)
    ·
     refine w_region ?_
     refine o_val (v_move rfl) rfl ?_
     refine r_build (I3) [7] V.sl30 V.z3 rfl rfl rfl rfl rfl rfl ?_
     intro b33
     refine r_append (c := (I3)) V.sl30 V.z3 rfl rfl rfl rfl (by repeat first | exact .head | apply Rem.tail) (own (by repeat first | exact .head _ | apply List.Mem.tail)) (by omega) rfl ?_
     intro p34 c34
     refine o_val (v_assign rfl) rfl ?_
     refine o_nil ?_
     refine blk_n ?_
     refine blk_n ?_
     refine thn_n ?_
     refine w_region ?_
     refine o_val (v_move rfl) rfl ?_
     refine o_val (v_add rfl rfl (wrapI (by omega) (by omega))) rfl ?_
     refine o_val (v_assign rfl) rfl ?_
     refine o_nil ?_
     first | (rw [InfP.fixL_8 (k := k) (by omega)]; refine j3 (k + 1) _ _ ?_ (.cons rfl (.cons rfl (.cons rfl (.nil _)))) (sub (.cons (by repeat first | exact .head | apply Rem.tail) .nil) (by repeat first | exact .refl | apply Drop.skip)); exact ⟨by omega, by omega⟩) | (rw [InfP.fixL_9 (k := k) (by omega)]; refine j3 (k + 1) _ _ ?_ (.cons rfl (.cons rfl (.cons rfl (.nil _)))) (sub (.cons (by repeat first | exact .head | apply Rem.tail) .nil) (by repeat first | exact .refl | apply Drop.skip)); exact ⟨by omega, by omega⟩) | (rw [InfP.fixL_7 (k := k) (by omega)]; refine j3 (k + 1) _ _ ?_ (.cons rfl (.cons rfl (.cons rfl (.nil _)))) (sub (.cons (by repeat first | exact .head | apply Rem.tail) .nil) (by repeat first | exact .refl | apply Drop.skip)); exact ⟨by omega, by omega⟩) | (rw [InfP.fixL_8b (k := k) (by omega)]; refine j3 (k + 1) _ _ ?_ (.cons rfl (.cons rfl (.cons rfl (.nil _)))) (sub (.cons (by repeat first | exact .head | apply Rem.tail) .nil) (by repeat first | exact .refl | apply Drop.skip)); exact ⟨by omega, by omega⟩)
    ·
     refine w_region ?_
     refine o_val (v_move rfl) rfl ?_
     refine r_build (I3) [8] V.sl30 V.z3 rfl rfl rfl rfl rfl rfl ?_
     intro b15
     refine r_append (c := (I3)) V.sl30 V.z3 rfl rfl rfl rfl (by repeat first | exact .head | apply Rem.tail) (own (by repeat first | exact .head _ | apply List.Mem.tail)) (by omega) rfl ?_
     intro p16 c16
     refine o_val (v_assign rfl) rfl ?_
     refine o_nil ?_
     refine blk_n ?_
     refine blk_n ?_
     refine thn_n ?_
     refine w_region ?_
     refine o_val (v_move rfl) rfl ?_
     refine o_val (v_add rfl rfl (wrapI (by omega) (by omega))) rfl ?_
     refine o_val (v_assign rfl) rfl ?_
     refine o_nil ?_
     first | (rw [InfP.fixL_8 (k := k) (by omega)]; refine j3 (k + 1) _ _ ?_ (.cons rfl (.cons rfl (.cons rfl (.nil _)))) (sub (.cons (by repeat first | exact .head | apply Rem.tail) .nil) (by repeat first | exact .refl | apply Drop.skip)); exact ⟨by omega, by omega⟩) | (rw [InfP.fixL_9 (k := k) (by omega)]; refine j3 (k + 1) _ _ ?_ (.cons rfl (.cons rfl (.cons rfl (.nil _)))) (sub (.cons (by repeat first | exact .head | apply Rem.tail) .nil) (by repeat first | exact .refl | apply Drop.skip)); exact ⟨by omega, by omega⟩) | (rw [InfP.fixL_7 (k := k) (by omega)]; refine j3 (k + 1) _ _ ?_ (.cons rfl (.cons rfl (.cons rfl (.nil _)))) (sub (.cons (by repeat first | exact .head | apply Rem.tail) .nil) (by repeat first | exact .refl | apply Drop.skip)); exact ⟨by omega, by omega⟩) | (rw [InfP.fixL_8b (k := k) (by omega)]; refine j3 (k + 1) _ _ ?_ (.cons rfl (.cons rfl (.cons rfl (.nil _)))) (sub (.cons (by repeat first | exact .head | apply Rem.tail) .nil) (by repeat first | exact .refl | apply Drop.skip)); exact ⟨by omega, by omega⟩)
 ·
  refine w_exit ?_
  refine thn_e ?_
  refine thn_e ?_
  refine blk_x ?_
  refine thn_n ?_
  refine w_seq ?_
  refine w_seq ?_
  refine w_region ?_
  refine o_val (v_assign rfl) rfl ?_
  refine o_nil ?_
  refine thn_n ?_
  refine w_block ?_
  refine w_add0 (Row I3 none 0 0 (List.replicate 0 5)) (Row.nil _ _ _) ?_
  refine w_loop3 (fun (m : Nat) (q2 : Option Addr) (c2 : Nat) => [(2, .slice q k c), (3, .slice q2 m c2), (5, .int .i64 (m : Int))]) (fun (m : Nat) (q2 : Option Addr) (c2 : Nat) => Row I3 q2 m c2 (List.replicate m 5) :: Row I3 q k c (InfP.fixL.take k) :: F) (fun (m : Nat) (q2 : Option Addr) (c2 : Nat) => m ≤ 32) (fun (m : Nat) (q2 : Option Addr) (c2 : Nat) => 32 - m) (i3 (0) (none) (0) ?_ (.cons rfl (.cons rfl (.cons rfl (.nil _)))) (sub (.cons (by repeat first | exact .head | apply Rem.tail) (.cons (by repeat first | exact .head | apply Rem.tail) .nil)) (by repeat first | exact .refl | apply Drop.skip))) ?_
  ·
   exact Nat.zero_le _
  intro m q2 c2
  rintro hm
  refine w_seq ?_
  refine w_seq ?_
  refine w_region ?_
  refine o_val (v_move rfl) rfl ?_
  refine o_val (v_lss rfl rfl) rfl ?_
  refine o_nil ?_
  refine thn_n ?_
  first | refine w_condD rfl (fun h36 => ?_) (fun h36 => ?_) | refine w_cond rfl (fun h36 => ?_) (fun h36 => ?_)
  ·
   refine w_skip ?_
   refine thn_n ?_
   refine w_seq ?_
   refine w_block ?_
   refine w_region ?_
   refine o_val (v_move rfl) rfl ?_
   refine r_build (I3) [5] V.sl30 V.z3 rfl rfl rfl rfl rfl rfl ?_
   intro b40
   refine r_append (c := (I3)) V.sl30 V.z3 rfl rfl rfl rfl (by repeat first | exact .head | apply Rem.tail) (own (by repeat first | exact .head _ | apply List.Mem.tail)) (by omega) rfl ?_
   intro p41 c41
   refine o_val (v_assign rfl) rfl ?_
   refine o_nil ?_
   refine blk_n ?_
   refine thn_n ?_
   refine w_region ?_
   refine o_val (v_move rfl) rfl ?_
   refine o_val (v_add rfl rfl (wrapI (by omega) (by omega))) rfl ?_
   refine o_val (v_assign rfl) rfl ?_
   refine o_nil ?_
   rw [← List.replicate_succ']
   refine j3 (m + 1) (_) (_) ?_ (.cons rfl (.cons rfl (.cons rfl (.nil _)))) (sub (.cons (by repeat first | exact .head | apply Rem.tail) (.cons (by repeat first | exact .head | apply Rem.tail) .nil)) (by repeat first | exact .refl | apply Drop.skip))
   exact ⟨by omega, by omega⟩
  ·
   refine w_exit ?_
   refine thn_e ?_
   refine thn_e ?_
   refine blk_x ?_
   refine thn_n ?_
   refine w_seq ?_
   obtain rfl : m = 32 := by omega
   obtain rfl : k = 288 := by omega
   rw [show (InfP.fixL.take 288) = InfP.fixL from List.take_of_length_le (by rw [InfP.fixL_len]; decide), show List.replicate 32 5 = InfP.fixD from rfl]
   refine w_region ?_
   refine o_val (v_move rfl) rfl ?_
   refine o_call (d_newY q 288 c InfP.fixL (Row I3 q 288 c InfP.fixL) InfP.fixL_len.symm (fun _ _ hh => row_rd InfP.fixL_len.symm hh) InfP.fixL_ok) V.b36  rfl (.cons (by repeat first | exact .head | apply Rem.tail) .nil) rfl ?_
   rintro _ _ ⟨x, rfl, rfl⟩
   refine o_val (v_move rfl) rfl ?_
   refine o_val (v_extract rfl rfl) rfl ?_
   refine o_val (v_extract rfl rfl) rfl ?_
   refine o_val (v_assign rfl) rfl ?_
   refine o_val (v_assign rfl) rfl ?_
   refine o_nil ?_
   refine thn_n ?_
   refine w_seq ?_
   refine w_region ?_
   refine o_val (v_move rfl) rfl ?_
   refine o_call (d_newY q2 32 c2 InfP.fixD (Row I3 q2 32 c2 InfP.fixD) InfP.fixD_len.symm (fun _ _ hh => row_rd InfP.fixD_len.symm hh) InfP.fixD_ok) V.b36  rfl (.cons (by repeat first | exact .head | apply Rem.tail) .nil) rfl ?_
   rintro _ _ ⟨z, rfl, rfl⟩
   refine o_val (v_move rfl) rfl ?_
   refine o_val (v_extract rfl rfl) rfl ?_
   refine o_val (v_extract rfl rfl) rfl ?_
   refine o_val (v_assign rfl) rfl ?_
   refine o_val (v_assign rfl) rfl ?_
   refine o_nil ?_
   refine thn_n ?_
   refine w_seq ?_
   refine w_region ?_
   refine o_val (v_move rfl) rfl ?_
   refine o_val (v_move rfl) rfl ?_
   refine o_val (v_assign rfl) rfl ?_
   refine o_val (v_assign rfl) rfl ?_
   refine o_nil ?_
   refine thn_n ?_
   refine w_ret ?_
   exact ret_ok (G := [RC x InfP.fixL, RC z InfP.fixD]) (res2 rfl rfl) ⟨x, z, rfl, rfl⟩ (sub (.cons (by repeat first | exact .head | apply Rem.tail) (.cons (by repeat first | exact .head | apply Rem.tail) .nil)) (by repeat first | exact .refl | apply Drop.skip))

set_option maxHeartbeats 8000000 in
set_option maxRecDepth 100000 in
theorem d_coded (b : Nat) (p : Option Addr) (cap : Nat) (B : List Int) (R : HProp) (hR : ∀ w0 h, R w0 h → RdR U5 p B.length B w0 h) (sh : Bool) (S : InfP.St) (mo : Int) (po : Option Addr) (co : Nat) (hl : B.length < 500000000) (hB : BitP.Byt B) (hm : 0 ≤ mo ∧ mo < 500000000) (hok : InfP.Ok B mo S) (o : Except Int InfP.St) (l d : Nat) (hkp : 0 < S.kind) (hc1 : S.copies = 0) (he1 : S.ended = false) (hbo : InfP.Bl B mo S o) : Ctr Try.prog 26 [.pointer (some ⟨b, 0, none⟩), .pointer (some ⟨l, 0, none⟩), .pointer (some ⟨d, 0, none⟩), .slice po S.out.length co, .int .i64 mo] [Cel b 52 [.slice p B.length cap, .int .i64 (S.at_ : Int), .bool false, .bool sh], R, RC l S.lits, RC d S.dist, Row U5 po S.out.length co S.out] (Ret fun v G => PO b p cap B R o v G) := by
 refine spec_of [(0, _), (1, _), (2, _), (3, _), (4, _)] Try.func26 rfl Try.ntmps26 rfl rfl ?_
 intro w0 F
 obtain ⟨hE1, hE2, hz1, hz2⟩ := hok.codes hkp
 have hll := InfP.code_len hE1
 have hdl := InfP.code_len hE2
 refine w_seq ?_
 refine w_region ?_
 refine o_val (v_assign rfl) rfl ?_
 refine o_val (v_assign rfl) rfl ?_
 refine o_nil ?_
 refine thn_n ?_
 refine w_block ?_
 refine w_loop3 (fun (s : InfP.St) (q : Option Addr) (c : Nat) => [(0, .pointer (some ⟨b, 0, none⟩)), (1, .pointer (some ⟨l, 0, none⟩)), (2, .pointer (some ⟨d, 0, none⟩)), (3, .slice q s.out.length c), (4, .int .i64 mo)]) (fun (s : InfP.St) (q : Option Addr) (c : Nat) => Cel b 52 [.slice p B.length cap, .int .i64 (s.at_ : Int), .bool false, .bool sh] :: R :: RC l S.lits :: RC d S.dist :: Row U5 q s.out.length c s.out :: F) (fun (s : InfP.St) (q : Option Addr) (c : Nat) => InfP.Bl B mo s o ∧ InfP.Ok B mo s ∧ s.kind = S.kind ∧ s.copies = 0 ∧ s.lits = S.lits ∧ s.dist = S.dist) (fun (s : InfP.St) (q : Option Addr) (c : Nat) => InfP.mu B s) (i3 (S) (po) (co) ?_ (.cons rfl (.cons rfl (.cons rfl (.cons rfl (.cons rfl (.nil _)))))) (sub (.cons (by repeat first | exact .head | apply Rem.tail) (.cons (by repeat first | exact .head | apply Rem.tail) (.cons (by repeat first | exact .head | apply Rem.tail) (.cons (by repeat first | exact .head | apply Rem.tail) (.cons (by repeat first | exact .head | apply Rem.tail) .nil))))) (by repeat first | exact .refl | apply Drop.skip))) ?_
 ·
  exact ⟨hbo, hok, rfl, hc1, rfl, rfl⟩
 intro s q c
 rintro ⟨hbs, hoks, hk, hcs, hlt, hdt⟩
 refine w_block ?_
 rcases (InfP.sym_or (B := B) (ls := S.lits) (a := s.at_) hE1 hz1) with ⟨e, hs⟩ | ⟨sy, a1, hs, hy0, hy1, ha0, ha1⟩
 ·
  refine w_seq ?_
  have hat := hoks.at_
  have hro := hoks.room
  refine w_region ?_
  refine o_val (v_move rfl) rfl ?_
  refine o_val (v_move rfl) rfl ?_
  refine o_call (d_symE l S.lits b p cap B R hR sh s.at_ hE1 hl hB hat hs) V.b37  rfl (.cons (by repeat first | exact .head | apply Rem.tail) (.cons (by repeat first | exact .head | apply Rem.tail) (.cons (by repeat first | exact .head | apply Rem.tail) .nil))) rfl ?_
  rintro _ _ ⟨rfl, n9, sh9, rfl⟩
  refine o_val (v_move rfl) rfl ?_
  refine o_val (v_extract rfl rfl) rfl ?_
  refine o_val (v_extract rfl rfl) rfl ?_
  refine o_val (v_assign rfl) rfl ?_
  refine o_val (v_assign rfl) rfl ?_
  refine o_nil ?_
  refine thn_n ?_
  refine w_seq ?_
  refine w_seq ?_
  refine w_region ?_
  refine o_val (v_move rfl) rfl ?_
  refine o_val (v_T (v_neq rfl rfl) (InfP.sym_nz hs)) rfl ?_
  refine o_nil ?_
  refine thn_n ?_
  refine w_condT rfl ?_
  refine w_seq ?_
  refine w_region ?_
  refine o_val (v_move rfl) rfl ?_
  refine o_val (v_assign rfl) rfl ?_
  refine o_val (v_assign rfl) rfl ?_
  refine o_nil ?_
  refine thn_n ?_
  refine w_ret ?_
  refine (thn_r (blk_r (thn_r (blk_r ?_))))
  obtain rfl := hbs.err (by omega) ((InfP.one_c (by omega) (by omega) (by omega)).trans (InfP.cod_e (by rw [hlt]; exact hs)))
  exact ret_ok (G := [R]) (res2 rfl rfl) ⟨rfl, rfl⟩ (sub (.cons (by repeat first | exact .head | apply Rem.tail) .nil) (by repeat first | exact .refl | apply Drop.skip))
 ·
  refine w_seq ?_
  have hat := hoks.at_
  have hro := hoks.room
  refine w_region ?_
  refine o_val (v_move rfl) rfl ?_
  refine o_val (v_move rfl) rfl ?_
  refine o_call (d_symY l S.lits b p cap B R hR sh s.at_ hE1 hl hB hat hs) V.b37  rfl (.cons (by repeat first | exact .head | apply Rem.tail) (.cons (by repeat first | exact .head | apply Rem.tail) (.cons (by repeat first | exact .head | apply Rem.tail) .nil))) rfl ?_
  rintro _ _ ⟨rfl, rfl⟩
  refine o_val (v_move rfl) rfl ?_
  refine o_val (v_extract rfl rfl) rfl ?_
  refine o_val (v_extract rfl rfl) rfl ?_
  refine o_val (v_assign rfl) rfl ?_
  refine o_val (v_assign rfl) rfl ?_
  refine o_nil ?_
  refine thn_n ?_
  refine w_seq ?_
  refine w_seq ?_
  refine w_region ?_
  refine o_val (v_move rfl) rfl ?_
  refine o_val (v_F (v_neq rfl rfl) (by decide)) rfl ?_
  refine o_nil ?_
  refine thn_n ?_
  refine w_condF rfl ?_
  refine w_skip ?_
  refine thn_n ?_
  refine w_seq ?_
  refine w_seq ?_
  refine w_region ?_
  refine o_val (v_move rfl) rfl ?_
  refine o_val (v_eql rfl rfl) rfl ?_
  refine o_nil ?_
  refine thn_n ?_
  first | refine w_condD rfl (fun h31 => ?_) (fun h31 => ?_) | refine w_cond rfl (fun h31 => ?_) (fun h31 => ?_)
  ·
   refine w_seq ?_
   refine w_region ?_
   refine o_val (v_move rfl) rfl ?_
   refine o_val (v_assign rfl) rfl ?_
   refine o_val (v_assign rfl) rfl ?_
   refine o_nil ?_
   refine thn_n ?_
   refine w_ret ?_
   refine (thn_r (blk_r (thn_r (blk_r ?_))))
   have hone := (InfP.one_c (B := B) (mo := mo) (s := s) (by omega) (by omega) (by omega)).trans (InfP.cod_end (B := B) (most := mo) (s := s) (by rw [hlt]; exact hs) (by omega))
   obtain rfl := (hbs.next (by omega) hone).end_ rfl
   exact ret_ok (G := [Cel b 52 [.slice p B.length cap, .int .i64 (a1 : Int), .bool false, .bool sh], R, Row U5 q s.out.length c s.out]) (res2 rfl rfl) ⟨q, c, sh, rfl, rfl⟩ (sub (.cons (by repeat first | exact .head | apply Rem.tail) (.cons (by repeat first | exact .head | apply Rem.tail) (.cons (by repeat first | exact .head | apply Rem.tail) .nil))) (by repeat first | exact .refl | apply Drop.skip))
  ·
   refine w_skip ?_
   refine thn_n ?_
   refine w_seq ?_
   refine w_seq ?_
   refine w_region ?_
   refine o_val (v_move rfl) rfl ?_
   refine o_val (v_lss rfl rfl) rfl ?_
   refine o_nil ?_
   refine thn_n ?_
   first | refine w_condD rfl (fun h34 => ?_) (fun h34 => ?_) | refine w_cond rfl (fun h34 => ?_) (fun h34 => ?_)
   ·
    refine w_seq ?_
    refine w_seq ?_
    refine w_region ?_
    refine o_val (v_move rfl) rfl ?_
    refine o_val (v_len (ty' := 0) Try.underlying22 rfl) rfl ?_
    refine o_val (v_move rfl) rfl ?_
    refine o_val (v_geq rfl rfl) rfl ?_
    refine o_nil ?_
    refine thn_n ?_
    first | refine w_condD rfl (fun h38 => ?_) (fun h38 => ?_) | refine w_cond rfl (fun h38 => ?_) (fun h38 => ?_)
    ·
     refine w_seq ?_
     refine w_region ?_
     refine o_val (v_assign rfl) rfl ?_
     refine o_val (v_assign rfl) rfl ?_
     refine o_nil ?_
     refine thn_n ?_
     refine w_ret ?_
     refine (thn_r (thn_r (blk_r (thn_r (blk_r ?_)))))
     obtain rfl := hbs.err (by omega) ((InfP.one_c (by omega) (by omega) (by omega)).trans ((InfP.cod_put (by rw [hlt]; exact hs) (by omega)).trans (InfP.put_no (by show ¬ (s.out.length : Int) < mo; omega))))
     exact ret_ok (G := [R]) (res2 rfl rfl) ⟨rfl, rfl⟩ (sub (.cons (by repeat first | exact .head | apply Rem.tail) .nil) (by repeat first | exact .refl | apply Drop.skip))
    ·
     refine w_skip ?_
     refine thn_n ?_
     refine w_seq ?_
     refine w_region ?_
     refine o_val (v_move rfl) rfl ?_
     refine o_val (v_move rfl) rfl ?_
     refine o_val (v_conv V.u3 Try.underlying5 rfl (wrap8 (by omega) (by omega))) rfl ?_
     refine r_build (U5) [sy] V.sl22 V.z5 rfl rfl rfl rfl rfl rfl ?_
     intro b42
     refine r_append (c := (U5)) V.sl22 V.z5 rfl rfl rfl rfl (by repeat first | exact .head | apply Rem.tail) (by first | exact own mm0 | exact own mm1 | exact own mm2 | exact own mm3 | exact own mm4 | exact own mm5 | exact own mm6 | exact own mm7 | exact own mm8 | exact own mm9 | exact own mm10 | exact own mm11 | exact rdH hR mm0 | exact rdH hR mm1 | exact rdH hR mm2 | exact rdH hR mm3 | exact rdH hR mm4 | exact rdH hR mm5 | exact rdH hR mm6 | exact rdH hR mm7 | exact rdH hR mm8 | exact rdH hR mm9 | exact rdH hR mm10 | exact rdH hR mm11) (by omega) rfl ?_
     intro p43 c43
     refine o_val (v_assign rfl) rfl ?_
     refine o_nil ?_
     refine thn_n ?_
     refine w_exit ?_
     refine thn_e ?_
     refine blk_x ?_
     first
     | (have hone := (InfP.one_c (B := B) (mo := mo) (s := s) (by omega) (by omega) (by omega)).trans ((InfP.cod_put (by rw [hlt]; exact hs) (by omega)).trans (InfP.put_yes (by show (s.out.length : Int) < mo; omega))); have hg1 := InfP.one_good hB hoks hone; rw [show s.out.length + 1 = (s.out ++ [sy]).length from by simp]; refine j3 ({ s with at_ := a1, out := s.out ++ [sy] }) (_) (_) ?_ (.cons rfl (.cons rfl (.cons rfl (.cons rfl (.cons rfl (.nil _)))))) (sub (.cons (by repeat first | exact .head | apply Rem.tail) (.cons (by repeat first | exact .head | apply Rem.tail) (.cons (by repeat first | exact .head | apply Rem.tail) (.cons (by repeat first | exact .head | apply Rem.tail) (.cons (by repeat first | exact .head | apply Rem.tail) .nil))))) (by repeat first | exact .refl | apply Drop.skip)); exact ⟨⟨hbs.next (by omega) hone, hg1.ok, hk, hcs, hlt, hdt⟩, hg1.less⟩)
     | (have hi0 : s5.copies = 0 := (by omega); rw [show ((a3 : Int) + (InfP.dsM dy : Int)) = (s5.at_ : Int) from (by omega)]; refine j3 (s5) (_) (_) ?_ (.cons rfl (.cons rfl (.cons rfl (.cons rfl (.cons rfl (.nil _)))))) (sub (.cons (by repeat first | exact .head | apply Rem.tail) (.cons (by repeat first | exact .head | apply Rem.tail) (.cons (by repeat first | exact .head | apply Rem.tail) (.cons (by repeat first | exact .head | apply Rem.tail) (.cons (by repeat first | exact .head | apply Rem.tail) .nil))))) (by repeat first | exact .refl | apply Drop.skip)); exact ⟨⟨hb6, hok5, hk5, hi0, hl5, hd5⟩, hmu5⟩)
   ·
    refine w_skip ?_
    refine thn_n ?_
    rcases (Nat.lt_or_ge 285 sy.toNat) with hsy | hsy
    ·
     refine w_seq ?_
     refine w_region ?_
     refine o_val (v_move rfl) rfl ?_
     refine o_call (d_lenNo sy (by omega) (by omega)) V.b38  rfl .nil rfl ?_
     rintro _ _ ⟨rfl, rfl⟩
     refine o_val (v_move rfl) rfl ?_
     refine o_val (v_extract rfl rfl) rfl ?_
     refine o_val (v_extract rfl rfl) rfl ?_
     refine o_val (v_extract rfl rfl) rfl ?_
     refine o_val (v_assign rfl) rfl ?_
     refine o_val (v_assign rfl) rfl ?_
     refine o_val (v_assign rfl) rfl ?_
     refine o_nil ?_
     refine thn_n ?_
     refine w_seq ?_
     refine w_seq ?_
     refine w_region ?_
     refine o_val (v_move rfl) rfl ?_
     refine o_val (v_to (v := .bool true) (v_not rfl) rfl) rfl ?_
     refine o_nil ?_
     refine thn_n ?_
     refine w_condT rfl ?_
     refine w_seq ?_
     refine w_region ?_
     refine o_val (v_assign rfl) rfl ?_
     refine o_val (v_assign rfl) rfl ?_
     refine o_nil ?_
     refine thn_n ?_
     refine w_ret ?_
     refine (thn_r (blk_r (thn_r (blk_r ?_))))
     obtain rfl := hbs.err (by omega) ((InfP.one_c (by omega) (by omega) (by omega)).trans (InfP.cod_l (by rw [hlt]; exact hs) (by omega) (InfP.len_no (by omega))))
     exact ret_ok (G := [R]) (res2 rfl rfl) ⟨rfl, rfl⟩ (sub (.cons (by repeat first | exact .head | apply Rem.tail) .nil) (by repeat first | exact .refl | apply Drop.skip))
    ·
     refine w_seq ?_
     refine w_region ?_
     refine o_val (v_move rfl) rfl ?_
     refine o_call (d_lenYes sy (by omega)) V.b38  rfl .nil rfl ?_
     rintro _ _ ⟨rfl, rfl⟩
     refine o_val (v_move rfl) rfl ?_
     refine o_val (v_extract rfl rfl) rfl ?_
     refine o_val (v_extract rfl rfl) rfl ?_
     refine o_val (v_extract rfl rfl) rfl ?_
     refine o_val (v_assign rfl) rfl ?_
     refine o_val (v_assign rfl) rfl ?_
     refine o_val (v_assign rfl) rfl ?_
     refine o_nil ?_
     refine thn_n ?_
     refine w_seq ?_
     refine w_seq ?_
     refine w_region ?_
     refine o_val (v_move rfl) rfl ?_
     refine o_val (v_to (v := .bool false) (v_not rfl) rfl) rfl ?_
     refine o_nil ?_
     refine thn_n ?_
     refine w_condF rfl ?_
     refine w_skip ?_
     refine thn_n ?_
     rcases (Nat.lt_or_ge (8 * B.length) (a1 + InfP.lnM (sy - 257))) with hx1 | hx1
     ·
      refine w_seq ?_
      have hlb := InfP.lnB_le (s := sy - 257) (by omega)
      have hnl := BitP.numL_bound B a1 (InfP.lnM (sy - 257))
      have hpl := BitP.pow24 (show (InfP.lnM (sy - 257)) ≤ 24 by omega)
      refine w_region ?_
      refine o_val (v_move rfl) rfl ?_
      refine o_val (v_move rfl) rfl ?_
      refine o_call (d_takeE b p cap B R hR a1 sh (InfP.lnM (sy - 257)) hl hB (by omega) (by omega) (by omega)) V.b23  rfl (.cons (by repeat first | exact .head | apply Rem.tail) (.cons (by repeat first | exact .head | apply Rem.tail) .nil)) rfl ?_
      rintro _ _ ⟨rfl, rfl⟩
      refine o_val (v_move rfl) rfl ?_
      refine o_val (v_extract rfl rfl) rfl ?_
      refine o_val (v_extract rfl rfl) rfl ?_
      refine o_val (v_assign rfl) rfl ?_
      refine o_val (v_assign rfl) rfl ?_
      refine o_nil ?_
      refine thn_n ?_
      refine w_seq ?_
      refine w_seq ?_
      refine w_region ?_
      refine o_val (v_move rfl) rfl ?_
      refine o_val (v_to (v := .bool true) (v_not rfl) rfl) rfl ?_
      refine o_nil ?_
      refine thn_n ?_
      refine w_condT rfl ?_
      refine w_seq ?_
      refine w_region ?_
      refine o_val (v_assign rfl) rfl ?_
      refine o_val (v_assign rfl) rfl ?_
      refine o_nil ?_
      refine thn_n ?_
      refine w_ret ?_
      refine (thn_r (blk_r (thn_r (blk_r ?_))))
      obtain rfl := hbs.err (by omega) ((InfP.one_c (by omega) (by omega) (by omega)).trans (InfP.cod_l (by rw [hlt]; exact hs) (by omega) (InfP.lenE_sh (by omega) (by omega))))
      exact ret_ok (G := [R]) (res2 rfl rfl) ⟨rfl, rfl⟩ (sub (.cons (by repeat first | exact .head | apply Rem.tail) .nil) (by repeat first | exact .refl | apply Drop.skip))
     ·
      refine w_seq ?_
      have hlb := InfP.lnB_le (s := sy - 257) (by omega)
      have hnl := BitP.numL_bound B a1 (InfP.lnM (sy - 257))
      have hpl := BitP.pow24 (show (InfP.lnM (sy - 257)) ≤ 24 by omega)
      refine w_region ?_
      refine o_val (v_move rfl) rfl ?_
      refine o_val (v_move rfl) rfl ?_
      refine o_call (d_take b p cap B R hR a1 sh (InfP.lnM (sy - 257)) hl hB (by omega) (by omega)) V.b23  rfl (.cons (by repeat first | exact .head | apply Rem.tail) (.cons (by repeat first | exact .head | apply Rem.tail) .nil)) rfl ?_
      rintro _ _ ⟨rfl, rfl⟩
      refine o_val (v_move rfl) rfl ?_
      refine o_val (v_extract rfl rfl) rfl ?_
      refine o_val (v_extract rfl rfl) rfl ?_
      refine o_val (v_assign rfl) rfl ?_
      refine o_val (v_assign rfl) rfl ?_
      refine o_nil ?_
      refine thn_n ?_
      refine w_seq ?_
      refine w_seq ?_
      refine w_region ?_
      refine o_val (v_move rfl) rfl ?_
      refine o_val (v_to (v := .bool false) (v_not rfl) rfl) rfl ?_
      refine o_nil ?_
      refine thn_n ?_
      refine w_condF rfl ?_
      refine w_skip ?_
      refine thn_n ?_
      refine w_seq ?_
      refine w_region ?_
      refine o_val (v_move rfl) rfl ?_
      refine o_val (v_move rfl) rfl ?_
      refine o_val (v_add rfl rfl (wrapI (by omega) (by omega))) rfl ?_
      refine o_val (v_assign rfl) rfl ?_
      refine o_nil ?_
      refine thn_n ?_
      rcases (InfP.sym_or (B := B) (ls := S.dist) (a := (a1 + InfP.lnM (sy - 257))) hE2 hz2) with ⟨e, hs2⟩ | ⟨dy, a3, hs2, hd0, hd1, ha2, ha3⟩
      ·
       refine w_seq ?_
       obtain ⟨n, hn⟩ : ∃ n : Nat, (InfP.lnB (sy - 257)) + BitP.numL B a1 (InfP.lnM (sy - 257)) = (n : Int) := ⟨_, (Int.toNat_of_nonneg (by omega)).symm⟩
       rw [hn]
       have hle := InfP.lenE_ok (by omega) hx1 hn
       refine w_region ?_
       refine o_val (v_move rfl) rfl ?_
       refine o_val (v_move rfl) rfl ?_
       refine o_call (d_symE d S.dist b p cap B R hR sh (a1 + InfP.lnM (sy - 257)) hE2 hl hB (by omega) hs2) V.b37  rfl (.cons (by repeat first | exact .head | apply Rem.tail) (.cons (by repeat first | exact .head | apply Rem.tail) (.cons (by repeat first | exact .head | apply Rem.tail) .nil))) rfl ?_
       rintro _ _ ⟨rfl, n9, sh9, rfl⟩
       refine o_val (v_move rfl) rfl ?_
       refine o_val (v_extract rfl rfl) rfl ?_
       refine o_val (v_extract rfl rfl) rfl ?_
       refine o_val (v_assign rfl) rfl ?_
       refine o_val (v_assign rfl) rfl ?_
       refine o_nil ?_
       refine thn_n ?_
       refine w_seq ?_
       refine w_seq ?_
       refine w_region ?_
       refine o_val (v_move rfl) rfl ?_
       refine o_val (v_T (v_neq rfl rfl) (InfP.sym_nz hs2)) rfl ?_
       refine o_nil ?_
       refine thn_n ?_
       refine w_condT rfl ?_
       refine w_seq ?_
       refine w_region ?_
       refine o_val (v_move rfl) rfl ?_
       refine o_val (v_assign rfl) rfl ?_
       refine o_val (v_assign rfl) rfl ?_
       refine o_nil ?_
       refine thn_n ?_
       refine w_ret ?_
       refine (thn_r (blk_r (thn_r (blk_r ?_))))
       obtain rfl := hbs.err (by omega) ((InfP.one_c (by omega) (by omega) (by omega)).trans (InfP.cod_a (by rw [hlt]; exact hs) (by omega) hle (by rw [hdt]; exact InfP.away_e hs2)))
       exact ret_ok (G := [R]) (res2 rfl rfl) ⟨rfl, rfl⟩ (sub (.cons (by repeat first | exact .head | apply Rem.tail) .nil) (by repeat first | exact .refl | apply Drop.skip))
      ·
       refine w_seq ?_
       obtain ⟨n, hn⟩ : ∃ n : Nat, (InfP.lnB (sy - 257)) + BitP.numL B a1 (InfP.lnM (sy - 257)) = (n : Int) := ⟨_, (Int.toNat_of_nonneg (by omega)).symm⟩
       rw [hn]
       have hle := InfP.lenE_ok (by omega) hx1 hn
       refine w_region ?_
       refine o_val (v_move rfl) rfl ?_
       refine o_val (v_move rfl) rfl ?_
       refine o_call (d_symY d S.dist b p cap B R hR sh (a1 + InfP.lnM (sy - 257)) hE2 hl hB (by omega) hs2) V.b37  rfl (.cons (by repeat first | exact .head | apply Rem.tail) (.cons (by repeat first | exact .head | apply Rem.tail) (.cons (by repeat first | exact .head | apply Rem.tail) .nil))) rfl ?_
       rintro _ _ ⟨rfl, rfl⟩
       refine o_val (v_move rfl) rfl ?_
       refine o_val (v_extract rfl rfl) rfl ?_
       refine o_val (v_extract rfl rfl) rfl ?_
       refine o_val (v_assign rfl) rfl ?_
       refine o_val (v_assign rfl) rfl ?_
       refine o_nil ?_
       refine thn_n ?_
       refine w_seq ?_
       refine w_seq ?_
       refine w_region ?_
       refine o_val (v_move rfl) rfl ?_
       refine o_val (v_F (v_neq rfl rfl) (by decide)) rfl ?_
       refine o_nil ?_
       refine thn_n ?_
       refine w_condF rfl ?_
       refine w_skip ?_
       refine thn_n ?_
       rcases (Nat.lt_or_ge 29 dy.toNat) with hdy | hdy
       ·
        refine w_seq ?_
        refine w_region ?_
        refine o_val (v_move rfl) rfl ?_
        refine o_call (d_distNo dy (by omega) (by omega)) V.b39  rfl .nil rfl ?_
        rintro _ _ ⟨rfl, rfl⟩
        refine o_val (v_move rfl) rfl ?_
        refine o_val (v_extract rfl rfl) rfl ?_
        refine o_val (v_extract rfl rfl) rfl ?_
        refine o_val (v_extract rfl rfl) rfl ?_
        refine o_val (v_assign rfl) rfl ?_
        refine o_val (v_assign rfl) rfl ?_
        refine o_val (v_assign rfl) rfl ?_
        refine o_nil ?_
        refine thn_n ?_
        refine w_seq ?_
        refine w_seq ?_
        refine w_region ?_
        refine o_val (v_move rfl) rfl ?_
        refine o_val (v_to (v := .bool true) (v_not rfl) rfl) rfl ?_
        refine o_nil ?_
        refine thn_n ?_
        refine w_condT rfl ?_
        refine w_seq ?_
        refine w_region ?_
        refine o_val (v_assign rfl) rfl ?_
        refine o_val (v_assign rfl) rfl ?_
        refine o_nil ?_
        refine thn_n ?_
        refine w_ret ?_
        refine (thn_r (blk_r (thn_r (blk_r ?_))))
        obtain rfl := hbs.err (by omega) ((InfP.one_c (by omega) (by omega) (by omega)).trans (InfP.cod_a (by rw [hlt]; exact hs) (by omega) hle (by rw [hdt]; exact InfP.away_no hs2 (by omega))))
        exact ret_ok (G := [R]) (res2 rfl rfl) ⟨rfl, rfl⟩ (sub (.cons (by repeat first | exact .head | apply Rem.tail) .nil) (by repeat first | exact .refl | apply Drop.skip))
       ·
        refine w_seq ?_
        refine w_region ?_
        refine o_val (v_move rfl) rfl ?_
        refine o_call (d_distYes dy (by omega)) V.b39  rfl .nil rfl ?_
        rintro _ _ ⟨rfl, rfl⟩
        refine o_val (v_move rfl) rfl ?_
        refine o_val (v_extract rfl rfl) rfl ?_
        refine o_val (v_extract rfl rfl) rfl ?_
        refine o_val (v_extract rfl rfl) rfl ?_
        refine o_val (v_assign rfl) rfl ?_
        refine o_val (v_assign rfl) rfl ?_
        refine o_val (v_assign rfl) rfl ?_
        refine o_nil ?_
        refine thn_n ?_
        refine w_seq ?_
        refine w_seq ?_
        refine w_region ?_
        refine o_val (v_move rfl) rfl ?_
        refine o_val (v_to (v := .bool false) (v_not rfl) rfl) rfl ?_
        refine o_nil ?_
        refine thn_n ?_
        refine w_condF rfl ?_
        refine w_skip ?_
        refine thn_n ?_
        rcases (Nat.lt_or_ge (8 * B.length) (a3 + InfP.dsM dy)) with hx2 | hx2
        ·
         refine w_seq ?_
         have hdb := InfP.dsB_le (s := dy) (by omega)
         have hnd := BitP.numL_bound B a3 (InfP.dsM dy)
         have hpd := BitP.pow24 (show (InfP.dsM dy) ≤ 24 by omega)
         refine w_region ?_
         refine o_val (v_move rfl) rfl ?_
         refine o_val (v_move rfl) rfl ?_
         refine o_call (d_takeE b p cap B R hR a3 sh (InfP.dsM dy) hl hB (by omega) (by omega) (by omega)) V.b23  rfl (.cons (by repeat first | exact .head | apply Rem.tail) (.cons (by repeat first | exact .head | apply Rem.tail) .nil)) rfl ?_
         rintro _ _ ⟨rfl, rfl⟩
         refine o_val (v_move rfl) rfl ?_
         refine o_val (v_extract rfl rfl) rfl ?_
         refine o_val (v_extract rfl rfl) rfl ?_
         refine o_val (v_assign rfl) rfl ?_
         refine o_val (v_assign rfl) rfl ?_
         refine o_nil ?_
         refine thn_n ?_
         refine w_seq ?_
         refine w_seq ?_
         refine w_region ?_
         refine o_val (v_move rfl) rfl ?_
         refine o_val (v_to (v := .bool true) (v_not rfl) rfl) rfl ?_
         refine o_nil ?_
         refine thn_n ?_
         refine w_condT rfl ?_
         refine w_seq ?_
         refine w_region ?_
         refine o_val (v_assign rfl) rfl ?_
         refine o_val (v_assign rfl) rfl ?_
         refine o_nil ?_
         refine thn_n ?_
         refine w_ret ?_
         refine (thn_r (blk_r (thn_r (blk_r ?_))))
         obtain rfl := hbs.err (by omega) ((InfP.one_c (by omega) (by omega) (by omega)).trans (InfP.cod_a (by rw [hlt]; exact hs) (by omega) hle (by rw [hdt]; exact InfP.awayE_sh hs2 (by omega) (by omega))))
         exact ret_ok (G := [R]) (res2 rfl rfl) ⟨rfl, rfl⟩ (sub (.cons (by repeat first | exact .head | apply Rem.tail) .nil) (by repeat first | exact .refl | apply Drop.skip))
        ·
         refine w_seq ?_
         have hdb := InfP.dsB_le (s := dy) (by omega)
         have hnd := BitP.numL_bound B a3 (InfP.dsM dy)
         have hpd := BitP.pow24 (show (InfP.dsM dy) ≤ 24 by omega)
         refine w_region ?_
         refine o_val (v_move rfl) rfl ?_
         refine o_val (v_move rfl) rfl ?_
         refine o_call (d_take b p cap B R hR a3 sh (InfP.dsM dy) hl hB (by omega) (by omega)) V.b23  rfl (.cons (by repeat first | exact .head | apply Rem.tail) (.cons (by repeat first | exact .head | apply Rem.tail) .nil)) rfl ?_
         rintro _ _ ⟨rfl, rfl⟩
         refine o_val (v_move rfl) rfl ?_
         refine o_val (v_extract rfl rfl) rfl ?_
         refine o_val (v_extract rfl rfl) rfl ?_
         refine o_val (v_assign rfl) rfl ?_
         refine o_val (v_assign rfl) rfl ?_
         refine o_nil ?_
         refine thn_n ?_
         refine w_seq ?_
         refine w_seq ?_
         refine w_region ?_
         refine o_val (v_move rfl) rfl ?_
         refine o_val (v_to (v := .bool false) (v_not rfl) rfl) rfl ?_
         refine o_nil ?_
         refine thn_n ?_
         refine w_condF rfl ?_
         refine w_skip ?_
         refine thn_n ?_
         refine w_seq ?_
         refine w_region ?_
         refine o_val (v_move rfl) rfl ?_
         refine o_val (v_move rfl) rfl ?_
         refine o_val (v_add rfl rfl (wrapI (by omega) (by omega))) rfl ?_
         refine o_val (v_assign rfl) rfl ?_
         refine o_nil ?_
         refine thn_n ?_
         refine w_seq ?_
         refine w_seq ?_
         obtain ⟨f, hf⟩ : ∃ f : Nat, (InfP.dsB dy) + BitP.numL B a3 (InfP.dsM dy) = (f : Int) := ⟨_, (Int.toNat_of_nonneg (by omega)).symm⟩
         rw [hf]
         have haw := InfP.awayE_ok hs2 (by omega) hx2 hf
         have hn4 := InfP.lenE_good (by omega) ha1 hle
         refine w_region ?_
         refine o_val (v_move rfl) rfl ?_
         refine o_val (v_move rfl) rfl ?_
         refine o_val (v_len (ty' := 0) Try.underlying22 rfl) rfl ?_
         refine o_val (v_gtr rfl rfl) rfl ?_
         refine o_nil ?_
         refine thn_n ?_
         first | refine w_condD rfl (fun h94 => ?_) (fun h94 => ?_) | refine w_cond rfl (fun h94 => ?_) (fun h94 => ?_)
         ·
          refine w_seq ?_
          refine w_region ?_
          refine o_val (v_assign rfl) rfl ?_
          refine o_val (v_assign rfl) rfl ?_
          refine o_nil ?_
          refine thn_n ?_
          refine w_ret ?_
          refine (thn_r (blk_r (thn_r (blk_r ?_))))
          obtain rfl := hbs.err (by omega) ((InfP.one_c (by omega) (by omega) (by omega)).trans (InfP.cod_n (by rw [hlt]; exact hs) (by omega) hle (by rw [hdt]; exact haw) (by omega)))
          exact ret_ok (G := [R]) (res2 rfl rfl) ⟨rfl, rfl⟩ (sub (.cons (by repeat first | exact .head | apply Rem.tail) .nil) (by repeat first | exact .refl | apply Drop.skip))
         ·
          refine w_skip ?_
          refine thn_n ?_
          refine w_seq ?_
          have hone := (InfP.one_c (B := B) (mo := mo) (s := s) (by omega) (by omega) (by omega)).trans (InfP.cod_y (by rw [hlt]; exact hs) (by omega) hle (by rw [hdt]; exact haw) (by omega))
          rw [Int.toNat_natCast, Int.toNat_natCast] at hone
          have hg1 := InfP.one_good hB hoks hone
          have hb5 := hbs.next (by omega) hone
          refine w_region ?_
          refine o_val (v_assign rfl) rfl ?_
          refine o_nil ?_
          refine thn_n ?_
          refine w_block ?_
          refine w_loop4 (fun (s5 : InfP.St) (i : Nat) (q5 : Option Addr) (c5 : Nat) => [(0, .pointer (some ⟨b, 0, none⟩)), (1, .pointer (some ⟨l, 0, none⟩)), (2, .pointer (some ⟨d, 0, none⟩)), (3, .slice q5 s5.out.length c5), (4, .int .i64 mo), (14, .int .i64 (n : Int)), (19, .int .i64 (f : Int)), (20, .int .i64 (i : Int))]) (fun (s5 : InfP.St) (i : Nat) (q5 : Option Addr) (c5 : Nat) => Cel b 52 [.slice p B.length cap, .int .i64 ((a3 + InfP.dsM dy) : Int), .bool false, .bool sh] :: R :: RC l S.lits :: RC d S.dist :: Row U5 q5 s5.out.length c5 s5.out :: F) (fun (s5 : InfP.St) (i : Nat) (q5 : Option Addr) (c5 : Nat) => InfP.Bl B mo s5 o ∧ InfP.Ok B mo s5 ∧ s5.kind = S.kind ∧ s5.copies + i = n ∧ s5.lits = S.lits ∧ s5.dist = S.dist ∧ s5.far = f ∧ s5.at_ = (a3 + InfP.dsM dy) ∧ InfP.mu B s5 < InfP.mu B s) (fun (s5 : InfP.St) (i : Nat) (q5 : Option Addr) (c5 : Nat) => s5.copies) (i4 ({ s with at_ := (a3 + InfP.dsM dy), copies := n, far := f }) (0) (q) (c) ?_ (.cons rfl (.cons rfl (.cons rfl (.cons rfl (.cons rfl (.cons rfl (.cons rfl (.cons rfl (.nil _))))))))) (sub (.cons (by repeat first | exact .head | apply Rem.tail) (.cons (by repeat first | exact .head | apply Rem.tail) (.cons (by repeat first | exact .head | apply Rem.tail) (.cons (by repeat first | exact .head | apply Rem.tail) (.cons (by repeat first | exact .head | apply Rem.tail) .nil))))) (by repeat first | exact .refl | apply Drop.skip))) ?_
          ·
           exact ⟨hb5, hg1.ok, hk, rfl, hlt, hdt, rfl, rfl, hg1.less⟩
          intro s5 i q5 c5
          rintro ⟨hb6, hok5, hk5, hi5, hl5, hd5, hf5, ha5, hmu5⟩
          refine w_seq ?_
          refine w_seq ?_
          refine w_region ?_
          refine o_val (v_move rfl) rfl ?_
          refine o_val (v_move rfl) rfl ?_
          refine o_val (v_lss rfl rfl) rfl ?_
          refine o_nil ?_
          refine thn_n ?_
          first | refine w_condD rfl (fun h97 => ?_) (fun h97 => ?_) | refine w_cond rfl (fun h97 => ?_) (fun h97 => ?_)
          ·
           refine w_skip ?_
           refine thn_n ?_
           refine w_seq ?_
           refine w_block ?_
           refine w_seq ?_
           refine w_seq ?_
           have hro5 := hok5.room
           have hcp : 0 < s5.copies := by omega
           have hfr := hok5.far hcp
           refine w_region ?_
           refine o_val (v_move rfl) rfl ?_
           refine o_val (v_len (ty' := 0) Try.underlying22 rfl) rfl ?_
           refine o_val (v_move rfl) rfl ?_
           refine o_val (v_geq rfl rfl) rfl ?_
           refine o_nil ?_
           refine thn_n ?_
           first | refine w_condD rfl (fun h103 => ?_) (fun h103 => ?_) | refine w_cond rfl (fun h103 => ?_) (fun h103 => ?_)
           ·
            refine w_seq ?_
            refine w_region ?_
            refine o_val (v_assign rfl) rfl ?_
            refine o_val (v_assign rfl) rfl ?_
            refine o_nil ?_
            refine thn_n ?_
            refine w_ret ?_
            refine (thn_r (blk_r (thn_r (thn_r (blk_r (blk_r (thn_r (blk_r ?_))))))))
            obtain rfl := hb6.err (by omega) (InfP.one_ce hcp (InfP.put_no (by omega)))
            exact ret_ok (G := [R]) (res2 rfl rfl) ⟨rfl, rfl⟩ (sub (.cons (by repeat first | exact .head | apply Rem.tail) .nil) (by repeat first | exact .refl | apply Drop.skip))
           ·
            refine w_skip ?_
            refine thn_n ?_
            have hge : (U5.g s5.out ((s5.out.length : Int) - (f : Int))) = s5.out.getD (s5.out.length - s5.far) 0 := by rw [hf5]; exact gE _ (by omega)
            refine w_region ?_
            refine o_val (v_move rfl) rfl ?_
            refine o_val (v_move rfl) rfl ?_
            refine o_val (v_move rfl) rfl ?_
            refine o_val (v_len (ty' := 0) Try.underlying22 rfl) rfl ?_
            refine o_val (v_move rfl) rfl ?_
            refine o_val (v_sub rfl rfl (wrapI (by omega) (by omega))) rfl ?_
            refine o_val (r_index (c := (U5)) V.sl22 rfl rfl (by first | exact own mm0 | exact own mm1 | exact own mm2 | exact own mm3 | exact own mm4 | exact own mm5 | exact own mm6 | exact own mm7 | exact own mm8 | exact own mm9 | exact own mm10 | exact own mm11 | exact rdH hR mm0 | exact rdH hR mm1 | exact rdH hR mm2 | exact rdH hR mm3 | exact rdH hR mm4 | exact rdH hR mm5 | exact rdH hR mm6 | exact rdH hR mm7 | exact rdH hR mm8 | exact rdH hR mm9 | exact rdH hR mm10 | exact rdH hR mm11) (by omega) (by omega)) rfl ?_
            refine o_val (r_load (c := (U5)) V.s5 rfl (by first | exact own mm0 | exact own mm1 | exact own mm2 | exact own mm3 | exact own mm4 | exact own mm5 | exact own mm6 | exact own mm7 | exact own mm8 | exact own mm9 | exact own mm10 | exact own mm11 | exact rdH hR mm0 | exact rdH hR mm1 | exact rdH hR mm2 | exact rdH hR mm3 | exact rdH hR mm4 | exact rdH hR mm5 | exact rdH hR mm6 | exact rdH hR mm7 | exact rdH hR mm8 | exact rdH hR mm9 | exact rdH hR mm10 | exact rdH hR mm11) (by omega) (by omega) rfl rfl) rfl ?_
            refine r_build (U5) [(U5.g s5.out ((s5.out.length : Int) - (f : Int)))] V.sl22 V.z5 rfl rfl rfl rfl rfl rfl ?_
            intro b112
            refine r_append (c := (U5)) V.sl22 V.z5 rfl rfl rfl rfl (by repeat first | exact .head | apply Rem.tail) (by first | exact own mm0 | exact own mm1 | exact own mm2 | exact own mm3 | exact own mm4 | exact own mm5 | exact own mm6 | exact own mm7 | exact own mm8 | exact own mm9 | exact own mm10 | exact own mm11 | exact rdH hR mm0 | exact rdH hR mm1 | exact rdH hR mm2 | exact rdH hR mm3 | exact rdH hR mm4 | exact rdH hR mm5 | exact rdH hR mm6 | exact rdH hR mm7 | exact rdH hR mm8 | exact rdH hR mm9 | exact rdH hR mm10 | exact rdH hR mm11) (by omega) rfl ?_
            intro p113 c113
            refine o_val (v_assign rfl) rfl ?_
            refine o_nil ?_
            refine blk_n ?_
            refine thn_n ?_
            refine w_region ?_
            refine o_val (v_move rfl) rfl ?_
            refine o_val (v_add rfl rfl (wrapI (by omega) (by omega))) rfl ?_
            refine o_val (v_assign rfl) rfl ?_
            refine o_nil ?_
            have hone5 := InfP.one_cy (B := B) (mo := mo) (s := s5) hcp (by omega)
            rw [← hge] at hone5
            have hg5 := InfP.one_good hB hok5 hone5
            rw [show s5.out.length + 1 = (s5.out ++ [(U5.g s5.out ((s5.out.length : Int) - (f : Int)))]).length from by simp]
            refine j4 ({ s5 with copies := s5.copies - 1, out := s5.out ++ [(U5.g s5.out ((s5.out.length : Int) - (f : Int)))] }) (i + 1) (_) (_) ?_ (.cons rfl (.cons rfl (.cons rfl (.cons rfl (.cons rfl (.cons rfl (.cons rfl (.cons rfl (.nil _))))))))) (sub (.cons (by repeat first | exact .head | apply Rem.tail) (.cons (by repeat first | exact .head | apply Rem.tail) (.cons (by repeat first | exact .head | apply Rem.tail) (.cons (by repeat first | exact .head | apply Rem.tail) (.cons (by repeat first | exact .head | apply Rem.tail) .nil))))) (by repeat first | exact .refl | apply Drop.skip))
            exact ⟨⟨hb6.next (by omega) hone5, hg5.ok, hk5, by show s5.copies - 1 + (i + 1) = n; omega, hl5, hd5, hf5, ha5, Nat.lt_trans hg5.less hmu5⟩, by show s5.copies - 1 < s5.copies; omega⟩
          ·
           refine w_exit ?_
           refine thn_e ?_
           refine thn_e ?_
           refine blk_x ?_
           refine blk_n ?_
           first
           | (have hone := (InfP.one_c (B := B) (mo := mo) (s := s) (by omega) (by omega) (by omega)).trans ((InfP.cod_put (by rw [hlt]; exact hs) (by omega)).trans (InfP.put_yes (by show (s.out.length : Int) < mo; omega))); have hg1 := InfP.one_good hB hoks hone; rw [show s.out.length + 1 = (s.out ++ [sy]).length from by simp]; refine j3 ({ s with at_ := a1, out := s.out ++ [sy] }) (_) (_) ?_ (.cons rfl (.cons rfl (.cons rfl (.cons rfl (.cons rfl (.nil _)))))) (sub (.cons (by repeat first | exact .head | apply Rem.tail) (.cons (by repeat first | exact .head | apply Rem.tail) (.cons (by repeat first | exact .head | apply Rem.tail) (.cons (by repeat first | exact .head | apply Rem.tail) (.cons (by repeat first | exact .head | apply Rem.tail) .nil))))) (by repeat first | exact .refl | apply Drop.skip)); exact ⟨⟨hbs.next (by omega) hone, hg1.ok, hk, hcs, hlt, hdt⟩, hg1.less⟩)
           | (have hi0 : s5.copies = 0 := (by omega); rw [show ((a3 : Int) + (InfP.dsM dy : Int)) = (s5.at_ : Int) from (by omega)]; refine j3 (s5) (_) (_) ?_ (.cons rfl (.cons rfl (.cons rfl (.cons rfl (.cons rfl (.nil _)))))) (sub (.cons (by repeat first | exact .head | apply Rem.tail) (.cons (by repeat first | exact .head | apply Rem.tail) (.cons (by repeat first | exact .head | apply Rem.tail) (.cons (by repeat first | exact .head | apply Rem.tail) (.cons (by repeat first | exact .head | apply Rem.tail) .nil))))) (by repeat first | exact .refl | apply Drop.skip)); exact ⟨⟨hb6, hok5, hk5, hi0, hl5, hd5⟩, hmu5⟩)
end Go.Proofs.Ytoplcgkafaoafaa

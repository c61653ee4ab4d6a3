/- Steps of the proof: the walks of the functions that the statement reaches; printed by a program of ours. -/
import Derived.Test.YtoplcgkafaoafaaInfAA
import Derived.Test.YtoplcgkafaoafaaM39
import Derived.Test.YtoplcgkafaoafaaM38
/-
 Steps of the proof: walks of functions that the statement reaches; printed by a program of ours.
-/
namespace Go.Proofs.Ytoplcgkafaoafaa
open Go.Sl 
set_option linter.unusedVariables false
set_option linter.unusedSimpArgs false

attribute [local irreducible] HuffP.newE HuffP.tk HuffP.ord HuffP.cntL HuffP.words HuffP.mostL InfP.frs InfP.toldC InfP.toldN InfP.toldA InfP.hL InfP.hD InfP.hC InfP.lnGo InfP.told InfP.fixL InfP.codeE InfP.rep InfP.lenE InfP.awayE InfP.sym InfP.alg BitP.numL InfP.coded InfP.begin_ InfP.one InfP.put_ InfP.lnB InfP.dsB InfP.lnM InfP.dsM InfP.fixD

set_option maxHeartbeats 8000000 in
set_option maxRecDepth 100000 in
theorem d_inf (p : Option Addr) (cap : Nat) (B : List Int) (R : HProp) (hR : ∀ w0 h, R w0 h → RdR U5 p B.length B w0 h) (hl : B.length < 500000000) (hB : BitP.Byt B) (mo : Int) (hm1 : mo < 500000000) (q : List Int × Int × Int) (hq : InfP.Res B mo q) : Ctr Try.prog 12 [.slice p B.length cap, .int .i64 mo] [R] (Ret fun v G => ∃ qq cq, v = .tuple #[.slice qq q.1.length cq, .int .i64 q.2.1, .int .i64 q.2.2] ∧ G = [Row U5 qq q.1.length cq q.1, R]) := by
 refine spec_of [(0, _), (1, _)] Try.func12 rfl Try.ntmps12 rfl rfl ?_
 intro w0 F
 refine w_seq ?_
 refine w_region ?_
 refine o_val (v_assign rfl) rfl ?_
 refine o_val (v_assign rfl) rfl ?_
 refine o_val (v_assign rfl) rfl ?_
 refine o_nil ?_
 refine thn_n ?_
 rcases (Int.lt_or_le mo 0) with hm0 | hm0
 ·
  refine w_seq ?_
  refine w_seq ?_
  refine w_region ?_
  refine o_val (v_move rfl) rfl ?_
  refine o_val (v_T (v_lss rfl rfl) hm0) rfl ?_
  refine o_nil ?_
  refine thn_n ?_
  refine w_condT rfl ?_
  refine w_seq ?_
  refine w_region ?_
  refine o_val (v_assign rfl) rfl ?_
  refine o_val (v_assign rfl) rfl ?_
  refine o_val (v_assign rfl) rfl ?_
  refine o_nil ?_
  refine thn_n ?_
  refine w_ret ?_
  refine (thn_r ?_)
  obtain rfl := hq.det (.inl ⟨hm0, rfl⟩)
  exact ret_ok (G := [Row U5 none 0 0 [], R]) (res3 rfl rfl rfl) ⟨none, 0, rfl, rfl⟩ (Sl.Sub.trans (sub_add0 (A := Row U5 none 0 0 []) (fun w0 => Row.nil U5 w0 _)) (sub (.cons (by repeat first | exact .head | apply Rem.tail) (.cons (by repeat first | exact .head | apply Rem.tail) .nil)) (by repeat first | exact .refl | apply Drop.skip)))
 ·
  refine w_seq ?_
  refine w_seq ?_
  refine w_region ?_
  refine o_val (v_move rfl) rfl ?_
  refine o_val (v_F (v_lss rfl rfl) (by omega)) rfl ?_
  refine o_nil ?_
  refine thn_n ?_
  refine w_condF rfl ?_
  refine w_skip ?_
  refine thn_n ?_
  refine w_seq ?_
  have hm : 0 ≤ mo ∧ mo < 500000000 := ⟨hm0, hm1⟩
  refine w_region ?_
  refine o_val (v_move rfl) rfl ?_
  refine o_val (v_build V.pl52 V.z52 rfl (cs := [_, _, _, _]) rfl) rfl ?_
  refine o_box rfl (cs := [_, _, _, _]) rfl rfl ?_
  intro b23
  refine o_val (v_assign rfl) rfl ?_
  refine o_nil ?_
  refine thn_n ?_
  refine w_seq ?_
  refine w_region ?_
  refine r_build (U5) [] V.sl22 V.z5 rfl rfl rfl rfl rfl rfl ?_
  intro b24
  refine o_val (v_assign rfl) rfl ?_
  refine o_nil ?_
  refine thn_n ?_
  refine w_block ?_
  refine w_sub (M := Cel b23 52 [.slice p B.length cap, .int .i64 (InfP.start.at_ : Int), .bool false, .bool false] :: R :: Row U5 (some ⟨b24, 0, none⟩) InfP.start.out.length 0 InfP.start.out :: F) (sub (.cons (by repeat first | exact .head | apply Rem.tail) (.cons (by repeat first | exact .head | apply Rem.tail) (.cons (by repeat first | exact .head | apply Rem.tail) .nil))) (by repeat first | exact .refl | apply Drop.skip)) ?_
  refine w_loop4 (fun (S : InfP.St) (q2 : Option Addr) (c2 : Nat) (sh : Bool) => [(1, .int .i64 mo), (7, .pointer (some ⟨b23, 0, none⟩)), (8, .slice q2 S.out.length c2)]) (fun (S : InfP.St) (q2 : Option Addr) (c2 : Nat) (sh : Bool) => Cel b23 52 [.slice p B.length cap, .int .i64 (S.at_ : Int), .bool false, .bool sh] :: R :: Row U5 q2 S.out.length c2 S.out :: F) (fun (S : InfP.St) (q2 : Option Addr) (c2 : Nat) (sh : Bool) => InfP.Goes B mo InfP.start S ∧ InfP.Ok B mo S ∧ S.kind = -1 ∧ S.copies = 0 ∧ S.ended = false) (fun (S : InfP.St) (q2 : Option Addr) (c2 : Nat) (sh : Bool) => InfP.mu B S) (i4 (InfP.start) (some ⟨b24, 0, none⟩) (0) (false) ?_ (.cons rfl (.cons rfl (.cons rfl (.nil _)))) (sub (.cons (by repeat first | exact .head | apply Rem.tail) (.cons (by repeat first | exact .head | apply Rem.tail) (.cons (by repeat first | exact .head | apply Rem.tail) .nil))) (by repeat first | exact .refl | apply Drop.skip))) ?_
  ·
   exact ⟨InfP.Goes.refl _ _ _, InfP.start_ok hm0, rfl, rfl, rfl⟩
  intro S q2 c2 sh
  rintro ⟨hgo, hok, hk, hc, he⟩
  refine w_block ?_
  refine w_seq ?_
  refine w_seq ?_
  have hat := hok.at_
  have hro := hok.room
  refine w_region ?_
  refine o_val (v_move rfl) rfl ?_
  refine o_call (d_Left b23 p cap B R hR S.at_ sh hl hok.at_) V.b22  rfl (.cons (by repeat first | exact .head | apply Rem.tail) (.cons (by repeat first | exact .head | apply Rem.tail) .nil)) rfl ?_
  rintro _ _ ⟨rfl, rfl⟩
  refine o_val (v_lss rfl rfl) rfl ?_
  refine o_nil ?_
  refine thn_n ?_
  first | refine w_condD rfl (fun h27 => ?_) (fun h27 => ?_) | refine w_cond rfl (fun h27 => ?_) (fun h27 => ?_)
  ·
   refine w_seq ?_
   refine w_region ?_
   refine o_val (v_assign rfl) rfl ?_
   refine o_val (v_assign rfl) rfl ?_
   refine o_val (v_assign rfl) rfl ?_
   refine o_nil ?_
   refine thn_n ?_
   refine w_ret ?_
   refine (thn_r (blk_r (thn_r (blk_r ?_))))
   obtain rfl := hq.det (.inr ⟨hm0, _, hgo.fail he ((InfP.one_b (by omega) hk).trans (InfP.beg_1 (by omega))), rfl⟩)
   exact ret_ok (G := [Row U5 none 0 0 [], R]) (res3 rfl rfl rfl) ⟨none, 0, rfl, rfl⟩ (Sl.Sub.trans (sub_add0 (A := Row U5 none 0 0 []) (fun w0 => Row.nil U5 w0 _)) (sub (.cons (by repeat first | exact .head | apply Rem.tail) (.cons (by repeat first | exact .head | apply Rem.tail) .nil)) (by repeat first | exact .refl | apply Drop.skip)))
  ·
   refine w_skip ?_
   refine thn_n ?_
   refine w_seq ?_
   refine w_region ?_
   refine o_val (v_move rfl) rfl ?_
   refine o_call (d_take b23 p cap B R hR S.at_ sh 1 hl hB (by omega) (by omega)) V.b23  rfl (.cons (by repeat first | exact .head | apply Rem.tail) (.cons (by repeat first | exact .head | apply Rem.tail) .nil)) rfl ?_
   rintro _ _ ⟨rfl, rfl⟩
   refine o_val (v_move rfl) rfl ?_
   refine o_val (v_extract rfl rfl) rfl ?_
   refine o_val (v_extract rfl rfl) rfl ?_
   refine o_val (v_assign rfl) rfl ?_
   refine o_val (v_assign rfl) rfl ?_
   refine o_nil ?_
   refine thn_n ?_
   refine w_seq ?_
   refine w_region ?_
   refine o_val (v_move rfl) rfl ?_
   refine o_call (d_take b23 p cap B R hR (S.at_ + 1) sh 2 hl hB (by omega) (by omega)) V.b23  rfl (.cons (by repeat first | exact .head | apply Rem.tail) (.cons (by repeat first | exact .head | apply Rem.tail) .nil)) rfl ?_
   rintro _ _ ⟨rfl, rfl⟩
   refine o_val (v_move rfl) rfl ?_
   refine o_val (v_extract rfl rfl) rfl ?_
   refine o_val (v_extract rfl rfl) rfl ?_
   refine o_val (v_assign rfl) rfl ?_
   refine o_val (v_assign rfl) rfl ?_
   refine o_nil ?_
   refine thn_n ?_
   refine w_seq ?_
   refine w_region ?_
   refine o_val (v_assign rfl) rfl ?_
   refine o_nil ?_
   refine thn_n ?_
   refine w_seq ?_
   refine w_seq ?_
   refine w_region ?_
   refine o_val (v_move rfl) rfl ?_
   refine o_nil ?_
   refine thn_n ?_
   refine w_block ?_
   refine w_seq ?_
   refine w_region ?_
   refine o_val (v_eql rfl rfl) rfl ?_
   refine o_val (v_assign rfl) rfl ?_
   refine o_nil ?_
   refine thn_n ?_
   first | refine w_condD rfl (fun h39 => ?_) (fun h39 => ?_) | refine w_cond rfl (fun h39 => ?_) (fun h39 => ?_)
   ·
    rcases (InfP.bo_or (mo := mo) hB hok hk hc) with ⟨e, hbo⟩ | ⟨S2, hbo⟩
    ·
     refine w_region ?_
     refine o_val (v_move rfl) rfl ?_
     refine o_val (v_move rfl) rfl ?_
     refine o_val (v_move rfl) rfl ?_
     refine o_call (d_stored b23 p cap B R hR sh S mo q2 c2 hl hB hm hok (.error e) hk hc he (by omega) (by omega) hbo) V.b24  rfl (.cons (by repeat first | exact .head | apply Rem.tail) (.cons (by repeat first | exact .head | apply Rem.tail) (.cons (by repeat first | exact .head | apply Rem.tail) .nil))) rfl ?_
     rintro _ _ ⟨rfl, rfl⟩
     refine o_val (v_move rfl) rfl ?_
     refine o_val (v_extract rfl rfl) rfl ?_
     refine o_val (v_extract rfl rfl) rfl ?_
     refine o_val (v_assign rfl) rfl ?_
     refine o_val (v_assign rfl) rfl ?_
     refine o_nil ?_
     refine blk_n ?_
     refine thn_n ?_
     refine w_seq ?_
     refine w_seq ?_
     refine w_region ?_
     refine o_val (v_move rfl) rfl ?_
     refine o_val (v_T (v_neq rfl rfl) (InfP.bo_nz hB hok hk hc he hbo)) rfl ?_
     refine o_nil ?_
     refine thn_n ?_
     refine w_condT rfl ?_
     refine w_seq ?_
     refine w_region ?_
     refine o_val (v_move rfl) rfl ?_
     refine o_val (v_assign rfl) rfl ?_
     refine o_val (v_assign rfl) rfl ?_
     refine o_val (v_assign rfl) rfl ?_
     refine o_nil ?_
     refine thn_n ?_
     refine w_ret ?_
     refine (thn_r (blk_r (thn_r (blk_r ?_))))
     obtain rfl := hq.det (.inr ⟨hm0, _, hgo _ ((InfP.bo_good hB hok hk hc he hbo).2 _ rfl), rfl⟩)
     exact ret_ok (G := [Row U5 none 0 0 [], R]) (res3 rfl rfl rfl) ⟨none, 0, rfl, rfl⟩ (Sl.Sub.trans (sub_add0 (A := Row U5 none 0 0 []) (fun w0 => Row.nil U5 w0 _)) (sub (.cons (by repeat first | exact .head | apply Rem.tail) (.cons (by repeat first | exact .head | apply Rem.tail) .nil)) (by repeat first | exact .refl | apply Drop.skip)))
    ·
     refine w_region ?_
     refine o_val (v_move rfl) rfl ?_
     refine o_val (v_move rfl) rfl ?_
     refine o_val (v_move rfl) rfl ?_
     refine o_call (d_stored b23 p cap B R hR sh S mo q2 c2 hl hB hm hok (.ok S2) hk hc he (by omega) (by omega) hbo) V.b24  rfl (.cons (by repeat first | exact .head | apply Rem.tail) (.cons (by repeat first | exact .head | apply Rem.tail) (.cons (by repeat first | exact .head | apply Rem.tail) .nil))) rfl ?_
     rintro _ _ ⟨q9, c9, sh9, rfl, rfl⟩
     refine o_val (v_move rfl) rfl ?_
     refine o_val (v_extract rfl rfl) rfl ?_
     refine o_val (v_extract rfl rfl) rfl ?_
     refine o_val (v_assign rfl) rfl ?_
     refine o_val (v_assign rfl) rfl ?_
     refine o_nil ?_
     refine blk_n ?_
     refine thn_n ?_
     refine w_seq ?_
     refine w_seq ?_
     refine w_region ?_
     refine o_val (v_move rfl) rfl ?_
     refine o_val (v_F (v_neq rfl rfl) (by decide)) rfl ?_
     refine o_nil ?_
     refine thn_n ?_
     refine w_condF rfl ?_
     refine w_skip ?_
     refine thn_n ?_
     refine w_seq ?_
     obtain ⟨g1, g2, g3, g4, g5, g6⟩ := (InfP.bo_good hB hok hk hc he hbo).1 S2 rfl
     have hat2 := g2.at_
     refine w_region ?_
     refine o_val (v_move rfl) rfl ?_
     refine o_val (v_eql rfl rfl) rfl ?_
     refine o_nil ?_
     refine thn_n ?_
     first | refine w_condD rfl (fun h87 => ?_) (fun h87 => ?_) | refine w_cond rfl (fun h87 => ?_) (fun h87 => ?_)
     ·
      refine w_seq ?_
      refine w_net [⟨[], [], [8], 0, 0⟩, ⟨[], [], [7], 0, 0⟩, ⟨[1], [1], [], 0, 0⟩, ⟨[1, 2], [2], [], 0, 0⟩, ⟨[1, 2, 3], [3], [], 0, 0⟩, ⟨[1, 2, 3, 4], [4], [], 0, 0⟩, ⟨[1, 2, 3, 4, 5], [5], [], 0, 0⟩, ⟨[0], [0], [], 0, 0⟩, ⟨[0, 1, 2, 3, 4, 5, 6, 7], [6], [], 0, 0⟩, ⟨[0, 1, 2, 3, 4, 5, 6, 7, 8], [], [], 0, 0⟩] [⟨fun y => Cel b23 52 [.slice p B.length cap, .int .i64 (S2.at_ : Int), .bool false, .bool sh9], none, none, [4]⟩, ⟨fun y => R, none, none, []⟩, ⟨fun y => Row U5 q9 S2.out.length c9 S2.out, none, none, []⟩] F V.mixed (by kernel_rfl) rfl (fun _ => .refl _) (locT_0 _ (locT_0 _ (locT_0 _ locT_nil))) ?_
      refine net_pure (fun y => [(8, _)]) (fun y => rfl) rfl rfl rfl (fun y hA L => st_v (v_move rfl) ⟨rfl, rfl⟩) (by intros; rfl) (by intro y y2 h; rfl) ?_
      refine net_pure (fun y => [(7, _)]) (fun y => rfl) rfl rfl rfl (fun y hA L => st_v (v_move rfl) ⟨rfl, rfl⟩) (by intros; rfl) (by intro y y2 h; rfl) ?_
      refine net_pure (fun y => [(89, _)]) (fun y => rfl) rfl rfl rfl (fun y hA L => st_v (v_nil rfl) ⟨rfl, rfl⟩) (by intros; rfl) (by intro y y2 h; rfl) ?_
      refine net_pure (fun y => [(90, _)]) (fun y => rfl) rfl rfl rfl (fun y hA L => st_v (v_fieldAddr V.f52_1 rfl) ⟨rfl, rfl⟩) (by intros; rfl) (by intro y y2 h; rfl) ?_
      refine net_read (fun y => [Cel b23 52 [.slice p B.length cap, .int .i64 (S2.at_ : Int), .bool false, .bool sh9]]) (fun y => [(91, _)]) (fun y => rfl) rfl (fun y => rfl) rfl (fun y FF hA => st_v (v_load V.s3 rfl (by repeat first | exact .head _ | apply List.Mem.tail) rfl) ⟨rfl, rfl⟩) (by intros; rfl) (by intro y y2 h; rfl) ?_
      refine net_pure (fun y => [(92, _)]) (fun y => rfl) rfl rfl rfl (fun y hA L => st_v (v_add rfl rfl (wrapI (by omega) (by omega))) ⟨rfl, rfl⟩) (by intros; rfl) (by intro y y2 h; rfl) ?_
      refine net_pure (fun y => [(93, _)]) (fun y => rfl) rfl rfl rfl (fun y hA L => st_v (v_quo rfl rfl (by omega) (quoI (by omega) (by omega) (by omega))) ⟨rfl, rfl⟩) (by intros; rfl) (by intro y y2 h; rfl) ?_
      refine net_pure (fun y => [(88, _)]) (fun y => rfl) rfl rfl rfl (fun y hA L => st_v (v_assign rfl) ⟨rfl, rfl⟩) (by intros; rfl) (by intro y y2 h; rfl) ?_
      refine net_pure (fun y => [(94, _)]) (fun y => rfl) rfl rfl rfl (fun y hA L => st_v (v_assign rfl) ⟨rfl, rfl⟩) (by intros; rfl) (by intro y y2 h; rfl) ?_
      refine net_pure (fun y => []) (fun y => rfl) rfl rfl rfl (fun y hA L => st_v (v_assign rfl) ⟨rfl, rfl⟩) (by intros; rfl) (by intro y y2 h; rfl) ?_
      refine net_nil ?_
      intro y hA
      clear hA
      refine thn_n ?_
      refine w_keep _ (.cons (d := 4) rfl (.cons (d := 5) rfl (.cons (d := 6) rfl (.nil _)))) ?_
      refine w_sub (M := Cel b23 52 [.slice p B.length cap, .int .i64 (S2.at_ : Int), .bool false, .bool sh9] :: R :: Row U5 q9 S2.out.length c9 S2.out :: F) (fun _ _ h => h) ?_
      refine w_ret ?_
      refine (blk_r (thn_r (blk_r ?_)))
      obtain rfl := hq.det (.inr ⟨hm0, _, hgo _ (g1 _ (.done (by rw [g5]; exact decide_eq_true (by omega)))), rfl⟩)
      rw [show ((S2.at_ : Int) + 7) / 8 = (((S2.at_ + 7) / 8 : Nat) : Int) from by omega]
      exact ret_ok (G := [Row U5 q9 S2.out.length c9 S2.out, R]) (res3 rfl rfl rfl) ⟨q9, c9, rfl, rfl⟩ (sub (.cons (by repeat first | exact .head | apply Rem.tail) (.cons (by repeat first | exact .head | apply Rem.tail) .nil)) (by repeat first | exact .refl | apply Drop.skip))
     ·
      refine w_skip ?_
      refine blk_n ?_
      refine j4 (S2) (q9) (c9) (sh9) ?_ (.cons rfl (.cons rfl (.cons rfl (.nil _)))) (sub (.cons (by repeat first | exact .head | apply Rem.tail) (.cons (by repeat first | exact .head | apply Rem.tail) (.cons (by repeat first | exact .head | apply Rem.tail) .nil))) (by repeat first | exact .refl | apply Drop.skip))
      exact ⟨⟨hgo.trans g1, g2, g3, g4, by rw [g5]; exact decide_eq_false (by omega)⟩, g6⟩
   ·
    refine w_seq ?_
    refine w_region ?_
    refine o_val (v_eql rfl rfl) rfl ?_
    refine o_val (v_assign rfl) rfl ?_
    refine o_nil ?_
    refine thn_n ?_
    first | refine w_condD rfl (fun h48 => ?_) (fun h48 => ?_) | refine w_cond rfl (fun h48 => ?_) (fun h48 => ?_)
    ·
     refine w_seq ?_
     refine w_region ?_
     refine o_call (d_fixed) V.b25  rfl .nil rfl ?_
     rintro _ _ ⟨x15, y15, rfl, rfl⟩
     refine o_val (v_move rfl) rfl ?_
     refine o_val (v_extract rfl rfl) rfl ?_
     refine o_val (v_extract rfl rfl) rfl ?_
     refine o_val (v_assign rfl) rfl ?_
     refine o_val (v_assign rfl) rfl ?_
     refine o_nil ?_
     refine thn_n ?_
     rcases (InfP.bo_or (mo := mo) hB hok hk hc) with ⟨e, hbo⟩ | ⟨S2, hbo⟩
     ·
      have hbeg := InfP.beg_f (B := B) (s := S) (by omega) (by omega)
      have hbl := hbo.go hbeg
      have hok1 := (InfP.one_good hB hok ((InfP.one_b (by omega) hk).trans hbeg)).ok
      refine w_region ?_
      refine o_val (v_move rfl) rfl ?_
      refine o_val (v_move rfl) rfl ?_
      refine o_val (v_move rfl) rfl ?_
      refine o_val (v_move rfl) rfl ?_
      refine o_val (v_move rfl) rfl ?_
      refine o_call ((d_coded b23 p cap B R hR sh { S with at_ := S.at_ + 3, kind := 1, last := decide ((BitP.numL B S.at_ 1) = 1), lits := InfP.fixL, dist := InfP.fixD } mo q2 c2 hl hB hm hok1 (.error e) x15 y15 (show (0 : Int) < 1 by decide) hc he hbl)) V.b26  rfl (.cons (by repeat first | exact .head | apply Rem.tail) (.cons (by repeat first | exact .head | apply Rem.tail) (.cons (by repeat first | exact .head | apply Rem.tail) (.cons (by repeat first | exact .head | apply Rem.tail) (.cons (by repeat first | exact .head | apply Rem.tail) .nil))))) rfl ?_
      rintro _ _ ⟨rfl, rfl⟩
      refine o_val (v_move rfl) rfl ?_
      refine o_val (v_extract rfl rfl) rfl ?_
      refine o_val (v_extract rfl rfl) rfl ?_
      refine o_val (v_assign rfl) rfl ?_
      refine o_val (v_assign rfl) rfl ?_
      refine o_nil ?_
      refine blk_n ?_
      refine thn_n ?_
      refine w_seq ?_
      refine w_seq ?_
      refine w_region ?_
      refine o_val (v_move rfl) rfl ?_
      refine o_val (v_T (v_neq rfl rfl) (InfP.bo_nz hB hok hk hc he hbo)) rfl ?_
      refine o_nil ?_
      refine thn_n ?_
      refine w_condT rfl ?_
      refine w_seq ?_
      refine w_region ?_
      refine o_val (v_move rfl) rfl ?_
      refine o_val (v_assign rfl) rfl ?_
      refine o_val (v_assign rfl) rfl ?_
      refine o_val (v_assign rfl) rfl ?_
      refine o_nil ?_
      refine thn_n ?_
      refine w_ret ?_
      refine (thn_r (blk_r (thn_r (blk_r ?_))))
      obtain rfl := hq.det (.inr ⟨hm0, _, hgo _ ((InfP.bo_good hB hok hk hc he hbo).2 _ rfl), rfl⟩)
      exact ret_ok (G := [Row U5 none 0 0 [], R]) (res3 rfl rfl rfl) ⟨none, 0, rfl, rfl⟩ (Sl.Sub.trans (sub_add0 (A := Row U5 none 0 0 []) (fun w0 => Row.nil U5 w0 _)) (sub (.cons (by repeat first | exact .head | apply Rem.tail) (.cons (by repeat first | exact .head | apply Rem.tail) .nil)) (by repeat first | exact .refl | apply Drop.skip)))
     ·
      have hbeg := InfP.beg_f (B := B) (s := S) (by omega) (by omega)
      have hbl := hbo.go hbeg
      have hok1 := (InfP.one_good hB hok ((InfP.one_b (by omega) hk).trans hbeg)).ok
      refine w_region ?_
      refine o_val (v_move rfl) rfl ?_
      refine o_val (v_move rfl) rfl ?_
      refine o_val (v_move rfl) rfl ?_
      refine o_val (v_move rfl) rfl ?_
      refine o_val (v_move rfl) rfl ?_
      refine o_call ((d_coded b23 p cap B R hR sh { S with at_ := S.at_ + 3, kind := 1, last := decide ((BitP.numL B S.at_ 1) = 1), lits := InfP.fixL, dist := InfP.fixD } mo q2 c2 hl hB hm hok1 (.ok S2) x15 y15 (show (0 : Int) < 1 by decide) hc he hbl)) V.b26  rfl (.cons (by repeat first | exact .head | apply Rem.tail) (.cons (by repeat first | exact .head | apply Rem.tail) (.cons (by repeat first | exact .head | apply Rem.tail) (.cons (by repeat first | exact .head | apply Rem.tail) (.cons (by repeat first | exact .head | apply Rem.tail) .nil))))) rfl ?_
      rintro _ _ ⟨q9, c9, sh9, rfl, rfl⟩
      refine o_val (v_move rfl) rfl ?_
      refine o_val (v_extract rfl rfl) rfl ?_
      refine o_val (v_extract rfl rfl) rfl ?_
      refine o_val (v_assign rfl) rfl ?_
      refine o_val (v_assign rfl) rfl ?_
      refine o_nil ?_
      refine blk_n ?_
      refine thn_n ?_
      refine w_seq ?_
      refine w_seq ?_
      refine w_region ?_
      refine o_val (v_move rfl) rfl ?_
      refine o_val (v_F (v_neq rfl rfl) (by decide)) rfl ?_
      refine o_nil ?_
      refine thn_n ?_
      refine w_condF rfl ?_
      refine w_skip ?_
      refine thn_n ?_
      refine w_seq ?_
      obtain ⟨g1, g2, g3, g4, g5, g6⟩ := (InfP.bo_good hB hok hk hc he hbo).1 S2 rfl
      have hat2 := g2.at_
      refine w_region ?_
      refine o_val (v_move rfl) rfl ?_
      refine o_val (v_eql rfl rfl) rfl ?_
      refine o_nil ?_
      refine thn_n ?_
      first | refine w_condD rfl (fun h87 => ?_) (fun h87 => ?_) | refine w_cond rfl (fun h87 => ?_) (fun h87 => ?_)
      ·
       refine w_seq ?_
       refine w_net [⟨[], [], [8], 0, 0⟩, ⟨[], [], [7], 0, 0⟩, ⟨[1], [1], [], 0, 0⟩, ⟨[1, 2], [2], [], 0, 0⟩, ⟨[1, 2, 3], [3], [], 0, 0⟩, ⟨[1, 2, 3, 4], [4], [], 0, 0⟩, ⟨[1, 2, 3, 4, 5], [5], [], 0, 0⟩, ⟨[0], [0], [], 0, 0⟩, ⟨[0, 1, 2, 3, 4, 5, 6, 7], [6], [], 0, 0⟩, ⟨[0, 1, 2, 3, 4, 5, 6, 7, 8], [], [], 0, 0⟩] [⟨fun y => Cel b23 52 [.slice p B.length cap, .int .i64 (S2.at_ : Int), .bool false, .bool sh9], none, none, [4]⟩, ⟨fun y => R, none, none, []⟩, ⟨fun y => Row U5 q9 S2.out.length c9 S2.out, none, none, []⟩] F V.mixed (by kernel_rfl) rfl (fun _ => .refl _) (locT_0 _ (locT_0 _ (locT_0 _ locT_nil))) ?_
       refine net_pure (fun y => [(8, _)]) (fun y => rfl) rfl rfl rfl (fun y hA L => st_v (v_move rfl) ⟨rfl, rfl⟩) (by intros; rfl) (by intro y y2 h; rfl) ?_
       refine net_pure (fun y => [(7, _)]) (fun y => rfl) rfl rfl rfl (fun y hA L => st_v (v_move rfl) ⟨rfl, rfl⟩) (by intros; rfl) (by intro y y2 h; rfl) ?_
       refine net_pure (fun y => [(89, _)]) (fun y => rfl) rfl rfl rfl (fun y hA L => st_v (v_nil rfl) ⟨rfl, rfl⟩) (by intros; rfl) (by intro y y2 h; rfl) ?_
       refine net_pure (fun y => [(90, _)]) (fun y => rfl) rfl rfl rfl (fun y hA L => st_v (v_fieldAddr V.f52_1 rfl) ⟨rfl, rfl⟩) (by intros; rfl) (by intro y y2 h; rfl) ?_
       refine net_read (fun y => [Cel b23 52 [.slice p B.length cap, .int .i64 (S2.at_ : Int), .bool false, .bool sh9]]) (fun y => [(91, _)]) (fun y => rfl) rfl (fun y => rfl) rfl (fun y FF hA => st_v (v_load V.s3 rfl (by repeat first | exact .head _ | apply List.Mem.tail) rfl) ⟨rfl, rfl⟩) (by intros; rfl) (by intro y y2 h; rfl) ?_
       refine net_pure (fun y => [(92, _)]) (fun y => rfl) rfl rfl rfl (fun y hA L => st_v (v_add rfl rfl (wrapI (by omega) (by omega))) ⟨rfl, rfl⟩) (by intros; rfl) (by intro y y2 h; rfl) ?_
       refine net_pure (fun y => [(93, _)]) (fun y => rfl) rfl rfl rfl (fun y hA L => st_v (v_quo rfl rfl (by omega) (quoI (by omega) (by omega) (by omega))) ⟨rfl, rfl⟩) (by intros; rfl) (by intro y y2 h; rfl) ?_
       refine net_pure (fun y => [(88, _)]) (fun y => rfl) rfl rfl rfl (fun y hA L => st_v (v_assign rfl) ⟨rfl, rfl⟩) (by intros; rfl) (by intro y y2 h; rfl) ?_
       refine net_pure (fun y => [(94, _)]) (fun y => rfl) rfl rfl rfl (fun y hA L => st_v (v_assign rfl) ⟨rfl, rfl⟩) (by intros; rfl) (by intro y y2 h; rfl) ?_
       refine net_pure (fun y => []) (fun y => rfl) rfl rfl rfl (fun y hA L => st_v (v_assign rfl) ⟨rfl, rfl⟩) (by intros; rfl) (by intro y y2 h; rfl) ?_
       refine net_nil ?_
       intro y hA
       clear hA
       refine thn_n ?_
       refine w_keep _ (.cons (d := 4) rfl (.cons (d := 5) rfl (.cons (d := 6) rfl (.nil _)))) ?_
       refine w_sub (M := Cel b23 52 [.slice p B.length cap, .int .i64 (S2.at_ : Int), .bool false, .bool sh9] :: R :: Row U5 q9 S2.out.length c9 S2.out :: F) (fun _ _ h => h) ?_
       refine w_ret ?_
       refine (blk_r (thn_r (blk_r ?_)))
       obtain rfl := hq.det (.inr ⟨hm0, _, hgo _ (g1 _ (.done (by rw [g5]; exact decide_eq_true (by omega)))), rfl⟩)
       rw [show ((S2.at_ : Int) + 7) / 8 = (((S2.at_ + 7) / 8 : Nat) : Int) from by omega]
       exact ret_ok (G := [Row U5 q9 S2.out.length c9 S2.out, R]) (res3 rfl rfl rfl) ⟨q9, c9, rfl, rfl⟩ (sub (.cons (by repeat first | exact .head | apply Rem.tail) (.cons (by repeat first | exact .head | apply Rem.tail) .nil)) (by repeat first | exact .refl | apply Drop.skip))
      ·
       refine w_skip ?_
       refine blk_n ?_
       refine j4 (S2) (q9) (c9) (sh9) ?_ (.cons rfl (.cons rfl (.cons rfl (.nil _)))) (sub (.cons (by repeat first | exact .head | apply Rem.tail) (.cons (by repeat first | exact .head | apply Rem.tail) (.cons (by repeat first | exact .head | apply Rem.tail) .nil))) (by repeat first | exact .refl | apply Drop.skip))
       exact ⟨⟨hgo.trans g1, g2, g3, g4, by rw [g5]; exact decide_eq_false (by omega)⟩, g6⟩
    ·
     refine w_seq ?_
     refine w_region ?_
     refine o_val (v_eql rfl rfl) rfl ?_
     refine o_val (v_assign rfl) rfl ?_
     refine o_nil ?_
     refine thn_n ?_
     first | refine w_condD rfl (fun h63 => ?_) (fun h63 => ?_) | refine w_cond rfl (fun h63 => ?_) (fun h63 => ?_)
     ·
      rcases (InfP.ex_or (InfP.told B (S.at_ + 3))) with ⟨e, ht⟩ | ⟨⟨a9, l9, d9⟩, ht⟩
      ·
       refine w_seq ?_
       refine w_region ?_
       refine o_val (v_move rfl) rfl ?_
       refine o_call (d_dyn b23 p cap B R hR sh (S.at_ + 3) hl hB (by omega) (.error e) ht) V.b27  rfl (.cons (by repeat first | exact .head | apply Rem.tail) (.cons (by repeat first | exact .head | apply Rem.tail) .nil)) rfl ?_
       rintro _ _ ⟨rfl, rfl⟩
       refine o_val (v_move rfl) rfl ?_
       refine o_val (v_extract rfl rfl) rfl ?_
       refine o_val (v_extract rfl rfl) rfl ?_
       refine o_val (v_extract rfl rfl) rfl ?_
       refine o_val (v_assign rfl) rfl ?_
       refine o_val (v_assign rfl) rfl ?_
       refine o_val (v_assign rfl) rfl ?_
       refine o_nil ?_
       refine thn_n ?_
       refine w_seq ?_
       refine w_region ?_
       refine o_val (v_move rfl) rfl ?_
       refine o_val (v_assign rfl) rfl ?_
       refine o_nil ?_
       refine thn_n ?_
       refine w_seq ?_
       refine w_region ?_
       refine o_val (v_move rfl) rfl ?_
       refine o_val (v_F (v_eql rfl rfl) (InfP.told_nz ht)) rfl ?_
       refine o_nil ?_
       refine thn_n ?_
       refine w_condF rfl ?_
       refine w_skip ?_
       refine blk_n ?_
       refine thn_n ?_
       refine w_seq ?_
       refine w_seq ?_
       have hbo : InfP.BO B mo S (.error e) := .inl ⟨e, InfP.beg_dn (by omega) (by omega) ht, rfl⟩
       refine w_region ?_
       refine o_val (v_move rfl) rfl ?_
       refine o_val (v_T (v_neq rfl rfl) (InfP.told_nz ht)) rfl ?_
       refine o_nil ?_
       refine thn_n ?_
       refine w_condT rfl ?_
       refine w_seq ?_
       refine w_region ?_
       refine o_val (v_move rfl) rfl ?_
       refine o_val (v_assign rfl) rfl ?_
       refine o_val (v_assign rfl) rfl ?_
       refine o_val (v_assign rfl) rfl ?_
       refine o_nil ?_
       refine thn_n ?_
       refine w_ret ?_
       refine (thn_r (blk_r (thn_r (blk_r ?_))))
       obtain rfl := hq.det (.inr ⟨hm0, _, hgo _ ((InfP.bo_good hB hok hk hc he hbo).2 _ rfl), rfl⟩)
       exact ret_ok (G := [Row U5 none 0 0 [], R]) (res3 rfl rfl rfl) ⟨none, 0, rfl, rfl⟩ (Sl.Sub.trans (sub_add0 (A := Row U5 none 0 0 []) (fun w0 => Row.nil U5 w0 _)) (sub (.cons (by repeat first | exact .head | apply Rem.tail) (.cons (by repeat first | exact .head | apply Rem.tail) .nil)) (by repeat first | exact .refl | apply Drop.skip)))
      ·
       refine w_seq ?_
       refine w_region ?_
       refine o_val (v_move rfl) rfl ?_
       refine o_call (d_dyn b23 p cap B R hR sh (S.at_ + 3) hl hB (by omega) (.ok (a9, l9, d9)) ht) V.b27  rfl (.cons (by repeat first | exact .head | apply Rem.tail) (.cons (by repeat first | exact .head | apply Rem.tail) .nil)) rfl ?_
       rintro _ _ ⟨x67, y67, sh8, rfl, rfl⟩
       refine o_val (v_move rfl) rfl ?_
       refine o_val (v_extract rfl rfl) rfl ?_
       refine o_val (v_extract rfl rfl) rfl ?_
       refine o_val (v_extract rfl rfl) rfl ?_
       refine o_val (v_assign rfl) rfl ?_
       refine o_val (v_assign rfl) rfl ?_
       refine o_val (v_assign rfl) rfl ?_
       refine o_nil ?_
       refine thn_n ?_
       refine w_seq ?_
       refine w_region ?_
       refine o_val (v_move rfl) rfl ?_
       refine o_val (v_assign rfl) rfl ?_
       refine o_nil ?_
       refine thn_n ?_
       refine w_seq ?_
       refine w_region ?_
       refine o_val (v_move rfl) rfl ?_
       refine o_val (v_T (v_eql rfl rfl) (by decide)) rfl ?_
       refine o_nil ?_
       refine thn_n ?_
       refine w_condT rfl ?_
       rcases (InfP.bo_or (mo := mo) hB hok hk hc) with ⟨e, hbo⟩ | ⟨S2, hbo⟩
       ·
        have hbeg := InfP.beg_dy (B := B) (s := S) (by omega) (by omega) ht
        have hbl := hbo.go hbeg
        have hok1 := (InfP.one_good hB hok ((InfP.one_b (by omega) hk).trans hbeg)).ok
        refine w_region ?_
        refine o_val (v_move rfl) rfl ?_
        refine o_val (v_move rfl) rfl ?_
        refine o_val (v_move rfl) rfl ?_
        refine o_val (v_move rfl) rfl ?_
        refine o_val (v_move rfl) rfl ?_
        refine o_call ((d_coded b23 p cap B R hR sh8 { S with at_ := a9, kind := 2, last := decide ((BitP.numL B S.at_ 1) = 1), lits := l9, dist := d9 } mo q2 c2 hl hB hm hok1 (.error e) x67 y67 (show (0 : Int) < 2 by decide) hc he hbl)) V.b26  rfl (.cons (by repeat first | exact .head | apply Rem.tail) (.cons (by repeat first | exact .head | apply Rem.tail) (.cons (by repeat first | exact .head | apply Rem.tail) (.cons (by repeat first | exact .head | apply Rem.tail) (.cons (by repeat first | exact .head | apply Rem.tail) .nil))))) rfl ?_
        rintro _ _ ⟨rfl, rfl⟩
        refine o_val (v_move rfl) rfl ?_
        refine o_val (v_extract rfl rfl) rfl ?_
        refine o_val (v_extract rfl rfl) rfl ?_
        refine o_val (v_assign rfl) rfl ?_
        refine o_val (v_assign rfl) rfl ?_
        refine o_nil ?_
        refine blk_n ?_
        refine thn_n ?_
        refine w_seq ?_
        refine w_seq ?_
        refine w_region ?_
        refine o_val (v_move rfl) rfl ?_
        refine o_val (v_T (v_neq rfl rfl) (InfP.bo_nz hB hok hk hc he hbo)) rfl ?_
        refine o_nil ?_
        refine thn_n ?_
        refine w_condT rfl ?_
        refine w_seq ?_
        refine w_region ?_
        refine o_val (v_move rfl) rfl ?_
        refine o_val (v_assign rfl) rfl ?_
        refine o_val (v_assign rfl) rfl ?_
        refine o_val (v_assign rfl) rfl ?_
        refine o_nil ?_
        refine thn_n ?_
        refine w_ret ?_
        refine (thn_r (blk_r (thn_r (blk_r ?_))))
        obtain rfl := hq.det (.inr ⟨hm0, _, hgo _ ((InfP.bo_good hB hok hk hc he hbo).2 _ rfl), rfl⟩)
        exact ret_ok (G := [Row U5 none 0 0 [], R]) (res3 rfl rfl rfl) ⟨none, 0, rfl, rfl⟩ (Sl.Sub.trans (sub_add0 (A := Row U5 none 0 0 []) (fun w0 => Row.nil U5 w0 _)) (sub (.cons (by repeat first | exact .head | apply Rem.tail) (.cons (by repeat first | exact .head | apply Rem.tail) .nil)) (by repeat first | exact .refl | apply Drop.skip)))
       ·
        have hbeg := InfP.beg_dy (B := B) (s := S) (by omega) (by omega) ht
        have hbl := hbo.go hbeg
        have hok1 := (InfP.one_good hB hok ((InfP.one_b (by omega) hk).trans hbeg)).ok
        refine w_region ?_
        refine o_val (v_move rfl) rfl ?_
        refine o_val (v_move rfl) rfl ?_
        refine o_val (v_move rfl) rfl ?_
        refine o_val (v_move rfl) rfl ?_
        refine o_val (v_move rfl) rfl ?_
        refine o_call ((d_coded b23 p cap B R hR sh8 { S with at_ := a9, kind := 2, last := decide ((BitP.numL B S.at_ 1) = 1), lits := l9, dist := d9 } mo q2 c2 hl hB hm hok1 (.ok S2) x67 y67 (show (0 : Int) < 2 by decide) hc he hbl)) V.b26  rfl (.cons (by repeat first | exact .head | apply Rem.tail) (.cons (by repeat first | exact .head | apply Rem.tail) (.cons (by repeat first | exact .head | apply Rem.tail) (.cons (by repeat first | exact .head | apply Rem.tail) (.cons (by repeat first | exact .head | apply Rem.tail) .nil))))) rfl ?_
        rintro _ _ ⟨q9, c9, sh9, rfl, rfl⟩
        refine o_val (v_move rfl) rfl ?_
        refine o_val (v_extract rfl rfl) rfl ?_
        refine o_val (v_extract rfl rfl) rfl ?_
        refine o_val (v_assign rfl) rfl ?_
        refine o_val (v_assign rfl) rfl ?_
        refine o_nil ?_
        refine blk_n ?_
        refine thn_n ?_
        refine w_seq ?_
        refine w_seq ?_
        refine w_region ?_
        refine o_val (v_move rfl) rfl ?_
        refine o_val (v_F (v_neq rfl rfl) (by decide)) rfl ?_
        refine o_nil ?_
        refine thn_n ?_
        refine w_condF rfl ?_
        refine w_skip ?_
        refine thn_n ?_
        refine w_seq ?_
        obtain ⟨g1, g2, g3, g4, g5, g6⟩ := (InfP.bo_good hB hok hk hc he hbo).1 S2 rfl
        have hat2 := g2.at_
        refine w_region ?_
        refine o_val (v_move rfl) rfl ?_
        refine o_val (v_eql rfl rfl) rfl ?_
        refine o_nil ?_
        refine thn_n ?_
        first | refine w_condD rfl (fun h87 => ?_) (fun h87 => ?_) | refine w_cond rfl (fun h87 => ?_) (fun h87 => ?_)
        ·
         refine w_seq ?_
         refine w_net [⟨[], [], [8], 0, 0⟩, ⟨[], [], [7], 0, 0⟩, ⟨[1], [1], [], 0, 0⟩, ⟨[1, 2], [2], [], 0, 0⟩, ⟨[1, 2, 3], [3], [], 0, 0⟩, ⟨[1, 2, 3, 4], [4], [], 0, 0⟩, ⟨[1, 2, 3, 4, 5], [5], [], 0, 0⟩, ⟨[0], [0], [], 0, 0⟩, ⟨[0, 1, 2, 3, 4, 5, 6, 7], [6], [], 0, 0⟩, ⟨[0, 1, 2, 3, 4, 5, 6, 7, 8], [], [], 0, 0⟩] [⟨fun y => Cel b23 52 [.slice p B.length cap, .int .i64 (S2.at_ : Int), .bool false, .bool sh9], none, none, [4]⟩, ⟨fun y => R, none, none, []⟩, ⟨fun y => Row U5 q9 S2.out.length c9 S2.out, none, none, []⟩] F V.mixed (by kernel_rfl) rfl (fun _ => .refl _) (locT_0 _ (locT_0 _ (locT_0 _ locT_nil))) ?_
         refine net_pure (fun y => [(8, _)]) (fun y => rfl) rfl rfl rfl (fun y hA L => st_v (v_move rfl) ⟨rfl, rfl⟩) (by intros; rfl) (by intro y y2 h; rfl) ?_
         refine net_pure (fun y => [(7, _)]) (fun y => rfl) rfl rfl rfl (fun y hA L => st_v (v_move rfl) ⟨rfl, rfl⟩) (by intros; rfl) (by intro y y2 h; rfl) ?_
         refine net_pure (fun y => [(89, _)]) (fun y => rfl) rfl rfl rfl (fun y hA L => st_v (v_nil rfl) ⟨rfl, rfl⟩) (by intros; rfl) (by intro y y2 h; rfl) ?_
         refine net_pure (fun y => [(90, _)]) (fun y => rfl) rfl rfl rfl (fun y hA L => st_v (v_fieldAddr V.f52_1 rfl) ⟨rfl, rfl⟩) (by intros; rfl) (by intro y y2 h; rfl) ?_
         refine net_read (fun y => [Cel b23 52 [.slice p B.length cap, .int .i64 (S2.at_ : Int), .bool false, .bool sh9]]) (fun y => [(91, _)]) (fun y => rfl) rfl (fun y => rfl) rfl (fun y FF hA => st_v (v_load V.s3 rfl (by repeat first | exact .head _ | apply List.Mem.tail) rfl) ⟨rfl, rfl⟩) (by intros; rfl) (by intro y y2 h; rfl) ?_
         refine net_pure (fun y => [(92, _)]) (fun y => rfl) rfl rfl rfl (fun y hA L => st_v (v_add rfl rfl (wrapI (by omega) (by omega))) ⟨rfl, rfl⟩) (by intros; rfl) (by intro y y2 h; rfl) ?_
         refine net_pure (fun y => [(93, _)]) (fun y => rfl) rfl rfl rfl (fun y hA L => st_v (v_quo rfl rfl (by omega) (quoI (by omega) (by omega) (by omega))) ⟨rfl, rfl⟩) (by intros; rfl) (by intro y y2 h; rfl) ?_
         refine net_pure (fun y => [(88, _)]) (fun y => rfl) rfl rfl rfl (fun y hA L => st_v (v_assign rfl) ⟨rfl, rfl⟩) (by intros; rfl) (by intro y y2 h; rfl) ?_
         refine net_pure (fun y => [(94, _)]) (fun y => rfl) rfl rfl rfl (fun y hA L => st_v (v_assign rfl) ⟨rfl, rfl⟩) (by intros; rfl) (by intro y y2 h; rfl) ?_
         refine net_pure (fun y => []) (fun y => rfl) rfl rfl rfl (fun y hA L => st_v (v_assign rfl) ⟨rfl, rfl⟩) (by intros; rfl) (by intro y y2 h; rfl) ?_
         refine net_nil ?_
         intro y hA
         clear hA
         refine thn_n ?_
         refine w_keep _ (.cons (d := 4) rfl (.cons (d := 5) rfl (.cons (d := 6) rfl (.nil _)))) ?_
         refine w_sub (M := Cel b23 52 [.slice p B.length cap, .int .i64 (S2.at_ : Int), .bool false, .bool sh9] :: R :: Row U5 q9 S2.out.length c9 S2.out :: F) (fun _ _ h => h) ?_
         refine w_ret ?_
         refine (blk_r (thn_r (blk_r ?_)))
         obtain rfl := hq.det (.inr ⟨hm0, _, hgo _ (g1 _ (.done (by rw [g5]; exact decide_eq_true (by omega)))), rfl⟩)
         rw [show ((S2.at_ : Int) + 7) / 8 = (((S2.at_ + 7) / 8 : Nat) : Int) from by omega]
         exact ret_ok (G := [Row U5 q9 S2.out.length c9 S2.out, R]) (res3 rfl rfl rfl) ⟨q9, c9, rfl, rfl⟩ (sub (.cons (by repeat first | exact .head | apply Rem.tail) (.cons (by repeat first | exact .head | apply Rem.tail) .nil)) (by repeat first | exact .refl | apply Drop.skip))
        ·
         refine w_skip ?_
         refine blk_n ?_
         refine j4 (S2) (q9) (c9) (sh9) ?_ (.cons rfl (.cons rfl (.cons rfl (.nil _)))) (sub (.cons (by repeat first | exact .head | apply Rem.tail) (.cons (by repeat first | exact .head | apply Rem.tail) (.cons (by repeat first | exact .head | apply Rem.tail) .nil))) (by repeat first | exact .refl | apply Drop.skip))
         exact ⟨⟨hgo.trans g1, g2, g3, g4, by rw [g5]; exact decide_eq_false (by omega)⟩, g6⟩
     ·
      have hbo : InfP.BO B mo S (.error 4) := .inl ⟨4, InfP.beg_no (by omega) (by omega) (by omega) (by omega), rfl⟩
      refine w_region ?_
      refine o_val (v_assign rfl) rfl ?_
      refine o_nil ?_
      refine blk_n ?_
      refine thn_n ?_
      refine w_seq ?_
      refine w_seq ?_
      refine w_region ?_
      refine o_val (v_move rfl) rfl ?_
      refine o_val (v_T (v_neq rfl rfl) (by decide)) rfl ?_
      refine o_nil ?_
      refine thn_n ?_
      refine w_condT rfl ?_
      refine w_seq ?_
      refine w_region ?_
      refine o_val (v_move rfl) rfl ?_
      refine o_val (v_assign rfl) rfl ?_
      refine o_val (v_assign rfl) rfl ?_
      refine o_val (v_assign rfl) rfl ?_
      refine o_nil ?_
      refine thn_n ?_
      refine w_ret ?_
      refine (thn_r (blk_r (thn_r (blk_r ?_))))
      obtain rfl := hq.det (.inr ⟨hm0, _, hgo _ ((InfP.bo_good hB hok hk hc he hbo).2 _ rfl), rfl⟩)
      exact ret_ok (G := [Row U5 none 0 0 [], R]) (res3 rfl rfl rfl) ⟨none, 0, rfl, rfl⟩ (Sl.Sub.trans (sub_add0 (A := Row U5 none 0 0 []) (fun w0 => Row.nil U5 w0 _)) (sub (.cons (by repeat first | exact .head | apply Rem.tail) (.cons (by repeat first | exact .head | apply Rem.tail) .nil)) (by repeat first | exact .refl | apply Drop.skip)))
end Go.Proofs.Ytoplcgkafaoafaa

/-
 Steps of the proof: walks of functions that the statement reaches; printed by a program of ours.
-/
namespace Go.Proofs.Ytoplcgkafaoafaa
open Go.Sl 
set_option linter.unusedVariables false
set_option linter.unusedSimpArgs false

attribute [local irreducible] HuffP.newE HuffP.tk HuffP.ord HuffP.cntL HuffP.words HuffP.mostL InfP.frs InfP.toldC InfP.toldN InfP.toldA InfP.hL InfP.hD InfP.hC InfP.lnGo InfP.told InfP.fixL InfP.codeE InfP.rep InfP.lenE InfP.awayE InfP.sym InfP.alg BitP.numL InfP.coded InfP.begin_ InfP.one InfP.put_ InfP.lnB InfP.dsB InfP.lnM InfP.dsM

set_option maxHeartbeats 2000000 in
set_option maxRecDepth 100000 in
theorem l_awake  : Ctr Try.prog 10 [] [] (Ret fun v G => v = .bool true ∧ G = []) := by
 refine spec_of [] Try.func10 rfl Try.ntmps10 rfl rfl ?_
 intro w0 F
 refine w_seq ?_
 refine w_region ?_
 refine o_val (v_assign rfl) rfl ?_
 refine o_nil ?_
 refine thn_n ?_
 refine w_seq ?_
 refine w_region ?_
 refine r_build (U5) [3, 0] V.sl22 V.z5 rfl rfl rfl rfl rfl rfl ?_
 intro b8
 refine o_call (c_all (some ⟨b8, 0, none⟩) 2 [3, 0] (Row U5 (some ⟨b8, 0, none⟩) 2 2 [3, 0]) (fun _ _ hh => hh.rd) (by decide) (by unfold BitP.Byt; decide) 9 (by decide) (([] : List Int), (2 : Int), (0 : Int)) InfP.awake1) V.b11  rfl (.cons (by repeat first | exact .head | apply Rem.tail) .nil) rfl ?_
 rintro _ _ ⟨q9, c9, rfl, rfl⟩
 refine o_val (v_move rfl) rfl ?_
 refine o_val (v_extract rfl rfl) rfl ?_
 refine o_val (v_extract rfl rfl) rfl ?_
 refine o_val (v_extract rfl rfl) rfl ?_
 refine o_val (v_assign rfl) rfl ?_
 refine o_val (v_assign rfl) rfl ?_
 refine o_val (v_assign rfl) rfl ?_
 refine o_nil ?_
 refine thn_n ?_
 refine w_seq ?_
 refine w_region ?_
 refine r_build (U5) [1, 2, 0, 253, 255, 7, 8, 9] V.sl22 V.z5 rfl rfl rfl rfl rfl rfl ?_
 intro b14
 refine o_call (c_all (some ⟨b14, 0, none⟩) 8 [1, 2, 0, 253, 255, 7, 8, 9] (Row U5 (some ⟨b14, 0, none⟩) 8 8 [1, 2, 0, 253, 255, 7, 8, 9]) (fun _ _ hh => hh.rd) (by decide) (by unfold BitP.Byt; decide) 9 (by decide) (([7, 8] : List Int), (7 : Int), (0 : Int)) InfP.awake2) V.b11  rfl (.cons (by repeat first | exact .head | apply Rem.tail) .nil) rfl ?_
 rintro _ _ ⟨q15, c15, rfl, rfl⟩
 refine o_val (v_move rfl) rfl ?_
 refine o_val (v_extract rfl rfl) rfl ?_
 refine o_val (v_extract rfl rfl) rfl ?_
 refine o_val (v_extract rfl rfl) rfl ?_
 refine o_val (v_assign rfl) rfl ?_
 refine o_val (v_assign rfl) rfl ?_
 refine o_val (v_assign rfl) rfl ?_
 refine o_nil ?_
 refine thn_n ?_
 refine w_seq ?_
 refine w_region ?_
 refine o_val (v_move rfl) rfl ?_
 refine o_val (v_T (v_eql rfl rfl) rfl) rfl ?_
 refine o_val (v_move rfl) rfl ?_
 refine o_want rfl ?_
 refine o_val (v_move rfl) rfl ?_
 refine o_want rfl ?_
 refine o_val (v_T (v_eql rfl rfl) rfl) rfl ?_
 refine o_val (v_pickT rfl rfl) rfl ?_
 refine o_val (v_move rfl) rfl ?_
 refine o_want rfl ?_
 refine o_val (v_move rfl) rfl ?_
 refine o_want rfl ?_
 refine o_val (v_len (ty' := 0) Try.underlying22 rfl) rfl ?_
 refine o_want rfl ?_
 refine o_val (v_T (v_eql rfl rfl) rfl) rfl ?_
 refine o_val (v_pickT rfl rfl) rfl ?_
 refine o_val (v_move rfl) rfl ?_
 refine o_want rfl ?_
 refine o_val (v_move rfl) rfl ?_
 refine o_want rfl ?_
 refine o_val (v_T (v_eql rfl rfl) rfl) rfl ?_
 refine o_val (v_pickT rfl rfl) rfl ?_
 refine o_val (v_move rfl) rfl ?_
 refine o_want rfl ?_
 refine o_val (v_move rfl) rfl ?_
 refine o_want rfl ?_
 refine o_val (v_T (v_eql rfl rfl) rfl) rfl ?_
 refine o_val (v_pickT rfl rfl) rfl ?_
 refine o_val (v_move rfl) rfl ?_
 refine o_want rfl ?_
 refine o_val (v_move rfl) rfl ?_
 refine o_want rfl ?_
 refine o_val (v_str (T := 5) Try.underlying22 Try.underlying5 Try.underlying9 rfl (own (by repeat first | exact .head _ | apply List.Mem.tail))) rfl ?_
 refine o_want rfl ?_
 refine o_val (v_sself (s := strOfNums [7, 8]) rfl rfl) rfl ?_
 refine o_val (v_pickT rfl rfl) rfl ?_
 refine o_val (v_assign rfl) rfl ?_
 refine o_nil ?_
 refine thn_n ?_
 refine w_ret ?_
 exact ret_ok (G := []) (res1 rfl) ⟨rfl, rfl⟩ (sub .nil (by repeat first | exact .refl | apply Drop.skip))

set_option maxHeartbeats 2000000 in
set_option maxRecDepth 100000 in
theorem l_reads (p : Option Addr) (cap : Nat) (B : List Int) (hB : BitP.Byt B) (mo : Int) : Ctr Try.prog 3 [.slice p B.length cap, .int .i64 mo] [RdR U5 p B.length B] (Ret fun v G => v = .bool true ∧ G = [RdR U5 p B.length B]) := by
 refine spec_of [(0, _), (1, _)] Try.func3 rfl Try.ntmps3 rfl rfl ?_
 intro w0 F
 refine w_seq ?_
 refine w_region ?_
 refine o_val (v_assign rfl) rfl ?_
 refine o_nil ?_
 refine thn_n ?_
 refine w_seq ?_
 refine w_seq ?_
 refine w_region ?_
 refine o_call (l_awake) V.b10  rfl .nil rfl ?_
 rintro _ _ ⟨rfl, rfl⟩
 refine o_val (v_to (v := .bool false) (v_not rfl) rfl) rfl ?_
 refine o_nil ?_
 refine thn_n ?_
 refine w_condF rfl ?_
 refine w_skip ?_
 refine thn_n ?_
 rcases (InfP.or3 (B.length ≤ 3000) (mo ≤ 65536)) with ⟨hl1, hm1⟩ | ⟨hl1, hm1⟩ | hl1
 ·
  refine w_seq ?_
  refine w_seq ?_
  refine w_region ?_
  refine o_val (v_move rfl) rfl ?_
  refine o_val (v_len (ty' := 0) Try.underlying22 rfl) rfl ?_
  refine o_val (v_F (v_gtr rfl rfl) (by omega)) rfl ?_
  refine o_val (v_move rfl) rfl ?_
  refine o_want rfl ?_
  refine o_val (v_move rfl) rfl ?_
  refine o_want rfl ?_
  refine o_val (v_F (v_gtr rfl rfl) (by omega)) rfl ?_
  refine o_val (v_pickF rfl rfl) rfl ?_
  refine o_nil ?_
  refine thn_n ?_
  refine w_condF rfl ?_
  refine w_skip ?_
  refine thn_n ?_
  refine w_seq ?_
  obtain ⟨q, hq⟩ := InfP.Res.ex hB mo
  refine w_region ?_
  refine o_val (v_move rfl) rfl ?_
  refine o_val (v_move rfl) rfl ?_
  refine o_call (c_all p cap B (RdR U5 p B.length B) (fun _ _ hh => hh) (by omega) hB mo (by omega) q hq) V.b11  rfl (.cons (by repeat first | exact .head | apply Rem.tail) .nil) rfl ?_
  rintro _ _ ⟨q1, c1, rfl, rfl⟩
  refine o_val (v_move rfl) rfl ?_
  refine o_val (v_extract rfl rfl) rfl ?_
  refine o_val (v_extract rfl rfl) rfl ?_
  refine o_val (v_extract rfl rfl) rfl ?_
  refine o_val (v_assign rfl) rfl ?_
  refine o_val (v_assign rfl) rfl ?_
  refine o_val (v_assign rfl) rfl ?_
  refine o_nil ?_
  refine thn_n ?_
  refine w_seq ?_
  refine w_region ?_
  refine o_val (v_move rfl) rfl ?_
  refine o_val (v_move rfl) rfl ?_
  refine o_call (d_inf p cap B (RdR U5 p B.length B) (fun _ _ hh => hh) (by omega) hB mo (by omega) q hq) V.b12  rfl (.cons (by repeat first | exact .head | apply Rem.tail) .nil) rfl ?_
  rintro _ _ ⟨q2, c2, rfl, rfl⟩
  refine o_val (v_move rfl) rfl ?_
  refine o_val (v_extract rfl rfl) rfl ?_
  refine o_val (v_extract rfl rfl) rfl ?_
  refine o_val (v_extract rfl rfl) rfl ?_
  refine o_val (v_assign rfl) rfl ?_
  refine o_val (v_assign rfl) rfl ?_
  refine o_val (v_assign rfl) rfl ?_
  refine o_nil ?_
  refine thn_n ?_
  refine w_seq ?_
  refine w_region ?_
  refine o_val (v_move rfl) rfl ?_
  refine o_val (v_str (T := 5) Try.underlying22 Try.underlying5 Try.underlying9 rfl (own (by repeat first | exact .head _ | apply List.Mem.tail))) rfl ?_
  refine o_val (v_move rfl) rfl ?_
  refine o_val (v_str (T := 5) Try.underlying22 Try.underlying5 Try.underlying9 rfl (own (by repeat first | exact .head _ | apply List.Mem.tail))) rfl ?_
  refine o_val (v_sself rfl rfl) rfl ?_
  refine o_val (v_move rfl) rfl ?_
  refine o_want rfl ?_
  refine o_val (v_move rfl) rfl ?_
  refine o_want rfl ?_
  refine o_val (v_move rfl) rfl ?_
  refine o_want rfl ?_
  refine o_val (v_T (v_eql rfl rfl) rfl) rfl ?_
  refine o_val (v_pickT rfl rfl) rfl ?_
  refine o_val (v_move rfl) rfl ?_
  refine o_want rfl ?_
  refine o_val (v_move rfl) rfl ?_
  refine o_want rfl ?_
  refine o_val (v_move rfl) rfl ?_
  refine o_want rfl ?_
  refine o_val (v_T (v_eql rfl rfl) rfl) rfl ?_
  refine o_val (v_pickT rfl rfl) rfl ?_
  refine o_val (v_assign rfl) rfl ?_
  refine o_nil ?_
  refine thn_n ?_
  refine w_ret ?_
  exact ret_ok (G := [RdR U5 p B.length B]) (res1 rfl) ⟨rfl, rfl⟩ (sub (.cons (by repeat first | exact .head | apply Rem.tail) .nil) (by repeat first | exact .refl | apply Drop.skip))
 ·
  refine w_seq ?_
  refine w_seq ?_
  refine w_region ?_
  refine o_val (v_move rfl) rfl ?_
  refine o_val (v_len (ty' := 0) Try.underlying22 rfl) rfl ?_
  refine o_val (v_F (v_gtr rfl rfl) (by omega)) rfl ?_
  refine o_val (v_move rfl) rfl ?_
  refine o_want rfl ?_
  refine o_val (v_move rfl) rfl ?_
  refine o_want rfl ?_
  refine o_val (v_T (v_gtr rfl rfl) (by omega)) rfl ?_
  refine o_val (v_pickF rfl rfl) rfl ?_
  refine o_nil ?_
  refine thn_n ?_
  refine w_condT rfl ?_
  refine w_seq ?_
  refine w_region ?_
  refine o_val (v_assign rfl) rfl ?_
  refine o_nil ?_
  refine thn_n ?_
  refine w_ret ?_
  refine (thn_r ?_)
  exact ret_ok (G := [RdR U5 p B.length B]) (res1 rfl) ⟨rfl, rfl⟩ (sub (.cons (by repeat first | exact .head | apply Rem.tail) .nil) (by repeat first | exact .refl | apply Drop.skip))
 ·
  refine w_seq ?_
  refine w_seq ?_
  refine w_region ?_
  refine o_val (v_move rfl) rfl ?_
  refine o_val (v_len (ty' := 0) Try.underlying22 rfl) rfl ?_
  refine o_val (v_T (v_gtr rfl rfl) (by omega)) rfl ?_
  refine o_val (v_move rfl) rfl ?_
  refine o_pass rfl rfl rfl ?_
  refine o_pass rfl rfl rfl ?_
  refine o_val (v_pickT rfl rfl) rfl ?_
  refine o_nil ?_
  refine thn_n ?_
  refine w_condT rfl ?_
  refine w_seq ?_
  refine w_region ?_
  refine o_val (v_assign rfl) rfl ?_
  refine o_nil ?_
  refine thn_n ?_
  refine w_ret ?_
  refine (thn_r ?_)
  exact ret_ok (G := [RdR U5 p B.length B]) (res1 rfl) ⟨rfl, rfl⟩ (sub (.cons (by repeat first | exact .head | apply Rem.tail) .nil) (by repeat first | exact .refl | apply Drop.skip))
end Go.Proofs.Ytoplcgkafaoafaa

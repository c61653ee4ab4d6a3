/- Walks of functions that the law reaches, and what they lean on; no conditions. -/
import Derived.Test.YtookicfejdbddaaGreatUsB
set_option linter.unusedVariables false
set_option linter.unusedSimpArgs false
set_option linter.unnecessarySimpa false
set_option maxRecDepth 100000
namespace Go.Proofs.YtookicfejdbddaaGreat
open Go.Sl 
attribute [local irreducible] BitP.Byt UsP.hi UsP.lo UsP.dn UsP.sg UsP.sizeE UsP.kind UsP.bgs UsP.sgn UsP.g7 UsP.g9 UsP.bm UsP.sid UsP.lst UsP.err UsP.pw UsP.ph UsP.cost UsP.room
set_option maxHeartbeats 1000000 in
theorem u_kind (p : Option Addr) (c : Nat) (B : List Int) (R : HProp) (hR : ∀ w0 h, R w0 h → RdR U5 p B.length B w0 h) (hB : BitP.Byt B) (hl : B.length < 500000000) (hcap : B.length ≤ c) : Ctr Tryz.prog 25 [.slice p B.length c] [R] (Ret fun v G => v = .int .i64 (UsP.kind B : Int) ∧ G = [R]) := by
  refine spec_of [(0, _)] Tryz.func25 rfl Tryz.ntmps25 rfl rfl ?_
  intro w0 F
  refine w_seq ?_
  refine w_region ?_
  refine o_val (v_assign rfl) rfl ?_
  refine o_nil ?_
  refine thn_n ?_
  refine w_seq ?_
  refine w_seq ?_
  refine w_region ?_
  refine o_val (v_assign rfl) rfl ?_
  refine o_nil ?_
  refine thn_n ?_
  refine w_block ?_
  refine w_loop1 (fun (k : Nat) => [(0, .slice p B.length c), (3, .int .i64 (k : Int))]) (fun (k : Nat) => R :: F) (fun (k : Nat) => 1 ≤ k ∧ k ≤ 4 ∧ ∀ j, 1 ≤ j → j < k → ¬ UsP.bgs j B) (fun (k : Nat) => 4 - k) (i1 (1) ?_ (.cons rfl (.cons rfl (.nil _))) (sub (.cons (by repeat first | exact .head | apply Rem.tail) .nil) (by repeat first | exact .refl | apply Drop.skip))) ?_
  ·
    exact ⟨by omega, by omega, fun j _ _ => by omega⟩
  intro k
  rintro ⟨hk1, hk4, hno⟩
  refine w_seq ?_
  refine w_seq ?_
  refine w_region ?_
  refine o_val (v_move rfl) rfl ?_
  refine o_val (v_leq rfl rfl) rfl ?_
  refine o_nil ?_
  refine thn_n ?_
  first | refine w_condD rfl (fun h7 => ?_) (fun h7 => ?_) | refine w_cond rfl (fun h7 => ?_) (fun h7 => ?_)
  ·
    refine w_skip ?_
    refine thn_n ?_
    refine w_seq ?_
    refine w_block ?_
    rcases (UsP.loop6 (B := B) k hk1 (by omega)) with ⟨hk, hb⟩ | ⟨hk, hb⟩ | ⟨hk, hb⟩ | ⟨hk, hb⟩ | ⟨hk, hb⟩ | ⟨hk, hb⟩
    ·
      refine w_seq ?_
      refine w_region ?_
      refine o_val (v_move rfl) rfl ?_
      refine o_call (u_of1 (k : Int) (by omega)) W.b73  rfl .nil rfl ?_
      rintro _ _ ⟨rfl, rfl⟩
      refine o_val (v_move rfl) rfl ?_
      refine o_val (v_extract rfl rfl) rfl ?_
      refine o_val (v_extract rfl rfl) rfl ?_
      refine o_val (v_assign rfl) rfl ?_
      refine o_val (v_assign rfl) rfl ?_
      refine o_nil ?_
      refine thn_n ?_
      refine w_seq ?_
      refine w_region ?_
      refine o_val (v_move rfl) rfl ?_
      refine o_val (v_move rfl) rfl ?_
      refine o_callI (u_beginsP p c B R hR hB hl hcap true (by subst hk; exact (decide_eq_true hb).symm)) W.b229 W.me207_229 rfl rfl (.cons (by repeat first | exact .head | apply Rem.tail) .nil) rfl ?_
      rintro _ _ ⟨rfl, rfl⟩
      refine o_nil ?_
      refine thn_n ?_
      refine w_condT rfl ?_
      refine w_seq ?_
      refine w_region ?_
      refine o_val (v_move rfl) rfl ?_
      refine o_val (v_assign rfl) rfl ?_
      refine o_nil ?_
      refine thn_n ?_
      refine w_ret ?_
      refine (blk_r (thn_r (thn_r (blk_r (thn_r ?_)))))
      have hkd := UsP.kind_at hk1 (by omega) hb hno
      exact ret_ok (G := [R]) (res1 rfl) ⟨by rw [hkd], rfl⟩ (sub (.cons (by repeat first | exact .head | apply Rem.tail) .nil) (by repeat first | exact .refl | apply Drop.skip))
    ·
      refine w_seq ?_
      refine w_region ?_
      refine o_val (v_move rfl) rfl ?_
      refine o_call (u_of1 (k : Int) (by omega)) W.b73  rfl .nil rfl ?_
      rintro _ _ ⟨rfl, rfl⟩
      refine o_val (v_move rfl) rfl ?_
      refine o_val (v_extract rfl rfl) rfl ?_
      refine o_val (v_extract rfl rfl) rfl ?_
      refine o_val (v_assign rfl) rfl ?_
      refine o_val (v_assign rfl) rfl ?_
      refine o_nil ?_
      refine thn_n ?_
      refine w_seq ?_
      refine w_region ?_
      refine o_val (v_move rfl) rfl ?_
      refine o_val (v_move rfl) rfl ?_
      refine o_callI (u_beginsP p c B R hR hB hl hcap false (by subst hk; exact (decide_eq_false hb).symm)) W.b229 W.me207_229 rfl rfl (.cons (by repeat first | exact .head | apply Rem.tail) .nil) rfl ?_
      rintro _ _ ⟨rfl, rfl⟩
      refine o_nil ?_
      refine thn_n ?_
      refine w_condF rfl ?_
      refine w_skip ?_
      refine blk_n ?_
      refine thn_n ?_
      refine w_region ?_
      refine o_val (v_move rfl) rfl ?_
      refine o_val (v_add rfl rfl (wrapI (by omega) (by omega))) rfl ?_
      refine o_val (v_assign rfl) rfl ?_
      refine o_nil ?_
      refine j1 (k + 1) ?_ (.cons rfl (.cons rfl (.nil _))) (sub (.cons (by repeat first | exact .head | apply Rem.tail) .nil) (by repeat first | exact .refl | apply Drop.skip))
      exact ⟨⟨by omega, by omega, fun j h0 h1 => (Nat.lt_succ_iff_lt_or_eq.1 h1).elim (hno j h0) (fun e => e ▸ hb)⟩, by omega⟩
    ·
      refine w_seq ?_
      refine w_region ?_
      refine o_val (v_move rfl) rfl ?_
      refine o_call (u_of2 (k : Int) (by omega)) W.b73  rfl .nil rfl ?_
      rintro _ _ ⟨rfl, rfl⟩
      refine o_val (v_move rfl) rfl ?_
      refine o_val (v_extract rfl rfl) rfl ?_
      refine o_val (v_extract rfl rfl) rfl ?_
      refine o_val (v_assign rfl) rfl ?_
      refine o_val (v_assign rfl) rfl ?_
      refine o_nil ?_
      refine thn_n ?_
      refine w_seq ?_
      refine w_region ?_
      refine o_val (v_move rfl) rfl ?_
      refine o_val (v_move rfl) rfl ?_
      refine o_callI (u_beginsG p c B R hR hB hl hcap true (by subst hk; exact (decide_eq_true hb).symm)) W.b422 W.me208_422 rfl rfl (.cons (by repeat first | exact .head | apply Rem.tail) .nil) rfl ?_
      rintro _ _ ⟨rfl, rfl⟩
      refine o_nil ?_
      refine thn_n ?_
      refine w_condT rfl ?_
      refine w_seq ?_
      refine w_region ?_
      refine o_val (v_move rfl) rfl ?_
      refine o_val (v_assign rfl) rfl ?_
      refine o_nil ?_
      refine thn_n ?_
      refine w_ret ?_
      refine (blk_r (thn_r (thn_r (blk_r (thn_r ?_)))))
      have hkd := UsP.kind_at hk1 (by omega) hb hno
      exact ret_ok (G := [R]) (res1 rfl) ⟨by rw [hkd], rfl⟩ (sub (.cons (by repeat first | exact .head | apply Rem.tail) .nil) (by repeat first | exact .refl | apply Drop.skip))
    ·
      refine w_seq ?_
      refine w_region ?_
      refine o_val (v_move rfl) rfl ?_
      refine o_call (u_of2 (k : Int) (by omega)) W.b73  rfl .nil rfl ?_
      rintro _ _ ⟨rfl, rfl⟩
      refine o_val (v_move rfl) rfl ?_
      refine o_val (v_extract rfl rfl) rfl ?_
      refine o_val (v_extract rfl rfl) rfl ?_
      refine o_val (v_assign rfl) rfl ?_
      refine o_val (v_assign rfl) rfl ?_
      refine o_nil ?_
      refine thn_n ?_
      refine w_seq ?_
      refine w_region ?_
      refine o_val (v_move rfl) rfl ?_
      refine o_val (v_move rfl) rfl ?_
      refine o_callI (u_beginsG p c B R hR hB hl hcap false (by subst hk; exact (decide_eq_false hb).symm)) W.b422 W.me208_422 rfl rfl (.cons (by repeat first | exact .head | apply Rem.tail) .nil) rfl ?_
      rintro _ _ ⟨rfl, rfl⟩
      refine o_nil ?_
      refine thn_n ?_
      refine w_condF rfl ?_
      refine w_skip ?_
      refine blk_n ?_
      refine thn_n ?_
      refine w_region ?_
      refine o_val (v_move rfl) rfl ?_
      refine o_val (v_add rfl rfl (wrapI (by omega) (by omega))) rfl ?_
      refine o_val (v_assign rfl) rfl ?_
      refine o_nil ?_
      refine j1 (k + 1) ?_ (.cons rfl (.cons rfl (.nil _))) (sub (.cons (by repeat first | exact .head | apply Rem.tail) .nil) (by repeat first | exact .refl | apply Drop.skip))
      exact ⟨⟨by omega, by omega, fun j h0 h1 => (Nat.lt_succ_iff_lt_or_eq.1 h1).elim (hno j h0) (fun e => e ▸ hb)⟩, by omega⟩
    ·
      refine w_seq ?_
      refine w_region ?_
      refine o_val (v_move rfl) rfl ?_
      refine o_call (u_of3 (k : Int) (by omega)) W.b73  rfl .nil rfl ?_
      rintro _ _ ⟨rfl, rfl⟩
      refine o_val (v_move rfl) rfl ?_
      refine o_val (v_extract rfl rfl) rfl ?_
      refine o_val (v_extract rfl rfl) rfl ?_
      refine o_val (v_assign rfl) rfl ?_
      refine o_val (v_assign rfl) rfl ?_
      refine o_nil ?_
      refine thn_n ?_
      refine w_seq ?_
      refine w_region ?_
      refine o_val (v_move rfl) rfl ?_
      refine o_val (v_move rfl) rfl ?_
      refine o_callI (u_beginsB p c B R hR hB hl hcap true (by subst hk; exact (decide_eq_true hb).symm)) W.b474 W.me209_474 rfl rfl (.cons (by repeat first | exact .head | apply Rem.tail) .nil) rfl ?_
      rintro _ _ ⟨rfl, rfl⟩
      refine o_nil ?_
      refine thn_n ?_
      refine w_condT rfl ?_
      refine w_seq ?_
      refine w_region ?_
      refine o_val (v_move rfl) rfl ?_
      refine o_val (v_assign rfl) rfl ?_
      refine o_nil ?_
      refine thn_n ?_
      refine w_ret ?_
      refine (blk_r (thn_r (thn_r (blk_r (thn_r ?_)))))
      have hkd := UsP.kind_at hk1 (by omega) hb hno
      exact ret_ok (G := [R]) (res1 rfl) ⟨by rw [hkd], rfl⟩ (sub (.cons (by repeat first | exact .head | apply Rem.tail) .nil) (by repeat first | exact .refl | apply Drop.skip))
    ·
      refine w_seq ?_
      refine w_region ?_
      refine o_val (v_move rfl) rfl ?_
      refine o_call (u_of3 (k : Int) (by omega)) W.b73  rfl .nil rfl ?_
      rintro _ _ ⟨rfl, rfl⟩
      refine o_val (v_move rfl) rfl ?_
      refine o_val (v_extract rfl rfl) rfl ?_
      refine o_val (v_extract rfl rfl) rfl ?_
      refine o_val (v_assign rfl) rfl ?_
      refine o_val (v_assign rfl) rfl ?_
      refine o_nil ?_
      refine thn_n ?_
      refine w_seq ?_
      refine w_region ?_
      refine o_val (v_move rfl) rfl ?_
      refine o_val (v_move rfl) rfl ?_
      refine o_callI (u_beginsB p c B R hR hB hl hcap false (by subst hk; exact (decide_eq_false hb).symm)) W.b474 W.me209_474 rfl rfl (.cons (by repeat first | exact .head | apply Rem.tail) .nil) rfl ?_
      rintro _ _ ⟨rfl, rfl⟩
      refine o_nil ?_
      refine thn_n ?_
      refine w_condF rfl ?_
      refine w_skip ?_
      refine blk_n ?_
      refine thn_n ?_
      refine w_region ?_
      refine o_val (v_move rfl) rfl ?_
      refine o_val (v_add rfl rfl (wrapI (by omega) (by omega))) rfl ?_
      refine o_val (v_assign rfl) rfl ?_
      refine o_nil ?_
      refine j1 (k + 1) ?_ (.cons rfl (.cons rfl (.nil _))) (sub (.cons (by repeat first | exact .head | apply Rem.tail) .nil) (by repeat first | exact .refl | apply Drop.skip))
      exact ⟨⟨by omega, by omega, fun j h0 h1 => (Nat.lt_succ_iff_lt_or_eq.1 h1).elim (hno j h0) (fun e => e ▸ hb)⟩, by omega⟩
  ·
    refine w_exit ?_
    refine thn_e ?_
    refine thn_e ?_
    refine blk_x ?_
    refine thn_n ?_
    refine w_seq ?_
    refine w_region ?_
    refine o_val (v_assign rfl) rfl ?_
    refine o_nil ?_
    refine thn_n ?_
    refine w_ret ?_
    obtain rfl : k = 4 := by omega
    have hkd := UsP.kind_no hno
    exact ret_ok (G := [R]) (res1 rfl) ⟨by rw [hkd]; rfl, rfl⟩ (sub (.cons (by repeat first | exact .head | apply Rem.tail) .nil) (by repeat first | exact .refl | apply Drop.skip))
theorem d_sign  : Ctr Tryz.prog 79 [] [] (Ret fun v G => v = .string (strOfNums UsP.sgn) ∧ G = []) := by
  refine spec_of [] Tryz.func79 rfl Tryz.ntmps79 rfl rfl ?_
  intro w0 F
  refine w_seq ?_
  refine w_region ?_
  refine o_val (v_assign rfl) rfl ?_
  refine o_nil ?_
  refine thn_n ?_
  refine w_seq ?_
  refine w_region ?_
  refine o_val (v_assign rfl) rfl ?_
  refine o_nil ?_
  refine thn_n ?_
  refine w_ret ?_
  exact ret_ok (G := []) (res1 (show _ = some (.string (strOfNums UsP.sgn)) by unfold UsP.sgn; rfl)) ⟨rfl, rfl⟩ (sub .nil (by repeat first | exact .refl | apply Drop.skip))
set_option maxHeartbeats 2000000 in
theorem d_kind (p : Option Addr) (c : Nat) (B : List Int) (R : HProp) (hR : ∀ w0 h, R w0 h → RdR U5 p B.length B w0 h) (hB : BitP.Byt B) (hl : B.length < 500000000) (hcap : B.length ≤ c) : Ctr Tryz.prog 26 [.slice p B.length c] [R] (Ret fun v G => v = .int .i64 (UsP.kind B : Int) ∧ G = [R]) := by
  refine spec_of [(0, _)] Tryz.func26 rfl Tryz.ntmps26 rfl rfl ?_
  intro w0 F
  refine w_seq ?_
  refine w_region ?_
  refine o_val (v_assign rfl) rfl ?_
  refine o_nil ?_
  refine thn_n ?_
  refine w_seq ?_
  refine w_block ?_
  rcases (UsP.kind_doc B) with ⟨h8, hb1⟩ | ⟨h8, hs, hb1⟩ | ⟨h8, hs, hb1⟩
  ·
    refine w_seq ?_
    refine w_net [⟨[], [], [0], 0, 0⟩, ⟨[0], [0], [], 0, 0⟩, ⟨[0, 1], [1], [], 0, 0⟩, ⟨[0, 1, 2], [2], [], 0, 0⟩, ⟨[0, 1, 2, 3], [3], [0], 0, 0⟩, ⟨[0, 1, 2, 3, 4], [4, 3], [], 0, 0⟩, ⟨[0, 1, 2, 3, 4, 5], [5, 3], [], 0, 0⟩, ⟨[0, 1, 2, 3], [3], [], 0, 0⟩, ⟨[0, 1, 2, 3, 4, 5, 6, 7], [6, 7, 3], [], 0, 0⟩, ⟨[0, 1, 2, 3, 4, 5, 6, 7, 8], [3, 8], [], 0, 0⟩, ⟨[0, 1, 2, 3, 4, 5, 6, 7, 8, 9], [9], [], 0, 0⟩] [⟨fun y => R, none, none, []⟩] F W.mixed (by kernel_rfl) rfl (fun _ => .refl _) (locT_0 _ locT_nil) ?_
    refine net_pure (fun y => [(0, _)]) (fun y => rfl) rfl rfl rfl (fun y hA L => st_v (v_move rfl) ⟨rfl, rfl⟩) (by intros; rfl) (by intro y y2 h; rfl) ?_
    refine net_pure (fun y => [(4, _)]) (fun y => rfl) rfl rfl rfl (fun y hA L => st_v (v_len (ty' := 0) Tryz.underlying28 rfl) ⟨rfl, rfl⟩) (by intros; rfl) (by intro y y2 h; rfl) ?_
    refine net_pure (fun y => [(5, _)]) (fun y => rfl) rfl rfl rfl (fun y hA L => st_v (v_F (v_geq rfl rfl) (by omega)) ⟨rfl, rfl⟩) (by intros; rfl) (by intro y y2 h; rfl) ?_
    refine net_pure (fun y => [(6, _)]) (fun y => rfl) rfl rfl rfl (fun y hA L => st_v (v_move rfl) ⟨rfl, rfl⟩) (by intros; rfl) (by intro y y2 h; rfl) ?_
    refine net_pure (fun y => [(7, _), (0, _)]) (fun y => rfl) rfl rfl rfl (fun y hA L => st_pass rfl rfl ⟨rfl, rfl⟩) (by intros; rfl) (by intro y y2 h; rfl) ?_
    refine net_pure (fun y => [(8, _), (7, _)]) (fun y => rfl) rfl rfl rfl (fun y hA L => st_pass rfl rfl ⟨rfl, rfl⟩) (by intros; rfl) (by intro y y2 h; rfl) ?_
    refine net_pure (fun y => [(9, _), (7, _)]) (fun y => rfl) rfl rfl rfl (fun y hA L => st_pass rfl rfl ⟨rfl, rfl⟩) (by intros; rfl) (by intro y y2 h; rfl) ?_
    refine net_pure (fun y => [(7, _)]) (fun y => rfl) rfl rfl rfl (fun y hA L => st_pass rfl rfl ⟨rfl, rfl⟩) (by intros; rfl) (by intro y y2 h; rfl) ?_
    refine net_pure (fun y => [(10, _), (11, _), (7, _)]) (fun y => rfl) rfl rfl rfl (fun y hA L => st_pass rfl rfl ⟨rfl, rfl⟩) (by intros; rfl) (by intro y y2 h; rfl) ?_
    refine net_pure (fun y => [(7, _), (12, _)]) (fun y => rfl) rfl rfl rfl (fun y hA L => st_v (v_pickF rfl rfl) ⟨rfl, rfl⟩) (by intros; rfl) (by intro y y2 h; rfl) ?_
    refine net_pure (fun y => [(13, _)]) (fun y => rfl) rfl rfl rfl (fun y hA L => st_v (v_assign rfl) ⟨rfl, rfl⟩) (by intros; rfl) (by intro y y2 h; rfl) ?_
    refine net_nil ?_
    intro y hA
    clear hA
    refine thn_n ?_
    refine w_keep _ (.cons (d := 0) rfl (.cons (d := 3) rfl (.nil _))) ?_
    refine w_sub (M := R :: F) (fun _ _ h => h) ?_
    refine w_condF rfl ?_
    rcases (UsP.gif_doc B) with ⟨h6, hb2⟩ | ⟨h6, hs6, hb2⟩ | ⟨h6, hs6, hs7, hb2⟩ | ⟨h6, hs6, hs7, hb2⟩
    ·
      refine w_seq ?_
      refine w_region ?_
      refine o_val (v_move rfl) rfl ?_
      refine o_val (v_len (ty' := 0) Tryz.underlying28 rfl) rfl ?_
      refine o_val (v_F (v_geq rfl rfl) (by omega)) rfl ?_
      refine o_val (v_move rfl) rfl ?_
      refine o_pass rfl rfl rfl ?_
      refine o_pass rfl rfl rfl ?_
      refine o_pass rfl rfl rfl ?_
      refine o_pass rfl rfl rfl ?_
      refine o_pass rfl rfl rfl ?_
      refine o_passU rfl rfl rfl rfl ?_
      refine o_passU rfl rfl rfl rfl ?_
      refine o_passU rfl rfl rfl rfl ?_
      refine o_passU rfl rfl rfl rfl ?_
      refine o_pass rfl rfl rfl ?_
      refine o_val (v_pickF rfl rfl) rfl ?_
      refine o_val (v_assign rfl) rfl ?_
      refine o_nil ?_
      refine thn_n ?_
      refine w_condF rfl ?_
      rcases (UsP.bmp_doc B) with ⟨h2, hb3⟩ | ⟨h2, hs2, hb3⟩ | ⟨h2, hs2, hb3⟩
      ·
        refine w_seq ?_
        refine w_region ?_
        refine o_val (v_move rfl) rfl ?_
        refine o_val (v_len (ty' := 0) Tryz.underlying28 rfl) rfl ?_
        refine o_val (v_F (v_geq rfl rfl) (by omega)) rfl ?_
        refine o_val (v_move rfl) rfl ?_
        refine o_pass rfl rfl rfl ?_
        refine o_pass rfl rfl rfl ?_
        refine o_pass rfl rfl rfl ?_
        refine o_pass rfl rfl rfl ?_
        refine o_val (v_pickF rfl rfl) rfl ?_
        refine o_val (v_assign rfl) rfl ?_
        refine o_nil ?_
        refine thn_n ?_
        refine w_condF rfl ?_
        refine w_skip ?_
        refine blk_n ?_
        refine thn_n ?_
        refine w_seq ?_
        refine w_region ?_
        refine o_val (v_assign rfl) rfl ?_
        refine o_nil ?_
        refine thn_n ?_
        refine w_ret ?_
        have hkd := UsP.kind0 hb1 hb2 hb3
        exact ret_ok (G := [R]) (res1 rfl) ⟨by rw [hkd]; rfl, rfl⟩ (sub (.cons (by repeat first | exact .head | apply Rem.tail) .nil) (by repeat first | exact .refl | apply Drop.skip))
      ·
        refine w_seq ?_
        have hT2 : ∀ w0 h, R w0 h → RdR U5 p 2 (B.take 2) w0 h := rdr_tk hR 2 2 (by rw [List.length_take]; omega)
        refine w_region ?_
        refine o_val (v_move rfl) rfl ?_
        refine o_val (v_len (ty' := 0) Tryz.underlying28 rfl) rfl ?_
        refine o_val (v_T (v_geq rfl rfl) (by omega)) rfl ?_
        refine o_val (v_move rfl) rfl ?_
        refine o_want rfl ?_
        refine o_val (v_move rfl) rfl ?_
        refine o_want rfl ?_
        refine o_val (v_slice0 2 c W.sl28 rfl ⟨_, rfl⟩ rfl (by omega) (by omega)) rfl ?_
        refine o_want rfl ?_
        refine o_val (s_str (T := 5) (l := B.take 2) Tryz.underlying28 Tryz.underlying5 Tryz.underlying9 rfl (by first | exact rdH hT2 mm0 | exact rdH hT2 mm1)) rfl ?_
        refine o_want rfl ?_
        refine o_val (v_T (v_sk UsP.bm (UsP.byt_all (UsP.byt_take hB 2)) UsP.bm_b rfl (show evalE _ _ = some (.string (strOfNums UsP.bm)) by unfold UsP.bm; rfl)) hs2) rfl ?_
        refine o_val (v_pickT rfl rfl) rfl ?_
        refine o_val (v_assign rfl) rfl ?_
        refine o_nil ?_
        refine thn_n ?_
        refine w_condT rfl ?_
        refine w_seq ?_
        refine w_region ?_
        refine o_val (v_assign rfl) rfl ?_
        refine o_nil ?_
        refine thn_n ?_
        refine w_ret ?_
        refine (blk_r (thn_r ?_))
        have hkd := UsP.kind3 hb1 hb2 hb3
        exact ret_ok (G := [R]) (res1 rfl) ⟨by rw [hkd]; rfl, rfl⟩ (sub (.cons (by repeat first | exact .head | apply Rem.tail) .nil) (by repeat first | exact .refl | apply Drop.skip))
      ·
        refine w_seq ?_
        have hT2 : ∀ w0 h, R w0 h → RdR U5 p 2 (B.take 2) w0 h := rdr_tk hR 2 2 (by rw [List.length_take]; omega)
        refine w_region ?_
        refine o_val (v_move rfl) rfl ?_
        refine o_val (v_len (ty' := 0) Tryz.underlying28 rfl) rfl ?_
        refine o_val (v_T (v_geq rfl rfl) (by omega)) rfl ?_
        refine o_val (v_move rfl) rfl ?_
        refine o_want rfl ?_
        refine o_val (v_move rfl) rfl ?_
        refine o_want rfl ?_
        refine o_val (v_slice0 2 c W.sl28 rfl ⟨_, rfl⟩ rfl (by omega) (by omega)) rfl ?_
        refine o_want rfl ?_
        refine o_val (s_str (T := 5) (l := B.take 2) Tryz.underlying28 Tryz.underlying5 Tryz.underlying9 rfl (by first | exact rdH hT2 mm0 | exact rdH hT2 mm1)) rfl ?_
        refine o_want rfl ?_
        refine o_val (v_F (v_sk UsP.bm (UsP.byt_all (UsP.byt_take hB 2)) UsP.bm_b rfl (show evalE _ _ = some (.string (strOfNums UsP.bm)) by unfold UsP.bm; rfl)) hs2) rfl ?_
        refine o_val (v_pickT rfl rfl) rfl ?_
        refine o_val (v_assign rfl) rfl ?_
        refine o_nil ?_
        refine thn_n ?_
        refine w_condF rfl ?_
        refine w_skip ?_
        refine blk_n ?_
        refine thn_n ?_
        refine w_seq ?_
        refine w_region ?_
        refine o_val (v_assign rfl) rfl ?_
        refine o_nil ?_
        refine thn_n ?_
        refine w_ret ?_
        have hkd := UsP.kind0 hb1 hb2 hb3
        exact ret_ok (G := [R]) (res1 rfl) ⟨by rw [hkd]; rfl, rfl⟩ (sub (.cons (by repeat first | exact .head | apply Rem.tail) .nil) (by repeat first | exact .refl | apply Drop.skip))
    ·
      refine w_seq ?_
      have hT6 : ∀ w0 h, R w0 h → RdR U5 p 6 (B.take 6) w0 h := rdr_tk hR 6 6 (by rw [List.length_take]; omega)
      refine w_region ?_
      refine o_val (v_move rfl) rfl ?_
      refine o_val (v_len (ty' := 0) Tryz.underlying28 rfl) rfl ?_
      refine o_val (v_T (v_geq rfl rfl) (by omega)) rfl ?_
      refine o_val (v_move rfl) rfl ?_
      refine o_want rfl ?_
      refine o_val (v_move rfl) rfl ?_
      refine o_want rfl ?_
      refine o_val (v_slice0 6 c W.sl28 rfl ⟨_, rfl⟩ rfl (by omega) (by omega)) rfl ?_
      refine o_want rfl ?_
      refine o_val (s_str (T := 5) (l := B.take 6) Tryz.underlying28 Tryz.underlying5 Tryz.underlying9 rfl (by first | exact rdH hT6 mm0 | exact rdH hT6 mm1)) rfl ?_
      refine o_want rfl ?_
      refine o_val (v_T (v_sk UsP.g7 (UsP.byt_all (UsP.byt_take hB 6)) UsP.g7_b rfl (show evalE _ _ = some (.string (strOfNums UsP.g7)) by unfold UsP.g7; rfl)) hs6) rfl ?_
      refine o_want rfl ?_
      refine o_val (v_move rfl) rfl ?_
      refine o_pass rfl rfl rfl ?_
      refine o_pass rfl rfl rfl ?_
      refine o_pass rfl rfl rfl ?_
      refine o_pass rfl rfl rfl ?_
      refine o_want rfl ?_
      refine o_val (v_pickT rfl rfl) rfl ?_
      refine o_val (v_pickT rfl rfl) rfl ?_
      refine o_val (v_assign rfl) rfl ?_
      refine o_nil ?_
      refine thn_n ?_
      refine w_condT rfl ?_
      refine w_seq ?_
      refine w_region ?_
      refine o_val (v_assign rfl) rfl ?_
      refine o_nil ?_
      refine thn_n ?_
      refine w_ret ?_
      refine (blk_r (thn_r ?_))
      have hkd := UsP.kind2 hb1 hb2
      exact ret_ok (G := [R]) (res1 rfl) ⟨by rw [hkd]; rfl, rfl⟩ (sub (.cons (by repeat first | exact .head | apply Rem.tail) .nil) (by repeat first | exact .refl | apply Drop.skip))
    ·
      refine w_seq ?_
      have hT6 : ∀ w0 h, R w0 h → RdR U5 p 6 (B.take 6) w0 h := rdr_tk hR 6 6 (by rw [List.length_take]; omega)
      refine w_region ?_
      refine o_val (v_move rfl) rfl ?_
      refine o_val (v_len (ty' := 0) Tryz.underlying28 rfl) rfl ?_
      refine o_val (v_T (v_geq rfl rfl) (by omega)) rfl ?_
      refine o_val (v_move rfl) rfl ?_
      refine o_want rfl ?_
      refine o_val (v_move rfl) rfl ?_
      refine o_want rfl ?_
      refine o_val (v_slice0 6 c W.sl28 rfl ⟨_, rfl⟩ rfl (by omega) (by omega)) rfl ?_
      refine o_want rfl ?_
      refine o_val (s_str (T := 5) (l := B.take 6) Tryz.underlying28 Tryz.underlying5 Tryz.underlying9 rfl (by first | exact rdH hT6 mm0 | exact rdH hT6 mm1)) rfl ?_
      refine o_want rfl ?_
      refine o_val (v_F (v_sk UsP.g7 (UsP.byt_all (UsP.byt_take hB 6)) UsP.g7_b rfl (show evalE _ _ = some (.string (strOfNums UsP.g7)) by unfold UsP.g7; rfl)) hs6) rfl ?_
      refine o_want rfl ?_
      refine o_val (v_move rfl) rfl ?_
      refine o_want rfl ?_
      refine o_val (v_move rfl) rfl ?_
      refine o_want rfl ?_
      refine o_val (v_slice0 6 c W.sl28 rfl ⟨_, rfl⟩ rfl (by omega) (by omega)) rfl ?_
      refine o_want rfl ?_
      refine o_val (s_str (T := 5) (l := B.take 6) Tryz.underlying28 Tryz.underlying5 Tryz.underlying9 rfl (by first | exact rdH hT6 mm0 | exact rdH hT6 mm1)) rfl ?_
      refine o_want rfl ?_
      refine o_val (v_T (v_sk UsP.g9 (UsP.byt_all (UsP.byt_take hB 6)) UsP.g9_b rfl (show evalE _ _ = some (.string (strOfNums UsP.g9)) by unfold UsP.g9; rfl)) hs7) rfl ?_
      refine o_want rfl ?_
      refine o_val (v_pickF rfl rfl) rfl ?_
      refine o_val (v_pickT rfl rfl) rfl ?_
      refine o_val (v_assign rfl) rfl ?_
      refine o_nil ?_
      refine thn_n ?_
      refine w_condT rfl ?_
      refine w_seq ?_
      refine w_region ?_
      refine o_val (v_assign rfl) rfl ?_
      refine o_nil ?_
      refine thn_n ?_
      refine w_ret ?_
      refine (blk_r (thn_r ?_))
      have hkd := UsP.kind2 hb1 hb2
      exact ret_ok (G := [R]) (res1 rfl) ⟨by rw [hkd]; rfl, rfl⟩ (sub (.cons (by repeat first | exact .head | apply Rem.tail) .nil) (by repeat first | exact .refl | apply Drop.skip))
    ·
      refine w_seq ?_
      have hT6 : ∀ w0 h, R w0 h → RdR U5 p 6 (B.take 6) w0 h := rdr_tk hR 6 6 (by rw [List.length_take]; omega)
      refine w_region ?_
      refine o_val (v_move rfl) rfl ?_
      refine o_val (v_len (ty' := 0) Tryz.underlying28 rfl) rfl ?_
      refine o_val (v_T (v_geq rfl rfl) (by omega)) rfl ?_
      refine o_val (v_move rfl) rfl ?_
      refine o_want rfl ?_
      refine o_val (v_move rfl) rfl ?_
      refine o_want rfl ?_
      refine o_val (v_slice0 6 c W.sl28 rfl ⟨_, rfl⟩ rfl (by omega) (by omega)) rfl ?_
      refine o_want rfl ?_
      refine o_val (s_str (T := 5) (l := B.take 6) Tryz.underlying28 Tryz.underlying5 Tryz.underlying9 rfl (by first | exact rdH hT6 mm0 | exact rdH hT6 mm1)) rfl ?_
      refine o_want rfl ?_
      refine o_val (v_F (v_sk UsP.g7 (UsP.byt_all (UsP.byt_take hB 6)) UsP.g7_b rfl (show evalE _ _ = some (.string (strOfNums UsP.g7)) by unfold UsP.g7; rfl)) hs6) rfl ?_
      refine o_want rfl ?_
      refine o_val (v_move rfl) rfl ?_
      refine o_want rfl ?_
      refine o_val (v_move rfl) rfl ?_
      refine o_want rfl ?_
      refine o_val (v_slice0 6 c W.sl28 rfl ⟨_, rfl⟩ rfl (by omega) (by omega)) rfl ?_
      refine o_want rfl ?_
      refine o_val (s_str (T := 5) (l := B.take 6) Tryz.underlying28 Tryz.underlying5 Tryz.underlying9 rfl (by first | exact rdH hT6 mm0 | exact rdH hT6 mm1)) rfl ?_
      refine o_want rfl ?_
      refine o_val (v_F (v_sk UsP.g9 (UsP.byt_all (UsP.byt_take hB 6)) UsP.g9_b rfl (show evalE _ _ = some (.string (strOfNums UsP.g9)) by unfold UsP.g9; rfl)) hs7) rfl ?_
      refine o_want rfl ?_
      refine o_val (v_pickF rfl rfl) rfl ?_
      refine o_val (v_pickT rfl rfl) rfl ?_
      refine o_val (v_assign rfl) rfl ?_
      refine o_nil ?_
      refine thn_n ?_
      refine w_condF rfl ?_
      rcases (UsP.bmp_doc B) with ⟨h2, hb3⟩ | ⟨h2, hs2, hb3⟩ | ⟨h2, hs2, hb3⟩
      ·
        refine w_seq ?_
        refine w_region ?_
        refine o_val (v_move rfl) rfl ?_
        refine o_val (v_len (ty' := 0) Tryz.underlying28 rfl) rfl ?_
        refine o_val (v_F (v_geq rfl rfl) (by omega)) rfl ?_
        refine o_val (v_move rfl) rfl ?_
        refine o_pass rfl rfl rfl ?_
        refine o_pass rfl rfl rfl ?_
        refine o_pass rfl rfl rfl ?_
        refine o_pass rfl rfl rfl ?_
        refine o_val (v_pickF rfl rfl) rfl ?_
        refine o_val (v_assign rfl) rfl ?_
        refine o_nil ?_
        refine thn_n ?_
        refine w_condF rfl ?_
        refine w_skip ?_
        refine blk_n ?_
        refine thn_n ?_
        refine w_seq ?_
        refine w_region ?_
        refine o_val (v_assign rfl) rfl ?_
        refine o_nil ?_
        refine thn_n ?_
        refine w_ret ?_
        have hkd := UsP.kind0 hb1 hb2 hb3
        exact ret_ok (G := [R]) (res1 rfl) ⟨by rw [hkd]; rfl, rfl⟩ (sub (.cons (by repeat first | exact .head | apply Rem.tail) .nil) (by repeat first | exact .refl | apply Drop.skip))
      ·
        refine w_seq ?_
        have hT2 : ∀ w0 h, R w0 h → RdR U5 p 2 (B.take 2) w0 h := rdr_tk hR 2 2 (by rw [List.length_take]; omega)
        refine w_region ?_
        refine o_val (v_move rfl) rfl ?_
        refine o_val (v_len (ty' := 0) Tryz.underlying28 rfl) rfl ?_
        refine o_val (v_T (v_geq rfl rfl) (by omega)) rfl ?_
        refine o_val (v_move rfl) rfl ?_
        refine o_want rfl ?_
        refine o_val (v_move rfl) rfl ?_
        refine o_want rfl ?_
        refine o_val (v_slice0 2 c W.sl28 rfl ⟨_, rfl⟩ rfl (by omega) (by omega)) rfl ?_
        refine o_want rfl ?_
        refine o_val (s_str (T := 5) (l := B.take 2) Tryz.underlying28 Tryz.underlying5 Tryz.underlying9 rfl (by first | exact rdH hT2 mm0 | exact rdH hT2 mm1)) rfl ?_
        refine o_want rfl ?_
        refine o_val (v_T (v_sk UsP.bm (UsP.byt_all (UsP.byt_take hB 2)) UsP.bm_b rfl (show evalE _ _ = some (.string (strOfNums UsP.bm)) by unfold UsP.bm; rfl)) hs2) rfl ?_
        refine o_val (v_pickT rfl rfl) rfl ?_
        refine o_val (v_assign rfl) rfl ?_
        refine o_nil ?_
        refine thn_n ?_
        refine w_condT rfl ?_
        refine w_seq ?_
        refine w_region ?_
        refine o_val (v_assign rfl) rfl ?_
        refine o_nil ?_
        refine thn_n ?_
        refine w_ret ?_
        refine (blk_r (thn_r ?_))
        have hkd := UsP.kind3 hb1 hb2 hb3
        exact ret_ok (G := [R]) (res1 rfl) ⟨by rw [hkd]; rfl, rfl⟩ (sub (.cons (by repeat first | exact .head | apply Rem.tail) .nil) (by repeat first | exact .refl | apply Drop.skip))
      ·
        refine w_seq ?_
        have hT2 : ∀ w0 h, R w0 h → RdR U5 p 2 (B.take 2) w0 h := rdr_tk hR 2 2 (by rw [List.length_take]; omega)
        refine w_region ?_
        refine o_val (v_move rfl) rfl ?_
        refine o_val (v_len (ty' := 0) Tryz.underlying28 rfl) rfl ?_
        refine o_val (v_T (v_geq rfl rfl) (by omega)) rfl ?_
        refine o_val (v_move rfl) rfl ?_
        refine o_want rfl ?_
        refine o_val (v_move rfl) rfl ?_
        refine o_want rfl ?_
        refine o_val (v_slice0 2 c W.sl28 rfl ⟨_, rfl⟩ rfl (by omega) (by omega)) rfl ?_
        refine o_want rfl ?_
        refine o_val (s_str (T := 5) (l := B.take 2) Tryz.underlying28 Tryz.underlying5 Tryz.underlying9 rfl (by first | exact rdH hT2 mm0 | exact rdH hT2 mm1)) rfl ?_
        refine o_want rfl ?_
        refine o_val (v_F (v_sk UsP.bm (UsP.byt_all (UsP.byt_take hB 2)) UsP.bm_b rfl (show evalE _ _ = some (.string (strOfNums UsP.bm)) by unfold UsP.bm; rfl)) hs2) rfl ?_
        refine o_val (v_pickT rfl rfl) rfl ?_
        refine o_val (v_assign rfl) rfl ?_
        refine o_nil ?_
        refine thn_n ?_
        refine w_condF rfl ?_
        refine w_skip ?_
        refine blk_n ?_
        refine thn_n ?_
        refine w_seq ?_
        refine w_region ?_
        refine o_val (v_assign rfl) rfl ?_
        refine o_nil ?_
        refine thn_n ?_
        refine w_ret ?_
        have hkd := UsP.kind0 hb1 hb2 hb3
        exact ret_ok (G := [R]) (res1 rfl) ⟨by rw [hkd]; rfl, rfl⟩ (sub (.cons (by repeat first | exact .head | apply Rem.tail) .nil) (by repeat first | exact .refl | apply Drop.skip))
  ·
    refine w_seq ?_
    have hT8 : ∀ w0 h, R w0 h → RdR U5 p 8 (B.take 8) w0 h := rdr_tk hR 8 8 (by rw [List.length_take]; omega)
    refine w_net [⟨[], [], [0], 0, 0⟩, ⟨[0], [0], [], 0, 0⟩, ⟨[0, 1], [1], [], 0, 0⟩, ⟨[0, 1, 2], [2], [], 0, 0⟩, ⟨[0, 1, 2, 3], [3], [0], 0, 0⟩, ⟨[0, 1, 2, 3, 4], [4, 3], [], 0, 0⟩, ⟨[0, 1, 2, 3, 4, 5], [5, 3], [], 0, 0⟩, ⟨[0, 1, 2, 3], [3], [], 0, 0⟩, ⟨[0, 1, 2, 3, 4, 5, 6, 7], [6, 7, 3], [], 0, 0⟩, ⟨[0, 1, 2, 3, 4, 5, 6, 7, 8], [3, 8], [], 0, 0⟩, ⟨[0, 1, 2, 3, 4, 5, 6, 7, 8, 9], [9], [], 0, 0⟩] [⟨fun y => R, none, none, [6]⟩] F W.mixed (by kernel_rfl) rfl (fun _ => .refl _) (locT_0 _ locT_nil) ?_
    refine net_pure (fun y => [(0, _)]) (fun y => rfl) rfl rfl rfl (fun y hA L => st_v (v_move rfl) ⟨rfl, rfl⟩) (by intros; rfl) (by intro y y2 h; rfl) ?_
    refine net_pure (fun y => [(4, _)]) (fun y => rfl) rfl rfl rfl (fun y hA L => st_v (v_len (ty' := 0) Tryz.underlying28 rfl) ⟨rfl, rfl⟩) (by intros; rfl) (by intro y y2 h; rfl) ?_
    refine net_pure (fun y => [(5, _)]) (fun y => rfl) rfl rfl rfl (fun y hA L => st_v (v_T (v_geq rfl rfl) (by omega)) ⟨rfl, rfl⟩) (by intros; rfl) (by intro y y2 h; rfl) ?_
    refine net_pure (fun y => [(6, _)]) (fun y => rfl) rfl rfl rfl (fun y hA L => st_v (v_move rfl) ⟨rfl, rfl⟩) (by intros; rfl) (by intro y y2 h; rfl) ?_
    refine net_pure (fun y => [(7, _), (0, _)]) (fun y => rfl) rfl rfl rfl (fun y hA L => st_want rfl (st_v (v_move rfl) ⟨rfl, rfl⟩)) (by intros; rfl) (by intro y y2 h; rfl) ?_
    refine net_pure (fun y => [(8, _), (7, _)]) (fun y => rfl) rfl rfl rfl (fun y hA L => st_want rfl (st_v (v_slice0 8 c W.sl28 rfl ⟨_, rfl⟩ rfl (by omega) (by omega)) ⟨rfl, rfl⟩)) (by intros; rfl) (by intro y y2 h; rfl) ?_
    refine net_read (fun y => [R]) (fun y => [(9, _), (7, _)]) (fun y => rfl) rfl (fun y => rfl) rfl (fun y FF hA => st_want rfl (st_v (s_str (T := 5) (l := B.take 8) Tryz.underlying28 Tryz.underlying5 Tryz.underlying9 rfl (by first | exact rdH hT8 mm0 | exact rdH hT8 mm1)) ⟨rfl, rfl⟩)) (by intros; rfl) (by intro y y2 h; rfl) ?_
    refine net_eff (fun y => []) (fun y => []) (fun y => []) (fun y => [(7, _)]) (fun y => rfl) (fun y => rfl) (fun y => rfl) (fun y => rfl) (fun y FF hA => st_want rfl (st_callN (Post := []) (d_sign) W.b79 rfl .nil (fun v G h => by rcases h with ⟨rfl, rfl⟩; exact ⟨rfl, .refl _⟩))) (by intros; rfl) (by intros; rfl) (by intro y y2 h; rfl) ?_
    refine net_pure (fun y => [(10, _), (11, _), (7, _)]) (fun y => rfl) rfl rfl rfl (fun y hA L => st_want rfl (st_v (v_T (v_sk UsP.sgn (UsP.byt_all (UsP.byt_take hB 8)) UsP.sgn_b rfl rfl) hs) ⟨rfl, rfl⟩)) (by intros; rfl) (by intro y y2 h; rfl) ?_
    refine net_pure (fun y => [(7, _), (12, _)]) (fun y => rfl) rfl rfl rfl (fun y hA L => st_v (v_pickT rfl rfl) ⟨rfl, rfl⟩) (by intros; rfl) (by intro y y2 h; rfl) ?_
    refine net_pure (fun y => [(13, _)]) (fun y => rfl) rfl rfl rfl (fun y hA L => st_v (v_assign rfl) ⟨rfl, rfl⟩) (by intros; rfl) (by intro y y2 h; rfl) ?_
    refine net_nil ?_
    intro y hA
    clear hA
    refine thn_n ?_
    refine w_keep _ (.cons (d := 0) rfl (.cons (d := 3) rfl (.nil _))) ?_
    refine w_sub (M := R :: F) (fun _ _ h => h) ?_
    refine w_condT rfl ?_
    refine w_seq ?_
    refine w_region ?_
    refine o_val (v_assign rfl) rfl ?_
    refine o_nil ?_
    refine thn_n ?_
    refine w_ret ?_
    refine (blk_r (thn_r ?_))
    have hkd := UsP.kind1 hb1
    exact ret_ok (G := [R]) (res1 rfl) ⟨by rw [hkd]; rfl, rfl⟩ (sub (.cons (by repeat first | exact .head | apply Rem.tail) .nil) (by repeat first | exact .refl | apply Drop.skip))
  ·
    refine w_seq ?_
    have hT8 : ∀ w0 h, R w0 h → RdR U5 p 8 (B.take 8) w0 h := rdr_tk hR 8 8 (by rw [List.length_take]; omega)
    refine w_net [⟨[], [], [0], 0, 0⟩, ⟨[0], [0], [], 0, 0⟩, ⟨[0, 1], [1], [], 0, 0⟩, ⟨[0, 1, 2], [2], [], 0, 0⟩, ⟨[0, 1, 2, 3], [3], [0], 0, 0⟩, ⟨[0, 1, 2, 3, 4], [4, 3], [], 0, 0⟩, ⟨[0, 1, 2, 3, 4, 5], [5, 3], [], 0, 0⟩, ⟨[0, 1, 2, 3], [3], [], 0, 0⟩, ⟨[0, 1, 2, 3, 4, 5, 6, 7], [6, 7, 3], [], 0, 0⟩, ⟨[0, 1, 2, 3, 4, 5, 6, 7, 8], [3, 8], [], 0, 0⟩, ⟨[0, 1, 2, 3, 4, 5, 6, 7, 8, 9], [9], [], 0, 0⟩] [⟨fun y => R, none, none, [6]⟩] F W.mixed (by kernel_rfl) rfl (fun _ => .refl _) (locT_0 _ locT_nil) ?_
    refine net_pure (fun y => [(0, _)]) (fun y => rfl) rfl rfl rfl (fun y hA L => st_v (v_move rfl) ⟨rfl, rfl⟩) (by intros; rfl) (by intro y y2 h; rfl) ?_
    refine net_pure (fun y => [(4, _)]) (fun y => rfl) rfl rfl rfl (fun y hA L => st_v (v_len (ty' := 0) Tryz.underlying28 rfl) ⟨rfl, rfl⟩) (by intros; rfl) (by intro y y2 h; rfl) ?_
    refine net_pure (fun y => [(5, _)]) (fun y => rfl) rfl rfl rfl (fun y hA L => st_v (v_T (v_geq rfl rfl) (by omega)) ⟨rfl, rfl⟩) (by intros; rfl) (by intro y y2 h; rfl) ?_
    refine net_pure (fun y => [(6, _)]) (fun y => rfl) rfl rfl rfl (fun y hA L => st_v (v_move rfl) ⟨rfl, rfl⟩) (by intros; rfl) (by intro y y2 h; rfl) ?_
    refine net_pure (fun y => [(7, _), (0, _)]) (fun y => rfl) rfl rfl rfl (fun y hA L => st_want rfl (st_v (v_move rfl) ⟨rfl, rfl⟩)) (by intros; rfl) (by intro y y2 h; rfl) ?_
    refine net_pure (fun y => [(8, _), (7, _)]) (fun y => rfl) rfl rfl rfl (fun y hA L => st_want rfl (st_v (v_slice0 8 c W.sl28 rfl ⟨_, rfl⟩ rfl (by omega) (by omega)) ⟨rfl, rfl⟩)) (by intros; rfl) (by intro y y2 h; rfl) ?_
    refine net_read (fun y => [R]) (fun y => [(9, _), (7, _)]) (fun y => rfl) rfl (fun y => rfl) rfl (fun y FF hA => st_want rfl (st_v (s_str (T := 5) (l := B.take 8) Tryz.underlying28 Tryz.underlying5 Tryz.underlying9 rfl (by first | exact rdH hT8 mm0 | exact rdH hT8 mm1)) ⟨rfl, rfl⟩)) (by intros; rfl) (by intro y y2 h; rfl) ?_
    refine net_eff (fun y => []) (fun y => []) (fun y => []) (fun y => [(7, _)]) (fun y => rfl) (fun y => rfl) (fun y => rfl) (fun y => rfl) (fun y FF hA => st_want rfl (st_callN (Post := []) (d_sign) W.b79 rfl .nil (fun v G h => by rcases h with ⟨rfl, rfl⟩; exact ⟨rfl, .refl _⟩))) (by intros; rfl) (by intros; rfl) (by intro y y2 h; rfl) ?_
    refine net_pure (fun y => [(10, _), (11, _), (7, _)]) (fun y => rfl) rfl rfl rfl (fun y hA L => st_want rfl (st_v (v_F (v_sk UsP.sgn (UsP.byt_all (UsP.byt_take hB 8)) UsP.sgn_b rfl rfl) hs) ⟨rfl, rfl⟩)) (by intros; rfl) (by intro y y2 h; rfl) ?_
    refine net_pure (fun y => [(7, _), (12, _)]) (fun y => rfl) rfl rfl rfl (fun y hA L => st_v (v_pickT rfl rfl) ⟨rfl, rfl⟩) (by intros; rfl) (by intro y y2 h; rfl) ?_
    refine net_pure (fun y => [(13, _)]) (fun y => rfl) rfl rfl rfl (fun y hA L => st_v (v_assign rfl) ⟨rfl, rfl⟩) (by intros; rfl) (by intro y y2 h; rfl) ?_
    refine net_nil ?_
    intro y hA
    clear hA
    refine thn_n ?_
    refine w_keep _ (.cons (d := 0) rfl (.cons (d := 3) rfl (.nil _))) ?_
    refine w_sub (M := R :: F) (fun _ _ h => h) ?_
    refine w_condF rfl ?_
    rcases (UsP.gif_doc B) with ⟨h6, hb2⟩ | ⟨h6, hs6, hb2⟩ | ⟨h6, hs6, hs7, hb2⟩ | ⟨h6, hs6, hs7, hb2⟩
    ·
      refine w_seq ?_
      refine w_region ?_
      refine o_val (v_move rfl) rfl ?_
      refine o_val (v_len (ty' := 0) Tryz.underlying28 rfl) rfl ?_
      refine o_val (v_F (v_geq rfl rfl) (by omega)) rfl ?_
      refine o_val (v_move rfl) rfl ?_
      refine o_pass rfl rfl rfl ?_
      refine o_pass rfl rfl rfl ?_
      refine o_pass rfl rfl rfl ?_
      refine o_pass rfl rfl rfl ?_
      refine o_pass rfl rfl rfl ?_
      refine o_passU rfl rfl rfl rfl ?_
      refine o_passU rfl rfl rfl rfl ?_
      refine o_passU rfl rfl rfl rfl ?_
      refine o_passU rfl rfl rfl rfl ?_
      refine o_pass rfl rfl rfl ?_
      refine o_val (v_pickF rfl rfl) rfl ?_
      refine o_val (v_assign rfl) rfl ?_
      refine o_nil ?_
      refine thn_n ?_
      refine w_condF rfl ?_
      rcases (UsP.bmp_doc B) with ⟨h2, hb3⟩ | ⟨h2, hs2, hb3⟩ | ⟨h2, hs2, hb3⟩
      ·
        refine w_seq ?_
        refine w_region ?_
        refine o_val (v_move rfl) rfl ?_
        refine o_val (v_len (ty' := 0) Tryz.underlying28 rfl) rfl ?_
        refine o_val (v_F (v_geq rfl rfl) (by omega)) rfl ?_
        refine o_val (v_move rfl) rfl ?_
        refine o_pass rfl rfl rfl ?_
        refine o_pass rfl rfl rfl ?_
        refine o_pass rfl rfl rfl ?_
        refine o_pass rfl rfl rfl ?_
        refine o_val (v_pickF rfl rfl) rfl ?_
        refine o_val (v_assign rfl) rfl ?_
        refine o_nil ?_
        refine thn_n ?_
        refine w_condF rfl ?_
        refine w_skip ?_
        refine blk_n ?_
        refine thn_n ?_
        refine w_seq ?_
        refine w_region ?_
        refine o_val (v_assign rfl) rfl ?_
        refine o_nil ?_
        refine thn_n ?_
        refine w_ret ?_
        have hkd := UsP.kind0 hb1 hb2 hb3
        exact ret_ok (G := [R]) (res1 rfl) ⟨by rw [hkd]; rfl, rfl⟩ (sub (.cons (by repeat first | exact .head | apply Rem.tail) .nil) (by repeat first | exact .refl | apply Drop.skip))
      ·
        refine w_seq ?_
        have hT2 : ∀ w0 h, R w0 h → RdR U5 p 2 (B.take 2) w0 h := rdr_tk hR 2 2 (by rw [List.length_take]; omega)
        refine w_region ?_
        refine o_val (v_move rfl) rfl ?_
        refine o_val (v_len (ty' := 0) Tryz.underlying28 rfl) rfl ?_
        refine o_val (v_T (v_geq rfl rfl) (by omega)) rfl ?_
        refine o_val (v_move rfl) rfl ?_
        refine o_want rfl ?_
        refine o_val (v_move rfl) rfl ?_
        refine o_want rfl ?_
        refine o_val (v_slice0 2 c W.sl28 rfl ⟨_, rfl⟩ rfl (by omega) (by omega)) rfl ?_
        refine o_want rfl ?_
        refine o_val (s_str (T := 5) (l := B.take 2) Tryz.underlying28 Tryz.underlying5 Tryz.underlying9 rfl (by first | exact rdH hT2 mm0 | exact rdH hT2 mm1)) rfl ?_
        refine o_want rfl ?_
        refine o_val (v_T (v_sk UsP.bm (UsP.byt_all (UsP.byt_take hB 2)) UsP.bm_b rfl (show evalE _ _ = some (.string (strOfNums UsP.bm)) by unfold UsP.bm; rfl)) hs2) rfl ?_
        refine o_val (v_pickT rfl rfl) rfl ?_
        refine o_val (v_assign rfl) rfl ?_
        refine o_nil ?_
        refine thn_n ?_
        refine w_condT rfl ?_
        refine w_seq ?_
        refine w_region ?_
        refine o_val (v_assign rfl) rfl ?_
        refine o_nil ?_
        refine thn_n ?_
        refine w_ret ?_
        refine (blk_r (thn_r ?_))
        have hkd := UsP.kind3 hb1 hb2 hb3
        exact ret_ok (G := [R]) (res1 rfl) ⟨by rw [hkd]; rfl, rfl⟩ (sub (.cons (by repeat first | exact .head | apply Rem.tail) .nil) (by repeat first | exact .refl | apply Drop.skip))
      ·
        refine w_seq ?_
        have hT2 : ∀ w0 h, R w0 h → RdR U5 p 2 (B.take 2) w0 h := rdr_tk hR 2 2 (by rw [List.length_take]; omega)
        refine w_region ?_
        refine o_val (v_move rfl) rfl ?_
        refine o_val (v_len (ty' := 0) Tryz.underlying28 rfl) rfl ?_
        refine o_val (v_T (v_geq rfl rfl) (by omega)) rfl ?_
        refine o_val (v_move rfl) rfl ?_
        refine o_want rfl ?_
        refine o_val (v_move rfl) rfl ?_
        refine o_want rfl ?_
        refine o_val (v_slice0 2 c W.sl28 rfl ⟨_, rfl⟩ rfl (by omega) (by omega)) rfl ?_
        refine o_want rfl ?_
        refine o_val (s_str (T := 5) (l := B.take 2) Tryz.underlying28 Tryz.underlying5 Tryz.underlying9 rfl (by first | exact rdH hT2 mm0 | exact rdH hT2 mm1)) rfl ?_
        refine o_want rfl ?_
        refine o_val (v_F (v_sk UsP.bm (UsP.byt_all (UsP.byt_take hB 2)) UsP.bm_b rfl (show evalE _ _ = some (.string (strOfNums UsP.bm)) by unfold UsP.bm; rfl)) hs2) rfl ?_
        refine o_val (v_pickT rfl rfl) rfl ?_
        refine o_val (v_assign rfl) rfl ?_
        refine o_nil ?_
        refine thn_n ?_
        refine w_condF rfl ?_
        refine w_skip ?_
        refine blk_n ?_
        refine thn_n ?_
        refine w_seq ?_
        refine w_region ?_
        refine o_val (v_assign rfl) rfl ?_
        refine o_nil ?_
        refine thn_n ?_
        refine w_ret ?_
        have hkd := UsP.kind0 hb1 hb2 hb3
        exact ret_ok (G := [R]) (res1 rfl) ⟨by rw [hkd]; rfl, rfl⟩ (sub (.cons (by repeat first | exact .head | apply Rem.tail) .nil) (by repeat first | exact .refl | apply Drop.skip))
    ·
      refine w_seq ?_
      have hT6 : ∀ w0 h, R w0 h → RdR U5 p 6 (B.take 6) w0 h := rdr_tk hR 6 6 (by rw [List.length_take]; omega)
      refine w_region ?_
      refine o_val (v_move rfl) rfl ?_
      refine o_val (v_len (ty' := 0) Tryz.underlying28 rfl) rfl ?_
      refine o_val (v_T (v_geq rfl rfl) (by omega)) rfl ?_
      refine o_val (v_move rfl) rfl ?_
      refine o_want rfl ?_
      refine o_val (v_move rfl) rfl ?_
      refine o_want rfl ?_
      refine o_val (v_slice0 6 c W.sl28 rfl ⟨_, rfl⟩ rfl (by omega) (by omega)) rfl ?_
      refine o_want rfl ?_
      refine o_val (s_str (T := 5) (l := B.take 6) Tryz.underlying28 Tryz.underlying5 Tryz.underlying9 rfl (by first | exact rdH hT6 mm0 | exact rdH hT6 mm1)) rfl ?_
      refine o_want rfl ?_
      refine o_val (v_T (v_sk UsP.g7 (UsP.byt_all (UsP.byt_take hB 6)) UsP.g7_b rfl (show evalE _ _ = some (.string (strOfNums UsP.g7)) by unfold UsP.g7; rfl)) hs6) rfl ?_
      refine o_want rfl ?_
      refine o_val (v_move rfl) rfl ?_
      refine o_pass rfl rfl rfl ?_
      refine o_pass rfl rfl rfl ?_
      refine o_pass rfl rfl rfl ?_
      refine o_pass rfl rfl rfl ?_
      refine o_want rfl ?_
      refine o_val (v_pickT rfl rfl) rfl ?_
      refine o_val (v_pickT rfl rfl) rfl ?_
      refine o_val (v_assign rfl) rfl ?_
      refine o_nil ?_
      refine thn_n ?_
      refine w_condT rfl ?_
      refine w_seq ?_
      refine w_region ?_
      refine o_val (v_assign rfl) rfl ?_
      refine o_nil ?_
      refine thn_n ?_
      refine w_ret ?_
      refine (blk_r (thn_r ?_))
      have hkd := UsP.kind2 hb1 hb2
      exact ret_ok (G := [R]) (res1 rfl) ⟨by rw [hkd]; rfl, rfl⟩ (sub (.cons (by repeat first | exact .head | apply Rem.tail) .nil) (by repeat first | exact .refl | apply Drop.skip))
    ·
      refine w_seq ?_
      have hT6 : ∀ w0 h, R w0 h → RdR U5 p 6 (B.take 6) w0 h := rdr_tk hR 6 6 (by rw [List.length_take]; omega)
      refine w_region ?_
      refine o_val (v_move rfl) rfl ?_
      refine o_val (v_len (ty' := 0) Tryz.underlying28 rfl) rfl ?_
      refine o_val (v_T (v_geq rfl rfl) (by omega)) rfl ?_
      refine o_val (v_move rfl) rfl ?_
      refine o_want rfl ?_
      refine o_val (v_move rfl) rfl ?_
      refine o_want rfl ?_
      refine o_val (v_slice0 6 c W.sl28 rfl ⟨_, rfl⟩ rfl (by omega) (by omega)) rfl ?_
      refine o_want rfl ?_
      refine o_val (s_str (T := 5) (l := B.take 6) Tryz.underlying28 Tryz.underlying5 Tryz.underlying9 rfl (by first | exact rdH hT6 mm0 | exact rdH hT6 mm1)) rfl ?_
      refine o_want rfl ?_
      refine o_val (v_F (v_sk UsP.g7 (UsP.byt_all (UsP.byt_take hB 6)) UsP.g7_b rfl (show evalE _ _ = some (.string (strOfNums UsP.g7)) by unfold UsP.g7; rfl)) hs6) rfl ?_
      refine o_want rfl ?_
      refine o_val (v_move rfl) rfl ?_
      refine o_want rfl ?_
      refine o_val (v_move rfl) rfl ?_
      refine o_want rfl ?_
      refine o_val (v_slice0 6 c W.sl28 rfl ⟨_, rfl⟩ rfl (by omega) (by omega)) rfl ?_
      refine o_want rfl ?_
      refine o_val (s_str (T := 5) (l := B.take 6) Tryz.underlying28 Tryz.underlying5 Tryz.underlying9 rfl (by first | exact rdH hT6 mm0 | exact rdH hT6 mm1)) rfl ?_
      refine o_want rfl ?_
      refine o_val (v_T (v_sk UsP.g9 (UsP.byt_all (UsP.byt_take hB 6)) UsP.g9_b rfl (show evalE _ _ = some (.string (strOfNums UsP.g9)) by unfold UsP.g9; rfl)) hs7) rfl ?_
      refine o_want rfl ?_
      refine o_val (v_pickF rfl rfl) rfl ?_
      refine o_val (v_pickT rfl rfl) rfl ?_
      refine o_val (v_assign rfl) rfl ?_
      refine o_nil ?_
      refine thn_n ?_
      refine w_condT rfl ?_
      refine w_seq ?_
      refine w_region ?_
      refine o_val (v_assign rfl) rfl ?_
      refine o_nil ?_
      refine thn_n ?_
      refine w_ret ?_
      refine (blk_r (thn_r ?_))
      have hkd := UsP.kind2 hb1 hb2
      exact ret_ok (G := [R]) (res1 rfl) ⟨by rw [hkd]; rfl, rfl⟩ (sub (.cons (by repeat first | exact .head | apply Rem.tail) .nil) (by repeat first | exact .refl | apply Drop.skip))
    ·
      refine w_seq ?_
      have hT6 : ∀ w0 h, R w0 h → RdR U5 p 6 (B.take 6) w0 h := rdr_tk hR 6 6 (by rw [List.length_take]; omega)
      refine w_region ?_
      refine o_val (v_move rfl) rfl ?_
      refine o_val (v_len (ty' := 0) Tryz.underlying28 rfl) rfl ?_
      refine o_val (v_T (v_geq rfl rfl) (by omega)) rfl ?_
      refine o_val (v_move rfl) rfl ?_
      refine o_want rfl ?_
      refine o_val (v_move rfl) rfl ?_
      refine o_want rfl ?_
      refine o_val (v_slice0 6 c W.sl28 rfl ⟨_, rfl⟩ rfl (by omega) (by omega)) rfl ?_
      refine o_want rfl ?_
      refine o_val (s_str (T := 5) (l := B.take 6) Tryz.underlying28 Tryz.underlying5 Tryz.underlying9 rfl (by first | exact rdH hT6 mm0 | exact rdH hT6 mm1)) rfl ?_
      refine o_want rfl ?_
      refine o_val (v_F (v_sk UsP.g7 (UsP.byt_all (UsP.byt_take hB 6)) UsP.g7_b rfl (show evalE _ _ = some (.string (strOfNums UsP.g7)) by unfold UsP.g7; rfl)) hs6) rfl ?_
      refine o_want rfl ?_
      refine o_val (v_move rfl) rfl ?_
      refine o_want rfl ?_
      refine o_val (v_move rfl) rfl ?_
      refine o_want rfl ?_
      refine o_val (v_slice0 6 c W.sl28 rfl ⟨_, rfl⟩ rfl (by omega) (by omega)) rfl ?_
      refine o_want rfl ?_
      refine o_val (s_str (T := 5) (l := B.take 6) Tryz.underlying28 Tryz.underlying5 Tryz.underlying9 rfl (by first | exact rdH hT6 mm0 | exact rdH hT6 mm1)) rfl ?_
      refine o_want rfl ?_
      refine o_val (v_F (v_sk UsP.g9 (UsP.byt_all (UsP.byt_take hB 6)) UsP.g9_b rfl (show evalE _ _ = some (.string (strOfNums UsP.g9)) by unfold UsP.g9; rfl)) hs7) rfl ?_
      refine o_want rfl ?_
      refine o_val (v_pickF rfl rfl) rfl ?_
      refine o_val (v_pickT rfl rfl) rfl ?_
      refine o_val (v_assign rfl) rfl ?_
      refine o_nil ?_
      refine thn_n ?_
      refine w_condF rfl ?_
      rcases (UsP.bmp_doc B) with ⟨h2, hb3⟩ | ⟨h2, hs2, hb3⟩ | ⟨h2, hs2, hb3⟩
      ·
        refine w_seq ?_
        refine w_region ?_
        refine o_val (v_move rfl) rfl ?_
        refine o_val (v_len (ty' := 0) Tryz.underlying28 rfl) rfl ?_
        refine o_val (v_F (v_geq rfl rfl) (by omega)) rfl ?_
        refine o_val (v_move rfl) rfl ?_
        refine o_pass rfl rfl rfl ?_
        refine o_pass rfl rfl rfl ?_
        refine o_pass rfl rfl rfl ?_
        refine o_pass rfl rfl rfl ?_
        refine o_val (v_pickF rfl rfl) rfl ?_
        refine o_val (v_assign rfl) rfl ?_
        refine o_nil ?_
        refine thn_n ?_
        refine w_condF rfl ?_
        refine w_skip ?_
        refine blk_n ?_
        refine thn_n ?_
        refine w_seq ?_
        refine w_region ?_
        refine o_val (v_assign rfl) rfl ?_
        refine o_nil ?_
        refine thn_n ?_
        refine w_ret ?_
        have hkd := UsP.kind0 hb1 hb2 hb3
        exact ret_ok (G := [R]) (res1 rfl) ⟨by rw [hkd]; rfl, rfl⟩ (sub (.cons (by repeat first | exact .head | apply Rem.tail) .nil) (by repeat first | exact .refl | apply Drop.skip))
      ·
        refine w_seq ?_
        have hT2 : ∀ w0 h, R w0 h → RdR U5 p 2 (B.take 2) w0 h := rdr_tk hR 2 2 (by rw [List.length_take]; omega)
        refine w_region ?_
        refine o_val (v_move rfl) rfl ?_
        refine o_val (v_len (ty' := 0) Tryz.underlying28 rfl) rfl ?_
        refine o_val (v_T (v_geq rfl rfl) (by omega)) rfl ?_
        refine o_val (v_move rfl) rfl ?_
        refine o_want rfl ?_
        refine o_val (v_move rfl) rfl ?_
        refine o_want rfl ?_
        refine o_val (v_slice0 2 c W.sl28 rfl ⟨_, rfl⟩ rfl (by omega) (by omega)) rfl ?_
        refine o_want rfl ?_
        refine o_val (s_str (T := 5) (l := B.take 2) Tryz.underlying28 Tryz.underlying5 Tryz.underlying9 rfl (by first | exact rdH hT2 mm0 | exact rdH hT2 mm1)) rfl ?_
        refine o_want rfl ?_
        refine o_val (v_T (v_sk UsP.bm (UsP.byt_all (UsP.byt_take hB 2)) UsP.bm_b rfl (show evalE _ _ = some (.string (strOfNums UsP.bm)) by unfold UsP.bm; rfl)) hs2) rfl ?_
        refine o_val (v_pickT rfl rfl) rfl ?_
        refine o_val (v_assign rfl) rfl ?_
        refine o_nil ?_
        refine thn_n ?_
        refine w_condT rfl ?_
        refine w_seq ?_
        refine w_region ?_
        refine o_val (v_assign rfl) rfl ?_
        refine o_nil ?_
        refine thn_n ?_
        refine w_ret ?_
        refine (blk_r (thn_r ?_))
        have hkd := UsP.kind3 hb1 hb2 hb3
        exact ret_ok (G := [R]) (res1 rfl) ⟨by rw [hkd]; rfl, rfl⟩ (sub (.cons (by repeat first | exact .head | apply Rem.tail) .nil) (by repeat first | exact .refl | apply Drop.skip))
      ·
        refine w_seq ?_
        have hT2 : ∀ w0 h, R w0 h → RdR U5 p 2 (B.take 2) w0 h := rdr_tk hR 2 2 (by rw [List.length_take]; omega)
        refine w_region ?_
        refine o_val (v_move rfl) rfl ?_
        refine o_val (v_len (ty' := 0) Tryz.underlying28 rfl) rfl ?_
        refine o_val (v_T (v_geq rfl rfl) (by omega)) rfl ?_
        refine o_val (v_move rfl) rfl ?_
        refine o_want rfl ?_
        refine o_val (v_move rfl) rfl ?_
        refine o_want rfl ?_
        refine o_val (v_slice0 2 c W.sl28 rfl ⟨_, rfl⟩ rfl (by omega) (by omega)) rfl ?_
        refine o_want rfl ?_
        refine o_val (s_str (T := 5) (l := B.take 2) Tryz.underlying28 Tryz.underlying5 Tryz.underlying9 rfl (by first | exact rdH hT2 mm0 | exact rdH hT2 mm1)) rfl ?_
        refine o_want rfl ?_
        refine o_val (v_F (v_sk UsP.bm (UsP.byt_all (UsP.byt_take hB 2)) UsP.bm_b rfl (show evalE _ _ = some (.string (strOfNums UsP.bm)) by unfold UsP.bm; rfl)) hs2) rfl ?_
        refine o_val (v_pickT rfl rfl) rfl ?_
        refine o_val (v_assign rfl) rfl ?_
        refine o_nil ?_
        refine thn_n ?_
        refine w_condF rfl ?_
        refine w_skip ?_
        refine blk_n ?_
        refine thn_n ?_
        refine w_seq ?_
        refine w_region ?_
        refine o_val (v_assign rfl) rfl ?_
        refine o_nil ?_
        refine thn_n ?_
        refine w_ret ?_
        have hkd := UsP.kind0 hb1 hb2 hb3
        exact ret_ok (G := [R]) (res1 rfl) ⟨by rw [hkd]; rfl, rfl⟩ (sub (.cons (by repeat first | exact .head | apply Rem.tail) .nil) (by repeat first | exact .refl | apply Drop.skip))
end Go.Proofs.YtookicfejdbddaaGreat

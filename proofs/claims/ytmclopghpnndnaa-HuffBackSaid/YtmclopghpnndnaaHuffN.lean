/-
  Steps of the proof: walks of functions that the statement reaches; printed by a program of ours.
-/
import Derived.Test.YtmclopghpnndnaaHuffM
namespace Go.Proofs.Ytmclopghpnndnaa
open Go.Sl 
set_option linter.unusedVariables false
set_option linter.unusedSimpArgs false

set_option maxRecDepth 100000 in
theorem c_room0 (b : Nat) (out : List Int) (hl : out.length < 500000000) : Ctr Try.prog 48 [.pointer (some ⟨b, 0, none⟩)] [LW b [] 0 out 0] (Ret fun v G => v = .int .i64 7 ∧ G = [LW b [] 0 (out ++ [0]) 7]) := by
  refine spec_of [(0, _)] Try.func48 rfl Try.ntmps48 rfl rfl ?_
  intro w0 F
  refine w_opn (fun h hh => hh) ?_
  rintro ⟨p1, c1, p2, c2⟩ _
  dsimp only
  refine w_seq ?_
  refine w_region ?_
  refine o_val (v_assign rfl) rfl ?_
  refine o_nil ?_
  refine thn_n ?_
  refine w_seq ?_
  refine w_seq ?_
  refine w_region ?_
  refine o_val (v_move rfl) rfl ?_
  refine o_val (v_nil rfl) rfl ?_
  refine o_val (v_fieldAddr V.f68_3 rfl) rfl ?_
  refine o_val (v_load V.s3 rfl (by first | exact mm0 | exact mm1 | exact mm2 | exact mm3 | exact mm4 | exact mm5 | exact mm6 | exact mm7 | exact mm8 | exact mm9 | exact mm10 | exact mm11 | exact mm12 | exact mm13 | exact mm14) rfl) rfl ?_
  refine o_val (v_T (v_eql rfl rfl) rfl) rfl ?_
  refine o_nil ?_
  refine thn_n ?_
  refine w_condT rfl ?_
  refine w_seq ?_
  refine w_region ?_
  refine o_val (v_move rfl) rfl ?_
  refine o_val (v_move rfl) rfl ?_
  refine o_val (v_nil rfl) rfl ?_
  refine o_val (v_fieldAddr V.f68_1 rfl) rfl ?_
  refine o_val (v_load V.s35 rfl (by first | exact mm0 | exact mm1 | exact mm2 | exact mm3 | exact mm4 | exact mm5 | exact mm6 | exact mm7 | exact mm8 | exact mm9 | exact mm10 | exact mm11 | exact mm12 | exact mm13 | exact mm14) rfl) rfl ?_
  refine r_build (U5) [0] V.sl35 V.z5 rfl rfl rfl rfl rfl rfl ?_
  intro b13
  refine r_append (c := (U5)) V.sl35 V.z5 rfl rfl rfl rfl (by first | exact rr0 | exact rr1 | exact rr2 | exact rr3 | exact rr4 | exact rr5 | exact rr6 | exact rr7 | exact rr8 | exact rr9 | exact rr10 | exact rr11 | exact rr12 | exact rr13 | exact rr14) (by first | exact own mm0 | exact own mm1 | exact own mm2 | exact own mm3 | exact own mm4 | exact own mm5 | exact own mm6 | exact own mm7 | exact own mm8 | exact own mm9 | exact own mm10 | exact own mm11) (by omega) rfl ?_
  intro p14 c14
  refine o_val (v_nil rfl) rfl ?_
  refine o_val (v_fieldAddr V.f68_1 rfl) rfl ?_
  refine o_eff (v_store V.s35 rfl rfl rfl (by first | exact pp0 | exact pp1 | exact pp2 | exact pp3 | exact pp4 | exact pp5 | exact pp6 | exact pp7 | exact pp8 | exact pp9 | exact pp10 | exact pp11 | exact pp12 | exact pp13 | exact pp14) (by exact Nat.le_of_ble_eq_true rfl) rfl) ?_
  refine o_nil ?_
  refine thn_n ?_
  refine w_region ?_
  refine o_val (v_move rfl) rfl ?_
  refine o_val (v_nil rfl) rfl ?_
  refine o_val (v_fieldAddr V.f68_3 rfl) rfl ?_
  refine o_eff (v_store V.s3 rfl rfl rfl (by first | exact pp0 | exact pp1 | exact pp2 | exact pp3 | exact pp4 | exact pp5 | exact pp6 | exact pp7 | exact pp8 | exact pp9 | exact pp10 | exact pp11 | exact pp12 | exact pp13 | exact pp14) (by exact Nat.le_of_ble_eq_true rfl) rfl) ?_
  refine o_nil ?_
  refine thn_n ?_
  refine w_seq ?_
  refine w_region ?_
  refine o_val (v_move rfl) rfl ?_
  refine o_val (v_nil rfl) rfl ?_
  refine o_val (v_fieldAddr V.f68_3 rfl) rfl ?_
  refine o_val (v_load V.s3 rfl (by first | exact mm0 | exact mm1 | exact mm2 | exact mm3 | exact mm4 | exact mm5 | exact mm6 | exact mm7 | exact mm8 | exact mm9 | exact mm10 | exact mm11 | exact mm12 | exact mm13 | exact mm14) rfl) rfl ?_
  refine o_val (v_sub rfl rfl (wrapI (by omega) (by omega))) rfl ?_
  refine o_val (v_nil rfl) rfl ?_
  refine o_val (v_fieldAddr V.f68_3 rfl) rfl ?_
  refine o_eff (v_store V.s3 rfl rfl rfl (by first | exact pp0 | exact pp1 | exact pp2 | exact pp3 | exact pp4 | exact pp5 | exact pp6 | exact pp7 | exact pp8 | exact pp9 | exact pp10 | exact pp11 | exact pp12 | exact pp13 | exact pp14) (by exact Nat.le_of_ble_eq_true rfl) rfl) ?_
  refine o_nil ?_
  refine thn_n ?_
  refine w_seq ?_
  refine w_region ?_
  refine o_val (v_move rfl) rfl ?_
  refine o_val (v_nil rfl) rfl ?_
  refine o_val (v_fieldAddr V.f68_3 rfl) rfl ?_
  refine o_val (v_load V.s3 rfl (by first | exact mm0 | exact mm1 | exact mm2 | exact mm3 | exact mm4 | exact mm5 | exact mm6 | exact mm7 | exact mm8 | exact mm9 | exact mm10 | exact mm11 | exact mm12 | exact mm13 | exact mm14) rfl) rfl ?_
  refine o_val (v_assign rfl) rfl ?_
  refine o_nil ?_
  refine thn_n ?_
  refine w_ret ?_
  exact ret_ok (G := [LW b [] 0 (out ++ [0]) 7]) (res1 rfl) ⟨rfl, rfl⟩ (fold' (.cons (by first | exact rr0 | exact rr1 | exact rr2 | exact rr3 | exact rr4 | exact rr5 | exact rr6 | exact rr7 | exact rr8 | exact rr9 | exact rr10 | exact rr11 | exact rr12 | exact rr13 | exact rr14) (.cons (by first | exact rr0 | exact rr1 | exact rr2 | exact rr3 | exact rr4 | exact rr5 | exact rr6 | exact rr7 | exact rr8 | exact rr9 | exact rr10 | exact rr11 | exact rr12 | exact rr13 | exact rr14) (.cons (by first | exact rr0 | exact rr1 | exact rr2 | exact rr3 | exact rr4 | exact rr5 | exact rr6 | exact rr7 | exact rr8 | exact rr9 | exact rr10 | exact rr11 | exact rr12 | exact rr13 | exact rr14) .nil))) (by first | exact dd0 | exact dd1 | exact dd2 | exact dd3 | exact dd4 | exact dd5 | exact dd6 | exact dd7 | exact dd8 | exact dd9 | exact dd10 | exact dd11 | exact dd12 | exact dd13 | exact dd14) (fun w0 h (hh : sats w0 [Cel b 70 [.slice p1 0 c1, .slice p14 (out.length + 1) c14, .int .i64 0, .int .i64 7], Row U5 p1 0 c1 [], Row U5 p14 (out.length + 1) c14 (out ++ [0])] h) => lw_close (B := []) (out := out ++ [0]) (by rw [List.length_append]; exact hh)))

set_option maxRecDepth 100000 in
theorem c_roomS (b : Nat) (out : List Int) (fr : Nat) (h1 : 1 ≤ fr) (h8 : fr ≤ 8) : Ctr Try.prog 48 [.pointer (some ⟨b, 0, none⟩)] [LW b [] 0 out (fr : Int)] (Ret fun v G => v = .int .i64 ((fr : Int) - 1) ∧ G = [LW b [] 0 out ((fr : Int) - 1)]) := by
  refine spec_of [(0, _)] Try.func48 rfl Try.ntmps48 rfl rfl ?_
  intro w0 F
  refine w_opn (fun h hh => hh) ?_
  rintro ⟨p1, c1, p2, c2⟩ _
  dsimp only
  refine w_seq ?_
  refine w_region ?_
  refine o_val (v_assign rfl) rfl ?_
  refine o_nil ?_
  refine thn_n ?_
  refine w_seq ?_
  refine w_seq ?_
  refine w_region ?_
  refine o_val (v_move rfl) rfl ?_
  refine o_val (v_nil rfl) rfl ?_
  refine o_val (v_fieldAddr V.f68_3 rfl) rfl ?_
  refine o_val (v_load V.s3 rfl (by first | exact mm0 | exact mm1 | exact mm2 | exact mm3 | exact mm4 | exact mm5 | exact mm6 | exact mm7 | exact mm8 | exact mm9 | exact mm10 | exact mm11 | exact mm12 | exact mm13 | exact mm14) rfl) rfl ?_
  refine o_val (v_F (v_eql rfl rfl) (by omega)) rfl ?_
  refine o_nil ?_
  refine thn_n ?_
  refine w_condF rfl ?_
  refine w_skip ?_
  refine thn_n ?_
  refine w_seq ?_
  refine w_region ?_
  refine o_val (v_move rfl) rfl ?_
  refine o_val (v_nil rfl) rfl ?_
  refine o_val (v_fieldAddr V.f68_3 rfl) rfl ?_
  refine o_val (v_load V.s3 rfl (by first | exact mm0 | exact mm1 | exact mm2 | exact mm3 | exact mm4 | exact mm5 | exact mm6 | exact mm7 | exact mm8 | exact mm9 | exact mm10 | exact mm11 | exact mm12 | exact mm13 | exact mm14) rfl) rfl ?_
  refine o_val (v_sub rfl rfl (wrapI (by omega) (by omega))) rfl ?_
  refine o_val (v_nil rfl) rfl ?_
  refine o_val (v_fieldAddr V.f68_3 rfl) rfl ?_
  refine o_eff (v_store V.s3 rfl rfl rfl (by first | exact pp0 | exact pp1 | exact pp2 | exact pp3 | exact pp4 | exact pp5 | exact pp6 | exact pp7 | exact pp8 | exact pp9 | exact pp10 | exact pp11 | exact pp12 | exact pp13 | exact pp14) (by exact Nat.le_of_ble_eq_true rfl) rfl) ?_
  refine o_nil ?_
  refine thn_n ?_
  refine w_seq ?_
  refine w_region ?_
  refine o_val (v_move rfl) rfl ?_
  refine o_val (v_nil rfl) rfl ?_
  refine o_val (v_fieldAddr V.f68_3 rfl) rfl ?_
  refine o_val (v_load V.s3 rfl (by first | exact mm0 | exact mm1 | exact mm2 | exact mm3 | exact mm4 | exact mm5 | exact mm6 | exact mm7 | exact mm8 | exact mm9 | exact mm10 | exact mm11 | exact mm12 | exact mm13 | exact mm14) rfl) rfl ?_
  refine o_val (v_assign rfl) rfl ?_
  refine o_nil ?_
  refine thn_n ?_
  refine w_ret ?_
  exact ret_ok (G := [LW b [] 0 out ((fr : Int) - 1)]) (res1 rfl) ⟨rfl, rfl⟩ (fold' (.cons (by first | exact rr0 | exact rr1 | exact rr2 | exact rr3 | exact rr4 | exact rr5 | exact rr6 | exact rr7 | exact rr8 | exact rr9 | exact rr10 | exact rr11 | exact rr12 | exact rr13 | exact rr14) (.cons (by first | exact rr0 | exact rr1 | exact rr2 | exact rr3 | exact rr4 | exact rr5 | exact rr6 | exact rr7 | exact rr8 | exact rr9 | exact rr10 | exact rr11 | exact rr12 | exact rr13 | exact rr14) (.cons (by first | exact rr0 | exact rr1 | exact rr2 | exact rr3 | exact rr4 | exact rr5 | exact rr6 | exact rr7 | exact rr8 | exact rr9 | exact rr10 | exact rr11 | exact rr12 | exact rr13 | exact rr14) .nil))) (by first | exact dd0 | exact dd1 | exact dd2 | exact dd3 | exact dd4 | exact dd5 | exact dd6 | exact dd7 | exact dd8 | exact dd9 | exact dd10 | exact dd11 | exact dd12 | exact dd13 | exact dd14) (fun w0 h hh => lw_close (B := []) hh))


theorem c_room (b : Nat) (bs : List Int) (hl : bs.length < 500000000) : Ctr Try.prog 48 [.pointer (some ⟨b, 0, none⟩)] [WB b bs] (Ret fun v G => ∃ out fr, BitP.Pk bs out fr ∧ 1 ≤ fr ∧ v = .int .i64 ((fr : Int) - 1) ∧ G = [LW b [] 0 out ((fr : Int) - 1)]) := by
  intro w0 F w hi
  obtain ⟨⟨out, fr⟩, ⟨hpk, hf8⟩, hi2⟩ := hi.opn (fun h hh => hh)
  dsimp only at hpk hi2 hf8
  have hlen := hpk.len
  have h8 := hpk.le
  rcases Nat.eq_zero_or_pos fr with e | e
  · subst e
    refine (c_room0 b out (by omega) w0 F w hi2).mono ?_
    rintro e w' ⟨G, h1, v, rfl, rfl, rfl⟩
    exact ⟨_, h1, _, rfl, out ++ [0], 8, BitP.pk_room hpk, by omega, rfl, rfl⟩
  · refine (c_roomS b out fr e h8 w0 F w hi2).mono ?_
    rintro e w' ⟨G, h1, v, rfl, rfl, rfl⟩
    exact ⟨_, h1, _, rfl, out, fr, hpk, by omega, rfl, rfl⟩


set_option maxHeartbeats 1000000 in
set_option maxRecDepth 100000 in
theorem c_put (b : Nat) (bs : List Int) (x : Int) (n : Nat) (hx : 0 ≤ x ∧ x < 2 ^ 40) (hn : n ≤ 24) (hl : bs.length < 400000000) : Ctr Try.prog 37 [.pointer (some ⟨b, 0, none⟩), .int .i64 x, .int .i64 (n : Int)] [WB b bs] (Ret fun v G => v = .tuple #[] ∧ G = [WB b (bs ++ BitP.lowB x n)]) := by
  refine spec_of [(0, _), (1, _), (2, _)] Try.func37 rfl Try.ntmps37 rfl rfl ?_
  intro w0 F
  refine w_seq ?_
  refine w_seq ?_
  refine w_region ?_
  refine o_val (v_move rfl) rfl ?_
  refine o_val (v_F (v_lss rfl rfl) (by omega)) rfl ?_
  refine o_val (v_move rfl) rfl ?_
  refine o_want rfl ?_
  refine o_val (v_move rfl) rfl ?_
  refine o_want rfl ?_
  refine o_val (v_F (v_gtr rfl rfl) (by omega)) rfl ?_
  refine o_val (v_pickF rfl rfl) rfl ?_
  refine o_nil ?_
  refine thn_n ?_
  refine w_condF rfl ?_
  refine w_skip ?_
  refine thn_n ?_
  refine w_seq ?_
  refine w_region ?_
  refine o_val (v_move rfl) rfl ?_
  refine o_val (v_move rfl) rfl ?_
  refine o_nil ?_
  refine thn_n ?_
  refine w_block ?_
  refine w_loop1 (fun (k : Nat) => [(0, .pointer (some ⟨b, 0, none⟩)), (1, .int .i64 x), (16, .int .i64 (n : Int)), (17, .int .i64 (k : Int))]) (fun (k : Nat) => WB b (bs ++ BitP.lowB x k) :: F) (fun (k : Nat) => k ≤ n) (fun (k : Nat) => n - k) (i1 (0) ?_ (.cons rfl (.cons rfl (.cons rfl (.cons rfl (.nil _))))) (by show Sub _ (WB b (bs ++ BitP.lowB x 0) :: F); rw [BitP.lowB_zero, List.append_nil]; exact (sub (.cons (by first | exact rr0 | exact rr1 | exact rr2 | exact rr3 | exact rr4 | exact rr5 | exact rr6 | exact rr7 | exact rr8 | exact rr9 | exact rr10 | exact rr11 | exact rr12 | exact rr13 | exact rr14) .nil) (by first | exact dd0 | exact dd1 | exact dd2 | exact dd3 | exact dd4 | exact dd5 | exact dd6 | exact dd7 | exact dd8 | exact dd9 | exact dd10 | exact dd11 | exact dd12 | exact dd13 | exact dd14)))) ?_
  ·
    exact Nat.zero_le _
  intro k
  rintro hk
  refine w_seq ?_
  refine w_region ?_
  refine o_val (v_lss rfl rfl) rfl ?_
  refine o_nil ?_
  refine thn_n ?_
  refine w_seq ?_
  first | refine w_condD rfl (fun h18 => ?_) (fun h18 => ?_) | refine w_cond rfl (fun h18 => ?_) (fun h18 => ?_)
  ·
    refine w_skip ?_
    refine thn_n ?_
    refine w_seq ?_
    refine w_block ?_
    refine w_seq ?_
    refine w_region ?_
    refine o_val (v_move rfl) rfl ?_
    refine o_val (v_assign rfl) rfl ?_
    refine o_nil ?_
    refine thn_n ?_
    refine w_seq ?_
    refine w_region ?_
    refine o_val (v_move rfl) rfl ?_
    refine o_val (v_nil rfl) rfl ?_
    refine o_val (v_fieldAddr V.f70_0 rfl) rfl ?_
    refine o_call (c_room b (bs ++ BitP.lowB x k) (by rw [List.length_append, BitP.lowB_len]; omega)) V.b48  rfl (.cons (by first | exact rr0 | exact rr1 | exact rr2 | exact rr3 | exact rr4 | exact rr5 | exact rr6 | exact rr7 | exact rr8 | exact rr9 | exact rr10 | exact rr11 | exact rr12 | exact rr13 | exact rr14) .nil) rfl ?_
    rintro _ _ ⟨out, fr, hpk, hfr, rfl, rfl⟩
    refine o_val (v_assign rfl) rfl ?_
    refine o_nil ?_
    refine thn_n ?_
    have hle8 := hpk.le
    have hlen := hpk.len
    have hby := hpk.byt.get (out.length - 1)
    have hdn := BitP.div_nn hx.1 k
    have hob : out.length < 500000000 := by have := hpk.len; rw [List.length_append, BitP.lowB_len] at this; omega
    have hgo : U5.g out ((out.length : Int) - 1) = out.getD (out.length - 1) 0 := gE (out.length - 1) (by omega)
    refine w_opn (fun h hh => hh) ?_
    rintro ⟨p1, c1, p2, c2⟩ _
    dsimp only
    refine w_net [⟨[], [], [0], 0, 0⟩, ⟨[0], [0], [], 0, 0⟩, ⟨[0, 1], [1], [], 0, 0⟩, ⟨[0, 1, 2], [2], [], 0, 0⟩, ⟨[0, 1, 2, 3], [3], [], 0, 0⟩, ⟨[], [], [0], 0, 0⟩, ⟨[5], [5], [], 0, 0⟩, ⟨[5, 6], [6], [], 0, 0⟩, ⟨[5, 6, 7], [7], [], 0, 0⟩, ⟨[5, 6, 7, 8], [8], [], 0, 0⟩, ⟨[5, 6, 7, 8, 9], [9], [], 0, 0⟩, ⟨[5, 6, 7, 8, 9, 10], [10], [], 0, 0⟩, ⟨[0, 1, 2, 3, 4, 5, 6, 7, 8, 9, 10, 11], [4, 11], [], 0, 0⟩, ⟨[0, 1, 2, 3, 4, 5, 6, 7, 8, 9, 10, 11, 12], [12], [], 0, 0⟩, ⟨[], [], [1], 0, 0⟩, ⟨[], [], [6], 0, 0⟩, ⟨[14, 15], [14, 15], [], 0, 0⟩, ⟨[14, 15, 16], [16], [], 0, 0⟩, ⟨[14, 15, 16, 17], [17], [], 0, 0⟩, ⟨[], [], [7], 0, 0⟩, ⟨[19], [19], [], 0, 0⟩, ⟨[14, 15, 16, 17, 18, 19, 20], [18, 20], [], 0, 0⟩, ⟨[0, 1, 2, 3, 4, 5, 6, 7, 8, 9, 10, 11, 12, 13, 14, 15, 16, 17, 18, 19, 20, 21], [13, 21], [], 0, 0⟩, ⟨[0, 1, 2, 3, 4, 5, 6, 7, 8, 9, 10, 11, 12, 13, 14, 15, 16, 17, 18, 19, 20, 21, 22], [4, 11], [], 0, 0⟩, ⟨[0, 1, 2, 3, 4, 5, 6, 7, 8, 9, 10, 11, 12, 13, 14, 15, 16, 17, 18, 19, 20, 21, 22, 23], [23, 22], [], 0, 0⟩] [⟨fun y => Cel b 70 [.slice p1 0 c1, .slice p2 out.length c2, .int .i64 0, .int .i64 ((fr : Int) - 1)], none, none, [4, 9]⟩, ⟨fun y => Row U5 p1 0 c1 [], none, none, []⟩, ⟨fun y => Row U5 p2 out.length c2 out, none, some 24, [12, 13, 23]⟩, ⟨fun y => Row U5 p2 out.length c2 (out.set ((out.length : Int) - 1).toNat (BitP.orB (out.getD (out.length - 1) 0) (x / 2 ^ k % 2) (8 - fr))), some 24, none, []⟩] F V.mixed (by kernel_rfl) rfl (fun _ => .refl _) (locT_0 _ (locT_0 _ (locT_0 _ (locT_1 [0, 1, 2, 3, 4, 5, 6, 7, 8, 9, 10, 11, 12, 13, 14, 15, 16, 17, 18, 19, 20, 21, 22, 23] rfl (by intro y y2 h; rfl) locT_nil)))) ?_
    refine net_pure (fun y => [(0, _)]) (fun y => rfl) rfl rfl rfl (fun y hA L => st_v (v_move rfl) ⟨rfl, rfl⟩) (by intros; rfl) (by intro y y2 h; rfl) ?_
    refine net_pure (fun y => [(24, _)]) (fun y => rfl) rfl rfl rfl (fun y hA L => st_v (v_nil rfl) ⟨rfl, rfl⟩) (by intros; rfl) (by intro y y2 h; rfl) ?_
    refine net_pure (fun y => [(25, _)]) (fun y => rfl) rfl rfl rfl (fun y hA L => st_v (v_fieldAddr V.f70_0 rfl) ⟨rfl, rfl⟩) (by intros; rfl) (by intro y y2 h; rfl) ?_
    refine net_pure (fun y => [(26, _)]) (fun y => rfl) rfl rfl rfl (fun y hA L => st_v (v_fieldAddr V.f68_1 rfl) ⟨rfl, rfl⟩) (by intros; rfl) (by intro y y2 h; rfl) ?_
    refine net_read (fun y => [Cel b 70 [.slice p1 0 c1, .slice p2 out.length c2, .int .i64 0, .int .i64 ((fr : Int) - 1)]]) (fun y => [(27, _)]) (fun y => rfl) rfl (fun y => rfl) rfl (fun y FF hA => st_v (v_load V.s35 rfl (by first | exact mm0 | exact mm1 | exact mm2 | exact mm3 | exact mm4 | exact mm5 | exact mm6 | exact mm7 | exact mm8 | exact mm9 | exact mm10 | exact mm11 | exact mm12 | exact mm13 | exact mm14) rfl) ⟨rfl, rfl⟩) (by intros; rfl) (by intro y y2 h; rfl) ?_
    refine net_pure (fun y => [(0, _)]) (fun y => rfl) rfl rfl rfl (fun y hA L => st_v (v_move rfl) ⟨rfl, rfl⟩) (by intros; rfl) (by intro y y2 h; rfl) ?_
    refine net_pure (fun y => [(29, _)]) (fun y => rfl) rfl rfl rfl (fun y hA L => st_v (v_nil rfl) ⟨rfl, rfl⟩) (by intros; rfl) (by intro y y2 h; rfl) ?_
    refine net_pure (fun y => [(30, _)]) (fun y => rfl) rfl rfl rfl (fun y hA L => st_v (v_fieldAddr V.f70_0 rfl) ⟨rfl, rfl⟩) (by intros; rfl) (by intro y y2 h; rfl) ?_
    refine net_pure (fun y => [(31, _)]) (fun y => rfl) rfl rfl rfl (fun y hA L => st_v (v_fieldAddr V.f68_1 rfl) ⟨rfl, rfl⟩) (by intros; rfl) (by intro y y2 h; rfl) ?_
    refine net_read (fun y => [Cel b 70 [.slice p1 0 c1, .slice p2 out.length c2, .int .i64 0, .int .i64 ((fr : Int) - 1)]]) (fun y => [(32, _)]) (fun y => rfl) rfl (fun y => rfl) rfl (fun y FF hA => st_v (v_load V.s35 rfl (by first | exact mm0 | exact mm1 | exact mm2 | exact mm3 | exact mm4 | exact mm5 | exact mm6 | exact mm7 | exact mm8 | exact mm9 | exact mm10 | exact mm11 | exact mm12 | exact mm13 | exact mm14) rfl) ⟨rfl, rfl⟩) (by intros; rfl) (by intro y y2 h; rfl) ?_
    refine net_pure (fun y => [(33, _)]) (fun y => rfl) rfl rfl rfl (fun y hA L => st_v (v_len (ty' := 0) Try.underlying35 rfl) ⟨rfl, rfl⟩) (by intros; rfl) (by intro y y2 h; rfl) ?_
    refine net_pure (fun y => [(34, _)]) (fun y => rfl) rfl rfl rfl (fun y hA L => st_v (v_sub rfl rfl (wrapI (by omega) (by omega))) ⟨rfl, rfl⟩) (by intros; rfl) (by intro y y2 h; rfl) ?_
    refine net_read (fun y => [Row U5 p2 out.length c2 out]) (fun y => [(28, _), (35, _)]) (fun y => rfl) rfl (fun y => rfl) rfl (fun y FF hA => st_v (r_index (c := (U5)) V.sl35 rfl rfl (by first | exact own mm0 | exact own mm1 | exact own mm2 | exact own mm3 | exact own mm4 | exact own mm5 | exact own mm6 | exact own mm7 | exact own mm8 | exact own mm9 | exact own mm10 | exact own mm11) (by omega) (by omega)) ⟨rfl, rfl⟩) (by intros; rfl) (by intro y y2 h; rfl) ?_
    refine net_read (fun y => [Row U5 p2 out.length c2 out]) (fun y => [(36, _)]) (fun y => rfl) rfl (fun y => rfl) rfl (fun y FF hA => st_v (r_load (c := (U5)) V.s5 rfl (by first | exact own mm0 | exact own mm1 | exact own mm2 | exact own mm3 | exact own mm4 | exact own mm5 | exact own mm6 | exact own mm7 | exact own mm8 | exact own mm9 | exact own mm10 | exact own mm11) (by omega) (by omega) rfl rfl) ⟨rfl, rfl⟩) (by intros; rfl) (by intro y y2 h; rfl) ?_
    refine net_pure (fun y => [(1, _)]) (fun y => rfl) rfl rfl rfl (fun y hA L => st_v (v_move rfl) ⟨rfl, rfl⟩) (by intros; rfl) (by intro y y2 h; rfl) ?_
    refine net_pure (fun y => [(6, _)]) (fun y => rfl) rfl rfl rfl (fun y hA L => st_v (v_move rfl) ⟨rfl, rfl⟩) (by intros; rfl) (by intro y y2 h; rfl) ?_
    refine net_pure (fun y => [(38, _), (39, _)]) (fun y => rfl) rfl rfl rfl (fun y hA L => st_v (v_shr (r := x / 2 ^ k) rfl rfl (by omega) (BitP.shrI (by omega) rfl)) ⟨rfl, rfl⟩) (by intros; rfl) (by intro y y2 h; rfl) ?_
    refine net_pure (fun y => [(40, _)]) (fun y => rfl) rfl rfl rfl (fun y hA L => st_v (v_and (r := (x / 2 ^ k % 2)) rfl rfl (BitP.and_one64 hdn.1 (by omega))) ⟨rfl, rfl⟩) (by intros; rfl) (by intro y y2 h; rfl) ?_
    refine net_pure (fun y => [(41, _)]) (fun y => rfl) rfl rfl rfl (fun y hA L => st_v (v_conv V.u3 Try.underlying5 rfl (wrap8 (by omega) (by omega))) ⟨rfl, rfl⟩) (by intros; rfl) (by intro y y2 h; rfl) ?_
    refine net_pure (fun y => [(7, _)]) (fun y => rfl) rfl rfl rfl (fun y hA L => st_v (v_move rfl) ⟨rfl, rfl⟩) (by intros; rfl) (by intro y y2 h; rfl) ?_
    refine net_pure (fun y => [(43, _)]) (fun y => rfl) rfl rfl rfl (fun y hA L => st_v (v_sub rfl rfl (wrapI (by omega) (by omega))) ⟨rfl, rfl⟩) (by intros; rfl) (by intro y y2 h; rfl) ?_
    refine net_pure (fun y => [(42, _), (44, _)]) (fun y => rfl) rfl rfl rfl (fun y hA L => st_v (v_shl (r := (x / 2 ^ k % 2) * 2 ^ (8 - fr)) rfl rfl (by omega) (BitP.shl8 (by omega) (by omega) (by omega))) ⟨rfl, rfl⟩) (by intros; rfl) (by intro y y2 h; rfl) ?_
    refine net_pure (fun y => [(37, _), (45, _)]) (fun y => rfl) rfl rfl rfl (fun y hA L => st_v (v_or (r := BitP.orB (out.getD (out.length - 1) 0) (x / 2 ^ k % 2) (8 - fr)) rfl rfl (by rw [hgo]; exact BitP.or_put hby (by omega) (by omega))) ⟨rfl, rfl⟩) (by intros; rfl) (by intro y y2 h; rfl) ?_
    refine net_read (fun y => [Row U5 p2 out.length c2 out]) (fun y => [(28, _), (35, _)]) (fun y => rfl) rfl (fun y => rfl) rfl (fun y FF hA => st_v (r_index (c := (U5)) V.sl35 rfl rfl (by first | exact own mm0 | exact own mm1 | exact own mm2 | exact own mm3 | exact own mm4 | exact own mm5 | exact own mm6 | exact own mm7 | exact own mm8 | exact own mm9 | exact own mm10 | exact own mm11) (by omega) (by omega)) ⟨rfl, rfl⟩) (by intros; rfl) (by intro y y2 h; rfl) ?_
    refine net_eff (fun y => [Row U5 p2 out.length c2 out]) (fun y => []) (fun y => [Row U5 p2 out.length c2 (out.set ((out.length : Int) - 1).toNat (BitP.orB (out.getD (out.length - 1) 0) (x / 2 ^ k % 2) (8 - fr)))]) (fun y => [(47, _), (46, _)]) (fun y => rfl) (fun y => rfl) (fun y => rfl) (fun y => rfl) (fun y FF hA => st_v (r_store (c := (U5)) (_) V.s5 rfl rfl rfl (by first | exact pp0 | exact pp1 | exact pp2 | exact pp3 | exact pp4 | exact pp5 | exact pp6 | exact pp7 | exact pp8 | exact pp9 | exact pp10 | exact pp11 | exact pp12 | exact pp13 | exact pp14) (by omega) (by omega) rfl rfl) ⟨rfl, .refl _⟩) (by intros; rfl) (by intros; rfl) (by intro y y2 h; rfl) ?_
    refine net_nil ?_
    intro y hA
    clear hA
    show blk _ _ _ _ (Cel b 70 [.slice p1 0 c1, .slice p2 out.length c2, .int .i64 0, .int .i64 ((fr : Int) - 1)] :: Row U5 p1 0 c1 [] :: Row U5 p2 out.length c2 (out.set ((out.length : Int) - 1).toNat (BitP.orB (out.getD (out.length - 1) 0) (x / 2 ^ k % 2) (8 - fr))) :: F)
    refine blk_n ?_
    refine thn_n ?_
    refine w_region ?_
    refine o_val (v_add rfl rfl (wrapI (by omega) (by omega))) rfl ?_
    refine o_val (v_move rfl) rfl ?_
    refine o_nil ?_
    refine j1 (k + 1) ?_ (.cons rfl (.cons rfl (.cons rfl (.cons rfl (.nil _))))) (fold' (.cons (by first | exact rr0 | exact rr1 | exact rr2 | exact rr3 | exact rr4 | exact rr5 | exact rr6 | exact rr7 | exact rr8 | exact rr9 | exact rr10 | exact rr11 | exact rr12 | exact rr13 | exact rr14) (.cons (by first | exact rr0 | exact rr1 | exact rr2 | exact rr3 | exact rr4 | exact rr5 | exact rr6 | exact rr7 | exact rr8 | exact rr9 | exact rr10 | exact rr11 | exact rr12 | exact rr13 | exact rr14) (.cons (by first | exact rr0 | exact rr1 | exact rr2 | exact rr3 | exact rr4 | exact rr5 | exact rr6 | exact rr7 | exact rr8 | exact rr9 | exact rr10 | exact rr11 | exact rr12 | exact rr13 | exact rr14) .nil))) (by first | exact dd0 | exact dd1 | exact dd2 | exact dd3 | exact dd4 | exact dd5 | exact dd6 | exact dd7 | exact dd8 | exact dd9 | exact dd10 | exact dd11 | exact dd12 | exact dd13 | exact dd14) (fun w0 h (hh : sats w0 [Cel b 70 [.slice p1 0 c1, .slice p2 out.length c2, .int .i64 0, .int .i64 ((fr : Int) - 1)], Row U5 p1 0 c1 [], Row U5 p2 out.length c2 (out.set ((out.length : Int) - 1).toNat (BitP.orB (out.getD (out.length - 1) 0) (x / 2 ^ k % 2) (8 - fr)))] h) => wb_close (fr := fr - 1) (f := (fr : Int) - 1) (p1 := p1) (c1 := c1) (p2 := p2) (c2 := c2) (by rw [← BitP.lowB_snoc, ← List.append_assoc]; exact BitP.pk_put hpk hfr (by omega)) (by omega) (by omega) (by rw [List.length_set]) (by rw [show ((out.length : Int) - 1).toNat = out.length - 1 from by omega] at hh; exact hh)))
    exact ⟨by omega, by omega⟩
  ·
    refine w_exit ?_
    refine thn_e ?_
    refine thn_e ?_
    refine blk_x ?_
    obtain rfl : k = n := by omega
    exact end_ok (G := [WB b (bs ++ BitP.lowB x k)]) res0 ⟨rfl, rfl⟩ (sub (.cons (by first | exact rr0 | exact rr1 | exact rr2 | exact rr3 | exact rr4 | exact rr5 | exact rr6 | exact rr7 | exact rr8 | exact rr9 | exact rr10 | exact rr11 | exact rr12 | exact rr13 | exact rr14) .nil) (by first | exact dd0 | exact dd1 | exact dd2 | exact dd3 | exact dd4 | exact dd5 | exact dd6 | exact dd7 | exact dd8 | exact dd9 | exact dd10 | exact dd11 | exact dd12 | exact dd13 | exact dd14))
end Go.Proofs.Ytmclopghpnndnaa

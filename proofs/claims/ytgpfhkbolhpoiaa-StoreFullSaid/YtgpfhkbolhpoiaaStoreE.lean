/-
  Steps of the proof: walks of functions that the statement reaches; printed by a program of ours.
-/
import Derived.Test.YtgpfhkbolhpoiaaStoreD
namespace Go.Proofs.Ytgpfhkbolhpoiaa
open Go.Sl Go.StoreP
set_option linter.unusedVariables false
set_option linter.unusedSimpArgs false

set_option maxRecDepth 100000 in
theorem p_plain (p : Option Addr) (c : Nat) : Ctr Try.prog 18 [.agg #[.int .i64 1, .int .i64 1, .slice p 4 c], .int .i64 3] [Row U16 p 4 c pix] (Ret fun v G => ∃ q d, v = .slice q 126 d ∧ G = [Row U5 q 126 d bmp1]) := by
  refine spec_of [(0, _), (1, _)] Try.func18 rfl Try.ntmps18 rfl rfl ?_
  intro w0 F
  refine w_seq ?_
  refine w_region ?_
  refine o_box rfl (cs := [_, _, _]) rfl rfl ?_
  intro b2
  refine o_val (v_assign rfl) rfl ?_
  refine o_nil ?_
  refine thn_n ?_
  refine w_seq ?_
  refine w_seq ?_
  refine w_region ?_
  refine o_val (v_move rfl) rfl ?_
  refine o_nil ?_
  refine thn_n ?_
  refine w_block ?_
  refine w_seq ?_
  refine w_region ?_
  refine o_val (v_F (v_eql rfl rfl) (by decide)) rfl ?_
  refine o_val (v_assign rfl) rfl ?_
  refine o_nil ?_
  refine thn_n ?_
  refine w_condF rfl ?_
  refine w_seq ?_
  refine w_region ?_
  refine o_val (v_F (v_eql rfl rfl) (by decide)) rfl ?_
  refine o_val (v_assign rfl) rfl ?_
  refine o_nil ?_
  refine thn_n ?_
  refine w_condF rfl ?_
  refine w_seq ?_
  refine w_region ?_
  refine o_val (v_T (v_eql rfl rfl) (by decide)) rfl ?_
  refine o_val (v_assign rfl) rfl ?_
  refine o_nil ?_
  refine thn_n ?_
  refine w_condT rfl ?_
  refine w_seq ?_
  refine w_region ?_
  refine o_val (v_loadAgg V.a51 rfl (by first | exact mm0 | exact mm1 | exact mm2 | exact mm3 | exact mm4 | exact mm5 | exact mm6 | exact mm7 | exact mm8 | exact mm9 | exact mm10 | exact mm11 | exact mm12 | exact mm13 | exact mm14) (vs := [_, _, _]) rfl rfl) rfl ?_
  refine o_call (b_plain p c) V.b30  rfl (.cons (by first | exact rr0 | exact rr1 | exact rr2 | exact rr3 | exact rr4 | exact rr5 | exact rr6 | exact rr7 | exact rr8 | exact rr9 | exact rr10 | exact rr11 | exact rr12 | exact rr13 | exact rr14) .nil) rfl ?_
  rintro _ _ ⟨q, d, rfl, rfl⟩
  refine o_val (v_assign rfl) rfl ?_
  refine o_nil ?_
  refine thn_n ?_
  refine w_ret ?_
  refine (blk_r (thn_r ?_))
  exact ret_ok (G := [Row U5 q 126 d bmp1]) (res1 rfl) ⟨q, d, rfl, rfl⟩ (sub (.cons (by first | exact rr0 | exact rr1 | exact rr2 | exact rr3 | exact rr4 | exact rr5 | exact rr6 | exact rr7 | exact rr8 | exact rr9 | exact rr10 | exact rr11 | exact rr12 | exact rr13 | exact rr14) .nil) (by first | exact dd0 | exact dd1 | exact dd2 | exact dd3 | exact dd4 | exact dd5 | exact dd6 | exact dd7 | exact dd8 | exact dd9 | exact dd10 | exact dd11 | exact dd12 | exact dd13 | exact dd14))

set_option maxRecDepth 100000 in
theorem l_file  : Ctr Try.prog 7 [.int .i64 1] [] (Ret fun v G => ∃ q d, v = .slice q 126 d ∧ G = [Row U5 q 126 d bmp1]) := by
  refine spec_of [(0, _)] Try.func7 rfl Try.ntmps7 rfl rfl ?_
  intro w0 F
  refine w_seq ?_
  refine w_region ?_
  refine o_val (v_assign rfl) rfl ?_
  refine o_nil ?_
  refine thn_n ?_
  refine w_seq ?_
  refine w_seq ?_
  refine w_region ?_
  refine o_val (v_move rfl) rfl ?_
  refine o_val (v_and (r := 1) rfl rfl rfl) rfl ?_
  refine o_val (v_F (v_eql rfl rfl) (by decide)) rfl ?_
  refine o_nil ?_
  refine thn_n ?_
  refine w_condF rfl ?_
  refine w_skip ?_
  refine thn_n ?_
  refine w_seq ?_
  refine w_region ?_
  refine o_call (d_new) V.b17  rfl .nil rfl ?_
  rintro _ _ ⟨b11, rfl, rfl⟩
  refine o_val (v_move rfl) rfl ?_
  refine o_val (v_extract rfl rfl) rfl ?_
  refine o_val (v_extract rfl rfl) rfl ?_
  refine o_alloc V.z51 rfl ?_
  intro b3
  refine o_eff (v_storeAgg V.a51 rfl rfl (us := [_, _, _]) rfl rfl (by first | exact pp0 | exact pp1 | exact pp2 | exact pp3 | exact pp4 | exact pp5 | exact pp6 | exact pp7 | exact pp8 | exact pp9 | exact pp10 | exact pp11 | exact pp12 | exact pp13 | exact pp14) (by exact Nat.le_of_ble_eq_true rfl) rfl) ?_
  refine o_val (v_assign rfl) rfl ?_
  refine o_nil ?_
  refine thn_n ?_
  refine w_seq ?_
  refine w_net [⟨[], [], [3], 0, 0⟩, ⟨[0], [0], [], 0, 0⟩, ⟨[], [], [3], 0, 0⟩, ⟨[2], [2], [], 0, 0⟩, ⟨[], [], [0], 0, 0⟩, ⟨[4], [4], [], 0, 0⟩, ⟨[4, 5], [5], [], 0, 0⟩, ⟨[4, 5, 6], [6], [], 0, 0⟩, ⟨[0, 1, 4, 5, 6, 7], [1], [], 0, 0⟩, ⟨[0, 1, 4, 5, 6, 7, 8], [8, 7], [], 0, 0⟩, ⟨[0, 1, 2, 3, 4, 5, 6, 7, 8, 9], [3], [], 0, 0⟩, ⟨[0, 1, 2, 3, 4, 5, 6, 7, 8, 9, 10], [10], [], 0, 0⟩] [⟨fun y => Cel b3 51 [.int .i64 1, .int .i64 1, .slice (some ⟨b11, 0, none⟩) 4 4], none, none, [1, 3]⟩, ⟨fun y => Row U16 (some ⟨b11, 0, none⟩) 4 4 (List.replicate 4 0), none, some 9, [8]⟩, ⟨fun y => Row U16 (some ⟨b11, 0, none⟩) 4 4 ((List.replicate 4 0).set (0 : Int).toNat 257), some 9, some 11, [10]⟩, ⟨fun y => Row U16 (some ⟨b11, 0, none⟩) 4 4 (((List.replicate 4 0).set (0 : Int).toNat 257).set (3 : Int).toNat 65535), some 11, none, []⟩] F V.mixed (by kernel_rfl) rfl (fun _ => .refl _) (locT_0 _ (locT_0 _ (locT_1 [0, 1, 4, 5, 6, 7, 8] rfl (by intro y y2 h; rfl) (locT_1 [0, 1, 2, 3, 4, 5, 6, 7, 8, 9, 10] rfl (by intro y y2 h; rfl) locT_nil)))) ?_
  refine net_pure (fun y => [(3, _)]) (fun y => rfl) rfl rfl rfl (fun y hA L => st_v (v_fieldAddr V.f51_2 rfl) ⟨rfl, rfl⟩) (by intros; rfl) (by intro y y2 h; rfl) ?_
  refine net_read (fun y => [Cel b3 51 [.int .i64 1, .int .i64 1, .slice (some ⟨b11, 0, none⟩) 4 4]]) (fun y => [(14, _)]) (fun y => rfl) rfl (fun y => rfl) rfl (fun y FF hA => st_v (v_load V.s49 rfl (by first | exact mm0 | exact mm1 | exact mm2 | exact mm3 | exact mm4 | exact mm5 | exact mm6 | exact mm7 | exact mm8 | exact mm9 | exact mm10 | exact mm11 | exact mm12 | exact mm13 | exact mm14) rfl) ⟨rfl, rfl⟩) (by intros; rfl) (by intro y y2 h; rfl) ?_
  refine net_pure (fun y => [(3, _)]) (fun y => rfl) rfl rfl rfl (fun y hA L => st_v (v_fieldAddr V.f51_2 rfl) ⟨rfl, rfl⟩) (by intros; rfl) (by intro y y2 h; rfl) ?_
  refine net_read (fun y => [Cel b3 51 [.int .i64 1, .int .i64 1, .slice (some ⟨b11, 0, none⟩) 4 4]]) (fun y => [(16, _)]) (fun y => rfl) rfl (fun y => rfl) rfl (fun y FF hA => st_v (v_load V.s49 rfl (by first | exact mm0 | exact mm1 | exact mm2 | exact mm3 | exact mm4 | exact mm5 | exact mm6 | exact mm7 | exact mm8 | exact mm9 | exact mm10 | exact mm11 | exact mm12 | exact mm13 | exact mm14) rfl) ⟨rfl, rfl⟩) (by intros; rfl) (by intro y y2 h; rfl) ?_
  refine net_pure (fun y => [(0, _)]) (fun y => rfl) rfl rfl rfl (fun y hA L => st_v (v_move rfl) ⟨rfl, rfl⟩) (by intros; rfl) (by intro y y2 h; rfl) ?_
  refine net_pure (fun y => [(18, _)]) (fun y => rfl) rfl rfl rfl (fun y hA L => st_v (v_and (r := 1) rfl rfl rfl) ⟨rfl, rfl⟩) (by intros; rfl) (by intro y y2 h; rfl) ?_
  refine net_pure (fun y => [(19, _)]) (fun y => rfl) rfl rfl rfl (fun y hA L => st_v (v_conv V.u3 Try.underlying54 (r := 1) rfl rfl) ⟨rfl, rfl⟩) (by intros; rfl) (by intro y y2 h; rfl) ?_
  refine net_pure (fun y => [(20, _)]) (fun y => rfl) rfl rfl rfl (fun y hA L => st_v (v_mul (r := 257) rfl rfl rfl) ⟨rfl, rfl⟩) (by intros; rfl) (by intro y y2 h; rfl) ?_
  refine net_read (fun y => [Row U16 (some ⟨b11, 0, none⟩) 4 4 (List.replicate 4 0)]) (fun y => [(15, _)]) (fun y => rfl) rfl (fun y => rfl) rfl (fun y FF hA => st_v (r_index (c := (U16)) V.sl49 rfl rfl (by first | exact own mm0 | exact own mm1 | exact own mm2 | exact own mm3 | exact own mm4 | exact own mm5 | exact own mm6 | exact own mm7 | exact own mm8 | exact own mm9 | exact own mm10 | exact own mm11) (by omega) (by omega)) ⟨rfl, rfl⟩) (by intros; rfl) (by intro y y2 h; rfl) ?_
  refine net_eff (fun y => [Row U16 (some ⟨b11, 0, none⟩) 4 4 (List.replicate 4 0)]) (fun y => []) (fun y => [Row U16 (some ⟨b11, 0, none⟩) 4 4 ((List.replicate 4 0).set (0 : Int).toNat 257)]) (fun y => [(22, _), (21, _)]) (fun y => rfl) (fun y => rfl) (fun y => rfl) (fun y => rfl) (fun y FF hA => st_v (r_store (c := (U16)) (_) V.s54 rfl rfl rfl (by first | exact pp0 | exact pp1 | exact pp2 | exact pp3 | exact pp4 | exact pp5 | exact pp6 | exact pp7 | exact pp8 | exact pp9 | exact pp10 | exact pp11 | exact pp12 | exact pp13 | exact pp14) (by omega) (by omega) rfl rfl) ⟨rfl, .refl _⟩) (by intros; rfl) (by intros; rfl) (by intro y y2 h; rfl) ?_
  refine net_read (fun y => [Row U16 (some ⟨b11, 0, none⟩) 4 4 ((List.replicate 4 0).set (0 : Int).toNat 257)]) (fun y => [(17, _)]) (fun y => rfl) rfl (fun y => rfl) rfl (fun y FF hA => st_v (r_index (c := (U16)) V.sl49 rfl rfl (by first | exact own mm0 | exact own mm1 | exact own mm2 | exact own mm3 | exact own mm4 | exact own mm5 | exact own mm6 | exact own mm7 | exact own mm8 | exact own mm9 | exact own mm10 | exact own mm11) (by omega) (by omega)) ⟨rfl, rfl⟩) (by intros; rfl) (by intro y y2 h; rfl) ?_
  refine net_eff (fun y => [Row U16 (some ⟨b11, 0, none⟩) 4 4 ((List.replicate 4 0).set (0 : Int).toNat 257)]) (fun y => []) (fun y => [Row U16 (some ⟨b11, 0, none⟩) 4 4 (((List.replicate 4 0).set (0 : Int).toNat 257).set (3 : Int).toNat 65535)]) (fun y => [(23, _)]) (fun y => rfl) (fun y => rfl) (fun y => rfl) (fun y => rfl) (fun y FF hA => st_v (r_store (c := (U16)) (_) V.s54 rfl rfl rfl (by first | exact pp0 | exact pp1 | exact pp2 | exact pp3 | exact pp4 | exact pp5 | exact pp6 | exact pp7 | exact pp8 | exact pp9 | exact pp10 | exact pp11 | exact pp12 | exact pp13 | exact pp14) (by omega) (by omega) rfl rfl) ⟨rfl, .refl _⟩) (by intros; rfl) (by intros; rfl) (by intro y y2 h; rfl) ?_
  refine net_nil ?_
  intro y hA
  clear hA
  refine thn_n ?_
  refine w_keep _ (.cons (d := 3) rfl (.nil _)) ?_
  refine w_sub (M := Cel b3 51 [.int .i64 1, .int .i64 1, .slice (some ⟨b11, 0, none⟩) 4 4] :: Row U16 (some ⟨b11, 0, none⟩) 4 4 (((List.replicate 4 0).set (0 : Int).toNat 257).set (3 : Int).toNat 65535) :: F) (fun _ _ h => h) ?_
  refine w_seq ?_
  rw [show ((List.replicate 4 (0 : Int)).set (0 : Int).toNat 257).set (3 : Int).toNat 65535 = pix from rfl]
  refine w_region ?_
  refine o_val (v_loadAgg V.a51 rfl (by first | exact mm0 | exact mm1 | exact mm2 | exact mm3 | exact mm4 | exact mm5 | exact mm6 | exact mm7 | exact mm8 | exact mm9 | exact mm10 | exact mm11 | exact mm12 | exact mm13 | exact mm14) (vs := [_, _, _]) rfl rfl) rfl ?_
  refine o_call (p_plain (some ⟨b11, 0, none⟩) 4) V.b18  rfl (.cons (by first | exact rr0 | exact rr1 | exact rr2 | exact rr3 | exact rr4 | exact rr5 | exact rr6 | exact rr7 | exact rr8 | exact rr9 | exact rr10 | exact rr11 | exact rr12 | exact rr13 | exact rr14) .nil) rfl ?_
  rintro _ _ ⟨q, d, rfl, rfl⟩
  refine o_val (v_assign rfl) rfl ?_
  refine o_nil ?_
  refine thn_n ?_
  refine w_ret ?_
  exact ret_ok (G := [Row U5 q 126 d bmp1]) (res1 rfl) ⟨q, d, rfl, rfl⟩ (sub (.cons (by first | exact rr0 | exact rr1 | exact rr2 | exact rr3 | exact rr4 | exact rr5 | exact rr6 | exact rr7 | exact rr8 | exact rr9 | exact rr10 | exact rr11 | exact rr12 | exact rr13 | exact rr14) .nil) (by first | exact dd0 | exact dd1 | exact dd2 | exact dd3 | exact dd4 | exact dd5 | exact dd6 | exact dd7 | exact dd8 | exact dd9 | exact dd10 | exact dd11 | exact dd12 | exact dd13 | exact dd14))
end Go.Proofs.Ytgpfhkbolhpoiaa

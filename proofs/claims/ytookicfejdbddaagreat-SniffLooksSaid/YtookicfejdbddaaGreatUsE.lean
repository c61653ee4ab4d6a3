/- Walks of functions that the law reaches, and what they lean on; no conditions. -/
import Derived.Test.YtookicfejdbddaaGreatUsD
import Derived.Test.YtookicfejdbddaaGreatUpAwake
set_option linter.unusedVariables false
set_option linter.unusedSimpArgs false
set_option linter.unnecessarySimpa false
set_option maxRecDepth 100000
namespace Go.Proofs.YtookicfejdbddaaGreat
open Go.Sl 
attribute [local irreducible] BitP.Byt UsP.hi UsP.lo UsP.dn UsP.sg UsP.sizeE UsP.kind UsP.bgs UsP.sgn UsP.g7 UsP.g9 UsP.bm UsP.sid UsP.lst UsP.err UsP.pw UsP.ph UsP.cost UsP.room
set_option maxHeartbeats 1000000 in
theorem u_pixels (p : Option Addr) (c : Nat) (B : List Int) (R : HProp) (hR : ∀ w0 h, R w0 h → RdR U5 p B.length B w0 h) (hB : BitP.Byt B) (hl : B.length < 500000000) (hcap : B.length ≤ c) : Ctr Tryz.prog 80 [.slice p B.length c] [R] (Ret fun v G => v = .tuple #[.int .i64 (UsP.pw B * UsP.ph B), .bool (decide (UsP.err B = 0))] ∧ G = [R]) := by
  refine spec_of [(0, _)] Tryz.func80 rfl Tryz.ntmps80 rfl rfl ?_
  intro w0 F
  have hpw := UsP.pwh (B := B)
  have hpx := UsP.pxl B
  refine w_seq ?_
  refine w_region ?_
  refine o_val (v_assign rfl) rfl ?_
  refine o_val (v_assign rfl) rfl ?_
  refine o_nil ?_
  refine thn_n ?_
  refine w_seq ?_
  refine w_region ?_
  refine o_val (v_move rfl) rfl ?_
  refine o_call (u_peek p c B R hR hB hl hcap) W.b23  rfl (.cons (by repeat first | exact .head | apply Rem.tail) .nil) rfl ?_
  rintro _ _ ⟨rfl, rfl⟩
  refine o_val (v_move rfl) rfl ?_
  refine o_val (v_extract rfl rfl) rfl ?_
  refine o_val (v_extract rfl rfl) rfl ?_
  refine o_val (v_extract rfl rfl) rfl ?_
  refine o_val (v_assign rfl) rfl ?_
  refine o_val (v_assign rfl) rfl ?_
  refine o_val (v_assign rfl) rfl ?_
  refine o_nil ?_
  refine thn_n ?_
  refine w_seq ?_
  refine w_region ?_
  refine o_val (v_move rfl) rfl ?_
  refine o_val (v_move rfl) rfl ?_
  refine o_val (v_mul (r := UsP.pw B * UsP.ph B) rfl rfl (wrapI (by omega) (by omega))) rfl ?_
  refine o_val (v_move rfl) rfl ?_
  refine o_val (v_eql rfl rfl) rfl ?_
  refine o_val (v_assign rfl) rfl ?_
  refine o_val (v_assign rfl) rfl ?_
  refine o_nil ?_
  refine thn_n ?_
  refine w_ret ?_
  exact ret_ok (G := [R]) (res2 rfl rfl) ⟨rfl, rfl⟩ (sub (.cons (by repeat first | exact .head | apply Rem.tail) .nil) (by repeat first | exact .refl | apply Drop.skip))
set_option maxHeartbeats 1000000 in
theorem u_cost (p : Option Addr) (c : Nat) (B : List Int) (R : HProp) (hR : ∀ w0 h, R w0 h → RdR U5 p B.length B w0 h) (hB : BitP.Byt B) (hl : B.length < 500000000) (hcap : B.length ≤ c) : Ctr Tryz.prog 27 [.slice p B.length c] [R] (Ret fun v G => v = .int .i64 (UsP.cost B) ∧ G = [R]) := by
  refine spec_of [(0, _)] Tryz.func27 rfl Tryz.ntmps27 rfl rfl ?_
  intro w0 F
  have hpw := UsP.pwh (B := B)
  have hpx := UsP.pxl B
  refine w_seq ?_
  refine w_region ?_
  refine o_val (v_assign rfl) rfl ?_
  refine o_nil ?_
  refine thn_n ?_
  refine w_seq ?_
  refine w_region ?_
  refine o_val (v_move rfl) rfl ?_
  refine o_call (u_pixels p c B R hR hB hl hcap) W.b80  rfl (.cons (by repeat first | exact .head | apply Rem.tail) .nil) rfl ?_
  rintro _ _ ⟨rfl, rfl⟩
  refine o_val (v_move rfl) rfl ?_
  refine o_val (v_extract rfl rfl) rfl ?_
  refine o_val (v_extract rfl rfl) rfl ?_
  refine o_val (v_assign rfl) rfl ?_
  refine o_val (v_assign rfl) rfl ?_
  refine o_nil ?_
  refine thn_n ?_
  refine w_seq ?_
  refine w_region ?_
  refine o_val (v_move rfl) rfl ?_
  refine o_val (v_len (ty' := 0) Tryz.underlying28 rfl) rfl ?_
  refine o_val (v_add rfl rfl (wrapI (by omega) (by omega))) rfl ?_
  refine o_val (v_move rfl) rfl ?_
  refine o_val (v_mul (r := 8 * (UsP.pw B * UsP.ph B)) rfl rfl (wrapI (by omega) (by omega))) rfl ?_
  refine o_val (v_add rfl rfl (wrapI (by omega) (by omega))) rfl ?_
  refine o_val (v_assign rfl) rfl ?_
  refine o_nil ?_
  refine thn_n ?_
  refine w_ret ?_
  exact ret_ok (G := [R]) (res1 rfl) ⟨by unfold UsP.cost; rfl, rfl⟩ (sub (.cons (by repeat first | exact .head | apply Rem.tail) .nil) (by repeat first | exact .refl | apply Drop.skip))
set_option maxHeartbeats 1000000 in
theorem u_room (p : Option Addr) (c : Nat) (B : List Int) (R : HProp) (hR : ∀ w0 h, R w0 h → RdR U5 p B.length B w0 h) (hB : BitP.Byt B) (hl : B.length < 500000000) (hcap : B.length ≤ c) : Ctr Tryz.prog 29 [.slice p B.length c] [R] (Ret fun v G => v = .int .i64 (UsP.room B) ∧ G = [R]) := by
  refine spec_of [(0, _)] Tryz.func29 rfl Tryz.ntmps29 rfl rfl ?_
  intro w0 F
  have hpw := UsP.pwh (B := B)
  have hpx := UsP.pxl B
  refine w_seq ?_
  refine w_region ?_
  refine o_val (v_assign rfl) rfl ?_
  refine o_nil ?_
  refine thn_n ?_
  rcases (Classical.em (UsP.err B = 0)) with he | he
  ·
    refine w_seq ?_
    refine w_region ?_
    refine o_val (v_move rfl) rfl ?_
    refine o_call (u_pixels p c B R hR hB hl hcap) W.b80  rfl (.cons (by repeat first | exact .head | apply Rem.tail) .nil) rfl ?_
    rintro _ _ ⟨rfl, rfl⟩
    rw [decide_eq_true he]
    refine o_val (v_move rfl) rfl ?_
    refine o_val (v_extract rfl rfl) rfl ?_
    refine o_val (v_extract rfl rfl) rfl ?_
    refine o_val (v_assign rfl) rfl ?_
    refine o_val (v_assign rfl) rfl ?_
    refine o_nil ?_
    refine thn_n ?_
    refine w_seq ?_
    refine w_seq ?_
    refine w_region ?_
    refine o_val (v_move rfl) rfl ?_
    refine o_val (v_to (v := .bool false) (v_not rfl) rfl) rfl ?_
    refine o_nil ?_
    refine thn_n ?_
    refine w_condF rfl ?_
    refine w_skip ?_
    refine thn_n ?_
    refine w_seq ?_
    refine w_region ?_
    refine o_val (v_move rfl) rfl ?_
    refine o_val (v_len (ty' := 0) Tryz.underlying28 rfl) rfl ?_
    refine o_val (v_move rfl) rfl ?_
    refine o_val (v_mul (r := 17 * (UsP.pw B * UsP.ph B)) rfl rfl (wrapI (by omega) (by omega))) rfl ?_
    refine o_val (v_add rfl rfl (wrapI (by omega) (by omega))) rfl ?_
    refine o_val (v_add rfl rfl (wrapI (by omega) (by omega))) rfl ?_
    refine o_val (v_assign rfl) rfl ?_
    refine o_nil ?_
    refine thn_n ?_
    refine w_ret ?_
    exact ret_ok (G := [R]) (res1 rfl) ⟨by unfold UsP.room; rw [if_pos he], rfl⟩ (sub (.cons (by repeat first | exact .head | apply Rem.tail) .nil) (by repeat first | exact .refl | apply Drop.skip))
  ·
    refine w_seq ?_
    refine w_region ?_
    refine o_val (v_move rfl) rfl ?_
    refine o_call (u_pixels p c B R hR hB hl hcap) W.b80  rfl (.cons (by repeat first | exact .head | apply Rem.tail) .nil) rfl ?_
    rintro _ _ ⟨rfl, rfl⟩
    rw [decide_eq_false he]
    refine o_val (v_move rfl) rfl ?_
    refine o_val (v_extract rfl rfl) rfl ?_
    refine o_val (v_extract rfl rfl) rfl ?_
    refine o_val (v_assign rfl) rfl ?_
    refine o_val (v_assign rfl) rfl ?_
    refine o_nil ?_
    refine thn_n ?_
    refine w_seq ?_
    refine w_seq ?_
    refine w_region ?_
    refine o_val (v_move rfl) rfl ?_
    refine o_val (v_to (v := .bool true) (v_not rfl) rfl) rfl ?_
    refine o_nil ?_
    refine thn_n ?_
    refine w_condT rfl ?_
    refine w_seq ?_
    refine w_region ?_
    refine o_val (v_move rfl) rfl ?_
    refine o_val (v_len (ty' := 0) Tryz.underlying28 rfl) rfl ?_
    refine o_val (v_assign rfl) rfl ?_
    refine o_nil ?_
    refine thn_n ?_
    refine w_ret ?_
    refine (thn_r ?_)
    exact ret_ok (G := [R]) (res1 rfl) ⟨by unfold UsP.room; rw [if_neg he], rfl⟩ (sub (.cons (by repeat first | exact .head | apply Rem.tail) .nil) (by repeat first | exact .refl | apply Drop.skip))
set_option maxHeartbeats 1000000 in
theorem d_cost (p : Option Addr) (c : Nat) (B : List Int) (R : HProp) (hR : ∀ w0 h, R w0 h → RdR U5 p B.length B w0 h) (hB : BitP.Byt B) (hl : B.length < 500000000) (hcap : B.length ≤ c) : Ctr Tryz.prog 28 [.slice p B.length c] [R] (Ret fun v G => v = .int .i64 (UsP.cost B) ∧ G = [R]) := by
  refine spec_of [(0, _)] Tryz.func28 rfl Tryz.ntmps28 rfl rfl ?_
  intro w0 F
  have hpw := UsP.pwh (B := B)
  have hpx := UsP.pxl B
  have hm8 : 8 * UsP.pw B * UsP.ph B = 8 * (UsP.pw B * UsP.ph B) := Int.mul_assoc _ _ _
  have hm17 : 17 * UsP.pw B * UsP.ph B = 17 * (UsP.pw B * UsP.ph B) := Int.mul_assoc _ _ _
  refine w_seq ?_
  refine w_region ?_
  refine o_val (v_assign rfl) rfl ?_
  refine o_nil ?_
  refine thn_n ?_
  refine w_seq ?_
  refine w_region ?_
  refine o_val (v_move rfl) rfl ?_
  refine o_call (d_peek p c B R hR hB hl hcap) W.b24  rfl (.cons (by repeat first | exact .head | apply Rem.tail) .nil) rfl ?_
  rintro _ _ ⟨rfl, rfl⟩
  refine o_val (v_move rfl) rfl ?_
  refine o_val (v_extract rfl rfl) rfl ?_
  refine o_val (v_extract rfl rfl) rfl ?_
  refine o_val (v_extract rfl rfl) rfl ?_
  refine o_val (v_assign rfl) rfl ?_
  refine o_val (v_assign rfl) rfl ?_
  refine o_val (v_assign rfl) rfl ?_
  refine o_nil ?_
  refine thn_n ?_
  refine w_seq ?_
  refine w_region ?_
  refine o_val (v_move rfl) rfl ?_
  refine o_val (v_len (ty' := 0) Tryz.underlying28 rfl) rfl ?_
  refine o_val (v_add rfl rfl (wrapI (by omega) (by omega))) rfl ?_
  refine o_val (v_move rfl) rfl ?_
  refine o_val (v_mul (r := 8 * UsP.pw B) rfl rfl (wrapI (by omega) (by omega))) rfl ?_
  refine o_val (v_move rfl) rfl ?_
  refine o_val (v_mul (r := 8 * UsP.pw B * UsP.ph B) rfl rfl (wrapI (by omega) (by omega))) rfl ?_
  refine o_val (v_add rfl rfl (wrapI (by omega) (by omega))) rfl ?_
  refine o_val (v_assign rfl) rfl ?_
  refine o_nil ?_
  refine thn_n ?_
  refine w_ret ?_
  exact ret_ok (G := [R]) (res1 rfl) ⟨by rw [hm8]; unfold UsP.cost; rfl, rfl⟩ (sub (.cons (by repeat first | exact .head | apply Rem.tail) .nil) (by repeat first | exact .refl | apply Drop.skip))
set_option maxHeartbeats 1000000 in
theorem d_room (p : Option Addr) (c : Nat) (B : List Int) (R : HProp) (hR : ∀ w0 h, R w0 h → RdR U5 p B.length B w0 h) (hB : BitP.Byt B) (hl : B.length < 500000000) (hcap : B.length ≤ c) : Ctr Tryz.prog 30 [.slice p B.length c] [R] (Ret fun v G => v = .int .i64 (UsP.room B) ∧ G = [R]) := by
  refine spec_of [(0, _)] Tryz.func30 rfl Tryz.ntmps30 rfl rfl ?_
  intro w0 F
  have hpw := UsP.pwh (B := B)
  have hpx := UsP.pxl B
  have hm8 : 8 * UsP.pw B * UsP.ph B = 8 * (UsP.pw B * UsP.ph B) := Int.mul_assoc _ _ _
  have hm17 : 17 * UsP.pw B * UsP.ph B = 17 * (UsP.pw B * UsP.ph B) := Int.mul_assoc _ _ _
  refine w_seq ?_
  refine w_region ?_
  refine o_val (v_assign rfl) rfl ?_
  refine o_nil ?_
  refine thn_n ?_
  refine w_seq ?_
  refine w_region ?_
  refine o_val (v_move rfl) rfl ?_
  refine o_call (d_peek p c B R hR hB hl hcap) W.b24  rfl (.cons (by repeat first | exact .head | apply Rem.tail) .nil) rfl ?_
  rintro _ _ ⟨rfl, rfl⟩
  refine o_val (v_move rfl) rfl ?_
  refine o_val (v_extract rfl rfl) rfl ?_
  refine o_val (v_extract rfl rfl) rfl ?_
  refine o_val (v_extract rfl rfl) rfl ?_
  refine o_val (v_assign rfl) rfl ?_
  refine o_val (v_assign rfl) rfl ?_
  refine o_val (v_assign rfl) rfl ?_
  refine o_nil ?_
  refine thn_n ?_
  rcases (Classical.em (UsP.err B = 0)) with he | he
  ·
    refine w_seq ?_
    refine w_seq ?_
    refine w_region ?_
    refine o_val (v_move rfl) rfl ?_
    refine o_val (v_F (v_neq rfl rfl) (fun h => h he)) rfl ?_
    refine o_nil ?_
    refine thn_n ?_
    refine w_condF rfl ?_
    refine w_skip ?_
    refine thn_n ?_
    refine w_seq ?_
    refine w_region ?_
    refine o_val (v_move rfl) rfl ?_
    refine o_val (v_len (ty' := 0) Tryz.underlying28 rfl) rfl ?_
    refine o_val (v_move rfl) rfl ?_
    refine o_val (v_mul (r := 17 * UsP.pw B) rfl rfl (wrapI (by omega) (by omega))) rfl ?_
    refine o_val (v_move rfl) rfl ?_
    refine o_val (v_mul (r := 17 * UsP.pw B * UsP.ph B) rfl rfl (wrapI (by omega) (by omega))) rfl ?_
    refine o_val (v_add rfl rfl (wrapI (by omega) (by omega))) rfl ?_
    refine o_val (v_add rfl rfl (wrapI (by omega) (by omega))) rfl ?_
    refine o_val (v_assign rfl) rfl ?_
    refine o_nil ?_
    refine thn_n ?_
    refine w_ret ?_
    exact ret_ok (G := [R]) (res1 rfl) ⟨by rw [hm17]; unfold UsP.room; rw [if_pos he], rfl⟩ (sub (.cons (by repeat first | exact .head | apply Rem.tail) .nil) (by repeat first | exact .refl | apply Drop.skip))
  ·
    refine w_seq ?_
    refine w_seq ?_
    refine w_region ?_
    refine o_val (v_move rfl) rfl ?_
    refine o_val (v_T (v_neq rfl rfl) he) rfl ?_
    refine o_nil ?_
    refine thn_n ?_
    refine w_condT rfl ?_
    refine w_seq ?_
    refine w_region ?_
    refine o_val (v_move rfl) rfl ?_
    refine o_val (v_len (ty' := 0) Tryz.underlying28 rfl) rfl ?_
    refine o_val (v_assign rfl) rfl ?_
    refine o_nil ?_
    refine thn_n ?_
    refine w_ret ?_
    refine (thn_r ?_)
    exact ret_ok (G := [R]) (res1 rfl) ⟨by unfold UsP.room; rw [if_neg he], rfl⟩ (sub (.cons (by repeat first | exact .head | apply Rem.tail) .nil) (by repeat first | exact .refl | apply Drop.skip))
set_option maxHeartbeats 2000000 in
theorem l_looks (p : Option Addr) (c : Nat) (B : List Int) (R : HProp) (hR : ∀ w0 h, R w0 h → RdR U5 p B.length B w0 h) (hB : BitP.Byt B) (hcap : B.length ≤ c) : Ctr Tryz.prog 4 [.slice p B.length c] [R] (Ret fun v G => v = .bool true ∧ G = [R]) := by
  refine spec_of [(0, _)] Tryz.func4 rfl Tryz.ntmps4 rfl rfl ?_
  intro w0 F
  refine w_seq ?_
  refine w_region ?_
  refine o_val (v_assign rfl) rfl ?_
  refine o_nil ?_
  refine thn_n ?_
  refine w_seq ?_
  refine w_seq ?_
  refine w_region ?_
  refine o_call (d_awake20) W.b22  rfl .nil rfl ?_
  rintro _ _ ⟨rfl, rfl⟩
  refine o_val (v_to (v := .bool false) (v_not rfl) rfl) rfl ?_
  refine o_nil ?_
  refine thn_n ?_
  refine w_condF rfl ?_
  refine w_skip ?_
  refine thn_n ?_
  rcases (Classical.em (9000 < B.length)) with hlen | hlen
  ·
    refine w_seq ?_
    refine w_seq ?_
    refine w_region ?_
    refine o_val (v_move rfl) rfl ?_
    refine o_val (v_len (ty' := 0) Tryz.underlying28 rfl) rfl ?_
    refine o_val (v_T (v_gtr rfl rfl) (by omega)) rfl ?_
    refine o_nil ?_
    refine thn_n ?_
    refine w_condT rfl ?_
    refine w_seq ?_
    refine w_region ?_
    refine o_val (v_assign rfl) rfl ?_
    refine o_nil ?_
    refine thn_n ?_
    refine w_ret ?_
    refine (thn_r ?_)
    exact ret_ok (G := [R]) (res1 rfl) ⟨rfl, rfl⟩ (sub (.cons (by repeat first | exact .head | apply Rem.tail) .nil) (by repeat first | exact .refl | apply Drop.skip))
  ·
    refine w_seq ?_
    refine w_seq ?_
    refine w_region ?_
    refine o_val (v_move rfl) rfl ?_
    refine o_val (v_len (ty' := 0) Tryz.underlying28 rfl) rfl ?_
    refine o_val (v_F (v_gtr rfl rfl) (by omega)) rfl ?_
    refine o_nil ?_
    refine thn_n ?_
    refine w_condF rfl ?_
    refine w_skip ?_
    refine thn_n ?_
    refine w_seq ?_
    refine w_region ?_
    refine o_val (v_move rfl) rfl ?_
    refine o_call (u_peek p c B R hR hB (by omega) hcap) W.b23  rfl (.cons (by repeat first | exact .head | apply Rem.tail) .nil) rfl ?_
    rintro _ _ ⟨rfl, rfl⟩
    refine o_val (v_move rfl) rfl ?_
    refine o_val (v_extract rfl rfl) rfl ?_
    refine o_val (v_extract rfl rfl) rfl ?_
    refine o_val (v_extract rfl rfl) rfl ?_
    refine o_val (v_assign rfl) rfl ?_
    refine o_val (v_assign rfl) rfl ?_
    refine o_val (v_assign rfl) rfl ?_
    refine o_nil ?_
    refine thn_n ?_
    refine w_seq ?_
    refine w_region ?_
    refine o_val (v_move rfl) rfl ?_
    refine o_call (d_peek p c B R hR hB (by omega) hcap) W.b24  rfl (.cons (by repeat first | exact .head | apply Rem.tail) .nil) rfl ?_
    rintro _ _ ⟨rfl, rfl⟩
    refine o_val (v_move rfl) rfl ?_
    refine o_val (v_extract rfl rfl) rfl ?_
    refine o_val (v_extract rfl rfl) rfl ?_
    refine o_val (v_extract rfl rfl) rfl ?_
    refine o_val (v_assign rfl) rfl ?_
    refine o_val (v_assign rfl) rfl ?_
    refine o_val (v_assign rfl) rfl ?_
    refine o_nil ?_
    refine thn_n ?_
    refine w_seq ?_
    refine w_region ?_
    refine o_val (v_move rfl) rfl ?_
    refine o_val (v_move rfl) rfl ?_
    refine o_val (v_T (v_eql rfl rfl) rfl) rfl ?_
    refine o_val (v_move rfl) rfl ?_
    refine o_want rfl ?_
    refine o_val (v_move rfl) rfl ?_
    refine o_want rfl ?_
    refine o_val (v_move rfl) rfl ?_
    refine o_want rfl ?_
    refine o_val (v_T (v_eql rfl rfl) rfl) rfl ?_
    refine o_val (v_pickT rfl rfl) rfl ?_
    refine o_val (v_move rfl) rfl ?_
    refine o_want rfl ?_
    refine o_val (v_move rfl) rfl ?_
    refine o_want rfl ?_
    refine o_val (v_move rfl) rfl ?_
    refine o_want rfl ?_
    refine o_val (v_T (v_eql rfl rfl) rfl) rfl ?_
    refine o_val (v_pickT rfl rfl) rfl ?_
    refine o_val (v_move rfl) rfl ?_
    refine o_want rfl ?_
    refine o_val (v_move rfl) rfl ?_
    refine o_want rfl ?_
    refine o_call (u_kind p c B R hR hB (by omega) hcap) W.b25  rfl (.cons (by repeat first | exact .head | apply Rem.tail) .nil) rfl ?_
    rintro _ _ ⟨rfl, rfl⟩
    refine o_want rfl ?_
    refine o_val (v_move rfl) rfl ?_
    refine o_want rfl ?_
    refine o_call (d_kind p c B R hR hB (by omega) hcap) W.b26  rfl (.cons (by repeat first | exact .head | apply Rem.tail) .nil) rfl ?_
    rintro _ _ ⟨rfl, rfl⟩
    refine o_want rfl ?_
    refine o_val (v_T (v_eql rfl rfl) rfl) rfl ?_
    refine o_val (v_pickT rfl rfl) rfl ?_
    refine o_val (v_move rfl) rfl ?_
    refine o_want rfl ?_
    refine o_val (v_move rfl) rfl ?_
    refine o_want rfl ?_
    refine o_call (u_cost p c B R hR hB (by omega) hcap) W.b27  rfl (.cons (by repeat first | exact .head | apply Rem.tail) .nil) rfl ?_
    rintro _ _ ⟨rfl, rfl⟩
    refine o_want rfl ?_
    refine o_val (v_move rfl) rfl ?_
    refine o_want rfl ?_
    refine o_call (d_cost p c B R hR hB (by omega) hcap) W.b28  rfl (.cons (by repeat first | exact .head | apply Rem.tail) .nil) rfl ?_
    rintro _ _ ⟨rfl, rfl⟩
    refine o_want rfl ?_
    refine o_val (v_T (v_eql rfl rfl) rfl) rfl ?_
    refine o_val (v_pickT rfl rfl) rfl ?_
    refine o_val (v_move rfl) rfl ?_
    refine o_want rfl ?_
    refine o_val (v_move rfl) rfl ?_
    refine o_want rfl ?_
    refine o_call (u_room p c B R hR hB (by omega) hcap) W.b29  rfl (.cons (by repeat first | exact .head | apply Rem.tail) .nil) rfl ?_
    rintro _ _ ⟨rfl, rfl⟩
    refine o_want rfl ?_
    refine o_val (v_move rfl) rfl ?_
    refine o_want rfl ?_
    refine o_call (d_room p c B R hR hB (by omega) hcap) W.b30  rfl (.cons (by repeat first | exact .head | apply Rem.tail) .nil) rfl ?_
    rintro _ _ ⟨rfl, rfl⟩
    refine o_want rfl ?_
    refine o_val (v_T (v_eql rfl rfl) rfl) rfl ?_
    refine o_val (v_pickT rfl rfl) rfl ?_
    refine o_val (v_assign rfl) rfl ?_
    refine o_nil ?_
    refine thn_n ?_
    refine w_ret ?_
    exact ret_ok (G := [R]) (res1 rfl) ⟨rfl, rfl⟩ (sub (.cons (by repeat first | exact .head | apply Rem.tail) .nil) (by repeat first | exact .refl | apply Drop.skip))
end Go.Proofs.YtookicfejdbddaaGreat

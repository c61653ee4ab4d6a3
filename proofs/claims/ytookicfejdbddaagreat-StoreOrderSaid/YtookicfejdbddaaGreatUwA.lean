/- Walks of functions that the law reaches, and what they lean on; no conditions. -/
import Derived.Test.YtookicfejdbddaaGreatUwFacts
import Derived.Test.YtookicfejdbddaaGreatUiBase
import Derived.Test.YtookicfejdbddaaGreatUpSp
set_option linter.unusedVariables false
set_option linter.unusedSimpArgs false
set_option linter.unnecessarySimpa false
set_option maxRecDepth 100000
namespace Go.Proofs.YtookicfejdbddaaGreat
open Go.Sl Go.Cr
noncomputable def oOne0 : Or := ⟨511, 0, 0, [.int .u32 (.ofNat 255)], [], [], .int .i64 (.ofNat 8)⟩
theorem oOne0_ok : OrS Tryz.prog oOne0 := orS_of (callY_ok sp_ok (os := []) (by simp) 100) (by decide +kernel)
theorem c_oOne0 : Ctr Tryz.prog 511 [.int .u32 255] [] (Ret fun v G => v = .int .i64 8 ∧ G = []) := fun w0 F w hi => by
  refine (oOne0_ok (fun _ => none) [.int .u32 255] (fun _ _ => rfl) rfl w0 F w hi).mono ?_
  rintro e w' ⟨G, h1, v, rfl, σ, _, k2, k3, rfl⟩
  cases k3
  exact ⟨[], h1, _, rfl, rfl, rfl⟩
noncomputable def oLen0 : Or := ⟨408, 0, 0, [.int .u32 (.ofNat 255)], [], [], .int .i64 (.ofNat 8)⟩
theorem oLen0_ok : OrS Tryz.prog oLen0 := orS_of (callY_ok sp_ok (os := []) (by simp) 100) (by decide +kernel)
theorem c_oLen0 : Ctr Tryz.prog 408 [.int .u32 255] [] (Ret fun v G => v = .int .i64 8 ∧ G = []) := fun w0 F w hi => by
  refine (oLen0_ok (fun _ => none) [.int .u32 255] (fun _ _ => rfl) rfl w0 F w hi).mono ?_
  rintro e w' ⟨G, h1, v, rfl, σ, _, k2, k3, rfl⟩
  cases k3
  exact ⟨[], h1, _, rfl, rfl, rfl⟩
theorem c_tz0 (vs : List Value) (n : Int) (hv : vs[0]? = some (.int .u8 n)) (h0 : 0 ≤ n) (h1 : n < 256) : Ctr Tryz.prog 510 [.int .u32 255] [Rd (some ⟨1, 0, none⟩) vs.length 1 vs] (Ret fun v G => v = .int .i64 n ∧ G = [Rd (some ⟨1, 0, none⟩) vs.length 1 vs]) := by
  refine spec_of [(0, _)] Tryz.func510 rfl Tryz.ntmps510 rfl rfl ?_
  intro w0 F
  refine w_seq ?_
  refine w_region ?_
  refine o_val (v_assign rfl) rfl ?_
  refine o_nil ?_
  refine thn_n ?_
  refine w_seq ?_
  refine w_seq ?_
  refine w_region ?_
  refine o_val (v_move rfl) rfl ?_
  refine o_val (v_F (v_eql rfl rfl) (by decide)) rfl ?_
  refine o_nil ?_
  refine thn_n ?_
  refine w_condF rfl ?_
  refine w_skip ?_
  refine thn_n ?_
  refine w_seq ?_
  refine w_region ?_
  refine o_val (v_move rfl) rfl ?_
  refine o_val (v_move rfl) rfl ?_
  refine o_val (v_neg (n := 4294967041) rfl (by decide +kernel)) rfl ?_
  refine o_val (v_and (r := 1) rfl rfl (by decide +kernel)) rfl ?_
  refine o_val (v_mul (r := 125613361) rfl rfl (by decide +kernel)) rfl ?_
  refine o_val (v_shr (r := 0) rfl rfl (by decide) (by decide +kernel)) rfl ?_
  refine o_val (v_indexA 0 rfl Y.ar511 rfl rfl (by decide)) rfl ?_
  refine o_val (v_loadR 0 Y.s5 rfl (R := Rd (some ⟨1, 0, none⟩) vs.length 1 vs) (n := vs.length) (vs := vs) mm0 (fun _ hh => hh) (by decide) hv) rfl ?_
  refine o_val (v_conv Y.u5 Tryz.underlying3 rfl (wrapI (by omega) (by omega))) rfl ?_
  refine o_val (v_assign rfl) rfl ?_
  refine o_nil ?_
  refine thn_n ?_
  refine w_ret ?_
  exact ret_ok (G := [Rd (some ⟨1, 0, none⟩) vs.length 1 vs]) (res1 rfl) ⟨rfl, rfl⟩ (sub (.cons (by repeat first | exact .head | apply Rem.tail) .nil) (by repeat first | exact .refl | apply Drop.skip))
theorem c_run0 (vs : List Value) (hb : Bad 0 vs) : Ctr Tryz.prog 505 [.int .u32 255] [Rd (some ⟨1, 0, none⟩) vs.length 1 vs] (Ret fun v G => v = .tuple #[.int .i64 0, .int .i64 0, .bool false] ∧ G = [Rd (some ⟨1, 0, none⟩) vs.length 1 vs]) := by
  refine spec_of [(0, _)] Tryz.func505 rfl Tryz.ntmps505 rfl rfl ?_
  intro w0 F
  obtain ⟨n, hv, h0, h1, hne⟩ := hb
  have hne : n ≠ 0 := hne
  refine w_seq ?_
  refine w_region ?_
  refine o_val (v_assign rfl) rfl ?_
  refine o_val (v_assign rfl) rfl ?_
  refine o_val (v_assign rfl) rfl ?_
  refine o_nil ?_
  refine thn_n ?_
  refine w_seq ?_
  refine w_seq ?_
  refine w_region ?_
  refine o_val (v_move rfl) rfl ?_
  refine o_val (v_F (v_eql rfl rfl) (by decide)) rfl ?_
  refine o_nil ?_
  refine thn_n ?_
  refine w_condF rfl ?_
  refine w_skip ?_
  refine thn_n ?_
  refine w_seq ?_
  refine w_region ?_
  refine o_val (v_move rfl) rfl ?_
  refine o_call (c_tz0 vs n hv h0 h1) Y.b510  rfl (.cons (by repeat first | exact .head | apply Rem.tail) .nil) rfl ?_
  rintro _ _ ⟨rfl, rfl⟩
  refine o_val (v_assign rfl) rfl ?_
  refine o_nil ?_
  refine thn_n ?_
  refine w_seq ?_
  refine w_region ?_
  refine o_val (v_move rfl) rfl ?_
  refine o_call (c_oOne0) Y.b511  rfl .nil rfl ?_
  rintro _ _ ⟨rfl, rfl⟩
  refine o_val (v_assign rfl) rfl ?_
  refine o_nil ?_
  refine thn_n ?_
  refine w_seq ?_
  refine w_seq ?_
  refine w_region ?_
  refine o_val (v_move rfl) rfl ?_
  refine o_call (c_oLen0) Y.b408  rfl .nil rfl ?_
  rintro _ _ ⟨rfl, rfl⟩
  refine o_val (v_move rfl) rfl ?_
  refine o_val (v_move rfl) rfl ?_
  refine o_val (v_add rfl rfl (wrapI (by omega) (by omega))) rfl ?_
  refine o_val (v_T (v_neq rfl rfl) (by omega)) rfl ?_
  refine o_nil ?_
  refine thn_n ?_
  refine w_condT rfl ?_
  refine w_seq ?_
  refine w_region ?_
  refine o_val (v_assign rfl) rfl ?_
  refine o_val (v_assign rfl) rfl ?_
  refine o_val (v_assign rfl) rfl ?_
  refine o_nil ?_
  refine thn_n ?_
  refine w_ret ?_
  refine (thn_r ?_)
  exact ret_ok (G := [Rd (some ⟨1, 0, none⟩) vs.length 1 vs]) (res3 rfl rfl rfl) ⟨rfl, rfl⟩ (sub (.cons (by repeat first | exact .head | apply Rem.tail) .nil) (by repeat first | exact .refl | apply Drop.skip))
noncomputable def oOne15 : Or := ⟨511, 0, 0, [.int .u32 (.ofNat 65280)], [], [], .int .i64 (.ofNat 8)⟩
theorem oOne15_ok : OrS Tryz.prog oOne15 := orS_of (callY_ok sp_ok (os := []) (by simp) 100) (by decide +kernel)
theorem c_oOne15 : Ctr Tryz.prog 511 [.int .u32 65280] [] (Ret fun v G => v = .int .i64 8 ∧ G = []) := fun w0 F w hi => by
  refine (oOne15_ok (fun _ => none) [.int .u32 65280] (fun _ _ => rfl) rfl w0 F w hi).mono ?_
  rintro e w' ⟨G, h1, v, rfl, σ, _, k2, k3, rfl⟩
  cases k3
  exact ⟨[], h1, _, rfl, rfl, rfl⟩
noncomputable def oLen15 : Or := ⟨408, 0, 0, [.int .u32 (.ofNat 65280)], [], [], .int .i64 (.ofNat 16)⟩
theorem oLen15_ok : OrS Tryz.prog oLen15 := orS_of (callY_ok sp_ok (os := []) (by simp) 100) (by decide +kernel)
theorem c_oLen15 : Ctr Tryz.prog 408 [.int .u32 65280] [] (Ret fun v G => v = .int .i64 16 ∧ G = []) := fun w0 F w hi => by
  refine (oLen15_ok (fun _ => none) [.int .u32 65280] (fun _ _ => rfl) rfl w0 F w hi).mono ?_
  rintro e w' ⟨G, h1, v, rfl, σ, _, k2, k3, rfl⟩
  cases k3
  exact ⟨[], h1, _, rfl, rfl, rfl⟩
theorem c_tz15 (vs : List Value) (n : Int) (hv : vs[15]? = some (.int .u8 n)) (h0 : 0 ≤ n) (h1 : n < 256) : Ctr Tryz.prog 510 [.int .u32 65280] [Rd (some ⟨1, 0, none⟩) vs.length 1 vs] (Ret fun v G => v = .int .i64 n ∧ G = [Rd (some ⟨1, 0, none⟩) vs.length 1 vs]) := by
  refine spec_of [(0, _)] Tryz.func510 rfl Tryz.ntmps510 rfl rfl ?_
  intro w0 F
  refine w_seq ?_
  refine w_region ?_
  refine o_val (v_assign rfl) rfl ?_
  refine o_nil ?_
  refine thn_n ?_
  refine w_seq ?_
  refine w_seq ?_
  refine w_region ?_
  refine o_val (v_move rfl) rfl ?_
  refine o_val (v_F (v_eql rfl rfl) (by decide)) rfl ?_
  refine o_nil ?_
  refine thn_n ?_
  refine w_condF rfl ?_
  refine w_skip ?_
  refine thn_n ?_
  refine w_seq ?_
  refine w_region ?_
  refine o_val (v_move rfl) rfl ?_
  refine o_val (v_move rfl) rfl ?_
  refine o_val (v_neg (n := 4294902016) rfl (by decide +kernel)) rfl ?_
  refine o_val (v_and (r := 256) rfl rfl (by decide +kernel)) rfl ?_
  refine o_val (v_mul (r := 2092249344) rfl rfl (by decide +kernel)) rfl ?_
  refine o_val (v_shr (r := 15) rfl rfl (by decide) (by decide +kernel)) rfl ?_
  refine o_val (v_indexA 15 rfl Y.ar511 rfl rfl (by decide)) rfl ?_
  refine o_val (v_loadR 15 Y.s5 rfl (R := Rd (some ⟨1, 0, none⟩) vs.length 1 vs) (n := vs.length) (vs := vs) mm0 (fun _ hh => hh) (by decide) hv) rfl ?_
  refine o_val (v_conv Y.u5 Tryz.underlying3 rfl (wrapI (by omega) (by omega))) rfl ?_
  refine o_val (v_assign rfl) rfl ?_
  refine o_nil ?_
  refine thn_n ?_
  refine w_ret ?_
  exact ret_ok (G := [Rd (some ⟨1, 0, none⟩) vs.length 1 vs]) (res1 rfl) ⟨rfl, rfl⟩ (sub (.cons (by repeat first | exact .head | apply Rem.tail) .nil) (by repeat first | exact .refl | apply Drop.skip))
theorem c_run15 (vs : List Value) (hb : Bad 15 vs) : Ctr Tryz.prog 505 [.int .u32 65280] [Rd (some ⟨1, 0, none⟩) vs.length 1 vs] (Ret fun v G => v = .tuple #[.int .i64 0, .int .i64 0, .bool false] ∧ G = [Rd (some ⟨1, 0, none⟩) vs.length 1 vs]) := by
  refine spec_of [(0, _)] Tryz.func505 rfl Tryz.ntmps505 rfl rfl ?_
  intro w0 F
  obtain ⟨n, hv, h0, h1, hne⟩ := hb
  have hne : n ≠ 8 := hne
  refine w_seq ?_
  refine w_region ?_
  refine o_val (v_assign rfl) rfl ?_
  refine o_val (v_assign rfl) rfl ?_
  refine o_val (v_assign rfl) rfl ?_
  refine o_nil ?_
  refine thn_n ?_
  refine w_seq ?_
  refine w_seq ?_
  refine w_region ?_
  refine o_val (v_move rfl) rfl ?_
  refine o_val (v_F (v_eql rfl rfl) (by decide)) rfl ?_
  refine o_nil ?_
  refine thn_n ?_
  refine w_condF rfl ?_
  refine w_skip ?_
  refine thn_n ?_
  refine w_seq ?_
  refine w_region ?_
  refine o_val (v_move rfl) rfl ?_
  refine o_call (c_tz15 vs n hv h0 h1) Y.b510  rfl (.cons (by repeat first | exact .head | apply Rem.tail) .nil) rfl ?_
  rintro _ _ ⟨rfl, rfl⟩
  refine o_val (v_assign rfl) rfl ?_
  refine o_nil ?_
  refine thn_n ?_
  refine w_seq ?_
  refine w_region ?_
  refine o_val (v_move rfl) rfl ?_
  refine o_call (c_oOne15) Y.b511  rfl .nil rfl ?_
  rintro _ _ ⟨rfl, rfl⟩
  refine o_val (v_assign rfl) rfl ?_
  refine o_nil ?_
  refine thn_n ?_
  refine w_seq ?_
  refine w_seq ?_
  refine w_region ?_
  refine o_val (v_move rfl) rfl ?_
  refine o_call (c_oLen15) Y.b408  rfl .nil rfl ?_
  rintro _ _ ⟨rfl, rfl⟩
  refine o_val (v_move rfl) rfl ?_
  refine o_val (v_move rfl) rfl ?_
  refine o_val (v_add rfl rfl (wrapI (by omega) (by omega))) rfl ?_
  refine o_val (v_T (v_neq rfl rfl) (by omega)) rfl ?_
  refine o_nil ?_
  refine thn_n ?_
  refine w_condT rfl ?_
  refine w_seq ?_
  refine w_region ?_
  refine o_val (v_assign rfl) rfl ?_
  refine o_val (v_assign rfl) rfl ?_
  refine o_val (v_assign rfl) rfl ?_
  refine o_nil ?_
  refine thn_n ?_
  refine w_ret ?_
  refine (thn_r ?_)
  exact ret_ok (G := [Rd (some ⟨1, 0, none⟩) vs.length 1 vs]) (res3 rfl rfl rfl) ⟨rfl, rfl⟩ (sub (.cons (by repeat first | exact .head | apply Rem.tail) .nil) (by repeat first | exact .refl | apply Drop.skip))
noncomputable def oOne22 : Or := ⟨511, 0, 0, [.int .u32 (.ofNat 16711680)], [], [], .int .i64 (.ofNat 8)⟩
theorem oOne22_ok : OrS Tryz.prog oOne22 := orS_of (callY_ok sp_ok (os := []) (by simp) 100) (by decide +kernel)
theorem c_oOne22 : Ctr Tryz.prog 511 [.int .u32 16711680] [] (Ret fun v G => v = .int .i64 8 ∧ G = []) := fun w0 F w hi => by
  refine (oOne22_ok (fun _ => none) [.int .u32 16711680] (fun _ _ => rfl) rfl w0 F w hi).mono ?_
  rintro e w' ⟨G, h1, v, rfl, σ, _, k2, k3, rfl⟩
  cases k3
  exact ⟨[], h1, _, rfl, rfl, rfl⟩
noncomputable def oLen22 : Or := ⟨408, 0, 0, [.int .u32 (.ofNat 16711680)], [], [], .int .i64 (.ofNat 24)⟩
theorem oLen22_ok : OrS Tryz.prog oLen22 := orS_of (callY_ok sp_ok (os := []) (by simp) 100) (by decide +kernel)
theorem c_oLen22 : Ctr Tryz.prog 408 [.int .u32 16711680] [] (Ret fun v G => v = .int .i64 24 ∧ G = []) := fun w0 F w hi => by
  refine (oLen22_ok (fun _ => none) [.int .u32 16711680] (fun _ _ => rfl) rfl w0 F w hi).mono ?_
  rintro e w' ⟨G, h1, v, rfl, σ, _, k2, k3, rfl⟩
  cases k3
  exact ⟨[], h1, _, rfl, rfl, rfl⟩
theorem c_tz22 (vs : List Value) (n : Int) (hv : vs[22]? = some (.int .u8 n)) (h0 : 0 ≤ n) (h1 : n < 256) : Ctr Tryz.prog 510 [.int .u32 16711680] [Rd (some ⟨1, 0, none⟩) vs.length 1 vs] (Ret fun v G => v = .int .i64 n ∧ G = [Rd (some ⟨1, 0, none⟩) vs.length 1 vs]) := by
  refine spec_of [(0, _)] Tryz.func510 rfl Tryz.ntmps510 rfl rfl ?_
  intro w0 F
  refine w_seq ?_
  refine w_region ?_
  refine o_val (v_assign rfl) rfl ?_
  refine o_nil ?_
  refine thn_n ?_
  refine w_seq ?_
  refine w_seq ?_
  refine w_region ?_
  refine o_val (v_move rfl) rfl ?_
  refine o_val (v_F (v_eql rfl rfl) (by decide)) rfl ?_
  refine o_nil ?_
  refine thn_n ?_
  refine w_condF rfl ?_
  refine w_skip ?_
  refine thn_n ?_
  refine w_seq ?_
  refine w_region ?_
  refine o_val (v_move rfl) rfl ?_
  refine o_val (v_move rfl) rfl ?_
  refine o_val (v_neg (n := 4278255616) rfl (by decide +kernel)) rfl ?_
  refine o_val (v_and (r := 65536) rfl rfl (by decide +kernel)) rfl ?_
  refine o_val (v_mul (r := 3039887360) rfl rfl (by decide +kernel)) rfl ?_
  refine o_val (v_shr (r := 22) rfl rfl (by decide) (by decide +kernel)) rfl ?_
  refine o_val (v_indexA 22 rfl Y.ar511 rfl rfl (by decide)) rfl ?_
  refine o_val (v_loadR 22 Y.s5 rfl (R := Rd (some ⟨1, 0, none⟩) vs.length 1 vs) (n := vs.length) (vs := vs) mm0 (fun _ hh => hh) (by decide) hv) rfl ?_
  refine o_val (v_conv Y.u5 Tryz.underlying3 rfl (wrapI (by omega) (by omega))) rfl ?_
  refine o_val (v_assign rfl) rfl ?_
  refine o_nil ?_
  refine thn_n ?_
  refine w_ret ?_
  exact ret_ok (G := [Rd (some ⟨1, 0, none⟩) vs.length 1 vs]) (res1 rfl) ⟨rfl, rfl⟩ (sub (.cons (by repeat first | exact .head | apply Rem.tail) .nil) (by repeat first | exact .refl | apply Drop.skip))
theorem c_run22 (vs : List Value) (hb : Bad 22 vs) : Ctr Tryz.prog 505 [.int .u32 16711680] [Rd (some ⟨1, 0, none⟩) vs.length 1 vs] (Ret fun v G => v = .tuple #[.int .i64 0, .int .i64 0, .bool false] ∧ G = [Rd (some ⟨1, 0, none⟩) vs.length 1 vs]) := by
  refine spec_of [(0, _)] Tryz.func505 rfl Tryz.ntmps505 rfl rfl ?_
  intro w0 F
  obtain ⟨n, hv, h0, h1, hne⟩ := hb
  have hne : n ≠ 16 := hne
  refine w_seq ?_
  refine w_region ?_
  refine o_val (v_assign rfl) rfl ?_
  refine o_val (v_assign rfl) rfl ?_
  refine o_val (v_assign rfl) rfl ?_
  refine o_nil ?_
  refine thn_n ?_
  refine w_seq ?_
  refine w_seq ?_
  refine w_region ?_
  refine o_val (v_move rfl) rfl ?_
  refine o_val (v_F (v_eql rfl rfl) (by decide)) rfl ?_
  refine o_nil ?_
  refine thn_n ?_
  refine w_condF rfl ?_
  refine w_skip ?_
  refine thn_n ?_
  refine w_seq ?_
  refine w_region ?_
  refine o_val (v_move rfl) rfl ?_
  refine o_call (c_tz22 vs n hv h0 h1) Y.b510  rfl (.cons (by repeat first | exact .head | apply Rem.tail) .nil) rfl ?_
  rintro _ _ ⟨rfl, rfl⟩
  refine o_val (v_assign rfl) rfl ?_
  refine o_nil ?_
  refine thn_n ?_
  refine w_seq ?_
  refine w_region ?_
  refine o_val (v_move rfl) rfl ?_
  refine o_call (c_oOne22) Y.b511  rfl .nil rfl ?_
  rintro _ _ ⟨rfl, rfl⟩
  refine o_val (v_assign rfl) rfl ?_
  refine o_nil ?_
  refine thn_n ?_
  refine w_seq ?_
  refine w_seq ?_
  refine w_region ?_
  refine o_val (v_move rfl) rfl ?_
  refine o_call (c_oLen22) Y.b408  rfl .nil rfl ?_
  rintro _ _ ⟨rfl, rfl⟩
  refine o_val (v_move rfl) rfl ?_
  refine o_val (v_move rfl) rfl ?_
  refine o_val (v_add rfl rfl (wrapI (by omega) (by omega))) rfl ?_
  refine o_val (v_T (v_neq rfl rfl) (by omega)) rfl ?_
  refine o_nil ?_
  refine thn_n ?_
  refine w_condT rfl ?_
  refine w_seq ?_
  refine w_region ?_
  refine o_val (v_assign rfl) rfl ?_
  refine o_val (v_assign rfl) rfl ?_
  refine o_val (v_assign rfl) rfl ?_
  refine o_nil ?_
  refine thn_n ?_
  refine w_ret ?_
  refine (thn_r ?_)
  exact ret_ok (G := [Rd (some ⟨1, 0, none⟩) vs.length 1 vs]) (res3 rfl rfl rfl) ⟨rfl, rfl⟩ (sub (.cons (by repeat first | exact .head | apply Rem.tail) .nil) (by repeat first | exact .refl | apply Drop.skip))
noncomputable def oOne6 : Or := ⟨511, 0, 0, [.int .u32 (.ofNat 4278190080)], [], [], .int .i64 (.ofNat 8)⟩
theorem oOne6_ok : OrS Tryz.prog oOne6 := orS_of (callY_ok sp_ok (os := []) (by simp) 100) (by decide +kernel)
theorem c_oOne6 : Ctr Tryz.prog 511 [.int .u32 4278190080] [] (Ret fun v G => v = .int .i64 8 ∧ G = []) := fun w0 F w hi => by
  refine (oOne6_ok (fun _ => none) [.int .u32 4278190080] (fun _ _ => rfl) rfl w0 F w hi).mono ?_
  rintro e w' ⟨G, h1, v, rfl, σ, _, k2, k3, rfl⟩
  cases k3
  exact ⟨[], h1, _, rfl, rfl, rfl⟩
noncomputable def oLen6 : Or := ⟨408, 0, 0, [.int .u32 (.ofNat 4278190080)], [], [], .int .i64 (.ofNat 32)⟩
theorem oLen6_ok : OrS Tryz.prog oLen6 := orS_of (callY_ok sp_ok (os := []) (by simp) 100) (by decide +kernel)
theorem c_oLen6 : Ctr Tryz.prog 408 [.int .u32 4278190080] [] (Ret fun v G => v = .int .i64 32 ∧ G = []) := fun w0 F w hi => by
  refine (oLen6_ok (fun _ => none) [.int .u32 4278190080] (fun _ _ => rfl) rfl w0 F w hi).mono ?_
  rintro e w' ⟨G, h1, v, rfl, σ, _, k2, k3, rfl⟩
  cases k3
  exact ⟨[], h1, _, rfl, rfl, rfl⟩
theorem c_tz6 (vs : List Value) (n : Int) (hv : vs[6]? = some (.int .u8 n)) (h0 : 0 ≤ n) (h1 : n < 256) : Ctr Tryz.prog 510 [.int .u32 4278190080] [Rd (some ⟨1, 0, none⟩) vs.length 1 vs] (Ret fun v G => v = .int .i64 n ∧ G = [Rd (some ⟨1, 0, none⟩) vs.length 1 vs]) := by
  refine spec_of [(0, _)] Tryz.func510 rfl Tryz.ntmps510 rfl rfl ?_
  intro w0 F
  refine w_seq ?_
  refine w_region ?_
  refine o_val (v_assign rfl) rfl ?_
  refine o_nil ?_
  refine thn_n ?_
  refine w_seq ?_
  refine w_seq ?_
  refine w_region ?_
  refine o_val (v_move rfl) rfl ?_
  refine o_val (v_F (v_eql rfl rfl) (by decide)) rfl ?_
  refine o_nil ?_
  refine thn_n ?_
  refine w_condF rfl ?_
  refine w_skip ?_
  refine thn_n ?_
  refine w_seq ?_
  refine w_region ?_
  refine o_val (v_move rfl) rfl ?_
  refine o_val (v_move rfl) rfl ?_
  refine o_val (v_neg (n := 16777216) rfl (by decide +kernel)) rfl ?_
  refine o_val (v_and (r := 16777216) rfl rfl (by decide +kernel)) rfl ?_
  refine o_val (v_mul (r := 822083584) rfl rfl (by decide +kernel)) rfl ?_
  refine o_val (v_shr (r := 6) rfl rfl (by decide) (by decide +kernel)) rfl ?_
  refine o_val (v_indexA 6 rfl Y.ar511 rfl rfl (by decide)) rfl ?_
  refine o_val (v_loadR 6 Y.s5 rfl (R := Rd (some ⟨1, 0, none⟩) vs.length 1 vs) (n := vs.length) (vs := vs) mm0 (fun _ hh => hh) (by decide) hv) rfl ?_
  refine o_val (v_conv Y.u5 Tryz.underlying3 rfl (wrapI (by omega) (by omega))) rfl ?_
  refine o_val (v_assign rfl) rfl ?_
  refine o_nil ?_
  refine thn_n ?_
  refine w_ret ?_
  exact ret_ok (G := [Rd (some ⟨1, 0, none⟩) vs.length 1 vs]) (res1 rfl) ⟨rfl, rfl⟩ (sub (.cons (by repeat first | exact .head | apply Rem.tail) .nil) (by repeat first | exact .refl | apply Drop.skip))
theorem c_run6 (vs : List Value) (hb : Bad 6 vs) : Ctr Tryz.prog 505 [.int .u32 4278190080] [Rd (some ⟨1, 0, none⟩) vs.length 1 vs] (Ret fun v G => v = .tuple #[.int .i64 0, .int .i64 0, .bool false] ∧ G = [Rd (some ⟨1, 0, none⟩) vs.length 1 vs]) := by
  refine spec_of [(0, _)] Tryz.func505 rfl Tryz.ntmps505 rfl rfl ?_
  intro w0 F
  obtain ⟨n, hv, h0, h1, hne⟩ := hb
  have hne : n ≠ 24 := hne
  refine w_seq ?_
  refine w_region ?_
  refine o_val (v_assign rfl) rfl ?_
  refine o_val (v_assign rfl) rfl ?_
  refine o_val (v_assign rfl) rfl ?_
  refine o_nil ?_
  refine thn_n ?_
  refine w_seq ?_
  refine w_seq ?_
  refine w_region ?_
  refine o_val (v_move rfl) rfl ?_
  refine o_val (v_F (v_eql rfl rfl) (by decide)) rfl ?_
  refine o_nil ?_
  refine thn_n ?_
  refine w_condF rfl ?_
  refine w_skip ?_
  refine thn_n ?_
  refine w_seq ?_
  refine w_region ?_
  refine o_val (v_move rfl) rfl ?_
  refine o_call (c_tz6 vs n hv h0 h1) Y.b510  rfl (.cons (by repeat first | exact .head | apply Rem.tail) .nil) rfl ?_
  rintro _ _ ⟨rfl, rfl⟩
  refine o_val (v_assign rfl) rfl ?_
  refine o_nil ?_
  refine thn_n ?_
  refine w_seq ?_
  refine w_region ?_
  refine o_val (v_move rfl) rfl ?_
  refine o_call (c_oOne6) Y.b511  rfl .nil rfl ?_
  rintro _ _ ⟨rfl, rfl⟩
  refine o_val (v_assign rfl) rfl ?_
  refine o_nil ?_
  refine thn_n ?_
  refine w_seq ?_
  refine w_seq ?_
  refine w_region ?_
  refine o_val (v_move rfl) rfl ?_
  refine o_call (c_oLen6) Y.b408  rfl .nil rfl ?_
  rintro _ _ ⟨rfl, rfl⟩
  refine o_val (v_move rfl) rfl ?_
  refine o_val (v_move rfl) rfl ?_
  refine o_val (v_add rfl rfl (wrapI (by omega) (by omega))) rfl ?_
  refine o_val (v_T (v_neq rfl rfl) (by omega)) rfl ?_
  refine o_nil ?_
  refine thn_n ?_
  refine w_condT rfl ?_
  refine w_seq ?_
  refine w_region ?_
  refine o_val (v_assign rfl) rfl ?_
  refine o_val (v_assign rfl) rfl ?_
  refine o_val (v_assign rfl) rfl ?_
  refine o_nil ?_
  refine thn_n ?_
  refine w_ret ?_
  refine (thn_r ?_)
  exact ret_ok (G := [Rd (some ⟨1, 0, none⟩) vs.length 1 vs]) (res3 rfl rfl rfl) ⟨rfl, rfl⟩ (sub (.cons (by repeat first | exact .head | apply Rem.tail) .nil) (by repeat first | exact .refl | apply Drop.skip))
end Go.Proofs.YtookicfejdbddaaGreat

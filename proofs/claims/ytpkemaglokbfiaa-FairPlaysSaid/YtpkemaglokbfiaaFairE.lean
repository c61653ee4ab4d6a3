/- Steps of the proof: the walks of the functions that the statement reaches; printed by a program of ours. -/
import Derived.Test.YtpkemaglokbfiaaProg
import Derived.KernelRfl
import Derived.Test.YtpkemaglokbfiaaFairD
namespace Go.Proofs.Ytpkemaglokbfiaa
open Go.Sl Go.FairP
set_option linter.unusedVariables false
set_option linter.unusedSimpArgs false
theorem T.b17 : bodyB Try.prog 17 = true := by kernel_rfl
theorem T.b30 : bodyB Try.prog 30 = true := by kernel_rfl
theorem T.pl57 : placesB Try.prog 57 = some [(0, 1), (1, 1), (2, 1)] := by kernel_rfl

set_option maxRecDepth 100000 in
theorem isNaN (x : Nat) : Ctr Try.prog 30 [.float .f64 x] [] (Ret fun v G => v = .bool (FloatKind.f64.format.order x x != some .eq) ∧ G = []) := by
  refine spec_of [(0, _)] Try.func30 rfl Try.ntmps30 rfl rfl ?_
  intro w0 F
  refine w_seq ?_
  refine w_region ?_
  refine o_val (v_assign rfl) rfl ?_
  refine o_nil ?_
  refine thn_n ?_
  refine w_seq ?_
  refine w_region ?_
  refine o_val (v_move rfl) rfl ?_
  refine o_val (v_move rfl) rfl ?_
  refine o_val (v_fne rfl rfl) rfl ?_
  refine o_val (v_assign rfl) rfl ?_
  refine o_nil ?_
  refine thn_n ?_
  refine w_ret ?_
  exact ret_ok (G := []) (res1 rfl) ⟨rfl, rfl⟩ (sub .nil (by first | exact dd0 | exact dd1 | exact dd2 | exact dd3 | exact dd4 | exact dd5 | exact dd6 | exact dd7 | exact dd8))

set_option maxRecDepth 100000 in
theorem quantum_yes (x : Nat) (q : Int) (hq : Fq x q) : Ctr Try.prog 17 [.float .f64 x] [] (Ret fun v G => v = .tuple #[.int .i64 q, .bool true] ∧ G = []) := by
  obtain ⟨nn, lo, hi, ⟨z, hz, hv⟩, q1, q2⟩ := hq
  refine spec_of [(0, _)] Try.func17 rfl Try.ntmps17 rfl rfl ?_
  intro w0 F
  refine w_seq ?_
  refine w_region ?_
  refine o_val (v_assign rfl) rfl ?_
  refine o_val (v_assign rfl) rfl ?_
  refine o_nil ?_
  refine thn_n ?_
  refine w_seq ?_
  refine w_seq ?_
  refine w_region ?_
  refine o_val (v_move rfl) rfl ?_
  refine o_call (isNaN x) T.b30  rfl .nil rfl ?_
  rintro _ _ ⟨rfl, rfl⟩
  rw [show (FloatKind.f64.format.order x x != some .eq) = false by rw [nn]; rfl]
  refine o_val (v_move rfl) rfl ?_
  refine o_want rfl ?_
  refine o_val (v_move rfl) rfl ?_
  refine o_want rfl ?_
  refine o_val (v_to (v := .bool false) (v_flt rfl rfl) (congrArg Value.bool lo)) rfl ?_
  refine o_val (v_pickF rfl rfl) rfl ?_
  refine o_val (v_move rfl) rfl ?_
  refine o_want rfl ?_
  refine o_val (v_move rfl) rfl ?_
  refine o_want rfl ?_
  refine o_val (v_to (v := .bool false) (v_fgt rfl rfl) (congrArg Value.bool hi)) rfl ?_
  refine o_val (v_pickF rfl rfl) rfl ?_
  refine o_nil ?_
  refine thn_n ?_
  refine w_condF rfl ?_
  refine w_skip ?_
  refine thn_n ?_
  refine w_seq ?_
  refine w_region ?_
  refine o_val (v_move rfl) rfl ?_
  refine o_val (v_fmul rfl rfl hz) rfl ?_
  refine o_val (v_ftoi Try.underlying30 Try.underlying3 rfl hv ⟨by show -9223372036854775808 ≤ q; omega, by show q ≤ 9223372036854775807; omega⟩) rfl ?_
  refine o_val (v_assign rfl) rfl ?_
  refine o_val (v_assign rfl) rfl ?_
  refine o_nil ?_
  refine thn_n ?_
  refine w_ret ?_
  exact ret_ok (G := []) (res2 rfl rfl) ⟨rfl, rfl⟩ (sub .nil (by first | exact dd0 | exact dd1 | exact dd2 | exact dd3 | exact dd4 | exact dd5 | exact dd6 | exact dd7 | exact dd8))

set_option maxRecDepth 100000 in
theorem quantum_nan (x : Nat) (hq : FloatKind.f64.format.order x x ≠ some .eq) : Ctr Try.prog 17 [.float .f64 x] [] (Ret fun v G => v = .tuple #[.int .i64 0, .bool false] ∧ G = []) := by
  refine spec_of [(0, _)] Try.func17 rfl Try.ntmps17 rfl rfl ?_
  intro w0 F
  refine w_seq ?_
  refine w_region ?_
  refine o_val (v_assign rfl) rfl ?_
  refine o_val (v_assign rfl) rfl ?_
  refine o_nil ?_
  refine thn_n ?_
  refine w_seq ?_
  refine w_seq ?_
  refine w_region ?_
  refine o_val (v_move rfl) rfl ?_
  refine o_call (isNaN x) T.b30  rfl .nil rfl ?_
  rintro _ _ ⟨rfl, rfl⟩
  rw [show (FloatKind.f64.format.order x x != some .eq) = true by simpa using hq]
  refine o_val (v_move rfl) rfl ?_
  refine o_pass rfl rfl rfl ?_
  refine o_pass rfl rfl rfl ?_
  refine o_val (v_pickT rfl rfl) rfl ?_
  refine o_val (v_move rfl) rfl ?_
  refine o_pass rfl rfl rfl ?_
  refine o_pass rfl rfl rfl ?_
  refine o_val (v_pickT rfl rfl) rfl ?_
  refine o_nil ?_
  refine thn_n ?_
  refine w_condT rfl ?_
  refine w_seq ?_
  refine w_region ?_
  refine o_val (v_assign rfl) rfl ?_
  refine o_val (v_assign rfl) rfl ?_
  refine o_nil ?_
  refine thn_n ?_
  refine w_ret ?_
  refine (thn_r ?_)
  exact ret_ok (G := []) (res2 rfl rfl) ⟨rfl, rfl⟩ (sub .nil (by first | exact dd0 | exact dd1 | exact dd2 | exact dd3 | exact dd4 | exact dd5 | exact dd6 | exact dd7 | exact dd8))

set_option maxRecDepth 100000 in
theorem quantum_low (x : Nat) (nn : FloatKind.f64.format.order x x = some .eq) (lo : (FloatKind.f64.format.order x leastB == some .lt) = true) : Ctr Try.prog 17 [.float .f64 x] [] (Ret fun v G => v = .tuple #[.int .i64 0, .bool false] ∧ G = []) := by
  refine spec_of [(0, _)] Try.func17 rfl Try.ntmps17 rfl rfl ?_
  intro w0 F
  refine w_seq ?_
  refine w_region ?_
  refine o_val (v_assign rfl) rfl ?_
  refine o_val (v_assign rfl) rfl ?_
  refine o_nil ?_
  refine thn_n ?_
  refine w_seq ?_
  refine w_seq ?_
  refine w_region ?_
  refine o_val (v_move rfl) rfl ?_
  refine o_call (isNaN x) T.b30  rfl .nil rfl ?_
  rintro _ _ ⟨rfl, rfl⟩
  rw [show (FloatKind.f64.format.order x x != some .eq) = false by rw [nn]; rfl]
  refine o_val (v_move rfl) rfl ?_
  refine o_want rfl ?_
  refine o_val (v_move rfl) rfl ?_
  refine o_want rfl ?_
  refine o_val (v_to (v := .bool true) (v_flt rfl rfl) (congrArg Value.bool lo)) rfl ?_
  refine o_val (v_pickF rfl rfl) rfl ?_
  refine o_val (v_move rfl) rfl ?_
  refine o_pass rfl rfl rfl ?_
  refine o_pass rfl rfl rfl ?_
  refine o_val (v_pickT rfl rfl) rfl ?_
  refine o_nil ?_
  refine thn_n ?_
  refine w_condT rfl ?_
  refine w_seq ?_
  refine w_region ?_
  refine o_val (v_assign rfl) rfl ?_
  refine o_val (v_assign rfl) rfl ?_
  refine o_nil ?_
  refine thn_n ?_
  refine w_ret ?_
  refine (thn_r ?_)
  exact ret_ok (G := []) (res2 rfl rfl) ⟨rfl, rfl⟩ (sub .nil (by first | exact dd0 | exact dd1 | exact dd2 | exact dd3 | exact dd4 | exact dd5 | exact dd6 | exact dd7 | exact dd8))

set_option maxRecDepth 100000 in
theorem quantum_high (x : Nat) (nn : FloatKind.f64.format.order x x = some .eq) (lo : (FloatKind.f64.format.order x leastB == some .lt) = false) (hi : (FloatKind.f64.format.order x mostB == some .gt) = true) : Ctr Try.prog 17 [.float .f64 x] [] (Ret fun v G => v = .tuple #[.int .i64 0, .bool false] ∧ G = []) := by
  refine spec_of [(0, _)] Try.func17 rfl Try.ntmps17 rfl rfl ?_
  intro w0 F
  refine w_seq ?_
  refine w_region ?_
  refine o_val (v_assign rfl) rfl ?_
  refine o_val (v_assign rfl) rfl ?_
  refine o_nil ?_
  refine thn_n ?_
  refine w_seq ?_
  refine w_seq ?_
  refine w_region ?_
  refine o_val (v_move rfl) rfl ?_
  refine o_call (isNaN x) T.b30  rfl .nil rfl ?_
  rintro _ _ ⟨rfl, rfl⟩
  rw [show (FloatKind.f64.format.order x x != some .eq) = false by rw [nn]; rfl]
  refine o_val (v_move rfl) rfl ?_
  refine o_want rfl ?_
  refine o_val (v_move rfl) rfl ?_
  refine o_want rfl ?_
  refine o_val (v_to (v := .bool false) (v_flt rfl rfl) (congrArg Value.bool lo)) rfl ?_
  refine o_val (v_pickF rfl rfl) rfl ?_
  refine o_val (v_move rfl) rfl ?_
  refine o_want rfl ?_
  refine o_val (v_move rfl) rfl ?_
  refine o_want rfl ?_
  refine o_val (v_to (v := .bool true) (v_fgt rfl rfl) (congrArg Value.bool hi)) rfl ?_
  refine o_val (v_pickF rfl rfl) rfl ?_
  refine o_nil ?_
  refine thn_n ?_
  refine w_condT rfl ?_
  refine w_seq ?_
  refine w_region ?_
  refine o_val (v_assign rfl) rfl ?_
  refine o_val (v_assign rfl) rfl ?_
  refine o_nil ?_
  refine thn_n ?_
  refine w_ret ?_
  refine (thn_r ?_)
  exact ret_ok (G := []) (res2 rfl rfl) ⟨rfl, rfl⟩ (sub .nil (by first | exact dd0 | exact dd1 | exact dd2 | exact dd3 | exact dd4 | exact dd5 | exact dd6 | exact dd7 | exact dd8))


theorem quantum_no (x : Nat) (hq : Nq x) : Ctr Try.prog 17 [.float .f64 x] [] (Ret fun v G => v = .tuple #[.int .i64 0, .bool false] ∧ G = []) := by
  by_cases nn : FloatKind.f64.format.order x x = some .eq
  · cases lo : (FloatKind.f64.format.order x leastB == some .lt) with
    | true => exact quantum_low x nn lo
    | false =>
      rcases hq with h | h | h
      · exact absurd nn h
      · rw [lo] at h; cases h
      · exact quantum_high x nn lo h
  · exact quantum_nan x nn


set_option maxRecDepth 100000 in
theorem join_bad (b : Nat) (who : Int) (x : Nat) (l : List Mb) (hl : l.length ≤ 1000) (hq : Nq x) (h0 : 0 ≤ who) (h8 : who < 8) : Ctr Try.prog 11 [.pointer (some ⟨b, 0, none⟩), .int .i64 who, .float .f64 x] [IsFair b l] (Ret fun v G => v = .int .i64 1 ∧ G = [IsFair b l]) := by
  refine spec_of [(0, _), (1, _), (2, _)] Try.func11 rfl Try.ntmps11 rfl rfl ?_
  intro w0 F
  refine w_seq ?_
  refine w_region ?_
  refine o_val (v_assign rfl) rfl ?_
  refine o_nil ?_
  refine thn_n ?_
  refine w_seq ?_
  refine w_region ?_
  refine o_val (v_move rfl) rfl ?_
  refine o_call (quantum_no x hq) T.b17  rfl .nil rfl ?_
  rintro _ _ ⟨rfl, rfl⟩
  refine o_val (v_move rfl) rfl ?_
  refine o_val (v_extract rfl rfl) rfl ?_
  refine o_val (v_extract rfl rfl) rfl ?_
  refine o_val (v_assign rfl) rfl ?_
  refine o_val (v_assign rfl) rfl ?_
  refine o_nil ?_
  refine thn_n ?_
  refine w_seq ?_
  refine w_block ?_
  refine w_seq ?_
  refine w_region ?_
  refine o_val (v_move rfl) rfl ?_
  refine o_val (v_to (v := .bool false) (v_eqnil Try.underlying24 rfl rfl) rfl) rfl ?_
  refine o_val (v_move rfl) rfl ?_
  refine o_want rfl ?_
  refine o_val (v_move rfl) rfl ?_
  refine o_want rfl ?_
  refine o_val (v_F (v_lss rfl rfl) (by omega)) rfl ?_
  refine o_val (v_pickF rfl rfl) rfl ?_
  refine o_val (v_move rfl) rfl ?_
  refine o_want rfl ?_
  refine o_val (v_move rfl) rfl ?_
  refine o_want rfl ?_
  refine o_val (v_F (v_geq rfl rfl) (by omega)) rfl ?_
  refine o_val (v_pickF rfl rfl) rfl ?_
  refine o_val (v_move rfl) rfl ?_
  refine o_want rfl ?_
  refine o_val (v_move rfl) rfl ?_
  refine o_want rfl ?_
  refine o_val (v_to (v := .bool true) (v_not rfl) rfl) rfl ?_
  refine o_val (v_pickF rfl rfl) rfl ?_
  refine o_val (v_assign rfl) rfl ?_
  refine o_nil ?_
  refine thn_n ?_
  refine w_condT rfl ?_
  refine w_seq ?_
  refine w_region ?_
  refine o_val (v_assign rfl) rfl ?_
  refine o_nil ?_
  refine thn_n ?_
  refine w_ret ?_
  refine (blk_r (thn_r ?_))
  exact ret_ok (G := [_]) (res1 rfl) ⟨rfl, rfl⟩ (sub (.cons (by first | exact rr0 | exact rr1 | exact rr2 | exact rr3 | exact rr4 | exact rr5 | exact rr6 | exact rr7) .nil) (by first | exact dd0 | exact dd1 | exact dd2 | exact dd3 | exact dd4 | exact dd5 | exact dd6 | exact dd7 | exact dd8))

set_option maxRecDepth 100000 in
theorem join_in (b : Nat) (who : Int) (x : Nat) (l : List Mb) (hl : l.length ≤ 1000) (q : Int) (hq : Fq x q) (h0 : 0 ≤ who) (h8 : who < 8) (i : Nat) (hi : l.findIdx? (isWho who) = some i) : Ctr Try.prog 11 [.pointer (some ⟨b, 0, none⟩), .int .i64 who, .float .f64 x] [IsFair b l] (Ret fun v G => v = .int .i64 12 ∧ G = [IsFair b l]) := by
  refine spec_of [(0, _), (1, _), (2, _)] Try.func11 rfl Try.ntmps11 rfl rfl ?_
  intro w0 F
  refine w_seq ?_
  refine w_region ?_
  refine o_val (v_assign rfl) rfl ?_
  refine o_nil ?_
  refine thn_n ?_
  refine w_seq ?_
  refine w_region ?_
  refine o_val (v_move rfl) rfl ?_
  refine o_call (quantum_yes x q hq) T.b17  rfl .nil rfl ?_
  rintro _ _ ⟨rfl, rfl⟩
  refine o_val (v_move rfl) rfl ?_
  refine o_val (v_extract rfl rfl) rfl ?_
  refine o_val (v_extract rfl rfl) rfl ?_
  refine o_val (v_assign rfl) rfl ?_
  refine o_val (v_assign rfl) rfl ?_
  refine o_nil ?_
  refine thn_n ?_
  refine w_seq ?_
  refine w_block ?_
  refine w_seq ?_
  refine w_region ?_
  refine o_val (v_move rfl) rfl ?_
  refine o_val (v_to (v := .bool false) (v_eqnil Try.underlying24 rfl rfl) rfl) rfl ?_
  refine o_val (v_move rfl) rfl ?_
  refine o_want rfl ?_
  refine o_val (v_move rfl) rfl ?_
  refine o_want rfl ?_
  refine o_val (v_F (v_lss rfl rfl) (by omega)) rfl ?_
  refine o_val (v_pickF rfl rfl) rfl ?_
  refine o_val (v_move rfl) rfl ?_
  refine o_want rfl ?_
  refine o_val (v_move rfl) rfl ?_
  refine o_want rfl ?_
  refine o_val (v_F (v_geq rfl rfl) (by omega)) rfl ?_
  refine o_val (v_pickF rfl rfl) rfl ?_
  refine o_val (v_move rfl) rfl ?_
  refine o_want rfl ?_
  refine o_val (v_move rfl) rfl ?_
  refine o_want rfl ?_
  refine o_val (v_to (v := .bool false) (v_not rfl) rfl) rfl ?_
  refine o_val (v_pickF rfl rfl) rfl ?_
  refine o_val (v_assign rfl) rfl ?_
  refine o_nil ?_
  refine thn_n ?_
  refine w_condF rfl ?_
  refine w_seq ?_
  refine w_region ?_
  refine o_val (v_move rfl) rfl ?_
  refine o_val (v_move rfl) rfl ?_
  refine o_call (place_some b who l hl i hi) T.b25  rfl (.cons (by first | exact rr0 | exact rr1 | exact rr2 | exact rr3 | exact rr4 | exact rr5 | exact rr6 | exact rr7) .nil) rfl ?_
  rintro _ _ ⟨rfl, rfl⟩
  refine o_val (v_T (v_geq rfl rfl) (by omega)) rfl ?_
  refine o_val (v_assign rfl) rfl ?_
  refine o_nil ?_
  refine thn_n ?_
  refine w_condT rfl ?_
  refine w_seq ?_
  refine w_region ?_
  refine o_val (v_assign rfl) rfl ?_
  refine o_nil ?_
  refine thn_n ?_
  refine w_ret ?_
  refine (blk_r (thn_r ?_))
  exact ret_ok (G := [_]) (res1 rfl) ⟨rfl, rfl⟩ (sub (.cons (by first | exact rr0 | exact rr1 | exact rr2 | exact rr3 | exact rr4 | exact rr5 | exact rr6 | exact rr7) .nil) (by first | exact dd0 | exact dd1 | exact dd2 | exact dd3 | exact dd4 | exact dd5 | exact dd6 | exact dd7 | exact dd8))

set_option maxRecDepth 100000 in
theorem join_ok (b : Nat) (who : Int) (x : Nat) (l : List Mb) (hl : l.length ≤ 1000) (q : Int) (hq : Fq x q) (h0 : 0 ≤ who) (h8 : who < 8) (hi : l.findIdx? (isWho who) = none) : Ctr Try.prog 11 [.pointer (some ⟨b, 0, none⟩), .int .i64 who, .float .f64 x] [IsFair b l] (Ret fun v G => v = .int .i64 0 ∧ G = [IsFair b (l ++ [⟨who, q, 0⟩])]) := by
  refine spec_of [(0, _), (1, _), (2, _)] Try.func11 rfl Try.ntmps11 rfl rfl ?_
  intro w0 F
  refine w_seq ?_
  refine w_region ?_
  refine o_val (v_assign rfl) rfl ?_
  refine o_nil ?_
  refine thn_n ?_
  refine w_seq ?_
  refine w_region ?_
  refine o_val (v_move rfl) rfl ?_
  refine o_call (quantum_yes x q hq) T.b17  rfl .nil rfl ?_
  rintro _ _ ⟨rfl, rfl⟩
  refine o_val (v_move rfl) rfl ?_
  refine o_val (v_extract rfl rfl) rfl ?_
  refine o_val (v_extract rfl rfl) rfl ?_
  refine o_val (v_assign rfl) rfl ?_
  refine o_val (v_assign rfl) rfl ?_
  refine o_nil ?_
  refine thn_n ?_
  refine w_seq ?_
  refine w_block ?_
  refine w_seq ?_
  refine w_region ?_
  refine o_val (v_move rfl) rfl ?_
  refine o_val (v_to (v := .bool false) (v_eqnil Try.underlying24 rfl rfl) rfl) rfl ?_
  refine o_val (v_move rfl) rfl ?_
  refine o_want rfl ?_
  refine o_val (v_move rfl) rfl ?_
  refine o_want rfl ?_
  refine o_val (v_F (v_lss rfl rfl) (by omega)) rfl ?_
  refine o_val (v_pickF rfl rfl) rfl ?_
  refine o_val (v_move rfl) rfl ?_
  refine o_want rfl ?_
  refine o_val (v_move rfl) rfl ?_
  refine o_want rfl ?_
  refine o_val (v_F (v_geq rfl rfl) (by omega)) rfl ?_
  refine o_val (v_pickF rfl rfl) rfl ?_
  refine o_val (v_move rfl) rfl ?_
  refine o_want rfl ?_
  refine o_val (v_move rfl) rfl ?_
  refine o_want rfl ?_
  refine o_val (v_to (v := .bool false) (v_not rfl) rfl) rfl ?_
  refine o_val (v_pickF rfl rfl) rfl ?_
  refine o_val (v_assign rfl) rfl ?_
  refine o_nil ?_
  refine thn_n ?_
  refine w_condF rfl ?_
  refine w_seq ?_
  refine w_region ?_
  refine o_val (v_move rfl) rfl ?_
  refine o_val (v_move rfl) rfl ?_
  refine o_call (place_none b who l hl hi) T.b25  rfl (.cons (by first | exact rr0 | exact rr1 | exact rr2 | exact rr3 | exact rr4 | exact rr5 | exact rr6 | exact rr7) .nil) rfl ?_
  rintro _ _ ⟨rfl, rfl⟩
  refine o_val (v_F (v_geq rfl rfl) (by omega)) rfl ?_
  refine o_val (v_assign rfl) rfl ?_
  refine o_nil ?_
  refine thn_n ?_
  refine w_condF rfl ?_
  refine w_skip ?_
  refine blk_n ?_
  refine thn_n ?_
  refine w_seq ?_
  refine w_opn (fun h hh => hh) ?_
  rintro ⟨p, cap⟩ _
  refine w_region ?_
  refine o_val (v_move rfl) rfl ?_
  refine o_val (v_move rfl) rfl ?_
  refine o_val (v_nil rfl) rfl ?_
  refine o_val (v_fieldAddr T.f55_0 rfl) rfl ?_
  refine o_val (v_load T.s53 rfl (by first | exact mm0 | exact mm1 | exact mm2 | exact mm3 | exact mm4 | exact mm5 | exact mm6 | exact mm7) rfl) rfl ?_
  refine o_val (v_move rfl) rfl ?_
  refine o_val (v_move rfl) rfl ?_
  refine o_val (v_build T.pl57 T.z57 rfl (cs := [_, _, _]) rfl) rfl ?_
  refine o_buildSlice (vs := enc ⟨who, q, 0⟩) T.sl53 T.z57 rfl rfl (pevs_spec rfl) rfl rfl rfl ?_
  intro b42
  refine o_append T.sl53 T.z57 rfl rfl rfl rfl (by first | exact rr0 | exact rr1 | exact rr2 | exact rr3 | exact rr4 | exact rr5 | exact rr6 | exact rr7) (by first | exact mm0 | exact mm1 | exact mm2 | exact mm3 | exact mm4 | exact mm5 | exact mm6 | exact mm7) (fun _ h => Sl.rd h) (by rfl) (by omega) rfl ?_
  intro p43 c43
  refine o_val (v_nil rfl) rfl ?_
  refine o_val (v_fieldAddr T.f55_0 rfl) rfl ?_
  refine o_eff (v_store T.s53 rfl rfl rfl (by first | exact pp0 | exact pp1 | exact pp2 | exact pp3 | exact pp4 | exact pp5 | exact pp6 | exact pp7) (by exact Nat.le_of_ble_eq_true rfl) rfl) ?_
  refine o_nil ?_
  refine thn_n ?_
  refine w_seq ?_
  refine w_region ?_
  refine o_val (v_assign rfl) rfl ?_
  refine o_nil ?_
  refine thn_n ?_
  refine w_ret ?_
  exact ret_ok (G := [IsFair b (l ++ [⟨who, q, 0⟩])]) (res1 rfl) ⟨rfl, rfl⟩ (fold' (.cons (by first | exact rr0 | exact rr1 | exact rr2 | exact rr3 | exact rr4 | exact rr5 | exact rr6 | exact rr7) (.cons (by first | exact rr0 | exact rr1 | exact rr2 | exact rr3 | exact rr4 | exact rr5 | exact rr6 | exact rr7) .nil)) (by first | exact dd0 | exact dd1 | exact dd2 | exact dd3 | exact dd4 | exact dd5 | exact dd6 | exact dd7 | exact dd8) (fun w0 h hh => fair_close' (by simp) (by simp) hh))

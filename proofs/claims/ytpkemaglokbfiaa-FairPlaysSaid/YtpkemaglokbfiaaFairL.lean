/-
  Steps of the proof: walks of functions that the statement reaches; printed by a program of ours.
-/
import Derived.Test.YtpkemaglokbfiaaFairK
import Derived.Test.YtpkemaglokbfiaaFairFloat2
import Derived.Test.YtpkemaglokbfiaaFairFacts
namespace Go.Proofs.Ytpkemaglokbfiaa
open Go.Sl Go.FairP Ieee
set_option linter.unusedVariables false
set_option linter.unusedSimpArgs false

theorem mul16L {x : Nat} (h : Wt x) : FloatKind.f64.format.mul 4625196817309499392 x = some (x + 18014398509481984) := by rw [f64_eq]; exact h.mulL
theorem near {q : Nat} (h1 : 1 ≤ q) (h2 : q ≤ 1025) : FloatKind.f64.nearest (q : Int) = double.write (.number false q 0) := (FairP.whole h1 h2).2.1
theorem below16 {x : Nat} (h : Wt x) : Value.bool (FloatKind.f64.format.order (double.write (.number false (quan x) 0)) (x + 18014398509481984) == some .lt || FloatKind.f64.format.order (double.write (.number false (quan x) 0)) (x + 18014398509481984) == some .eq) = .bool true := by
  rw [f64_eq]
  rcases h.below with e | e <;> rw [e] <;> rfl
theorem above16 {x : Nat} (h : Wt x) : Value.bool (FloatKind.f64.format.order (x + 18014398509481984) (double.write (.number false (quan x + 1) 0)) == some .lt) = .bool true := by
  rw [f64_eq, h.above]; rfl
theorem q_no (x : Nat) (hx : x < 18446744073709551616) (hn : ¬ Wt x) : Ctr Try.prog 17 [.float .f64 x] [] (Ret fun v G => v = .tuple #[.int .i64 0, .bool false] ∧ G = []) := by
  have h := p_quantum x hx
  simpa only [if_neg hn, decide_eq_false hn] using h
theorem q_no_r (x : Nat) (hx : x < 18446744073709551616) (hn : ¬ Wt x) : Ctr Try.prog 18 [.float .f64 x] [] (Ret fun v G => v = .tuple #[.int .i64 0, .bool false] ∧ G = []) := by
  have h := r_quantum x hx
  simpa only [if_neg hn, decide_eq_false hn] using h
theorem q_yes (x : Nat) (hx : x < 18446744073709551616) (hn : Wt x) : Ctr Try.prog 17 [.float .f64 x] [] (Ret fun v G => v = .tuple #[.int .i64 (quan x : Int), .bool true] ∧ G = []) := by
  have h := p_quantum x hx
  simpa only [if_pos hn, decide_eq_true hn] using h
theorem q_yes_r (x : Nat) (hx : x < 18446744073709551616) (hn : Wt x) : Ctr Try.prog 18 [.float .f64 x] [] (Ret fun v G => v = .tuple #[.int .i64 (quan x : Int), .bool true] ∧ G = []) := by
  have h := r_quantum x hx
  simpa only [if_pos hn, decide_eq_true hn] using h


set_option maxRecDepth 100000 in
theorem w_yes (x : Nat) (hx : x < 18446744073709551616) (h : Wt x) : Ctr Try.prog 6 [.float .f64 x] [] (Ret fun v G => v = .bool true ∧ G = []) := by
  refine spec_of [(0, _)] Try.func6 rfl Try.ntmps6 rfl rfl ?_
  intro w0 F
  refine w_seq ?_
  refine w_region ?_
  refine o_val (v_assign rfl) rfl ?_
  refine o_nil ?_
  refine thn_n ?_
  refine w_seq ?_
  refine w_seq ?_
  refine w_region ?_
  refine o_call (awake) V.b9  rfl .nil rfl ?_
  rintro _ _ ⟨rfl, rfl⟩
  refine o_val (v_to (v := .bool false) (v_not rfl) rfl) rfl ?_
  refine o_nil ?_
  refine thn_n ?_
  refine w_condF rfl ?_
  refine w_skip ?_
  refine thn_n ?_
  refine w_seq ?_
  refine w_region ?_
  refine o_val (v_move rfl) rfl ?_
  refine o_call (q_yes x hx h) V.b17  rfl .nil rfl ?_
  rintro _ _ ⟨rfl, rfl⟩
  refine o_val (v_move rfl) rfl ?_
  refine o_val (v_extract rfl rfl) rfl ?_
  refine o_val (v_extract rfl rfl) rfl ?_
  refine o_val (v_assign rfl) rfl ?_
  refine o_val (v_assign rfl) rfl ?_
  refine o_nil ?_
  refine thn_n ?_
  refine w_seq ?_
  refine w_region ?_
  refine o_val (v_move rfl) rfl ?_
  refine o_call (q_yes_r x hx h) V.b18  rfl .nil rfl ?_
  rintro _ _ ⟨rfl, rfl⟩
  refine o_val (v_move rfl) rfl ?_
  refine o_val (v_extract rfl rfl) rfl ?_
  refine o_val (v_extract rfl rfl) rfl ?_
  refine o_val (v_assign rfl) rfl ?_
  refine o_val (v_assign rfl) rfl ?_
  refine o_nil ?_
  refine thn_n ?_
  refine w_seq ?_
  refine w_region ?_
  refine o_val (v_move rfl) rfl ?_
  refine o_val (v_move rfl) rfl ?_
  refine o_val (v_T (v_eql rfl rfl) rfl) rfl ?_
  refine o_val (v_move rfl) rfl ?_
  refine o_want rfl ?_
  refine o_val (v_move rfl) rfl ?_
  refine o_want rfl ?_
  refine o_val (v_move rfl) rfl ?_
  refine o_want rfl ?_
  refine o_val (v_to (v := .bool true) (v_eqb Try.underlying4 rfl rfl) rfl) rfl ?_
  refine o_val (v_pickT rfl rfl) rfl ?_
  refine o_val (v_move rfl) rfl ?_
  refine o_want rfl ?_
  refine o_val (v_move rfl) rfl ?_
  refine o_want rfl ?_
  refine o_val (v_to (v := .bool false) (v_not rfl) rfl) rfl ?_
  refine o_want rfl ?_
  refine o_val (v_move rfl) rfl ?_
  refine o_want rfl ?_
  refine o_val (v_move rfl) rfl ?_
  refine o_want rfl ?_
  refine o_val (v_T (v_geq rfl rfl) (by have := h.qb; omega)) rfl ?_
  refine o_want rfl ?_
  refine o_val (v_move rfl) rfl ?_
  refine o_want rfl ?_
  refine o_val (v_move rfl) rfl ?_
  refine o_want rfl ?_
  refine o_val (v_T (v_leq rfl rfl) (by have := h.qb; omega)) rfl ?_
  refine o_want rfl ?_
  refine o_val (v_pickT rfl rfl) rfl ?_
  refine o_want rfl ?_
  refine o_val (v_move rfl) rfl ?_
  refine o_want rfl ?_
  refine o_val (v_move rfl) rfl ?_
  refine o_want rfl ?_
  refine o_val (v_itof Try.underlying3 Try.underlying30 rfl (near h.qb.1 (by have := h.qb; omega))) rfl ?_
  refine o_want rfl ?_
  refine o_val (v_move rfl) rfl ?_
  refine o_want rfl ?_
  refine o_val (v_fmul rfl rfl (mul16L h)) rfl ?_
  refine o_want rfl ?_
  refine o_val (v_to (v := .bool true) (v_fle rfl rfl) (below16 h)) rfl ?_
  refine o_want rfl ?_
  refine o_val (v_pickT rfl rfl) rfl ?_
  refine o_want rfl ?_
  refine o_val (v_move rfl) rfl ?_
  refine o_want rfl ?_
  refine o_val (v_move rfl) rfl ?_
  refine o_want rfl ?_
  refine o_val (v_fmul rfl rfl (mul16L h)) rfl ?_
  refine o_want rfl ?_
  refine o_val (v_move rfl) rfl ?_
  refine o_want rfl ?_
  refine o_val (v_add rfl rfl (wrapI (by omega) (by have := h.qb; omega))) rfl ?_
  refine o_want rfl ?_
  refine o_val (v_itof Try.underlying3 Try.underlying30 rfl (near (q := quan x + 1) (by omega) (by have := h.qb; omega))) rfl ?_
  refine o_want rfl ?_
  refine o_val (v_to (v := .bool true) (v_flt rfl rfl) (above16 h)) rfl ?_
  refine o_want rfl ?_
  refine o_val (v_pickT rfl rfl) rfl ?_
  refine o_want rfl ?_
  refine o_val (v_pickF rfl rfl) rfl ?_
  refine o_val (v_pickT rfl rfl) rfl ?_
  refine o_val (v_move rfl) rfl ?_
  refine o_want rfl ?_
  refine o_val (v_move rfl) rfl ?_
  refine o_want rfl ?_
  refine o_val (v_move rfl) rfl ?_
  refine o_pass rfl rfl rfl ?_
  refine o_pass rfl rfl rfl ?_
  refine o_pass rfl rfl rfl ?_
  refine o_want rfl ?_
  refine o_val (v_pickT rfl rfl) rfl ?_
  refine o_want rfl ?_
  refine o_val (v_move rfl) rfl ?_
  refine o_pass rfl rfl rfl ?_
  refine o_pass rfl rfl rfl ?_
  refine o_want rfl ?_
  refine o_val (v_pickT rfl rfl) rfl ?_
  refine o_want rfl ?_
  refine o_val (v_move rfl) rfl ?_
  refine o_pass rfl rfl rfl ?_
  refine o_pass rfl rfl rfl ?_
  refine o_want rfl ?_
  refine o_val (v_pickT rfl rfl) rfl ?_
  refine o_val (v_pickT rfl rfl) rfl ?_
  refine o_val (v_assign rfl) rfl ?_
  refine o_nil ?_
  refine thn_n ?_
  refine w_ret ?_
  exact ret_ok (G := []) (res1 rfl) ⟨rfl, rfl⟩ (sub .nil (by first | exact dd0 | exact dd1 | exact dd2 | exact dd3 | exact dd4 | exact dd5 | exact dd6 | exact dd7 | exact dd8 | exact dd9 | exact dd10 | exact dd11 | exact dd12 | exact dd13 | exact dd14))

set_option maxRecDepth 100000 in
theorem w_nan (x : Nat) (hx : x < 18446744073709551616) (hn : ¬ Wt x) (h1 : (FloatKind.f64.format.order x x != some .eq) = true) : Ctr Try.prog 6 [.float .f64 x] [] (Ret fun v G => v = .bool true ∧ G = []) := by
  refine spec_of [(0, _)] Try.func6 rfl Try.ntmps6 rfl rfl ?_
  intro w0 F
  refine w_seq ?_
  refine w_region ?_
  refine o_val (v_assign rfl) rfl ?_
  refine o_nil ?_
  refine thn_n ?_
  refine w_seq ?_
  refine w_seq ?_
  refine w_region ?_
  refine o_call (awake) V.b9  rfl .nil rfl ?_
  rintro _ _ ⟨rfl, rfl⟩
  refine o_val (v_to (v := .bool false) (v_not rfl) rfl) rfl ?_
  refine o_nil ?_
  refine thn_n ?_
  refine w_condF rfl ?_
  refine w_skip ?_
  refine thn_n ?_
  refine w_seq ?_
  refine w_region ?_
  refine o_val (v_move rfl) rfl ?_
  refine o_call (q_no x hx hn) V.b17  rfl .nil rfl ?_
  rintro _ _ ⟨rfl, rfl⟩
  refine o_val (v_move rfl) rfl ?_
  refine o_val (v_extract rfl rfl) rfl ?_
  refine o_val (v_extract rfl rfl) rfl ?_
  refine o_val (v_assign rfl) rfl ?_
  refine o_val (v_assign rfl) rfl ?_
  refine o_nil ?_
  refine thn_n ?_
  refine w_seq ?_
  refine w_region ?_
  refine o_val (v_move rfl) rfl ?_
  refine o_call (q_no_r x hx hn) V.b18  rfl .nil rfl ?_
  rintro _ _ ⟨rfl, rfl⟩
  refine o_val (v_move rfl) rfl ?_
  refine o_val (v_extract rfl rfl) rfl ?_
  refine o_val (v_extract rfl rfl) rfl ?_
  refine o_val (v_assign rfl) rfl ?_
  refine o_val (v_assign rfl) rfl ?_
  refine o_nil ?_
  refine thn_n ?_
  refine w_seq ?_
  refine w_region ?_
  refine o_val (v_move rfl) rfl ?_
  refine o_val (v_move rfl) rfl ?_
  refine o_val (v_T (v_eql rfl rfl) rfl) rfl ?_
  refine o_val (v_move rfl) rfl ?_
  refine o_want rfl ?_
  refine o_val (v_move rfl) rfl ?_
  refine o_want rfl ?_
  refine o_val (v_move rfl) rfl ?_
  refine o_want rfl ?_
  refine o_val (v_to (v := .bool true) (v_eqb Try.underlying4 rfl rfl) rfl) rfl ?_
  refine o_val (v_pickT rfl rfl) rfl ?_
  refine o_val (v_move rfl) rfl ?_
  refine o_want rfl ?_
  refine o_val (v_move rfl) rfl ?_
  refine o_want rfl ?_
  refine o_val (v_to (v := .bool true) (v_not rfl) rfl) rfl ?_
  refine o_want rfl ?_
  refine o_val (v_move rfl) rfl ?_
  refine o_pass rfl rfl rfl ?_
  refine o_pass rfl rfl rfl ?_
  refine o_pass rfl rfl rfl ?_
  refine o_passU rfl rfl rfl rfl ?_
  refine o_passU rfl rfl rfl rfl ?_
  refine o_pass rfl rfl rfl ?_
  refine o_pass rfl rfl rfl ?_
  refine o_passU rfl rfl rfl rfl ?_
  refine o_passU rfl rfl rfl rfl ?_
  refine o_passU rfl rfl rfl rfl ?_
  refine o_passU rfl rfl rfl rfl ?_
  refine o_passU rfl rfl rfl rfl ?_
  refine o_pass rfl rfl rfl ?_
  refine o_pass rfl rfl rfl ?_
  refine o_passU rfl rfl rfl rfl ?_
  refine o_passU rfl rfl rfl rfl ?_
  refine o_passU rfl rfl rfl rfl ?_
  refine o_passU rfl rfl rfl rfl ?_
  refine o_passU rfl rfl rfl rfl ?_
  refine o_passU rfl rfl rfl rfl ?_
  refine o_pass rfl rfl rfl ?_
  refine o_want rfl ?_
  refine o_val (v_pickT rfl rfl) rfl ?_
  refine o_val (v_pickT rfl rfl) rfl ?_
  refine o_val (v_move rfl) rfl ?_
  refine o_want rfl ?_
  refine o_val (v_move rfl) rfl ?_
  refine o_want rfl ?_
  refine o_val (v_move rfl) rfl ?_
  refine o_want rfl ?_
  refine o_val (v_move rfl) rfl ?_
  refine o_want rfl ?_
  refine o_val (v_move rfl) rfl ?_
  refine o_want rfl ?_
  refine o_val (v_to (v := .bool true) (v_fne rfl rfl) (by rw [h1])) rfl ?_
  refine o_want rfl ?_
  refine o_val (v_pickF rfl rfl) rfl ?_
  refine o_want rfl ?_
  refine o_val (v_move rfl) rfl ?_
  refine o_pass rfl rfl rfl ?_
  refine o_pass rfl rfl rfl ?_
  refine o_want rfl ?_
  refine o_val (v_pickT rfl rfl) rfl ?_
  refine o_want rfl ?_
  refine o_val (v_move rfl) rfl ?_
  refine o_pass rfl rfl rfl ?_
  refine o_pass rfl rfl rfl ?_
  refine o_want rfl ?_
  refine o_val (v_pickT rfl rfl) rfl ?_
  refine o_val (v_pickT rfl rfl) rfl ?_
  refine o_val (v_assign rfl) rfl ?_
  refine o_nil ?_
  refine thn_n ?_
  refine w_ret ?_
  exact ret_ok (G := []) (res1 rfl) ⟨rfl, rfl⟩ (sub .nil (by first | exact dd0 | exact dd1 | exact dd2 | exact dd3 | exact dd4 | exact dd5 | exact dd6 | exact dd7 | exact dd8 | exact dd9 | exact dd10 | exact dd11 | exact dd12 | exact dd13 | exact dd14))

set_option maxRecDepth 100000 in
theorem w_lo (x : Nat) (hx : x < 18446744073709551616) (hn : ¬ Wt x) (h1 : (FloatKind.f64.format.order x x != some .eq) = false) (h2 : (FloatKind.f64.format.order x 4589168020290535424 == some .lt) = true) : Ctr Try.prog 6 [.float .f64 x] [] (Ret fun v G => v = .bool true ∧ G = []) := by
  refine spec_of [(0, _)] Try.func6 rfl Try.ntmps6 rfl rfl ?_
  intro w0 F
  refine w_seq ?_
  refine w_region ?_
  refine o_val (v_assign rfl) rfl ?_
  refine o_nil ?_
  refine thn_n ?_
  refine w_seq ?_
  refine w_seq ?_
  refine w_region ?_
  refine o_call (awake) V.b9  rfl .nil rfl ?_
  rintro _ _ ⟨rfl, rfl⟩
  refine o_val (v_to (v := .bool false) (v_not rfl) rfl) rfl ?_
  refine o_nil ?_
  refine thn_n ?_
  refine w_condF rfl ?_
  refine w_skip ?_
  refine thn_n ?_
  refine w_seq ?_
  refine w_region ?_
  refine o_val (v_move rfl) rfl ?_
  refine o_call (q_no x hx hn) V.b17  rfl .nil rfl ?_
  rintro _ _ ⟨rfl, rfl⟩
  refine o_val (v_move rfl) rfl ?_
  refine o_val (v_extract rfl rfl) rfl ?_
  refine o_val (v_extract rfl rfl) rfl ?_
  refine o_val (v_assign rfl) rfl ?_
  refine o_val (v_assign rfl) rfl ?_
  refine o_nil ?_
  refine thn_n ?_
  refine w_seq ?_
  refine w_region ?_
  refine o_val (v_move rfl) rfl ?_
  refine o_call (q_no_r x hx hn) V.b18  rfl .nil rfl ?_
  rintro _ _ ⟨rfl, rfl⟩
  refine o_val (v_move rfl) rfl ?_
  refine o_val (v_extract rfl rfl) rfl ?_
  refine o_val (v_extract rfl rfl) rfl ?_
  refine o_val (v_assign rfl) rfl ?_
  refine o_val (v_assign rfl) rfl ?_
  refine o_nil ?_
  refine thn_n ?_
  refine w_seq ?_
  refine w_region ?_
  refine o_val (v_move rfl) rfl ?_
  refine o_val (v_move rfl) rfl ?_
  refine o_val (v_T (v_eql rfl rfl) rfl) rfl ?_
  refine o_val (v_move rfl) rfl ?_
  refine o_want rfl ?_
  refine o_val (v_move rfl) rfl ?_
  refine o_want rfl ?_
  refine o_val (v_move rfl) rfl ?_
  refine o_want rfl ?_
  refine o_val (v_to (v := .bool true) (v_eqb Try.underlying4 rfl rfl) rfl) rfl ?_
  refine o_val (v_pickT rfl rfl) rfl ?_
  refine o_val (v_move rfl) rfl ?_
  refine o_want rfl ?_
  refine o_val (v_move rfl) rfl ?_
  refine o_want rfl ?_
  refine o_val (v_to (v := .bool true) (v_not rfl) rfl) rfl ?_
  refine o_want rfl ?_
  refine o_val (v_move rfl) rfl ?_
  refine o_pass rfl rfl rfl ?_
  refine o_pass rfl rfl rfl ?_
  refine o_pass rfl rfl rfl ?_
  refine o_passU rfl rfl rfl rfl ?_
  refine o_passU rfl rfl rfl rfl ?_
  refine o_pass rfl rfl rfl ?_
  refine o_pass rfl rfl rfl ?_
  refine o_passU rfl rfl rfl rfl ?_
  refine o_passU rfl rfl rfl rfl ?_
  refine o_passU rfl rfl rfl rfl ?_
  refine o_passU rfl rfl rfl rfl ?_
  refine o_passU rfl rfl rfl rfl ?_
  refine o_pass rfl rfl rfl ?_
  refine o_pass rfl rfl rfl ?_
  refine o_passU rfl rfl rfl rfl ?_
  refine o_passU rfl rfl rfl rfl ?_
  refine o_passU rfl rfl rfl rfl ?_
  refine o_passU rfl rfl rfl rfl ?_
  refine o_passU rfl rfl rfl rfl ?_
  refine o_passU rfl rfl rfl rfl ?_
  refine o_pass rfl rfl rfl ?_
  refine o_want rfl ?_
  refine o_val (v_pickT rfl rfl) rfl ?_
  refine o_val (v_pickT rfl rfl) rfl ?_
  refine o_val (v_move rfl) rfl ?_
  refine o_want rfl ?_
  refine o_val (v_move rfl) rfl ?_
  refine o_want rfl ?_
  refine o_val (v_move rfl) rfl ?_
  refine o_want rfl ?_
  refine o_val (v_move rfl) rfl ?_
  refine o_want rfl ?_
  refine o_val (v_move rfl) rfl ?_
  refine o_want rfl ?_
  refine o_val (v_to (v := .bool false) (v_fne rfl rfl) (by rw [h1])) rfl ?_
  refine o_want rfl ?_
  refine o_val (v_pickF rfl rfl) rfl ?_
  refine o_want rfl ?_
  refine o_val (v_move rfl) rfl ?_
  refine o_want rfl ?_
  refine o_val (v_move rfl) rfl ?_
  refine o_want rfl ?_
  refine o_val (v_to (v := .bool true) (v_flt rfl rfl) (by rw [h2])) rfl ?_
  refine o_want rfl ?_
  refine o_val (v_pickF rfl rfl) rfl ?_
  refine o_want rfl ?_
  refine o_val (v_move rfl) rfl ?_
  refine o_pass rfl rfl rfl ?_
  refine o_pass rfl rfl rfl ?_
  refine o_want rfl ?_
  refine o_val (v_pickT rfl rfl) rfl ?_
  refine o_val (v_pickT rfl rfl) rfl ?_
  refine o_val (v_assign rfl) rfl ?_
  refine o_nil ?_
  refine thn_n ?_
  refine w_ret ?_
  exact ret_ok (G := []) (res1 rfl) ⟨rfl, rfl⟩ (sub .nil (by first | exact dd0 | exact dd1 | exact dd2 | exact dd3 | exact dd4 | exact dd5 | exact dd6 | exact dd7 | exact dd8 | exact dd9 | exact dd10 | exact dd11 | exact dd12 | exact dd13 | exact dd14))

set_option maxRecDepth 100000 in
theorem w_hi (x : Nat) (hx : x < 18446744073709551616) (hn : ¬ Wt x) (h1 : (FloatKind.f64.format.order x x != some .eq) = false) (h2 : (FloatKind.f64.format.order x 4589168020290535424 == some .lt) = false) (h3 : (FloatKind.f64.format.order x 4634204016564240384 == some .gt) = true) : Ctr Try.prog 6 [.float .f64 x] [] (Ret fun v G => v = .bool true ∧ G = []) := by
  refine spec_of [(0, _)] Try.func6 rfl Try.ntmps6 rfl rfl ?_
  intro w0 F
  refine w_seq ?_
  refine w_region ?_
  refine o_val (v_assign rfl) rfl ?_
  refine o_nil ?_
  refine thn_n ?_
  refine w_seq ?_
  refine w_seq ?_
  refine w_region ?_
  refine o_call (awake) V.b9  rfl .nil rfl ?_
  rintro _ _ ⟨rfl, rfl⟩
  refine o_val (v_to (v := .bool false) (v_not rfl) rfl) rfl ?_
  refine o_nil ?_
  refine thn_n ?_
  refine w_condF rfl ?_
  refine w_skip ?_
  refine thn_n ?_
  refine w_seq ?_
  refine w_region ?_
  refine o_val (v_move rfl) rfl ?_
  refine o_call (q_no x hx hn) V.b17  rfl .nil rfl ?_
  rintro _ _ ⟨rfl, rfl⟩
  refine o_val (v_move rfl) rfl ?_
  refine o_val (v_extract rfl rfl) rfl ?_
  refine o_val (v_extract rfl rfl) rfl ?_
  refine o_val (v_assign rfl) rfl ?_
  refine o_val (v_assign rfl) rfl ?_
  refine o_nil ?_
  refine thn_n ?_
  refine w_seq ?_
  refine w_region ?_
  refine o_val (v_move rfl) rfl ?_
  refine o_call (q_no_r x hx hn) V.b18  rfl .nil rfl ?_
  rintro _ _ ⟨rfl, rfl⟩
  refine o_val (v_move rfl) rfl ?_
  refine o_val (v_extract rfl rfl) rfl ?_
  refine o_val (v_extract rfl rfl) rfl ?_
  refine o_val (v_assign rfl) rfl ?_
  refine o_val (v_assign rfl) rfl ?_
  refine o_nil ?_
  refine thn_n ?_
  refine w_seq ?_
  refine w_region ?_
  refine o_val (v_move rfl) rfl ?_
  refine o_val (v_move rfl) rfl ?_
  refine o_val (v_T (v_eql rfl rfl) rfl) rfl ?_
  refine o_val (v_move rfl) rfl ?_
  refine o_want rfl ?_
  refine o_val (v_move rfl) rfl ?_
  refine o_want rfl ?_
  refine o_val (v_move rfl) rfl ?_
  refine o_want rfl ?_
  refine o_val (v_to (v := .bool true) (v_eqb Try.underlying4 rfl rfl) rfl) rfl ?_
  refine o_val (v_pickT rfl rfl) rfl ?_
  refine o_val (v_move rfl) rfl ?_
  refine o_want rfl ?_
  refine o_val (v_move rfl) rfl ?_
  refine o_want rfl ?_
  refine o_val (v_to (v := .bool true) (v_not rfl) rfl) rfl ?_
  refine o_want rfl ?_
  refine o_val (v_move rfl) rfl ?_
  refine o_pass rfl rfl rfl ?_
  refine o_pass rfl rfl rfl ?_
  refine o_pass rfl rfl rfl ?_
  refine o_passU rfl rfl rfl rfl ?_
  refine o_passU rfl rfl rfl rfl ?_
  refine o_pass rfl rfl rfl ?_
  refine o_pass rfl rfl rfl ?_
  refine o_passU rfl rfl rfl rfl ?_
  refine o_passU rfl rfl rfl rfl ?_
  refine o_passU rfl rfl rfl rfl ?_
  refine o_passU rfl rfl rfl rfl ?_
  refine o_passU rfl rfl rfl rfl ?_
  refine o_pass rfl rfl rfl ?_
  refine o_pass rfl rfl rfl ?_
  refine o_passU rfl rfl rfl rfl ?_
  refine o_passU rfl rfl rfl rfl ?_
  refine o_passU rfl rfl rfl rfl ?_
  refine o_passU rfl rfl rfl rfl ?_
  refine o_passU rfl rfl rfl rfl ?_
  refine o_passU rfl rfl rfl rfl ?_
  refine o_pass rfl rfl rfl ?_
  refine o_want rfl ?_
  refine o_val (v_pickT rfl rfl) rfl ?_
  refine o_val (v_pickT rfl rfl) rfl ?_
  refine o_val (v_move rfl) rfl ?_
  refine o_want rfl ?_
  refine o_val (v_move rfl) rfl ?_
  refine o_want rfl ?_
  refine o_val (v_move rfl) rfl ?_
  refine o_want rfl ?_
  refine o_val (v_move rfl) rfl ?_
  refine o_want rfl ?_
  refine o_val (v_move rfl) rfl ?_
  refine o_want rfl ?_
  refine o_val (v_to (v := .bool false) (v_fne rfl rfl) (by rw [h1])) rfl ?_
  refine o_want rfl ?_
  refine o_val (v_pickF rfl rfl) rfl ?_
  refine o_want rfl ?_
  refine o_val (v_move rfl) rfl ?_
  refine o_want rfl ?_
  refine o_val (v_move rfl) rfl ?_
  refine o_want rfl ?_
  refine o_val (v_to (v := .bool false) (v_flt rfl rfl) (by rw [h2])) rfl ?_
  refine o_want rfl ?_
  refine o_val (v_pickF rfl rfl) rfl ?_
  refine o_want rfl ?_
  refine o_val (v_move rfl) rfl ?_
  refine o_want rfl ?_
  refine o_val (v_move rfl) rfl ?_
  refine o_want rfl ?_
  refine o_val (v_to (v := .bool true) (v_fgt rfl rfl) (by rw [h3])) rfl ?_
  refine o_want rfl ?_
  refine o_val (v_pickF rfl rfl) rfl ?_
  refine o_val (v_pickT rfl rfl) rfl ?_
  refine o_val (v_assign rfl) rfl ?_
  refine o_nil ?_
  refine thn_n ?_
  refine w_ret ?_
  exact ret_ok (G := []) (res1 rfl) ⟨rfl, rfl⟩ (sub .nil (by first | exact dd0 | exact dd1 | exact dd2 | exact dd3 | exact dd4 | exact dd5 | exact dd6 | exact dd7 | exact dd8 | exact dd9 | exact dd10 | exact dd11 | exact dd12 | exact dd13 | exact dd14))

theorem weights (x : Nat) (hx : x < 18446744073709551616) : Ctr Try.prog 6 [.float .f64 x] [] (Ret fun v G => v = .bool true ∧ G = []) := by
  by_cases h : Wt x
  · exact w_yes x hx h
  · cases h1 : (FloatKind.f64.format.order x x != some .eq) with
    | true => exact w_nan x hx h h1
    | false =>
      cases h2 : (FloatKind.f64.format.order x 4589168020290535424 == some .lt) with
      | true => exact w_lo x hx h h1 h2
      | false =>
        refine w_hi x hx h h1 h2 ?_
        rw [f64_eq] at h1 h2 ⊢
        rcases not_wt hx h with e | e | e
        · rw [e] at h1; cases h1
        · rw [show double.order x 4589168020290535424 = _ from e] at h2; cases h2
        · rw [show double.order x 4634204016564240384 = _ from e]; rfl

end Go.Proofs.Ytpkemaglokbfiaa

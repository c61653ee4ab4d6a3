/- Steps of the proof: the walks of the functions that the statement reaches; printed by a program of ours. -/
import Derived.Test.YtpkemaglokbfiaaProg
import Derived.KernelRfl
import Derived.Test.YtpkemaglokbfiaaFairB
import Derived.Test.YtpkemaglokbfiaaFairPlain2
namespace Go.Proofs.Ytpkemaglokbfiaa
open Go.Sl Go.FairP
set_option linter.unusedVariables false
set_option linter.unusedSimpArgs false
theorem T.b28 : bodyB Try.prog 28 = true := by kernel_rfl
theorem T.sl27 : sliceB Try.prog 27 = some (3, 1, 8) := by kernel_rfl
theorem T.z3 : zeroB Try.prog 3 = some ([.int .i64 0]) := by kernel_rfl

set_option maxRecDepth 100000 in
theorem spend_no (b : Nat) (who n : Int) (l : List Mb) (hl : l.length ≤ 1000) (hn : idx l (isWho who) ≠ 0) : Ctr Try.prog 13 [.pointer (some ⟨b, 0, none⟩), .int .i64 who, .int .i64 n] [IsFair b l] (Ret fun v G => v = .bool false ∧ G = [IsFair b l]) := by
  refine spec_of [(0, _), (1, _), (2, _)] Try.func13 rfl Try.ntmps13 rfl rfl ?_
  intro w0 F
  refine w_seq ?_
  refine w_region ?_
  refine o_val (v_assign rfl) rfl ?_
  refine o_nil ?_
  refine thn_n ?_
  refine w_seq ?_
  refine w_seq ?_
  refine w_region ?_
  refine o_val (v_move rfl) rfl ?_
  refine o_val (v_move rfl) rfl ?_
  refine o_call (place b who l hl) T.b25  rfl (.cons (by first | exact rr0 | exact rr1 | exact rr2 | exact rr3 | exact rr4 | exact rr5 | exact rr6 | exact rr7) .nil) rfl ?_
  rintro _ _ ⟨rfl, rfl⟩
  refine o_val (v_T (v_neq rfl rfl) hn) rfl ?_
  refine o_val (v_move rfl) rfl ?_
  refine o_pass rfl rfl rfl ?_
  refine o_pass rfl rfl rfl ?_
  refine o_val (v_pickT rfl rfl) rfl ?_
  refine o_val (v_move rfl) rfl ?_
  refine o_pass rfl rfl rfl ?_
  refine o_pass rfl rfl rfl ?_
  refine o_pass rfl rfl rfl ?_
  refine o_pass rfl rfl rfl ?_
  refine o_pass rfl rfl rfl ?_
  refine o_pass rfl rfl rfl ?_
  refine o_pass rfl rfl rfl ?_
  refine o_pass rfl rfl rfl ?_
  refine o_pass rfl rfl rfl ?_
  refine o_val (v_pickT rfl rfl) rfl ?_
  refine o_nil ?_
  refine thn_n ?_
  refine w_condT rfl ?_
  refine w_seq ?_
  refine w_region ?_
  refine o_val (v_assign rfl) rfl ?_
  refine o_nil ?_
  refine thn_n ?_
  refine w_ret ?_
  refine (thn_r ?_)
  exact ret_ok (G := [_]) (res1 rfl) ⟨rfl, rfl⟩ (sub (.cons (by first | exact rr0 | exact rr1 | exact rr2 | exact rr3 | exact rr4 | exact rr5 | exact rr6 | exact rr7) .nil) (by first | exact dd0 | exact dd1 | exact dd2 | exact dd3 | exact dd4 | exact dd5 | exact dd6 | exact dd7 | exact dd8))

set_option maxRecDepth 100000 in
theorem spend_low (b : Nat) (who n : Int) (m : Mb) (r : List Mb) (hl : r.length ≤ 999) (hm : m.who = who) (hn : n < 1) : Ctr Try.prog 13 [.pointer (some ⟨b, 0, none⟩), .int .i64 who, .int .i64 n] [IsFair b (m :: r)] (Ret fun v G => v = .bool false ∧ G = [IsFair b (m :: r)]) := by
  refine spec_of [(0, _), (1, _), (2, _)] Try.func13 rfl Try.ntmps13 rfl rfl ?_
  intro w0 F
  refine w_seq ?_
  refine w_region ?_
  refine o_val (v_assign rfl) rfl ?_
  refine o_nil ?_
  refine thn_n ?_
  refine w_seq ?_
  refine w_seq ?_
  refine w_region ?_
  refine o_val (v_move rfl) rfl ?_
  refine o_val (v_move rfl) rfl ?_
  refine o_call (place_some b who (m :: r) (by simpa using hl) 0 (idx_head (by simpa [isWho] using hm))) T.b25  rfl (.cons (by first | exact rr0 | exact rr1 | exact rr2 | exact rr3 | exact rr4 | exact rr5 | exact rr6 | exact rr7) .nil) rfl ?_
  rintro _ _ ⟨rfl, rfl⟩
  refine o_val (v_F (v_neq rfl rfl) (by decide)) rfl ?_
  refine o_val (v_move rfl) rfl ?_
  refine o_want rfl ?_
  refine o_val (v_move rfl) rfl ?_
  refine o_want rfl ?_
  refine o_val (v_T (v_lss rfl rfl) hn) rfl ?_
  refine o_val (v_pickF rfl rfl) rfl ?_
  refine o_val (v_move rfl) rfl ?_
  refine o_pass rfl rfl rfl ?_
  refine o_pass rfl rfl rfl ?_
  refine o_pass rfl rfl rfl ?_
  refine o_pass rfl rfl rfl ?_
  refine o_pass rfl rfl rfl ?_
  refine o_pass rfl rfl rfl ?_
  refine o_pass rfl rfl rfl ?_
  refine o_pass rfl rfl rfl ?_
  refine o_pass rfl rfl rfl ?_
  refine o_val (v_pickT rfl rfl) rfl ?_
  refine o_nil ?_
  refine thn_n ?_
  refine w_condT rfl ?_
  refine w_seq ?_
  refine w_region ?_
  refine o_val (v_assign rfl) rfl ?_
  refine o_nil ?_
  refine thn_n ?_
  refine w_ret ?_
  refine (thn_r ?_)
  exact ret_ok (G := [_]) (res1 rfl) ⟨rfl, rfl⟩ (sub (.cons (by first | exact rr0 | exact rr1 | exact rr2 | exact rr3 | exact rr4 | exact rr5 | exact rr6 | exact rr7) .nil) (by first | exact dd0 | exact dd1 | exact dd2 | exact dd3 | exact dd4 | exact dd5 | exact dd6 | exact dd7 | exact dd8))

set_option maxRecDepth 100000 in
theorem spend_high (b : Nat) (who n : Int) (m : Mb) (r : List Mb) (hl : r.length ≤ 999) (hm : m.who = who) (hn : 1 ≤ n) (hc : m.c < n) : Ctr Try.prog 13 [.pointer (some ⟨b, 0, none⟩), .int .i64 who, .int .i64 n] [IsFair b (m :: r)] (Ret fun v G => v = .bool false ∧ G = [IsFair b (m :: r)]) := by
  refine spec_of [(0, _), (1, _), (2, _)] Try.func13 rfl Try.ntmps13 rfl rfl ?_
  intro w0 F
  refine w_seq ?_
  refine w_region ?_
  refine o_val (v_assign rfl) rfl ?_
  refine o_nil ?_
  refine thn_n ?_
  refine w_seq ?_
  refine w_seq ?_
  refine w_region ?_
  refine o_val (v_move rfl) rfl ?_
  refine o_val (v_move rfl) rfl ?_
  refine o_call (place_some b who (m :: r) (by simpa using hl) 0 (idx_head (by simpa [isWho] using hm))) T.b25  rfl (.cons (by first | exact rr0 | exact rr1 | exact rr2 | exact rr3 | exact rr4 | exact rr5 | exact rr6 | exact rr7) .nil) rfl ?_
  rintro _ _ ⟨rfl, rfl⟩
  refine o_val (v_F (v_neq rfl rfl) (by decide)) rfl ?_
  refine o_val (v_move rfl) rfl ?_
  refine o_want rfl ?_
  refine o_val (v_move rfl) rfl ?_
  refine o_want rfl ?_
  refine o_val (v_F (v_lss rfl rfl) (by omega)) rfl ?_
  refine o_val (v_pickF rfl rfl) rfl ?_
  refine o_val (v_move rfl) rfl ?_
  refine o_want rfl ?_
  refine o_val (v_move rfl) rfl ?_
  refine o_want rfl ?_
  refine o_val (v_move rfl) rfl ?_
  refine o_want rfl ?_
  refine o_val (v_nil rfl) rfl ?_
  refine o_opn (fun h hh => hh) ?_
  rintro ⟨p, cap⟩ _
  refine o_some (p := p) (by first | exact mm0 | exact mm1 | exact mm2 | exact mm3 | exact mm4 | exact mm5 | exact mm6 | exact mm7) (Nat.succ_pos _) (fun ba o e => ?_)
  subst e
  refine o_want rfl ?_
  refine o_val (v_fieldAddr T.f55_0 rfl) rfl ?_
  refine o_want rfl ?_
  refine o_val (v_load T.s53 rfl (by first | exact mm0 | exact mm1 | exact mm2 | exact mm3 | exact mm4 | exact mm5 | exact mm6 | exact mm7) rfl) rfl ?_
  refine o_want rfl ?_
  refine o_val (v_index 0 rfl T.sl53 rfl rfl (Nat.succ_pos _)) rfl ?_
  refine o_want rfl ?_
  refine o_val (v_fieldAddr T.f57_2 rfl) rfl ?_
  refine o_want rfl ?_
  refine o_val (v_loadS 2 T.s3 rfl (by first | exact mm0 | exact mm1 | exact mm2 | exact mm3 | exact mm4 | exact mm5 | exact mm6 | exact mm7) (by omega) rfl) rfl ?_
  refine o_want rfl ?_
  refine o_val (v_T (v_gtr rfl rfl) (by omega)) rfl ?_
  refine o_val (v_pickF rfl rfl) rfl ?_
  refine o_nil ?_
  refine thn_n ?_
  refine w_condT rfl ?_
  refine w_seq ?_
  refine w_region ?_
  refine o_val (v_assign rfl) rfl ?_
  refine o_nil ?_
  refine thn_n ?_
  refine w_ret ?_
  refine (thn_r ?_)
  exact ret_ok (G := [IsFair b (m :: r)]) (res1 rfl) ⟨rfl, rfl⟩ (fold' (.cons (by first | exact rr0 | exact rr1 | exact rr2 | exact rr3 | exact rr4 | exact rr5 | exact rr6 | exact rr7) (.cons (by first | exact rr0 | exact rr1 | exact rr2 | exact rr3 | exact rr4 | exact rr5 | exact rr6 | exact rr7) .nil)) (by first | exact dd0 | exact dd1 | exact dd2 | exact dd3 | exact dd4 | exact dd5 | exact dd6 | exact dd7 | exact dd8) (fun w0 h hh => fair_close' rfl rfl hh))

def spent (m : Mb) (n : Int) : Mb := { m with c := m.c - n }


set_option maxRecDepth 100000 in
theorem spend_some (b : Nat) (who n : Int) (m : Mb) (r : List Mb) (hl : r.length ≤ 999) (hm : m.who = who) (hn : 1 ≤ n) (hc : n < m.c) (hc2 : m.c ≤ 100000) : Ctr Try.prog 13 [.pointer (some ⟨b, 0, none⟩), .int .i64 who, .int .i64 n] [IsFair b (m :: r)] (Ret fun v G => v = .bool true ∧ G = [IsFair b (spent m n :: r)]) := by
  refine spec_of [(0, _), (1, _), (2, _)] Try.func13 rfl Try.ntmps13 rfl rfl ?_
  intro w0 F
  refine w_seq ?_
  refine w_region ?_
  refine o_val (v_assign rfl) rfl ?_
  refine o_nil ?_
  refine thn_n ?_
  refine w_seq ?_
  refine w_seq ?_
  refine w_region ?_
  refine o_val (v_move rfl) rfl ?_
  refine o_val (v_move rfl) rfl ?_
  refine o_call (place_some b who (m :: r) (by simpa using hl) 0 (idx_head (by simpa [isWho] using hm))) T.b25  rfl (.cons (by first | exact rr0 | exact rr1 | exact rr2 | exact rr3 | exact rr4 | exact rr5 | exact rr6 | exact rr7) .nil) rfl ?_
  rintro _ _ ⟨rfl, rfl⟩
  refine o_val (v_F (v_neq rfl rfl) (by decide)) rfl ?_
  refine o_val (v_move rfl) rfl ?_
  refine o_want rfl ?_
  refine o_val (v_move rfl) rfl ?_
  refine o_want rfl ?_
  refine o_val (v_F (v_lss rfl rfl) (by omega)) rfl ?_
  refine o_val (v_pickF rfl rfl) rfl ?_
  refine o_val (v_move rfl) rfl ?_
  refine o_want rfl ?_
  refine o_val (v_move rfl) rfl ?_
  refine o_want rfl ?_
  refine o_val (v_move rfl) rfl ?_
  refine o_want rfl ?_
  refine o_val (v_nil rfl) rfl ?_
  refine o_opn (fun h hh => hh) ?_
  rintro ⟨p, cap⟩ _
  refine o_some (p := p) (by first | exact mm0 | exact mm1 | exact mm2 | exact mm3 | exact mm4 | exact mm5 | exact mm6 | exact mm7) (Nat.succ_pos _) (fun ba o e => ?_)
  subst e
  refine o_want rfl ?_
  refine o_val (v_fieldAddr T.f55_0 rfl) rfl ?_
  refine o_want rfl ?_
  refine o_val (v_load T.s53 rfl (by first | exact mm0 | exact mm1 | exact mm2 | exact mm3 | exact mm4 | exact mm5 | exact mm6 | exact mm7) rfl) rfl ?_
  refine o_want rfl ?_
  refine o_val (v_index 0 rfl T.sl53 rfl rfl (Nat.succ_pos _)) rfl ?_
  refine o_want rfl ?_
  refine o_val (v_fieldAddr T.f57_2 rfl) rfl ?_
  refine o_want rfl ?_
  refine o_val (v_loadS 2 T.s3 rfl (by first | exact mm0 | exact mm1 | exact mm2 | exact mm3 | exact mm4 | exact mm5 | exact mm6 | exact mm7) (by omega) rfl) rfl ?_
  refine o_want rfl ?_
  refine o_val (v_F (v_gtr rfl rfl) (by omega)) rfl ?_
  refine o_val (v_pickF rfl rfl) rfl ?_
  refine o_nil ?_
  refine thn_n ?_
  refine w_condF rfl ?_
  refine w_skip ?_
  refine thn_n ?_
  refine w_seq ?_
  refine w_region ?_
  refine o_val (v_move rfl) rfl ?_
  refine o_val (v_nil rfl) rfl ?_
  refine o_val (v_fieldAddr T.f55_0 rfl) rfl ?_
  refine o_val (v_load T.s53 rfl (by first | exact mm0 | exact mm1 | exact mm2 | exact mm3 | exact mm4 | exact mm5 | exact mm6 | exact mm7) rfl) rfl ?_
  refine o_val (v_index 0 rfl T.sl53 rfl rfl (Nat.succ_pos _)) rfl ?_
  refine o_val (v_fieldAddr T.f57_2 rfl) rfl ?_
  refine o_val (v_loadS 2 T.s3 rfl (by first | exact mm0 | exact mm1 | exact mm2 | exact mm3 | exact mm4 | exact mm5 | exact mm6 | exact mm7) (by omega) rfl) rfl ?_
  refine o_val (v_move rfl) rfl ?_
  refine o_val (v_sub rfl rfl (wrapI (by omega) (by omega))) rfl ?_
  refine o_val (v_index 0 rfl T.sl53 rfl rfl (Nat.succ_pos _)) rfl ?_
  refine o_val (v_fieldAddr T.f57_2 rfl) rfl ?_
  refine o_eff (v_storeS (vs' := ((spent m n) :: r).flatMap enc) 2 T.s3 rfl rfl rfl (by first | exact pp0 | exact pp1 | exact pp2 | exact pp3 | exact pp4 | exact pp5 | exact pp6 | exact pp7) (by omega) (by simp [enc]) rfl) ?_
  refine o_nil ?_
  refine thn_n ?_
  refine w_seq ?_
  refine w_seq ?_
  refine w_region ?_
  refine o_val (v_move rfl) rfl ?_
  refine o_val (v_nil rfl) rfl ?_
  refine o_val (v_fieldAddr T.f55_0 rfl) rfl ?_
  refine o_val (v_load T.s53 rfl (by first | exact mm0 | exact mm1 | exact mm2 | exact mm3 | exact mm4 | exact mm5 | exact mm6 | exact mm7) rfl) rfl ?_
  refine o_val (v_index 0 rfl T.sl53 rfl rfl (Nat.succ_pos _)) rfl ?_
  refine o_val (v_fieldAddr T.f57_2 rfl) rfl ?_
  refine o_val (v_loadS 2 T.s3 rfl (by first | exact mm0 | exact mm1 | exact mm2 | exact mm3 | exact mm4 | exact mm5 | exact mm6 | exact mm7) (by omega) rfl) rfl ?_
  refine o_val (v_F (v_eql rfl rfl) (by show ¬ (m.c - n = 0); omega)) rfl ?_
  refine o_nil ?_
  refine thn_n ?_
  refine w_condF rfl ?_
  refine w_skip ?_
  refine thn_n ?_
  refine w_seq ?_
  refine w_region ?_
  refine o_val (v_assign rfl) rfl ?_
  refine o_nil ?_
  refine thn_n ?_
  refine w_ret ?_
  exact ret_ok (G := [IsFair b (spent m n :: r)]) (res1 rfl) ⟨rfl, rfl⟩ (fold' (.cons (by first | exact rr0 | exact rr1 | exact rr2 | exact rr3 | exact rr4 | exact rr5 | exact rr6 | exact rr7) (.cons (by first | exact rr0 | exact rr1 | exact rr2 | exact rr3 | exact rr4 | exact rr5 | exact rr6 | exact rr7) .nil)) (by first | exact dd0 | exact dd1 | exact dd2 | exact dd3 | exact dd4 | exact dd5 | exact dd6 | exact dd7 | exact dd8) (fun w0 h hh => fair_close' rfl rfl hh))

set_option maxRecDepth 100000 in
theorem spend_all (b : Nat) (who n : Int) (m : Mb) (r : List Mb) (hl : r.length ≤ 999) (hm : m.who = who) (hn : 1 ≤ n) (hc : n = m.c) (hc2 : m.c ≤ 100000) : Ctr Try.prog 13 [.pointer (some ⟨b, 0, none⟩), .int .i64 who, .int .i64 n] [IsFair b (m :: r)] (Ret fun v G => v = .bool true ∧ G = [IsFair b (r ++ [zero m])]) := by
  refine spec_of [(0, _), (1, _), (2, _)] Try.func13 rfl Try.ntmps13 rfl rfl ?_
  intro w0 F
  refine w_seq ?_
  refine w_region ?_
  refine o_val (v_assign rfl) rfl ?_
  refine o_nil ?_
  refine thn_n ?_
  refine w_seq ?_
  refine w_seq ?_
  refine w_region ?_
  refine o_val (v_move rfl) rfl ?_
  refine o_val (v_move rfl) rfl ?_
  refine o_call (place_some b who (m :: r) (by simpa using hl) 0 (idx_head (by simpa [isWho] using hm))) T.b25  rfl (.cons (by first | exact rr0 | exact rr1 | exact rr2 | exact rr3 | exact rr4 | exact rr5 | exact rr6 | exact rr7) .nil) rfl ?_
  rintro _ _ ⟨rfl, rfl⟩
  refine o_val (v_F (v_neq rfl rfl) (by decide)) rfl ?_
  refine o_val (v_move rfl) rfl ?_
  refine o_want rfl ?_
  refine o_val (v_move rfl) rfl ?_
  refine o_want rfl ?_
  refine o_val (v_F (v_lss rfl rfl) (by omega)) rfl ?_
  refine o_val (v_pickF rfl rfl) rfl ?_
  refine o_val (v_move rfl) rfl ?_
  refine o_want rfl ?_
  refine o_val (v_move rfl) rfl ?_
  refine o_want rfl ?_
  refine o_val (v_move rfl) rfl ?_
  refine o_want rfl ?_
  refine o_val (v_nil rfl) rfl ?_
  refine o_opn (fun h hh => hh) ?_
  rintro ⟨p, cap⟩ _
  refine o_some (p := p) (by first | exact mm0 | exact mm1 | exact mm2 | exact mm3 | exact mm4 | exact mm5 | exact mm6 | exact mm7) (Nat.succ_pos _) (fun ba o e => ?_)
  subst e
  refine o_want rfl ?_
  refine o_val (v_fieldAddr T.f55_0 rfl) rfl ?_
  refine o_want rfl ?_
  refine o_val (v_load T.s53 rfl (by first | exact mm0 | exact mm1 | exact mm2 | exact mm3 | exact mm4 | exact mm5 | exact mm6 | exact mm7) rfl) rfl ?_
  refine o_want rfl ?_
  refine o_val (v_index 0 rfl T.sl53 rfl rfl (Nat.succ_pos _)) rfl ?_
  refine o_want rfl ?_
  refine o_val (v_fieldAddr T.f57_2 rfl) rfl ?_
  refine o_want rfl ?_
  refine o_val (v_loadS 2 T.s3 rfl (by first | exact mm0 | exact mm1 | exact mm2 | exact mm3 | exact mm4 | exact mm5 | exact mm6 | exact mm7) (by omega) rfl) rfl ?_
  refine o_want rfl ?_
  refine o_val (v_F (v_gtr rfl rfl) (by omega)) rfl ?_
  refine o_val (v_pickF rfl rfl) rfl ?_
  refine o_nil ?_
  refine thn_n ?_
  refine w_condF rfl ?_
  refine w_skip ?_
  refine thn_n ?_
  refine w_seq ?_
  refine w_region ?_
  refine o_val (v_move rfl) rfl ?_
  refine o_val (v_nil rfl) rfl ?_
  refine o_val (v_fieldAddr T.f55_0 rfl) rfl ?_
  refine o_val (v_load T.s53 rfl (by first | exact mm0 | exact mm1 | exact mm2 | exact mm3 | exact mm4 | exact mm5 | exact mm6 | exact mm7) rfl) rfl ?_
  refine o_val (v_index 0 rfl T.sl53 rfl rfl (Nat.succ_pos _)) rfl ?_
  refine o_val (v_fieldAddr T.f57_2 rfl) rfl ?_
  refine o_val (v_loadS 2 T.s3 rfl (by first | exact mm0 | exact mm1 | exact mm2 | exact mm3 | exact mm4 | exact mm5 | exact mm6 | exact mm7) (by omega) rfl) rfl ?_
  refine o_val (v_move rfl) rfl ?_
  refine o_val (v_sub rfl rfl (wrapI (by omega) (by omega))) rfl ?_
  refine o_val (v_index 0 rfl T.sl53 rfl rfl (Nat.succ_pos _)) rfl ?_
  refine o_val (v_fieldAddr T.f57_2 rfl) rfl ?_
  refine o_eff (v_storeS (vs' := ((spent m n) :: r).flatMap enc) 2 T.s3 rfl rfl rfl (by first | exact pp0 | exact pp1 | exact pp2 | exact pp3 | exact pp4 | exact pp5 | exact pp6 | exact pp7) (by omega) (by simp [enc]) rfl) ?_
  refine o_nil ?_
  refine thn_n ?_
  refine w_seq ?_
  refine w_seq ?_
  refine w_region ?_
  refine o_val (v_move rfl) rfl ?_
  refine o_val (v_nil rfl) rfl ?_
  refine o_val (v_fieldAddr T.f55_0 rfl) rfl ?_
  refine o_val (v_load T.s53 rfl (by first | exact mm0 | exact mm1 | exact mm2 | exact mm3 | exact mm4 | exact mm5 | exact mm6 | exact mm7) rfl) rfl ?_
  refine o_val (v_index 0 rfl T.sl53 rfl rfl (Nat.succ_pos _)) rfl ?_
  refine o_val (v_fieldAddr T.f57_2 rfl) rfl ?_
  refine o_val (v_loadS 2 T.s3 rfl (by first | exact mm0 | exact mm1 | exact mm2 | exact mm3 | exact mm4 | exact mm5 | exact mm6 | exact mm7) (by omega) rfl) rfl ?_
  refine o_val (v_T (v_eql rfl rfl) (by show m.c - n = 0; omega)) rfl ?_
  refine o_nil ?_
  refine thn_n ?_
  refine w_condT rfl ?_
  refine w_sub (fold' (A := IsFair b (spent m n :: r)) (.cons (by first | exact rr0 | exact rr1 | exact rr2 | exact rr3 | exact rr4 | exact rr5 | exact rr6 | exact rr7) (.cons (by first | exact rr0 | exact rr1 | exact rr2 | exact rr3 | exact rr4 | exact rr5 | exact rr6 | exact rr7) .nil)) dd0 (fun w0 h hh => fair_close' rfl rfl hh)) ?_
  refine w_region ?_
  refine o_val (v_move rfl) rfl ?_
  refine o_call (turn b (spent m n) r (by omega)) T.b28  rfl (.cons (by first | exact rr0 | exact rr1 | exact rr2 | exact rr3 | exact rr4 | exact rr5 | exact rr6 | exact rr7) .nil) rfl ?_
  rintro _ _ ⟨rfl, rfl⟩
  refine o_nil ?_
  refine thn_n ?_
  refine w_seq ?_
  refine w_region ?_
  refine o_val (v_assign rfl) rfl ?_
  refine o_nil ?_
  refine thn_n ?_
  refine w_ret ?_
  exact ret_ok (G := [_]) (res1 rfl) ⟨rfl, rfl⟩ (sub (.cons (by first | exact rr0 | exact rr1 | exact rr2 | exact rr3 | exact rr4 | exact rr5 | exact rr6 | exact rr7) .nil) (by first | exact dd0 | exact dd1 | exact dd2 | exact dd3 | exact dd4 | exact dd5 | exact dd6 | exact dd7 | exact dd8))

set_option maxRecDepth 100000 in
theorem order (b : Nat) (l : List Mb) (hl : l.length ≤ 1000) : Ctr Try.prog 15 [.pointer (some ⟨b, 0, none⟩)] [IsFair b l] (Ret fun v G => ∃ p2 c2, v = .slice p2 l.length c2 ∧ G = [IsFair b l, Sl p2 l.length c2 3 1 (ints .i64 (l.map Mb.who))]) := by
  refine spec_of [(0, _)] Try.func15 rfl Try.ntmps15 rfl rfl ?_
  intro w0 F
  refine w_opn (fun h hh => hh) ?_
  rintro ⟨p, cap⟩ _
  refine w_add0 (Sl none 0 0 3 1 []) (Sl.nil 3 1 _ _) ?_
  refine w_seq ?_
  refine w_region ?_
  refine o_val (v_assign rfl) rfl ?_
  refine o_nil ?_
  refine thn_n ?_
  refine w_seq ?_
  refine w_seq ?_
  refine w_region ?_
  refine o_val (v_move rfl) rfl ?_
  refine o_val (v_to (v := .bool false) (v_eqnil Try.underlying24 rfl rfl) rfl) rfl ?_
  refine o_nil ?_
  refine thn_n ?_
  refine w_condF rfl ?_
  refine w_skip ?_
  refine thn_n ?_
  refine w_seq ?_
  refine w_region ?_
  refine o_val (v_assign rfl) rfl ?_
  refine o_nil ?_
  refine thn_n ?_
  refine w_seq ?_
  refine w_seq ?_
  refine w_region ?_
  refine o_val (v_move rfl) rfl ?_
  refine o_val (v_nil rfl) rfl ?_
  refine o_val (v_fieldAddr T.f55_0 rfl) rfl ?_
  refine o_val (v_load T.s53 rfl (by first | exact mm0 | exact mm1 | exact mm2 | exact mm3 | exact mm4 | exact mm5 | exact mm6 | exact mm7) rfl) rfl ?_
  refine o_val (v_len (ty' := 0) Try.underlying53 rfl) rfl ?_
  refine o_val (v_move rfl) rfl ?_
  refine o_nil ?_
  refine thn_n ?_
  refine w_block ?_
  refine w_loop3 (fun (k : Nat) (p3 : Option Addr) (c3 : Nat) => [(11, .slice p l.length cap), (12, .int .i64 (l.length : Int)), (13, .int .i64 (k : Int)), (3, .slice p3 k c3)]) (fun (k : Nat) (p3 : Option Addr) (c3 : Nat) => Sl p3 k c3 3 1 (ints .i64 ((l.take k).map Mb.who)) :: Cel b 55 [.slice p l.length cap] :: Sl p l.length cap 57 3 (l.flatMap enc) :: F) (fun (k : Nat) (p3 : Option Addr) (c3 : Nat) => k ≤ l.length) (fun (k : Nat) (p3 : Option Addr) (c3 : Nat) => l.length - k) (i3 (0) (none) (0) ?_ (.cons rfl (.cons rfl (.cons rfl (.cons rfl (.nil _))))) (sub (.cons (by first | exact rr0 | exact rr1 | exact rr2 | exact rr3 | exact rr4 | exact rr5 | exact rr6 | exact rr7) (.cons (by first | exact rr0 | exact rr1 | exact rr2 | exact rr3 | exact rr4 | exact rr5 | exact rr6 | exact rr7) (.cons (by first | exact rr0 | exact rr1 | exact rr2 | exact rr3 | exact rr4 | exact rr5 | exact rr6 | exact rr7) .nil))) (by first | exact dd0 | exact dd1 | exact dd2 | exact dd3 | exact dd4 | exact dd5 | exact dd6 | exact dd7 | exact dd8))) ?_
  ·
    exact (by omega)
  intro k p3 c3
  rintro hk
  refine w_seq ?_
  refine w_region ?_
  refine o_val (v_lss rfl rfl) rfl ?_
  refine o_nil ?_
  refine thn_n ?_
  refine w_seq ?_
  first | refine w_condD rfl (fun h14 => ?_) (fun h14 => ?_) | refine w_cond rfl (fun h14 => ?_) (fun h14 => ?_)
  ·
    refine w_skip ?_
    refine thn_n ?_
    refine w_seq ?_
    refine w_block ?_
    refine w_seq ?_
    refine w_region ?_
    have hk2 : k < l.length := by omega
    refine o_some (p := p) (by first | exact mm0 | exact mm1 | exact mm2 | exact mm3 | exact mm4 | exact mm5 | exact mm6 | exact mm7) (by omega) (fun ba o e => ?_)
    subst e
    refine o_val (v_index _ rfl T.sl53 rfl rfl (by omega)) rfl ?_
    refine o_val (v_loadSA (k * 3) T.a57 rfl (by first | exact mm0 | exact mm1 | exact mm2 | exact mm3 | exact mm4 | exact mm5 | exact mm6 | exact mm7) rfl rfl (encs_row hk2)) rfl ?_
    refine o_alloc T.z57 rfl ?_
    intro b5
    refine o_eff (v_storeAgg T.a57 rfl rfl (us := [_, _, _]) rfl rfl (by first | exact pp0 | exact pp1 | exact pp2 | exact pp3 | exact pp4 | exact pp5 | exact pp6 | exact pp7) (by exact Nat.le_of_ble_eq_true rfl) rfl) ?_
    refine o_nil ?_
    refine thn_n ?_
    refine w_region ?_
    refine o_val (v_move rfl) rfl ?_
    refine o_val (v_fieldAddr T.f57_0 rfl) rfl ?_
    refine o_val (v_load T.s3 rfl (by first | exact mm0 | exact mm1 | exact mm2 | exact mm3 | exact mm4 | exact mm5 | exact mm6 | exact mm7) rfl) rfl ?_
    refine o_buildSlice (vs := [.int .i64 l[k].who]) T.sl27 T.z3 rfl rfl (pevs_spec rfl) rfl rfl rfl ?_
    intro b20
    refine o_append T.sl27 T.z3 rfl rfl rfl rfl (by first | exact rr0 | exact rr1 | exact rr2 | exact rr3 | exact rr4 | exact rr5 | exact rr6 | exact rr7) (by first | exact mm0 | exact mm1 | exact mm2 | exact mm3 | exact mm4 | exact mm5 | exact mm6 | exact mm7) (fun _ h => Sl.rd h) (by rfl) (by omega) rfl ?_
    intro p21 c21
    refine o_val (v_assign rfl) rfl ?_
    refine o_nil ?_
    refine blk_n ?_
    refine thn_n ?_
    refine w_region ?_
    refine o_val (v_add rfl rfl (wrapI (by omega) (by omega))) rfl ?_
    refine o_val (v_move rfl) rfl ?_
    refine o_nil ?_
    rw [show ints .i64 ((l.take k).map Mb.who) ++ [Value.int .i64 l[k].who] = ints .i64 ((l.take (k + 1)).map Mb.who) by rw [List.take_succ_eq_append_getElem hk2, List.map_append, ← ints_append]; rfl]
    refine j3 (k + 1) _ _ ⟨by omega, by omega⟩ (.cons rfl (.cons rfl (.cons rfl (.cons rfl (.nil _))))) (sub (.cons (by first | exact rr0 | exact rr1 | exact rr2 | exact rr3 | exact rr4 | exact rr5 | exact rr6 | exact rr7) (.cons (by first | exact rr0 | exact rr1 | exact rr2 | exact rr3 | exact rr4 | exact rr5 | exact rr6 | exact rr7) (.cons (by first | exact rr0 | exact rr1 | exact rr2 | exact rr3 | exact rr4 | exact rr5 | exact rr6 | exact rr7) .nil))) (by first | exact dd0 | exact dd1 | exact dd2 | exact dd3 | exact dd4 | exact dd5 | exact dd6 | exact dd7 | exact dd8))
  ·
    refine w_exit ?_
    refine thn_e ?_
    refine thn_e ?_
    refine blk_x ?_
    refine thn_n ?_
    refine w_seq ?_
    refine w_region ?_
    refine o_val (v_move rfl) rfl ?_
    refine o_val (v_assign rfl) rfl ?_
    refine o_nil ?_
    refine thn_n ?_
    refine w_ret ?_
    rw [show k = l.length by omega, List.take_length]
    exact ret_ok (G := [IsFair b l, _]) (res1 rfl) ⟨_, _, rfl, rfl⟩ (Sub.trans (fold' (.cons (by first | exact rr0 | exact rr1 | exact rr2 | exact rr3 | exact rr4 | exact rr5 | exact rr6 | exact rr7) (.cons (by first | exact rr0 | exact rr1 | exact rr2 | exact rr3 | exact rr4 | exact rr5 | exact rr6 | exact rr7) .nil)) (by first | exact dd0 | exact dd1 | exact dd2 | exact dd3 | exact dd4 | exact dd5 | exact dd6 | exact dd7 | exact dd8) (fun w0 h hh => fair_close rfl hh)) (sub (.cons rr0 (.cons rr0 .nil)) (by first | exact dd0 | exact dd1 | exact dd2 | exact dd3 | exact dd4 | exact dd5 | exact dd6 | exact dd7 | exact dd8)))

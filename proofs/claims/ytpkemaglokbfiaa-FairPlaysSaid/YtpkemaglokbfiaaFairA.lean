/- Steps of the proof: the walks of the functions that the statement reaches; printed by a program of ours. -/
import Derived.Test.YtpkemaglokbfiaaProg
import Derived.KernelRfl
import Derived.Test.YtpkemaglokbfiaaFairPlain
namespace Go.Proofs.Ytpkemaglokbfiaa
open Go.Sl Go.FairP
set_option linter.unusedVariables false
set_option linter.unusedSimpArgs false
theorem T.a57 : aggB Try.prog 57 = some 3 := by kernel_rfl
theorem T.b25 : bodyB Try.prog 25 = true := by kernel_rfl
theorem T.b29 : bodyB Try.prog 29 = true := by kernel_rfl
theorem T.b34 : bodyB Try.prog 34 = true := by kernel_rfl
theorem T.b35 : bodyB Try.prog 35 = true := by kernel_rfl
theorem T.f55_0 : fieldB Try.prog 55 0 = some 0 := by kernel_rfl
theorem T.f57_0 : fieldB Try.prog 57 0 = some 0 := by kernel_rfl
theorem T.f57_2 : fieldB Try.prog 57 2 = some 2 := by kernel_rfl
theorem T.mixed : Try.prog.follows .mixedOrders = true := by kernel_rfl
theorem T.s3 : scalarB Try.prog 3 = true := by kernel_rfl
theorem T.s53 : scalarB Try.prog 53 = true := by kernel_rfl
theorem T.sl53 : sliceB Try.prog 53 = some (57, 3, 24) := by kernel_rfl
theorem T.z57 : zeroB Try.prog 57 = some ([.int .i64 0, .int .i64 0, .int .i64 0]) := by kernel_rfl

set_option maxRecDepth 100000 in
theorem place1 (m : Mb) (x : Int) (b : Nat) : Ctr Try.prog 35 [.agg (enc m).toArray, .pointer (some ⟨b, 0, none⟩)] [Cel b 3 [.int .i64 x]] (Ret fun v G => v = .bool (decide (m.who = x)) ∧ G = [Cel b 3 [.int .i64 x]]) := by
  refine spec_of [(0, _), (1, _)] Try.func35 rfl Try.ntmps35 rfl rfl ?_
  intro w0 F
  refine w_seq ?_
  refine w_region ?_
  refine o_box rfl (cs := [_, _, _]) rfl rfl ?_
  intro b2
  refine o_val (v_assign rfl) rfl ?_
  refine o_nil ?_
  refine thn_n ?_
  refine w_seq ?_
  refine w_region ?_
  refine o_val (v_fieldAddr T.f57_0 rfl) rfl ?_
  refine o_val (v_load T.s3 rfl (by first | exact mm0 | exact mm1 | exact mm2 | exact mm3 | exact mm4 | exact mm5 | exact mm6 | exact mm7) rfl) rfl ?_
  refine o_val (v_load T.s3 rfl (by first | exact mm0 | exact mm1 | exact mm2 | exact mm3 | exact mm4 | exact mm5 | exact mm6 | exact mm7) rfl) rfl ?_
  refine o_val (v_eql rfl rfl) rfl ?_
  refine o_val (v_assign rfl) rfl ?_
  refine o_nil ?_
  refine thn_n ?_
  refine w_ret ?_
  exact ret_ok (G := [_]) (res1 rfl) ⟨rfl, rfl⟩ (sub (.cons (by first | exact rr0 | exact rr1 | exact rr2 | exact rr3 | exact rr4 | exact rr5 | exact rr6 | exact rr7) .nil) (by first | exact dd0 | exact dd1 | exact dd2 | exact dd3 | exact dd4 | exact dd5 | exact dd6 | exact dd7 | exact dd8))

set_option maxRecDepth 100000 in
theorem indexFunc (l : List Mb) (p : Option Addr) (cap : Nat) (cf : Nat) (fs cs : List Value) (S R : HProp) (pr : Mb → Bool) (hb : bodyB Try.prog cf = true) (hf : ∀ m ∈ l, Ctr Try.prog cf (fs ++ [.agg (enc m).toArray] ++ cs) [S] (Ret fun v G => v = .bool (pr m) ∧ G = [S])) (hR : ∀ w0 h, R w0 h → Rd p l.length 3 (l.flatMap enc) w0 h) (hl : l.length ≤ 100000) : Ctr Try.prog 34 [.slice p l.length cap, .func (.func cf) fs.toArray cs.toArray] [R, S] (Ret fun v G => v = .int .i64 (idx l pr) ∧ G = [R, S]) := by
  refine spec_of [(0, _), (1, _)] Try.func34 rfl Try.ntmps34 rfl rfl ?_
  intro w0 F
  refine w_seq ?_
  refine w_region ?_
  refine o_val (v_assign rfl) rfl ?_
  refine o_nil ?_
  refine thn_n ?_
  refine w_seq ?_
  refine w_seq ?_
  refine w_region ?_
  refine o_val (v_move rfl) rfl ?_
  refine o_val (v_len (ty' := 0) Try.underlying53 rfl) rfl ?_
  refine o_val (v_move rfl) rfl ?_
  refine o_nil ?_
  refine thn_n ?_
  refine w_block ?_
  refine w_loop1 (fun (k : Nat) => [(0, .slice p l.length cap), (1, .func (.func cf) fs.toArray cs.toArray), (7, .int .i64 (l.length : Int)), (8, .int .i64 (k : Int))]) (fun (k : Nat) => R :: S :: F) (fun (k : Nat) => k ≤ l.length ∧ ∀ j (hj : j < l.length), j < k → pr l[j] = false) (fun (k : Nat) => l.length - k) (i1 (0) ?_ (.cons rfl (.cons rfl (.cons rfl (.cons rfl (.nil _))))) (sub (.cons (by first | exact rr0 | exact rr1 | exact rr2 | exact rr3 | exact rr4 | exact rr5 | exact rr6 | exact rr7) (.cons (by first | exact rr0 | exact rr1 | exact rr2 | exact rr3 | exact rr4 | exact rr5 | exact rr6 | exact rr7) .nil)) (by first | exact dd0 | exact dd1 | exact dd2 | exact dd3 | exact dd4 | exact dd5 | exact dd6 | exact dd7 | exact dd8))) ?_
  ·
    exact ⟨by omega, fun j hj h => by omega⟩
  intro k
  rintro ⟨hk, hno⟩
  refine w_seq ?_
  refine w_region ?_
  refine o_val (v_lss rfl rfl) rfl ?_
  refine o_nil ?_
  refine thn_n ?_
  refine w_seq ?_
  first | refine w_condD rfl (fun h9 => ?_) (fun h9 => ?_) | refine w_cond rfl (fun h9 => ?_) (fun h9 => ?_)
  ·
    refine w_skip ?_
    refine thn_n ?_
    refine w_seq ?_
    refine w_block ?_
    refine w_seq ?_
    refine w_region ?_
    refine o_val (v_move rfl) rfl ?_
    refine o_val (v_assign rfl) rfl ?_
    refine o_nil ?_
    refine thn_n ?_
    refine w_seq ?_
    refine w_region ?_
    refine o_val (v_move rfl) rfl ?_
    refine o_val (v_move rfl) rfl ?_
    refine o_val (v_move rfl) rfl ?_
    have hk2 : k < l.length := by omega
    refine o_fact (p := ∃ b o, p = some ⟨b, o, none⟩) (fun w hi => ?_) ?_
    · obtain ⟨_, h⟩ := hi.rd (R := R) mm0 (hR w0); rcases h with h | ⟨b, o, h, _⟩
      · omega
      · exact ⟨b, o, h⟩
    rintro ⟨b, o, rfl⟩
    refine o_val (v_index _ rfl T.sl53 rfl rfl (by omega)) rfl ?_
    refine o_val (v_loadRA (k * 3) T.a57 rfl mm0 (hR w0) rfl rfl (encs_row hk2)) rfl ?_
    refine o_callF (hf l[k] (List.getElem_mem _)) hb rfl rfl (.cons (by first | exact rr0 | exact rr1 | exact rr2 | exact rr3 | exact rr4 | exact rr5 | exact rr6 | exact rr7) .nil) rfl ?_
    rintro _ _ ⟨rfl, rfl⟩
    refine o_nil ?_
    refine thn_n ?_
    refine w_cond rfl (fun h16 => ?_) (fun h16 => ?_)
    ·
      refine w_seq ?_
      refine w_region ?_
      refine o_val (v_move rfl) rfl ?_
      refine o_val (v_assign rfl) rfl ?_
      refine o_nil ?_
      refine thn_n ?_
      refine w_ret ?_
      refine (blk_r (thn_r (thn_r (blk_r (thn_r ?_)))))
      exact ret_ok (G := [_, _]) (res1 rfl) ⟨by rw [idx_yes hk2 h16 (fun j hj => hno j (by omega) hj)], rfl⟩ (sub (.cons (by first | exact rr0 | exact rr1 | exact rr2 | exact rr3 | exact rr4 | exact rr5 | exact rr6 | exact rr7) (.cons (by first | exact rr0 | exact rr1 | exact rr2 | exact rr3 | exact rr4 | exact rr5 | exact rr6 | exact rr7) .nil)) (by first | exact dd0 | exact dd1 | exact dd2 | exact dd3 | exact dd4 | exact dd5 | exact dd6 | exact dd7 | exact dd8))
    ·
      refine w_skip ?_
      refine blk_n ?_
      refine thn_n ?_
      refine w_region ?_
      refine o_val (v_add rfl rfl (wrapI (by omega) (by omega))) rfl ?_
      refine o_val (v_move rfl) rfl ?_
      refine o_nil ?_
      refine j1 (k + 1) ⟨⟨by omega, fun j hj hlt => ?_⟩, by omega⟩ (.cons rfl (.cons rfl (.cons rfl (.cons rfl (.nil _))))) (sub (.cons (by first | exact rr0 | exact rr1 | exact rr2 | exact rr3 | exact rr4 | exact rr5 | exact rr6 | exact rr7) (.cons (by first | exact rr0 | exact rr1 | exact rr2 | exact rr3 | exact rr4 | exact rr5 | exact rr6 | exact rr7) .nil)) (by first | exact dd0 | exact dd1 | exact dd2 | exact dd3 | exact dd4 | exact dd5 | exact dd6 | exact dd7 | exact dd8))
      by_cases e : j = k
      · subst e; exact h16
      · exact hno j hj (by omega)
  ·
    refine w_exit ?_
    refine thn_e ?_
    refine thn_e ?_
    refine blk_x ?_
    refine thn_n ?_
    refine w_seq ?_
    refine w_region ?_
    refine o_val (v_assign rfl) rfl ?_
    refine o_nil ?_
    refine thn_n ?_
    refine w_ret ?_
    exact ret_ok (G := [_, _]) (res1 rfl) ⟨by rw [idx_no (fun j hj => hno j hj (by omega))], rfl⟩ (sub (.cons (by first | exact rr0 | exact rr1 | exact rr2 | exact rr3 | exact rr4 | exact rr5 | exact rr6 | exact rr7) (.cons (by first | exact rr0 | exact rr1 | exact rr2 | exact rr3 | exact rr4 | exact rr5 | exact rr6 | exact rr7) .nil)) (by first | exact dd0 | exact dd1 | exact dd2 | exact dd3 | exact dd4 | exact dd5 | exact dd6 | exact dd7 | exact dd8))

set_option maxRecDepth 100000 in
theorem place (b : Nat) (who : Int) (l : List Mb) (hl : l.length ≤ 1000) : Ctr Try.prog 25 [.pointer (some ⟨b, 0, none⟩), .int .i64 who] [IsFair b l] (Ret fun v G => v = .int .i64 (idx l (isWho who)) ∧ G = [IsFair b l]) := by
  refine spec_of [(0, _), (1, _)] Try.func25 rfl Try.ntmps25 rfl rfl ?_
  intro w0 F
  refine w_opn (fun h hh => hh) ?_
  rintro ⟨p, cap⟩ _
  refine w_seq ?_
  refine w_region ?_
  refine o_box rfl (cs := [_]) rfl rfl ?_
  intro b3
  refine o_val (v_assign rfl) rfl ?_
  refine o_nil ?_
  refine thn_n ?_
  refine w_seq ?_
  refine w_seq ?_
  refine w_region ?_
  refine o_val (v_move rfl) rfl ?_
  refine o_val (v_to (v := .bool false) (v_eqnil Try.underlying24 rfl rfl) rfl) rfl ?_
  refine o_nil ?_
  refine thn_n ?_
  refine w_condF rfl ?_
  refine w_skip ?_
  refine thn_n ?_
  refine w_seq ?_
  refine w_region ?_
  refine o_val (v_move rfl) rfl ?_
  refine o_val (v_nil rfl) rfl ?_
  refine o_val (v_fieldAddr T.f55_0 rfl) rfl ?_
  refine o_val (v_load T.s53 rfl (by first | exact mm0 | exact mm1 | exact mm2 | exact mm3 | exact mm4 | exact mm5 | exact mm6 | exact mm7) rfl) rfl ?_
  refine o_val (v_fn (fs := []) (cs := [_]) rfl rfl) rfl ?_
  refine o_call (indexFunc l p cap 35 [] [.pointer (some ⟨b3, 0, none⟩)] (Cel b3 3 [.int .i64 who]) (Sl p l.length cap 57 3 (l.flatMap enc)) (isWho who) T.b35 (fun m _ => place1 m who b3) (fun _ _ h => Sl.rd h) (by omega)) T.b34  rfl (.cons (by first | exact rr0 | exact rr1 | exact rr2 | exact rr3 | exact rr4 | exact rr5 | exact rr6 | exact rr7) (.cons (by first | exact rr0 | exact rr1 | exact rr2 | exact rr3 | exact rr4 | exact rr5 | exact rr6 | exact rr7) .nil)) rfl ?_
  rintro _ _ ⟨rfl, rfl⟩
  refine o_val (v_assign rfl) rfl ?_
  refine o_nil ?_
  refine thn_n ?_
  refine w_ret ?_
  exact ret_ok (G := [IsFair b l]) (res1 rfl) ⟨rfl, rfl⟩ (fold' (.cons (by first | exact rr0 | exact rr1 | exact rr2 | exact rr3 | exact rr4 | exact rr5 | exact rr6 | exact rr7) (.cons (by first | exact rr0 | exact rr1 | exact rr2 | exact rr3 | exact rr4 | exact rr5 | exact rr6 | exact rr7) .nil)) (by first | exact dd0 | exact dd1 | exact dd2 | exact dd3 | exact dd4 | exact dd5 | exact dd6 | exact dd7 | exact dd8) (fun w0 h hh => fair_close rfl hh))

set_option maxRecDepth 100000 in
theorem turn (b : Nat) (m : Mb) (r : List Mb) (hl : r.length ≤ 1000) : Ctr Try.prog 28 [.pointer (some ⟨b, 0, none⟩)] [IsFair b (m :: r)] (Ret fun v G => v = .tuple #[] ∧ G = [IsFair b (r ++ [zero m])]) := by
  refine spec_of [(0, _)] Try.func28 rfl Try.ntmps28 rfl rfl ?_
  intro w0 F
  refine w_opn (fun h hh => hh) ?_
  rintro ⟨p, cap⟩ _
  refine w_fact (p := r.length + 1 ≤ cap) (fun w hi => (sl_facts (p := p) hi (by first | exact mm0 | exact mm1 | exact mm2 | exact mm3 | exact mm4 | exact mm5 | exact mm6 | exact mm7)).2.1) (fun hcap => ?_)
  refine w_some (p := p) (by first | exact mm0 | exact mm1 | exact mm2 | exact mm3 | exact mm4 | exact mm5 | exact mm6 | exact mm7) (Nat.succ_pos _) (fun ba o e => ?_)
  subst e
  refine w_seq ?_
  refine w_region ?_
  refine o_val (v_move rfl) rfl ?_
  refine o_val (v_nil rfl) rfl ?_
  refine o_val (v_fieldAddr T.f55_0 rfl) rfl ?_
  refine o_val (v_load T.s53 rfl (by first | exact mm0 | exact mm1 | exact mm2 | exact mm3 | exact mm4 | exact mm5 | exact mm6 | exact mm7) rfl) rfl ?_
  refine o_val (v_index 0 rfl T.sl53 rfl rfl (Nat.succ_pos _)) rfl ?_
  refine o_val (v_loadSA 0 T.a57 rfl (by first | exact mm0 | exact mm1 | exact mm2 | exact mm3 | exact mm4 | exact mm5 | exact mm6 | exact mm7) rfl rfl rfl) rfl ?_
  refine o_alloc T.z57 rfl ?_
  intro b2
  refine o_eff (v_storeAgg T.a57 rfl rfl (us := [_, _, _]) rfl rfl (by first | exact pp0 | exact pp1 | exact pp2 | exact pp3 | exact pp4 | exact pp5 | exact pp6 | exact pp7) (by exact Nat.le_of_ble_eq_true rfl) rfl) ?_
  refine o_nil ?_
  refine thn_n ?_
  refine w_seq ?_
  refine w_region ?_
  refine o_val (v_fieldAddr T.f57_2 rfl) rfl ?_
  refine o_eff (v_store T.s3 rfl rfl rfl (by first | exact pp0 | exact pp1 | exact pp2 | exact pp3 | exact pp4 | exact pp5 | exact pp6 | exact pp7) (by exact Nat.le_of_ble_eq_true rfl) rfl) ?_
  refine o_nil ?_
  refine thn_n ?_
  refine w_chainY0 (Ls := [(fun y => Cel b2 57 [.int .i64 m.who, .int .i64 m.q, .int .i64 0] :: Cel b 55 [.slice (some ⟨ba, o, none⟩) (r.length + 1) cap] :: Sl (some ⟨ba, o, none⟩) (r.length + 1) cap 57 3 ((m :: r).flatMap enc) :: F), (fun y => (fun y v => Sl (slP v) 1 1 57 3 [.int .i64 m.who, .int .i64 m.q, .int .i64 0] :: Cel b2 57 [.int .i64 m.who, .int .i64 m.q, .int .i64 0] :: Cel b 55 [.slice (some ⟨ba, o, none⟩) (r.length + 1) cap] :: Sl (some ⟨ba, o, none⟩) (r.length + 1) cap 57 3 ((m :: r).flatMap enc) :: F) y (y 17)), (fun y => (fun y v => Sl (slP v) (r.length + 1) (slC v) 57 3 ((r ++ [zero m]).flatMap enc) :: Sl (slP (y 17)) 1 1 57 3 [.int .i64 m.who, .int .i64 m.q, .int .i64 0] :: Cel b2 57 [.int .i64 m.who, .int .i64 m.q, .int .i64 0] :: Cel b 55 [.slice (some ⟨ba, o, none⟩) (r.length + 1) cap] :: F) y (y 18)), (fun y => Sl (slP (y 18)) (r.length + 1) (slC (y 18)) 57 3 ((r ++ [zero m]).flatMap enc) :: Sl (slP (y 17)) 1 1 57 3 [.int .i64 m.who, .int .i64 m.q, .int .i64 0] :: Cel b2 57 [.int .i64 m.who, .int .i64 m.q, .int .i64 0] :: Cel b 55 [y 18] :: F)]) [⟨[], [], [0], 0, 2⟩, ⟨[], [], [0], 0, 1⟩, ⟨[1], [1], [], 0, 1⟩, ⟨[1, 2], [2], [], 0, 1⟩, ⟨[1, 2, 3], [3], [], 0, 1⟩, ⟨[], [], [0], 0, 1⟩, ⟨[5], [5], [], 0, 1⟩, ⟨[5, 6], [6], [], 0, 1⟩, ⟨[5, 6, 7], [7], [], 0, 1⟩, ⟨[5, 6, 7, 8], [8], [], 0, 1⟩, ⟨[], [], [0], 0, 1⟩, ⟨[10], [10], [], 0, 1⟩, ⟨[10, 11], [11], [], 0, 1⟩, ⟨[10, 11, 12], [12], [], 0, 1⟩, ⟨[10, 11, 12, 13], [13], [], 0, 1⟩, ⟨[1, 2, 3, 4, 5, 6, 7, 8, 9, 10, 11, 12, 13, 14], [4, 9, 14], [], 0, 1⟩, ⟨[], [], [2], 0, 0⟩, ⟨[16], [16], [], 0, 0⟩, ⟨[1, 2, 3, 4, 5, 6, 7, 8, 9, 10, 11, 12, 13, 14, 15, 16, 17], [15, 17], [], 1, 1⟩, ⟨[0, 1, 2, 3, 4, 5, 6, 7, 8, 9, 10, 11, 12, 13, 14, 15, 16, 17, 18], [0], [], 2, 2⟩, ⟨[0, 1, 2, 3, 4, 5, 6, 7, 8, 9, 10, 11, 12, 13, 14, 15, 16, 17, 18, 19], [19], [], 2, 2⟩, ⟨[0, 1, 2, 3, 4, 5, 6, 7, 8, 9, 10, 11, 12, 13, 14, 15, 16, 17, 18, 19, 20], [20, 18], [], 2, 2⟩] [17, 18, 21] T.mixed (by kernel_rfl) rfl rfl rfl (fun _ => rfl) rfl ?_
  refine owedY_pure (fun y => [(0, _)]) (fun y => rfl) rfl (fun y A hA L => st_v (v_move rfl) ⟨rfl, rfl⟩) (by intros; rfl) (by intro _ _ _; rfl) (by exact (lsl1 (fun _ _ => rfl) (lsl1 (fun _ _ => rfl) (lsl1 (fun _ _ => rfl) (lsl1 (fun _ _ => rfl) lsl0))))) ?_
  refine owedY_pure (fun y => [(0, _)]) (fun y => rfl) rfl (fun y A hA L => st_v (v_move rfl) ⟨rfl, rfl⟩) (by intros; rfl) (by intro _ _ _; rfl) (by exact (lsl1 (fun _ _ => rfl) (lsl1 (fun _ _ => rfl) (lsl1 (fun _ _ => rfl) (lsl1 (fun _ _ => rfl) lsl0))))) ?_
  refine owedY_pure (fun y => [(11, _)]) (fun y => rfl) rfl (fun y A hA L => st_v (v_nil rfl) ⟨rfl, rfl⟩) (by intros; rfl) (by intro _ _ _; rfl) (by exact (lsl1 (fun _ _ => rfl) (lsl1 (fun _ _ => rfl) (lsl1 (fun _ _ => rfl) (lsl1 (fun _ _ => rfl) lsl0))))) ?_
  refine owedY_pure (fun y => [(12, _)]) (fun y => rfl) rfl (fun y A hA L => st_v (v_fieldAddr T.f55_0 rfl) ⟨rfl, rfl⟩) (by intros; rfl) (by intro _ _ _; rfl) (by exact (lsl1 (fun _ _ => rfl) (lsl1 (fun _ _ => rfl) (lsl1 (fun _ _ => rfl) (lsl1 (fun _ _ => rfl) lsl0))))) ?_
  refine owedY_read2 (fun y => [(13, _)]) (fun y => rfl) rfl (fun y A hA => st_v (v_load T.s53 rfl (by first | exact mm0 | exact mm1 | exact mm2 | exact mm3 | exact mm4 | exact mm5 | exact mm6 | exact mm7) rfl) ⟨rfl, rfl⟩) (fun y A hA => st_v (v_load T.s53 rfl (by first | exact mm0 | exact mm1 | exact mm2 | exact mm3 | exact mm4 | exact mm5 | exact mm6 | exact mm7) rfl) ⟨rfl, rfl⟩) (by intros; rfl) (by intro _ _ _; rfl) rfl (by intros; rfl) rfl (by intros; rfl) ?_
  refine owedY_pure (fun y => [(0, _)]) (fun y => rfl) rfl (fun y A hA L => st_v (v_move rfl) ⟨rfl, rfl⟩) (by intros; rfl) (by intro _ _ _; rfl) (by exact (lsl1 (fun _ _ => rfl) (lsl1 (fun _ _ => rfl) (lsl1 (fun _ _ => rfl) (lsl1 (fun _ _ => rfl) lsl0))))) ?_
  refine owedY_pure (fun y => [(15, _)]) (fun y => rfl) rfl (fun y A hA L => st_v (v_nil rfl) ⟨rfl, rfl⟩) (by intros; rfl) (by intro _ _ _; rfl) (by exact (lsl1 (fun _ _ => rfl) (lsl1 (fun _ _ => rfl) (lsl1 (fun _ _ => rfl) (lsl1 (fun _ _ => rfl) lsl0))))) ?_
  refine owedY_pure (fun y => [(16, _)]) (fun y => rfl) rfl (fun y A hA L => st_v (v_fieldAddr T.f55_0 rfl) ⟨rfl, rfl⟩) (by intros; rfl) (by intro _ _ _; rfl) (by exact (lsl1 (fun _ _ => rfl) (lsl1 (fun _ _ => rfl) (lsl1 (fun _ _ => rfl) (lsl1 (fun _ _ => rfl) lsl0))))) ?_
  refine owedY_read2 (fun y => [(17, _)]) (fun y => rfl) rfl (fun y A hA => st_v (v_load T.s53 rfl (by first | exact mm0 | exact mm1 | exact mm2 | exact mm3 | exact mm4 | exact mm5 | exact mm6 | exact mm7) rfl) ⟨rfl, rfl⟩) (fun y A hA => st_v (v_load T.s53 rfl (by first | exact mm0 | exact mm1 | exact mm2 | exact mm3 | exact mm4 | exact mm5 | exact mm6 | exact mm7) rfl) ⟨rfl, rfl⟩) (by intros; rfl) (by intro _ _ _; rfl) rfl (by intros; rfl) rfl (by intros; rfl) ?_
  refine owedY_pure (fun y => [(18, _)]) (fun y => rfl) rfl (fun y A hA L => st_v (v_len (ty' := 0) Try.underlying53 rfl) ⟨rfl, rfl⟩) (by intros; rfl) (by intro _ _ _; rfl) (by exact (lsl1 (fun _ _ => rfl) (lsl1 (fun _ _ => rfl) (lsl1 (fun _ _ => rfl) (lsl1 (fun _ _ => rfl) lsl0))))) ?_
  refine owedY_pure (fun y => [(0, _)]) (fun y => rfl) rfl (fun y A hA L => st_v (v_move rfl) ⟨rfl, rfl⟩) (by intros; rfl) (by intro _ _ _; rfl) (by exact (lsl1 (fun _ _ => rfl) (lsl1 (fun _ _ => rfl) (lsl1 (fun _ _ => rfl) (lsl1 (fun _ _ => rfl) lsl0))))) ?_
  refine owedY_pure (fun y => [(20, _)]) (fun y => rfl) rfl (fun y A hA L => st_v (v_nil rfl) ⟨rfl, rfl⟩) (by intros; rfl) (by intro _ _ _; rfl) (by exact (lsl1 (fun _ _ => rfl) (lsl1 (fun _ _ => rfl) (lsl1 (fun _ _ => rfl) (lsl1 (fun _ _ => rfl) lsl0))))) ?_
  refine owedY_pure (fun y => [(21, _)]) (fun y => rfl) rfl (fun y A hA L => st_v (v_fieldAddr T.f55_0 rfl) ⟨rfl, rfl⟩) (by intros; rfl) (by intro _ _ _; rfl) (by exact (lsl1 (fun _ _ => rfl) (lsl1 (fun _ _ => rfl) (lsl1 (fun _ _ => rfl) (lsl1 (fun _ _ => rfl) lsl0))))) ?_
  refine owedY_read2 (fun y => [(22, _)]) (fun y => rfl) rfl (fun y A hA => st_v (v_load T.s53 rfl (by first | exact mm0 | exact mm1 | exact mm2 | exact mm3 | exact mm4 | exact mm5 | exact mm6 | exact mm7) rfl) ⟨rfl, rfl⟩) (fun y A hA => st_v (v_load T.s53 rfl (by first | exact mm0 | exact mm1 | exact mm2 | exact mm3 | exact mm4 | exact mm5 | exact mm6 | exact mm7) rfl) ⟨rfl, rfl⟩) (by intros; rfl) (by intro _ _ _; rfl) rfl (by intros; rfl) rfl (by intros; rfl) ?_
  refine owedY_pure (fun y => [(23, _)]) (fun y => rfl) rfl (fun y A hA L => st_v (v_len (ty' := 0) Try.underlying53 rfl) ⟨rfl, rfl⟩) (by intros; rfl) (by intro _ _ _; rfl) (by exact (lsl1 (fun _ _ => rfl) (lsl1 (fun _ _ => rfl) (lsl1 (fun _ _ => rfl) (lsl1 (fun _ _ => rfl) lsl0))))) ?_
  refine owedY_pure (fun y => [(14, _), (19, _), (24, _)]) (fun y => rfl) rfl (fun y A hA L => st_v (v_slice 1 (r.length + 1) (r.length + 1) T.sl53 rfl ⟨_, rfl⟩ ⟨_, rfl⟩ ⟨_, rfl⟩ (by omega) (by omega) (by omega)) ⟨rfl, rfl⟩) (by intros; rfl) (by intro _ _ _; rfl) (by exact (lsl1 (fun _ _ => rfl) (lsl1 (fun _ _ => rfl) (lsl1 (fun _ _ => rfl) (lsl1 (fun _ _ => rfl) lsl0))))) ?_
  refine owedY_read (fun y => [(2, _)]) (fun y => rfl) rfl (fun y A hA => st_v (v_loadAgg T.a57 rfl (by first | exact mm0 | exact mm1 | exact mm2 | exact mm3 | exact mm4 | exact mm5 | exact mm6 | exact mm7) (vs := [_, _, _]) rfl rfl) ⟨rfl, rfl⟩) (by intros; rfl) (by intro _ _ _; rfl) rfl (by intros; rfl) ?_
  refine owedY_some (fun y v => Sl (slP v) 1 1 57 3 [.int .i64 m.who, .int .i64 m.q, .int .i64 0] :: Cel b2 57 [.int .i64 m.who, .int .i64 m.q, .int .i64 0] :: Cel b 55 [.slice (some ⟨ba, o, none⟩) (r.length + 1) cap] :: Sl (some ⟨ba, o, none⟩) (r.length + 1) cap 57 3 ((m :: r).flatMap enc) :: F) (fun y v => ∃ p2, v = .slice p2 1 1) (fun y => [(26, _)]) (fun y => rfl) rfl rfl rfl (fun y A hA => st_new (x_buildSlice (vs := [_, _, _]) T.sl53 T.z57 rfl rfl (pevs_spec rfl) rfl rfl) (fun b => ⟨⟨_, rfl⟩, .refl _⟩)) (by intros; rfl) (by intros; rfl) (by intro y y2 h; simp only [h 17 (.inl rfl)]) ?_
  refine owedY_some (fun y v => Sl (slP v) (r.length + 1) (slC v) 57 3 ((r ++ [zero m]).flatMap enc) :: Sl (slP (y 17)) 1 1 57 3 [.int .i64 m.who, .int .i64 m.q, .int .i64 0] :: Cel b2 57 [.int .i64 m.who, .int .i64 m.q, .int .i64 0] :: Cel b 55 [.slice (some ⟨ba, o, none⟩) (r.length + 1) cap] :: F) (fun y v => ∃ p2 c2, v = .slice p2 (r.length + 1) c2) (fun y => [(25, _), (27, _)]) (fun y => rfl) rfl rfl rfl (fun y A hA => (by
    obtain ⟨p2, e⟩ := (hA 17 (by decide)).fact rfl
    refine st_sub (subR rr3 (fun w0 h hs => Go.Sl.Sl.sub hs 1 (r.length + 1) (r.length + 1) (by omega) (Nat.le_refl _) (Nat.le_refl _) hcap)) ?_
    refine st_app (x_append T.sl53 T.z57 rfl rfl rfl (congrArg some e) rr0 mm1 (fun h hh => by have := Sl.rd hh; rw [show slP (y 17) = p2 by rw [e]; rfl] at this; exact this) rfl (by omega)) (fun p3 c3 => ⟨⟨p3, c3, rfl⟩, ?_⟩)
    rw [turn_row]
    exact .refl _)) (by intros; rfl) (by intros; rfl) (by intro y y2 h; simp only [h 17 (.inr (by decide)), h 18 (.inl rfl)]) ?_
  refine owedY_pure (fun y => [(10, _)]) (fun y => rfl) rfl (fun y A hA L => st_v (v_nil rfl) ⟨rfl, rfl⟩) (by intros; rfl) (by intro _ _ _; rfl) (by exact (lsl1 (fun _ _ => rfl) (lsl1 (fun _ _ => rfl) (lsl1 (fun _ _ => rfl) (lsl1 (fun _ _ => rfl) lsl0))))) ?_
  refine owedY_pure (fun y => [(29, _)]) (fun y => rfl) rfl (fun y A hA L => st_v (v_fieldAddr T.f55_0 rfl) ⟨rfl, rfl⟩) (by intros; rfl) (by intro _ _ _; rfl) (by exact (lsl1 (fun _ _ => rfl) (lsl1 (fun _ _ => rfl) (lsl1 (fun _ _ => rfl) (lsl1 (fun _ _ => rfl) lsl0))))) ?_
  refine owedY_link (fun y => [(30, _), (28, _)]) (fun y => rfl) rfl (fun y A hA => (by
    obtain ⟨p3, c3, e⟩ := (hA 18 (by decide)).fact rfl
    exact st_v (v_store T.s53 rfl rfl (by rw [e]; rfl) pp3 (by exact Nat.le_of_ble_eq_true rfl) rfl) ⟨rfl, .refl _⟩)) (by intros; rfl) (by intro y y2 h; simp only [h 18 (.inr (by decide))]) rfl rfl (by intros; rfl) ?_
  refine owedY_nil ?_
  intro y A hA
  obtain ⟨p3, c3, e⟩ := (hA 18 (by decide)).fact rfl
  rw [e]
  exact end_ok (G := [IsFair b (r ++ [zero m])]) res0 ⟨rfl, rfl⟩ (fold' (.cons (by first | exact rr0 | exact rr1 | exact rr2 | exact rr3 | exact rr4 | exact rr5 | exact rr6 | exact rr7) (.cons (by first | exact rr0 | exact rr1 | exact rr2 | exact rr3 | exact rr4 | exact rr5 | exact rr6 | exact rr7) .nil)) (by first | exact dd0 | exact dd1 | exact dd2 | exact dd3 | exact dd4 | exact dd5 | exact dd6 | exact dd7 | exact dd8) (fun w0 h hh => fair_close (by simp) hh))

set_option maxRecDepth 100000 in
theorem delete (l : List Mb) (p : Option Addr) (cap i : Nat) (hi : i < l.length) (hl : l.length ≤ 1000) : Ctr Try.prog 29 [.slice p l.length cap, .int .i64 (i : Int), .int .i64 ((i : Int) + 1)] [Sl p l.length cap 57 3 (l.flatMap enc)] (Ret fun v G => v = .slice p (l.length - 1) cap ∧ G = [Sl p (l.length - 1) cap 57 3 ((l.eraseIdx i).flatMap enc)]) := by
  refine spec_of [(0, _), (1, _), (2, _)] Try.func29 rfl Try.ntmps29 rfl rfl ?_
  intro w0 F
  refine w_fact (p := l.length ≤ cap) (fun w hi => (sl_facts (p := p) hi (by first | exact mm0 | exact mm1 | exact mm2 | exact mm3 | exact mm4 | exact mm5 | exact mm6 | exact mm7)).2.1) (fun hcap => ?_)
  have hlen : i + (l.length - (i + 1)) = l.length - 1 := by omega
  refine w_seq ?_
  refine w_region ?_
  refine o_val (v_assign rfl) rfl ?_
  refine o_nil ?_
  refine thn_n ?_
  refine w_seq ?_
  refine w_region ?_
  refine o_val (v_move rfl) rfl ?_
  refine o_val (v_move rfl) rfl ?_
  refine o_val (v_move rfl) rfl ?_
  refine o_val (v_move rfl) rfl ?_
  refine o_val (v_len (ty' := 0) Try.underlying53 rfl) rfl ?_
  refine o_val (v_slice i (i + 1) l.length T.sl53 rfl ⟨_, rfl⟩ ⟨_, rfl⟩ ⟨_, rfl⟩ (by omega) (by omega) (by omega)) rfl ?_
  refine o_nil ?_
  refine thn_n ?_
  refine w_seq ?_
  refine w_seq ?_
  refine w_region ?_
  refine o_val (v_move rfl) rfl ?_
  refine o_val (v_move rfl) rfl ?_
  refine o_val (v_eql rfl rfl) rfl ?_
  refine o_nil ?_
  refine thn_n ?_
  first | refine w_condD rfl (fun h16 => ?_) (fun h16 => ?_) | refine w_cond rfl (fun h16 => ?_) (fun h16 => ?_)
  ·
    exact absurd h16 (by omega)
  ·
    refine w_skip ?_
    refine thn_n ?_
    refine w_seq ?_
    refine w_region ?_
    refine o_val (v_move rfl) rfl ?_
    refine o_val (v_len (ty' := 0) Try.underlying53 rfl) rfl ?_
    refine o_val (v_assign rfl) rfl ?_
    refine o_nil ?_
    refine thn_n ?_
    refine w_seq ?_
    refine w_chain (Ls := [_, (Sl p (l.length - 1) cap 57 3 ((l.eraseIdx i).flatMap enc) :: F)]) [⟨[], [], [0], 0, 0⟩, ⟨[], [], [1], 0, 0⟩, ⟨[0, 1], [0, 1], [], 0, 0⟩, ⟨[], [], [0], 0, 0⟩, ⟨[], [], [2], 0, 0⟩, ⟨[3, 4], [3, 4], [], 0, 0⟩, ⟨[0, 1, 2, 3, 4, 5], [2, 5], [], 0, 0⟩, ⟨[0, 1, 2, 3, 4, 5, 6], [6], [], 1, 1⟩] [6] T.mixed (by kernel_rfl) rfl rfl rfl rfl ?_
    refine owed_pure [(0, _)] rfl rfl (fun _ => st_v (v_move rfl) ⟨rfl, rfl⟩) ?_
    refine owed_pure [(1, _)] rfl rfl (fun _ => st_v (v_move rfl) ⟨rfl, rfl⟩) ?_
    refine owed_pure [(20, _), (21, _)] rfl rfl (fun _ => st_v (v_slice0 i cap T.sl53 rfl ⟨_, rfl⟩ rfl (by omega) (by omega)) ⟨rfl, rfl⟩) ?_
    refine owed_pure [(0, _)] rfl rfl (fun _ => st_v (v_move rfl) ⟨rfl, rfl⟩) ?_
    refine owed_pure [(2, _)] rfl rfl (fun _ => st_v (v_move rfl) ⟨rfl, rfl⟩) ?_
    refine owed_pure [(23, _), (24, _)] rfl rfl (fun _ => st_v (v_slice (i + 1) l.length cap T.sl53 rfl ⟨_, rfl⟩ ⟨rfl, rfl⟩ rfl (by omega) (by omega) (by omega)) ⟨rfl, rfl⟩) ?_
    refine owed_link [(22, _), (25, _)] rfl rfl rfl rfl (st_mono (st_x (x_appendDown (n := l.length) (k := i) (l := i + 1) T.sl53 rfl rfl rr0 (by omega) (by omega) (encs_one l))) (fun v L2 h => ⟨by rw [h.1, hlen], by rw [h.2, hlen, encs_erase]; exact .refl _⟩)) ?_
    refine owed_pure [(26, _)] rfl rfl (fun _ => st_v (v_assign rfl) ⟨rfl, rfl⟩) ?_
    refine owed_nil ?_
    refine thn_n ?_
    refine w_keep _ (.cons (d := 0) rfl (.cons (d := 7) rfl (.nil _))) ?_
    refine w_seq ?_
    refine w_region ?_
    refine o_val (v_move rfl) rfl ?_
    refine o_val (v_move rfl) rfl ?_
    refine o_val (v_len (ty' := 0) Try.underlying53 rfl) rfl ?_
    refine o_val (v_move rfl) rfl ?_
    refine o_val (v_slice (l.length - 1) l.length cap T.sl53 rfl ⟨_, rfl⟩ ⟨_, rfl⟩ rfl (by omega) (by omega) (by omega)) rfl ?_
    refine o_eff (v_clear T.sl53 T.z57 rfl rfl (by first | exact mm0 | exact mm1 | exact mm2 | exact mm3 | exact mm4 | exact mm5 | exact mm6 | exact mm7) (by omega)) ?_
    refine o_nil ?_
    refine thn_n ?_
    refine w_seq ?_
    refine w_region ?_
    refine o_val (v_move rfl) rfl ?_
    refine o_val (v_assign rfl) rfl ?_
    refine o_nil ?_
    refine thn_n ?_
    refine w_ret ?_
    exact ret_ok (G := [_]) (res1 rfl) ⟨rfl, rfl⟩ (sub (.cons (by first | exact rr0 | exact rr1 | exact rr2 | exact rr3 | exact rr4 | exact rr5 | exact rr6 | exact rr7) .nil) (by first | exact dd0 | exact dd1 | exact dd2 | exact dd3 | exact dd4 | exact dd5 | exact dd6 | exact dd7 | exact dd8))


theorem place_some (b : Nat) (who : Int) (l : List Mb) (hl : l.length ≤ 1000) (i : Nat) (hi : l.findIdx? (isWho who) = some i) : Ctr Try.prog 25 [.pointer (some ⟨b, 0, none⟩), .int .i64 who] [IsFair b l] (Ret fun v G => v = .int .i64 (i : Int) ∧ G = [IsFair b l]) := by
  have h := place b who l hl
  rw [idx_some hi] at h
  exact h
theorem place_none (b : Nat) (who : Int) (l : List Mb) (hl : l.length ≤ 1000) (hi : l.findIdx? (isWho who) = none) : Ctr Try.prog 25 [.pointer (some ⟨b, 0, none⟩), .int .i64 who] [IsFair b l] (Ret fun v G => v = .int .i64 (-1) ∧ G = [IsFair b l]) := by
  have h := place b who l hl
  rw [idx_none hi] at h
  exact h


set_option maxRecDepth 100000 in
theorem leave_no (b : Nat) (who : Int) (l : List Mb) (hl : l.length ≤ 1000) (hi : l.findIdx? (isWho who) = none) : Ctr Try.prog 16 [.pointer (some ⟨b, 0, none⟩), .int .i64 who] [IsFair b l] (Ret fun v G => v = .bool false ∧ G = [IsFair b l]) := by
  refine spec_of [(0, _), (1, _)] Try.func16 rfl Try.ntmps16 rfl rfl ?_
  intro w0 F
  refine w_seq ?_
  refine w_region ?_
  refine o_val (v_assign rfl) rfl ?_
  refine o_nil ?_
  refine thn_n ?_
  refine w_seq ?_
  refine w_region ?_
  refine o_val (v_move rfl) rfl ?_
  refine o_val (v_move rfl) rfl ?_
  refine o_call (place_none b who l hl hi) T.b25  rfl (.cons (by first | exact rr0 | exact rr1 | exact rr2 | exact rr3 | exact rr4 | exact rr5 | exact rr6 | exact rr7) .nil) rfl ?_
  rintro _ _ ⟨rfl, rfl⟩
  refine o_val (v_assign rfl) rfl ?_
  refine o_nil ?_
  refine thn_n ?_
  refine w_seq ?_
  refine w_seq ?_
  refine w_region ?_
  refine o_val (v_move rfl) rfl ?_
  refine o_val (v_lss rfl rfl) rfl ?_
  refine o_nil ?_
  refine thn_n ?_
  first | refine w_condD rfl (fun h10 => ?_) (fun h10 => ?_) | refine w_cond rfl (fun h10 => ?_) (fun h10 => ?_)
  ·
    refine w_seq ?_
    refine w_region ?_
    refine o_val (v_assign rfl) rfl ?_
    refine o_nil ?_
    refine thn_n ?_
    refine w_ret ?_
    refine (thn_r ?_)
    exact ret_ok (G := [_]) (res1 rfl) ⟨rfl, rfl⟩ (sub (.cons (by first | exact rr0 | exact rr1 | exact rr2 | exact rr3 | exact rr4 | exact rr5 | exact rr6 | exact rr7) .nil) (by first | exact dd0 | exact dd1 | exact dd2 | exact dd3 | exact dd4 | exact dd5 | exact dd6 | exact dd7 | exact dd8))
  ·
    exact absurd h10 (by omega)

set_option maxRecDepth 100000 in
theorem leave_yes (b : Nat) (who : Int) (l : List Mb) (hl : l.length ≤ 1000) (i : Nat) (hi : l.findIdx? (isWho who) = some i) : Ctr Try.prog 16 [.pointer (some ⟨b, 0, none⟩), .int .i64 who] [IsFair b l] (Ret fun v G => v = .bool true ∧ G = [IsFair b (l.eraseIdx i)]) := by
  refine spec_of [(0, _), (1, _)] Try.func16 rfl Try.ntmps16 rfl rfl ?_
  intro w0 F
  refine w_seq ?_
  refine w_region ?_
  refine o_val (v_assign rfl) rfl ?_
  refine o_nil ?_
  refine thn_n ?_
  refine w_seq ?_
  refine w_region ?_
  refine o_val (v_move rfl) rfl ?_
  refine o_val (v_move rfl) rfl ?_
  refine o_call (place_some b who l hl i hi) T.b25  rfl (.cons (by first | exact rr0 | exact rr1 | exact rr2 | exact rr3 | exact rr4 | exact rr5 | exact rr6 | exact rr7) .nil) rfl ?_
  rintro _ _ ⟨rfl, rfl⟩
  refine o_val (v_assign rfl) rfl ?_
  refine o_nil ?_
  refine thn_n ?_
  refine w_seq ?_
  refine w_seq ?_
  refine w_region ?_
  refine o_val (v_move rfl) rfl ?_
  refine o_val (v_lss rfl rfl) rfl ?_
  refine o_nil ?_
  refine thn_n ?_
  first | refine w_condD rfl (fun h10 => ?_) (fun h10 => ?_) | refine w_cond rfl (fun h10 => ?_) (fun h10 => ?_)
  ·
    exact absurd h10 (by omega)
  ·
    refine w_skip ?_
    refine thn_n ?_
    refine w_seq ?_
    refine w_opn (fun h hh => hh) ?_
    rintro ⟨p, cap⟩ _
    have hlt := findIdx_lt hi
    refine w_region ?_
    refine o_val (v_move rfl) rfl ?_
    refine o_val (v_move rfl) rfl ?_
    refine o_val (v_nil rfl) rfl ?_
    refine o_val (v_fieldAddr T.f55_0 rfl) rfl ?_
    refine o_val (v_load T.s53 rfl (by first | exact mm0 | exact mm1 | exact mm2 | exact mm3 | exact mm4 | exact mm5 | exact mm6 | exact mm7) rfl) rfl ?_
    refine o_val (v_move rfl) rfl ?_
    refine o_val (v_move rfl) rfl ?_
    refine o_val (v_add rfl rfl (wrapI (by omega) (by omega))) rfl ?_
    refine o_call (delete l p cap i (findIdx_lt hi) hl) T.b29  rfl (.cons (by first | exact rr0 | exact rr1 | exact rr2 | exact rr3 | exact rr4 | exact rr5 | exact rr6 | exact rr7) .nil) rfl ?_
    rintro _ _ ⟨rfl, rfl⟩
    refine o_val (v_nil rfl) rfl ?_
    refine o_val (v_fieldAddr T.f55_0 rfl) rfl ?_
    refine o_eff (v_store T.s53 rfl rfl rfl (by first | exact pp0 | exact pp1 | exact pp2 | exact pp3 | exact pp4 | exact pp5 | exact pp6 | exact pp7) (by exact Nat.le_of_ble_eq_true rfl) rfl) ?_
    refine o_nil ?_
    refine thn_n ?_
    refine w_seq ?_
    refine w_region ?_
    refine o_val (v_assign rfl) rfl ?_
    refine o_nil ?_
    refine thn_n ?_
    refine w_ret ?_
    exact ret_ok (G := [IsFair b (l.eraseIdx i)]) (res1 rfl) ⟨rfl, rfl⟩ (fold' (.cons (by first | exact rr0 | exact rr1 | exact rr2 | exact rr3 | exact rr4 | exact rr5 | exact rr6 | exact rr7) (.cons (by first | exact rr0 | exact rr1 | exact rr2 | exact rr3 | exact rr4 | exact rr5 | exact rr6 | exact rr7) .nil)) (by first | exact dd0 | exact dd1 | exact dd2 | exact dd3 | exact dd4 | exact dd5 | exact dd6 | exact dd7 | exact dd8) (fun w0 h hh => fair_close (by rw [List.length_eraseIdx, if_pos hlt]) hh))

set_option maxRecDepth 100000 in
theorem credit_no (b : Nat) (who : Int) (l : List Mb) (hl : l.length ≤ 1000) (hi : l.findIdx? (isWho who) = none) : Ctr Try.prog 14 [.pointer (some ⟨b, 0, none⟩), .int .i64 who] [IsFair b l] (Ret fun v G => v = .int .i64 0 ∧ G = [IsFair b l]) := by
  refine spec_of [(0, _), (1, _)] Try.func14 rfl Try.ntmps14 rfl rfl ?_
  intro w0 F
  refine w_seq ?_
  refine w_region ?_
  refine o_val (v_assign rfl) rfl ?_
  refine o_nil ?_
  refine thn_n ?_
  refine w_seq ?_
  refine w_region ?_
  refine o_val (v_move rfl) rfl ?_
  refine o_val (v_move rfl) rfl ?_
  refine o_call (place_none b who l hl hi) T.b25  rfl (.cons (by first | exact rr0 | exact rr1 | exact rr2 | exact rr3 | exact rr4 | exact rr5 | exact rr6 | exact rr7) .nil) rfl ?_
  rintro _ _ ⟨rfl, rfl⟩
  refine o_val (v_assign rfl) rfl ?_
  refine o_nil ?_
  refine thn_n ?_
  refine w_seq ?_
  refine w_seq ?_
  refine w_region ?_
  refine o_val (v_move rfl) rfl ?_
  refine o_val (v_lss rfl rfl) rfl ?_
  refine o_nil ?_
  refine thn_n ?_
  first | refine w_condD rfl (fun h10 => ?_) (fun h10 => ?_) | refine w_cond rfl (fun h10 => ?_) (fun h10 => ?_)
  ·
    refine w_seq ?_
    refine w_region ?_
    refine o_val (v_assign rfl) rfl ?_
    refine o_nil ?_
    refine thn_n ?_
    refine w_ret ?_
    refine (thn_r ?_)
    exact ret_ok (G := [_]) (res1 rfl) ⟨rfl, rfl⟩ (sub (.cons (by first | exact rr0 | exact rr1 | exact rr2 | exact rr3 | exact rr4 | exact rr5 | exact rr6 | exact rr7) .nil) (by first | exact dd0 | exact dd1 | exact dd2 | exact dd3 | exact dd4 | exact dd5 | exact dd6 | exact dd7 | exact dd8))
  ·
    exact absurd h10 (by omega)

set_option maxRecDepth 100000 in
theorem credit_yes (b : Nat) (who : Int) (l : List Mb) (hl : l.length ≤ 1000) (i : Nat) (hi : l.findIdx? (isWho who) = some i) : Ctr Try.prog 14 [.pointer (some ⟨b, 0, none⟩), .int .i64 who] [IsFair b l] (Ret fun v G => v = .int .i64 (l[i]'(findIdx_lt hi)).c ∧ G = [IsFair b l]) := by
  refine spec_of [(0, _), (1, _)] Try.func14 rfl Try.ntmps14 rfl rfl ?_
  intro w0 F
  refine w_seq ?_
  refine w_region ?_
  refine o_val (v_assign rfl) rfl ?_
  refine o_nil ?_
  refine thn_n ?_
  refine w_seq ?_
  refine w_region ?_
  refine o_val (v_move rfl) rfl ?_
  refine o_val (v_move rfl) rfl ?_
  refine o_call (place_some b who l hl i hi) T.b25  rfl (.cons (by first | exact rr0 | exact rr1 | exact rr2 | exact rr3 | exact rr4 | exact rr5 | exact rr6 | exact rr7) .nil) rfl ?_
  rintro _ _ ⟨rfl, rfl⟩
  refine o_val (v_assign rfl) rfl ?_
  refine o_nil ?_
  refine thn_n ?_
  refine w_seq ?_
  refine w_seq ?_
  refine w_region ?_
  refine o_val (v_move rfl) rfl ?_
  refine o_val (v_lss rfl rfl) rfl ?_
  refine o_nil ?_
  refine thn_n ?_
  first | refine w_condD rfl (fun h10 => ?_) (fun h10 => ?_) | refine w_cond rfl (fun h10 => ?_) (fun h10 => ?_)
  ·
    exact absurd h10 (by omega)
  ·
    refine w_skip ?_
    refine thn_n ?_
    refine w_seq ?_
    refine w_opn (fun h hh => hh) ?_
    rintro ⟨p, cap⟩ _
    have hlt := findIdx_lt hi
    refine w_some (p := p) (by first | exact mm0 | exact mm1 | exact mm2 | exact mm3 | exact mm4 | exact mm5 | exact mm6 | exact mm7) (by omega) (fun ba o e => ?_)
    subst e
    refine w_region ?_
    refine o_val (v_move rfl) rfl ?_
    refine o_val (v_nil rfl) rfl ?_
    refine o_val (v_fieldAddr T.f55_0 rfl) rfl ?_
    refine o_val (v_load T.s53 rfl (by first | exact mm0 | exact mm1 | exact mm2 | exact mm3 | exact mm4 | exact mm5 | exact mm6 | exact mm7) rfl) rfl ?_
    refine o_val (v_move rfl) rfl ?_
    refine o_val (v_index _ rfl T.sl53 rfl rfl (by omega)) rfl ?_
    refine o_val (v_fieldAddr T.f57_2 rfl) rfl ?_
    refine o_val (v_loadS (i * 3 + 2) T.s3 rfl (by first | exact mm0 | exact mm1 | exact mm2 | exact mm3 | exact mm4 | exact mm5 | exact mm6 | exact mm7) (by omega) (encs_get hlt rfl)) rfl ?_
    refine o_val (v_assign rfl) rfl ?_
    refine o_nil ?_
    refine thn_n ?_
    refine w_ret ?_
    exact ret_ok (G := [IsFair b l]) (res1 rfl) ⟨rfl, rfl⟩ (fold' (.cons (by first | exact rr0 | exact rr1 | exact rr2 | exact rr3 | exact rr4 | exact rr5 | exact rr6 | exact rr7) (.cons (by first | exact rr0 | exact rr1 | exact rr2 | exact rr3 | exact rr4 | exact rr5 | exact rr6 | exact rr7) .nil)) (by first | exact dd0 | exact dd1 | exact dd2 | exact dd3 | exact dd4 | exact dd5 | exact dd6 | exact dd7 | exact dd8) (fun w0 h hh => fair_close rfl hh))

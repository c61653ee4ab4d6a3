/-
  Steps of the proof: walks of functions that the statement reaches; printed by a program of ours.
-/
import Derived.Test.YtpkemaglokbfiaaFairI
import Derived.Test.YtpkemaglokbfiaaFairPlain8
import Derived.Test.YtpkemaglokbfiaaSl15
import Derived.Test.YtpkemaglokbfiaaFairFacts
namespace Go.Proofs.Ytpkemaglokbfiaa
open Go.Sl Go.FairP Ieee
set_option linter.unusedVariables false
set_option linter.unusedSimpArgs false

set_option maxRecDepth 100000 in
theorem r_at (b : Nat) (l : List Mb) (who : Int) (hl : l.length ≤ 1000) : Ctr Try.prog 32 [.pointer (some ⟨b, 0, none⟩), .int .i64 who] [RF b l] (Ret fun v G => v = .int .i64 (idx l (isWho who)) ∧ G = [RF b l]) := by
  refine spec_of [(0, _), (1, _)] Try.func32 rfl Try.ntmps32 rfl rfl ?_
  intro w0 F
  refine w_opn (fun h hh => hh) ?_
  rintro ⟨p1, c1, p2, c2, p3, c3⟩ _
  dsimp only
  refine w_seq ?_
  refine w_region ?_
  refine o_val (v_assign rfl) rfl ?_
  refine o_nil ?_
  refine thn_n ?_
  refine w_seq ?_
  refine w_seq ?_
  refine w_region ?_
  refine o_val (v_assign rfl) rfl ?_
  refine o_nil ?_
  refine thn_n ?_
  refine w_block ?_
  refine w_loop1 (fun (k : Nat) => [(0, .pointer (some ⟨b, 0, none⟩)), (1, .int .i64 who), (5, .int .i64 (k : Int))]) (fun (k : Nat) => Cel b 46 [.slice p1 l.length c1, .slice p2 l.length c2, .slice p3 l.length c3] :: Row I3 p1 l.length c1 (l.map Mb.who) :: Row I3 p2 l.length c2 (l.map Mb.q) :: Row I3 p3 l.length c3 (l.map Mb.c) :: F) (fun (k : Nat) => k ≤ l.length ∧ ∀ j (hj : j < l.length), j < k → isWho who l[j] = false) (fun (k : Nat) => l.length - k) (i1 (0) ?_ (.cons rfl (.cons rfl (.cons rfl (.nil _)))) (sub (.cons (by first | exact rr0 | exact rr1 | exact rr2 | exact rr3 | exact rr4 | exact rr5 | exact rr6 | exact rr7 | exact rr8 | exact rr9 | exact rr10 | exact rr11 | exact rr12 | exact rr13 | exact rr14) (.cons (by first | exact rr0 | exact rr1 | exact rr2 | exact rr3 | exact rr4 | exact rr5 | exact rr6 | exact rr7 | exact rr8 | exact rr9 | exact rr10 | exact rr11 | exact rr12 | exact rr13 | exact rr14) (.cons (by first | exact rr0 | exact rr1 | exact rr2 | exact rr3 | exact rr4 | exact rr5 | exact rr6 | exact rr7 | exact rr8 | exact rr9 | exact rr10 | exact rr11 | exact rr12 | exact rr13 | exact rr14) (.cons (by first | exact rr0 | exact rr1 | exact rr2 | exact rr3 | exact rr4 | exact rr5 | exact rr6 | exact rr7 | exact rr8 | exact rr9 | exact rr10 | exact rr11 | exact rr12 | exact rr13 | exact rr14) .nil)))) (by first | exact dd0 | exact dd1 | exact dd2 | exact dd3 | exact dd4 | exact dd5 | exact dd6 | exact dd7 | exact dd8 | exact dd9 | exact dd10 | exact dd11 | exact dd12 | exact dd13 | exact dd14))) ?_
  ·
    exact ⟨by omega, fun j hj h => by omega⟩
  intro k
  rintro ⟨hk, hno⟩
  refine w_seq ?_
  refine w_seq ?_
  refine w_region ?_
  refine o_val (v_move rfl) rfl ?_
  refine o_val (v_move rfl) rfl ?_
  refine o_val (v_nil rfl) rfl ?_
  refine o_val (v_fieldAddr V.f46_0 rfl) rfl ?_
  refine o_val (v_load V.s27 rfl (by first | exact mm0 | exact mm1 | exact mm2 | exact mm3 | exact mm4 | exact mm5 | exact mm6 | exact mm7 | exact mm8 | exact mm9 | exact mm10 | exact mm11 | exact mm12 | exact mm13 | exact mm14) rfl) rfl ?_
  refine o_val (v_len (ty' := 0) Try.underlying27 rfl) rfl ?_
  refine o_val (v_lss rfl rfl) rfl ?_
  refine o_nil ?_
  refine thn_n ?_
  first | refine w_condD rfl (fun h12 => ?_) (fun h12 => ?_) | refine w_cond rfl (fun h12 => ?_) (fun h12 => ?_)
  ·
    refine w_skip ?_
    refine thn_n ?_
    refine w_seq ?_
    refine w_block ?_
    refine w_seq ?_
    have hk2 : k < l.length := by omega
    refine w_region ?_
    refine o_val (v_move rfl) rfl ?_
    refine o_val (v_nil rfl) rfl ?_
    refine o_val (v_fieldAddr V.f46_0 rfl) rfl ?_
    refine o_val (v_load V.s27 rfl (by first | exact mm0 | exact mm1 | exact mm2 | exact mm3 | exact mm4 | exact mm5 | exact mm6 | exact mm7 | exact mm8 | exact mm9 | exact mm10 | exact mm11 | exact mm12 | exact mm13 | exact mm14) rfl) rfl ?_
    refine o_val (v_move rfl) rfl ?_
    refine o_val (r_index (c := (I3)) V.sl27 rfl rfl (by first | exact own mm0 | exact own mm1 | exact own mm2 | exact own mm3 | exact own mm4 | exact own mm5 | exact own mm6 | exact own mm7 | exact own mm8 | exact own mm9 | exact own mm10 | exact own mm11) (by omega) (by omega)) rfl ?_
    refine o_val (r_load (c := (I3)) V.s3 rfl (by first | exact own mm0 | exact own mm1 | exact own mm2 | exact own mm3 | exact own mm4 | exact own mm5 | exact own mm6 | exact own mm7 | exact own mm8 | exact own mm9 | exact own mm10 | exact own mm11) (by omega) (by omega) rfl rfl) rfl ?_
    refine o_val (v_move rfl) rfl ?_
    refine o_val (v_eql rfl rfl) rfl ?_
    refine o_nil ?_
    refine thn_n ?_
    first | refine w_condD rfl (fun h23 => ?_) (fun h23 => ?_) | refine w_cond rfl (fun h23 => ?_) (fun h23 => ?_)
    ·
      refine w_seq ?_
      refine w_region ?_
      refine o_val (v_move rfl) rfl ?_
      refine o_val (v_assign rfl) rfl ?_
      refine o_nil ?_
      refine thn_n ?_
      refine w_ret ?_
      refine (blk_r (thn_r (thn_r (blk_r (thn_r ?_)))))
      exact ret_ok (G := [RF b l]) (res1 rfl) ⟨by rw [idx_yes hk2 (by rw [isWho, decide_eq_true]; rw [← g_who hk2]; exact h23) (fun j hj => hno j (by omega) hj)], rfl⟩ (fold' (.cons (by first | exact rr0 | exact rr1 | exact rr2 | exact rr3 | exact rr4 | exact rr5 | exact rr6 | exact rr7 | exact rr8 | exact rr9 | exact rr10 | exact rr11 | exact rr12 | exact rr13 | exact rr14) (.cons (by first | exact rr0 | exact rr1 | exact rr2 | exact rr3 | exact rr4 | exact rr5 | exact rr6 | exact rr7 | exact rr8 | exact rr9 | exact rr10 | exact rr11 | exact rr12 | exact rr13 | exact rr14) (.cons (by first | exact rr0 | exact rr1 | exact rr2 | exact rr3 | exact rr4 | exact rr5 | exact rr6 | exact rr7 | exact rr8 | exact rr9 | exact rr10 | exact rr11 | exact rr12 | exact rr13 | exact rr14) (.cons (by first | exact rr0 | exact rr1 | exact rr2 | exact rr3 | exact rr4 | exact rr5 | exact rr6 | exact rr7 | exact rr8 | exact rr9 | exact rr10 | exact rr11 | exact rr12 | exact rr13 | exact rr14) .nil)))) (by first | exact dd0 | exact dd1 | exact dd2 | exact dd3 | exact dd4 | exact dd5 | exact dd6 | exact dd7 | exact dd8 | exact dd9 | exact dd10 | exact dd11 | exact dd12 | exact dd13 | exact dd14) (fun w0 h hh => rf_close (rfl) (rfl) (rfl) (rfl) hh))
    ·
      refine w_skip ?_
      refine blk_n ?_
      refine thn_n ?_
      refine w_region ?_
      refine o_val (v_move rfl) rfl ?_
      refine o_val (v_add rfl rfl (wrapI (by omega) (by omega))) rfl ?_
      refine o_val (v_assign rfl) rfl ?_
      refine o_nil ?_
      refine j1 (k + 1) ?_ (.cons rfl (.cons rfl (.cons rfl (.nil _)))) (sub (.cons (by first | exact rr0 | exact rr1 | exact rr2 | exact rr3 | exact rr4 | exact rr5 | exact rr6 | exact rr7 | exact rr8 | exact rr9 | exact rr10 | exact rr11 | exact rr12 | exact rr13 | exact rr14) (.cons (by first | exact rr0 | exact rr1 | exact rr2 | exact rr3 | exact rr4 | exact rr5 | exact rr6 | exact rr7 | exact rr8 | exact rr9 | exact rr10 | exact rr11 | exact rr12 | exact rr13 | exact rr14) (.cons (by first | exact rr0 | exact rr1 | exact rr2 | exact rr3 | exact rr4 | exact rr5 | exact rr6 | exact rr7 | exact rr8 | exact rr9 | exact rr10 | exact rr11 | exact rr12 | exact rr13 | exact rr14) (.cons (by first | exact rr0 | exact rr1 | exact rr2 | exact rr3 | exact rr4 | exact rr5 | exact rr6 | exact rr7 | exact rr8 | exact rr9 | exact rr10 | exact rr11 | exact rr12 | exact rr13 | exact rr14) .nil)))) (by first | exact dd0 | exact dd1 | exact dd2 | exact dd3 | exact dd4 | exact dd5 | exact dd6 | exact dd7 | exact dd8 | exact dd9 | exact dd10 | exact dd11 | exact dd12 | exact dd13 | exact dd14))
      refine ⟨⟨by omega, fun j hj hlt => ?_⟩, by omega⟩
      by_cases e : j = k
      · subst e; rw [isWho, decide_eq_false]; rw [← g_who hk2]; exact h23
      · exact hno j hj (by omega)
  ·
    refine w_exit ?_
    refine thn_e ?_
    refine thn_e ?_
    refine blk_x ?_
    refine thn_n ?_
    refine w_seq ?_
    refine w_region ?_
    refine o_val (v_assign rfl) rfl ?_
    refine o_nil ?_
    refine thn_n ?_
    refine w_ret ?_
    exact ret_ok (G := [RF b l]) (res1 rfl) ⟨by rw [idx_no (fun j hj => hno j hj (by omega))], rfl⟩ (fold' (.cons (by first | exact rr0 | exact rr1 | exact rr2 | exact rr3 | exact rr4 | exact rr5 | exact rr6 | exact rr7 | exact rr8 | exact rr9 | exact rr10 | exact rr11 | exact rr12 | exact rr13 | exact rr14) (.cons (by first | exact rr0 | exact rr1 | exact rr2 | exact rr3 | exact rr4 | exact rr5 | exact rr6 | exact rr7 | exact rr8 | exact rr9 | exact rr10 | exact rr11 | exact rr12 | exact rr13 | exact rr14) (.cons (by first | exact rr0 | exact rr1 | exact rr2 | exact rr3 | exact rr4 | exact rr5 | exact rr6 | exact rr7 | exact rr8 | exact rr9 | exact rr10 | exact rr11 | exact rr12 | exact rr13 | exact rr14) (.cons (by first | exact rr0 | exact rr1 | exact rr2 | exact rr3 | exact rr4 | exact rr5 | exact rr6 | exact rr7 | exact rr8 | exact rr9 | exact rr10 | exact rr11 | exact rr12 | exact rr13 | exact rr14) .nil)))) (by first | exact dd0 | exact dd1 | exact dd2 | exact dd3 | exact dd4 | exact dd5 | exact dd6 | exact dd7 | exact dd8 | exact dd9 | exact dd10 | exact dd11 | exact dd12 | exact dd13 | exact dd14) (fun w0 h hh => rf_close (rfl) (rfl) (rfl) (rfl) hh))


theorem r_at_some (b : Nat) (who : Int) (l : List Mb) (hl : l.length ≤ 1000) (i : Nat) (hi : l.findIdx? (isWho who) = some i) : Ctr Try.prog 32 [.pointer (some ⟨b, 0, none⟩), .int .i64 who] [RF b l] (Ret fun v G => v = .int .i64 (i : Int) ∧ G = [RF b l]) := by
  have h := r_at b l who hl
  rw [idx_some hi] at h
  exact h
theorem r_at_none (b : Nat) (who : Int) (l : List Mb) (hl : l.length ≤ 1000) (hi : l.findIdx? (isWho who) = none) : Ctr Try.prog 32 [.pointer (some ⟨b, 0, none⟩), .int .i64 who] [RF b l] (Ret fun v G => v = .int .i64 (-1) ∧ G = [RF b l]) := by
  have h := r_at b l who hl
  rw [idx_none hi] at h
  exact h


set_option maxRecDepth 100000 in
theorem r_credit_no (b : Nat) (who : Int) (l : List Mb) (hl : l.length ≤ 1000) (hi : l.findIdx? (isWho who) = none) : Ctr Try.prog 23 [.pointer (some ⟨b, 0, none⟩), .int .i64 who] [RF b l] (Ret fun v G => v = .int .i64 0 ∧ G = [RF b l]) := by
  refine spec_of [(0, _), (1, _)] Try.func23 rfl Try.ntmps23 rfl rfl ?_
  intro w0 F
  refine w_seq ?_
  refine w_region ?_
  refine o_val (v_assign rfl) rfl ?_
  refine o_nil ?_
  refine thn_n ?_
  refine w_seq ?_
  refine w_region ?_
  refine o_val (v_move rfl) rfl ?_
  refine o_val (v_move rfl) rfl ?_
  refine o_call (r_at_none b who l hl hi) V.b32  rfl (.cons (by first | exact rr0 | exact rr1 | exact rr2 | exact rr3 | exact rr4 | exact rr5 | exact rr6 | exact rr7 | exact rr8 | exact rr9 | exact rr10 | exact rr11 | exact rr12 | exact rr13 | exact rr14) .nil) rfl ?_
  rintro _ _ ⟨rfl, rfl⟩
  refine o_val (v_assign rfl) rfl ?_
  refine o_nil ?_
  refine thn_n ?_
  refine w_seq ?_
  refine w_seq ?_
  refine w_region ?_
  refine o_val (v_move rfl) rfl ?_
  refine o_val (v_lss rfl rfl) rfl ?_
  refine o_nil ?_
  refine thn_n ?_
  first | refine w_condD rfl (fun h10 => ?_) (fun h10 => ?_) | refine w_cond rfl (fun h10 => ?_) (fun h10 => ?_)
  ·
    refine w_seq ?_
    refine w_region ?_
    refine o_val (v_assign rfl) rfl ?_
    refine o_nil ?_
    refine thn_n ?_
    refine w_ret ?_
    refine (thn_r ?_)
    exact ret_ok (G := [_]) (res1 rfl) ⟨rfl, rfl⟩ (sub (.cons (by first | exact rr0 | exact rr1 | exact rr2 | exact rr3 | exact rr4 | exact rr5 | exact rr6 | exact rr7 | exact rr8 | exact rr9 | exact rr10 | exact rr11 | exact rr12 | exact rr13 | exact rr14) .nil) (by first | exact dd0 | exact dd1 | exact dd2 | exact dd3 | exact dd4 | exact dd5 | exact dd6 | exact dd7 | exact dd8 | exact dd9 | exact dd10 | exact dd11 | exact dd12 | exact dd13 | exact dd14))
  ·
    exact absurd h10 (by omega)

set_option maxRecDepth 100000 in
theorem r_credit_yes (b : Nat) (who : Int) (l : List Mb) (hl : l.length ≤ 1000) (i : Nat) (hi : l.findIdx? (isWho who) = some i) : Ctr Try.prog 23 [.pointer (some ⟨b, 0, none⟩), .int .i64 who] [RF b l] (Ret fun v G => v = .int .i64 (l[i]'(findIdx_lt hi)).c ∧ G = [RF b l]) := by
  refine spec_of [(0, _), (1, _)] Try.func23 rfl Try.ntmps23 rfl rfl ?_
  intro w0 F
  refine w_seq ?_
  refine w_region ?_
  refine o_val (v_assign rfl) rfl ?_
  refine o_nil ?_
  refine thn_n ?_
  refine w_seq ?_
  refine w_region ?_
  refine o_val (v_move rfl) rfl ?_
  refine o_val (v_move rfl) rfl ?_
  refine o_call (r_at_some b who l hl i hi) V.b32  rfl (.cons (by first | exact rr0 | exact rr1 | exact rr2 | exact rr3 | exact rr4 | exact rr5 | exact rr6 | exact rr7 | exact rr8 | exact rr9 | exact rr10 | exact rr11 | exact rr12 | exact rr13 | exact rr14) .nil) rfl ?_
  rintro _ _ ⟨rfl, rfl⟩
  refine o_val (v_assign rfl) rfl ?_
  refine o_nil ?_
  refine thn_n ?_
  refine w_seq ?_
  refine w_seq ?_
  refine w_region ?_
  refine o_val (v_move rfl) rfl ?_
  refine o_val (v_lss rfl rfl) rfl ?_
  refine o_nil ?_
  refine thn_n ?_
  first | refine w_condD rfl (fun h10 => ?_) (fun h10 => ?_) | refine w_cond rfl (fun h10 => ?_) (fun h10 => ?_)
  ·
    exact absurd h10 (by omega)
  ·
    refine w_skip ?_
    refine thn_n ?_
    refine w_seq ?_
    refine w_opn (fun h hh => hh) ?_
    rintro ⟨p1, c1, p2, c2, p3, c3⟩ _
    dsimp only
    have hlt := findIdx_lt hi
    refine w_region ?_
    refine o_val (v_move rfl) rfl ?_
    refine o_val (v_nil rfl) rfl ?_
    refine o_val (v_fieldAddr V.f46_2 rfl) rfl ?_
    refine o_val (v_load V.s27 rfl (by first | exact mm0 | exact mm1 | exact mm2 | exact mm3 | exact mm4 | exact mm5 | exact mm6 | exact mm7 | exact mm8 | exact mm9 | exact mm10 | exact mm11 | exact mm12 | exact mm13 | exact mm14) rfl) rfl ?_
    refine o_val (v_move rfl) rfl ?_
    refine o_val (r_index (c := (I3)) V.sl27 rfl rfl (by first | exact own mm0 | exact own mm1 | exact own mm2 | exact own mm3 | exact own mm4 | exact own mm5 | exact own mm6 | exact own mm7 | exact own mm8 | exact own mm9 | exact own mm10 | exact own mm11) (by omega) (by omega)) rfl ?_
    refine o_val (r_load (c := (I3)) V.s3 rfl (by first | exact own mm0 | exact own mm1 | exact own mm2 | exact own mm3 | exact own mm4 | exact own mm5 | exact own mm6 | exact own mm7 | exact own mm8 | exact own mm9 | exact own mm10 | exact own mm11) (by omega) (by omega) rfl rfl) rfl ?_
    refine o_val (v_assign rfl) rfl ?_
    refine o_nil ?_
    refine thn_n ?_
    refine w_ret ?_
    exact ret_ok (G := [RF b l]) (res1 rfl) ⟨by rw [g_c hlt], rfl⟩ (fold' (.cons (by first | exact rr0 | exact rr1 | exact rr2 | exact rr3 | exact rr4 | exact rr5 | exact rr6 | exact rr7 | exact rr8 | exact rr9 | exact rr10 | exact rr11 | exact rr12 | exact rr13 | exact rr14) (.cons (by first | exact rr0 | exact rr1 | exact rr2 | exact rr3 | exact rr4 | exact rr5 | exact rr6 | exact rr7 | exact rr8 | exact rr9 | exact rr10 | exact rr11 | exact rr12 | exact rr13 | exact rr14) (.cons (by first | exact rr0 | exact rr1 | exact rr2 | exact rr3 | exact rr4 | exact rr5 | exact rr6 | exact rr7 | exact rr8 | exact rr9 | exact rr10 | exact rr11 | exact rr12 | exact rr13 | exact rr14) (.cons (by first | exact rr0 | exact rr1 | exact rr2 | exact rr3 | exact rr4 | exact rr5 | exact rr6 | exact rr7 | exact rr8 | exact rr9 | exact rr10 | exact rr11 | exact rr12 | exact rr13 | exact rr14) .nil)))) (by first | exact dd0 | exact dd1 | exact dd2 | exact dd3 | exact dd4 | exact dd5 | exact dd6 | exact dd7 | exact dd8 | exact dd9 | exact dd10 | exact dd11 | exact dd12 | exact dd13 | exact dd14) (fun w0 h hh => rf_close (rfl) (rfl) (rfl) (rfl) hh))

set_option maxRecDepth 100000 in
theorem r_turn (b : Nat) (m : Mb) (r : List Mb) (hl : r.length ≤ 1000) : Ctr Try.prog 33 [.pointer (some ⟨b, 0, none⟩)] [RF b (m :: r)] (Ret fun v G => v = .tuple #[] ∧ G = [RF b (r ++ [zero m])]) := by
  refine spec_of [(0, _)] Try.func33 rfl Try.ntmps33 rfl rfl ?_
  intro w0 F
  refine w_opn (fun h hh => hh) ?_
  rintro ⟨p1, c1, p2, c2, p3, c3⟩ _
  dsimp only
  simp only [List.length_cons]
  refine w_cap mm1 (fun hc1 => ?_)
  refine w_cap mm2 (fun hc2 => ?_)
  refine w_cap mm3 (fun hc3 => ?_)
  refine w_seq ?_
  refine w_region ?_
  refine o_val (v_move rfl) rfl ?_
  refine o_val (v_nil rfl) rfl ?_
  refine o_val (v_fieldAddr V.f46_2 rfl) rfl ?_
  refine o_val (v_load V.s27 rfl (by first | exact mm0 | exact mm1 | exact mm2 | exact mm3 | exact mm4 | exact mm5 | exact mm6 | exact mm7 | exact mm8 | exact mm9 | exact mm10 | exact mm11 | exact mm12 | exact mm13 | exact mm14) rfl) rfl ?_
  refine o_val (r_index (c := (I3)) V.sl27 rfl rfl (by first | exact own mm0 | exact own mm1 | exact own mm2 | exact own mm3 | exact own mm4 | exact own mm5 | exact own mm6 | exact own mm7 | exact own mm8 | exact own mm9 | exact own mm10 | exact own mm11) (by omega) (by omega)) rfl ?_
  refine o_eff (r_store (c := (I3)) (_) V.s3 rfl rfl rfl (by first | exact pp0 | exact pp1 | exact pp2 | exact pp3 | exact pp4 | exact pp5 | exact pp6 | exact pp7 | exact pp8 | exact pp9 | exact pp10 | exact pp11 | exact pp12 | exact pp13 | exact pp14) (by omega) (by omega) rfl rfl) ?_
  refine o_nil ?_
  refine thn_n ?_
  refine w_seq ?_
  refine w_net [⟨[], [], [0], 0, 0⟩, ⟨[], [], [0], 0, 0⟩, ⟨[1], [1], [], 0, 0⟩, ⟨[1, 2], [2], [], 0, 0⟩, ⟨[1, 2, 3], [3], [], 0, 0⟩, ⟨[1, 2, 3, 4], [4], [], 0, 0⟩, ⟨[1, 2, 3, 4, 5], [5], [], 0, 0⟩, ⟨[], [], [0], 0, 0⟩, ⟨[7], [7], [], 0, 0⟩, ⟨[7, 8], [8], [], 0, 0⟩, ⟨[7, 8, 9], [9], [], 0, 0⟩, ⟨[7, 8, 9, 10], [10], [], 0, 0⟩, ⟨[7, 8, 9, 10, 11], [11], [], 0, 0⟩, ⟨[7, 8, 9, 10, 11, 12], [12], [], 0, 0⟩, ⟨[1, 2, 3, 4, 5, 6, 7, 8, 9, 10, 11, 12, 13], [6, 13], [], 0, 0⟩, ⟨[0, 1, 2, 3, 4, 5, 6, 7, 8, 9, 10, 11, 12, 13, 14], [0], [], 0, 0⟩, ⟨[0, 1, 2, 3, 4, 5, 6, 7, 8, 9, 10, 11, 12, 13, 14, 15], [15], [], 0, 0⟩, ⟨[0, 1, 2, 3, 4, 5, 6, 7, 8, 9, 10, 11, 12, 13, 14, 15, 16], [16, 14], [], 0, 0⟩] [⟨fun y => Cel b 46 [.slice p1 (r.length + 1) c1, .slice p2 (r.length + 1) c2, .slice p3 (r.length + 1) c3], none, some 17, [4, 10]⟩, ⟨fun y => Row I3 p1 (r.length + 1) c1 ((m :: r).map Mb.who), none, none, [6, 11, 12]⟩, ⟨fun y => Row I3 p2 (r.length + 1) c2 ((m :: r).map Mb.q), none, none, []⟩, ⟨fun y => Row I3 p3 (r.length + 1) c3 (((m :: r).map Mb.c).set (0 : Int).toNat 0), none, none, []⟩, ⟨fun y => Row (I3) (slP (y 6)) ((r.length + 1) - 1) (slC (y 6)) ((((m :: r).map Mb.who).drop 1).take ((r.length + 1) - 1)), some 6, some 14, []⟩, ⟨fun y => Row (I3) (some ⟨(blk' (slP (y 13))), 0, none⟩) 1 1 [((I3).g ((m :: r).map Mb.who) 0)], some 13, none, [14]⟩, ⟨fun y => Row (I3) (slP (y 14)) (((r.length + 1) - 1) + 1) (slC (y 14)) (((((m :: r).map Mb.who).drop 1).take ((r.length + 1) - 1)) ++ [((I3).g ((m :: r).map Mb.who) 0)]), some 14, none, []⟩, ⟨fun y => Cel b 46 [.slice (slP (y 14)) (((r.length + 1) - 1) + 1) (slC (y 14)), .slice p2 (r.length + 1) c2, .slice p3 (r.length + 1) c3], some 17, none, []⟩] F V.mixed (by kernel_rfl) rfl (fun _ => .refl _) (locT_0 _ (locT_0 _ (locT_0 _ (locT_0 _ (locT_1 [1, 2, 3, 4, 5] rfl (by intro y y2 h; simp only [h 6 (.inl rfl)]) (locT_1 [7, 8, 9, 10, 11, 12] rfl (by intro y y2 h; simp only [h 13 (.inl rfl)]) (locT_1 [1, 2, 3, 4, 5, 6, 7, 8, 9, 10, 11, 12, 13] rfl (by intro y y2 h; simp only [h 14 (.inl rfl)]) (locT_1 [0, 1, 2, 3, 4, 5, 6, 7, 8, 9, 10, 11, 12, 13, 14, 15, 16] rfl (by intro y y2 h; simp only [h 14 (.inr (by decide))]) locT_nil)))))))) ?_
  refine net_pure (fun y => [(0, _)]) (fun y => rfl) rfl rfl rfl (fun y hA L => st_v (v_move rfl) ⟨rfl, rfl⟩) (by intros; rfl) (by intro y y2 h; rfl) ?_
  refine net_pure (fun y => [(0, _)]) (fun y => rfl) rfl rfl rfl (fun y hA L => st_v (v_move rfl) ⟨rfl, rfl⟩) (by intros; rfl) (by intro y y2 h; rfl) ?_
  refine net_pure (fun y => [(8, _)]) (fun y => rfl) rfl rfl rfl (fun y hA L => st_v (v_nil rfl) ⟨rfl, rfl⟩) (by intros; rfl) (by intro y y2 h; rfl) ?_
  refine net_pure (fun y => [(9, _)]) (fun y => rfl) rfl rfl rfl (fun y hA L => st_v (v_fieldAddr V.f46_0 rfl) ⟨rfl, rfl⟩) (by intros; rfl) (by intro y y2 h; rfl) ?_
  refine net_read (fun y => [Cel b 46 [.slice p1 (r.length + 1) c1, .slice p2 (r.length + 1) c2, .slice p3 (r.length + 1) c3]]) (fun y => [(10, _)]) (fun y => rfl) rfl (fun y => rfl) rfl (fun y FF hA => st_v (v_load V.s27 rfl (by first | exact mm0 | exact mm1 | exact mm2 | exact mm3 | exact mm4 | exact mm5 | exact mm6 | exact mm7 | exact mm8 | exact mm9 | exact mm10 | exact mm11 | exact mm12 | exact mm13 | exact mm14) rfl) ⟨rfl, rfl⟩) (by intros; rfl) (by intro y y2 h; rfl) ?_
  refine net_pure (fun y => [(11, _)]) (fun y => rfl) rfl rfl rfl (fun y hA L => st_v (v_slice 1 _ _ V.sl27 rfl ⟨_, rfl⟩ ⟨rfl, rfl⟩ rfl (by omega) (by omega) (by omega)) ⟨rfl, rfl⟩) (by intros; rfl) (by intro y y2 h; rfl) ?_
  refine net_new (fun y v => .slice (slP v) ((r.length + 1) - 1) (slC v)) (fun y v => True) (fun y => []) (fun y => [Row I3 p1 (r.length + 1) c1 ((m :: r).map Mb.who)]) (fun y v => [Row (I3) (slP v) ((r.length + 1) - 1) (slC v) ((((m :: r).map Mb.who).drop 1).take ((r.length + 1) - 1))]) (fun y => [(12, _)]) (fun y => rfl) (fun y => rfl) (fun y => rfl) (fun y => rfl) (fun y FF hA => st_appN (r_appNilX (c := (I3)) V.sl27 V.z3 rfl rfl rfl rfl (Has.sub (by first | exact own mm0 | exact own mm1 | exact own mm2 | exact own mm3 | exact own mm4 | exact own mm5 | exact own mm6 | exact own mm7 | exact own mm8 | exact own mm9 | exact own mm10 | exact own mm11) 1 (r.length + 1) c1 (by omega) (by omega) (by omega)) (by omega)) (.refl _)) (by intros; rfl) (by intros; rfl) (by intros; rfl) (by intro y y2 h; simp only [h 6 (.inl rfl)]) (by intro y y2 h; rfl) ?_
  refine net_pure (fun y => [(0, _)]) (fun y => rfl) rfl rfl rfl (fun y hA L => st_v (v_move rfl) ⟨rfl, rfl⟩) (by intros; rfl) (by intro y y2 h; rfl) ?_
  refine net_pure (fun y => [(14, _)]) (fun y => rfl) rfl rfl rfl (fun y hA L => st_v (v_nil rfl) ⟨rfl, rfl⟩) (by intros; rfl) (by intro y y2 h; rfl) ?_
  refine net_pure (fun y => [(15, _)]) (fun y => rfl) rfl rfl rfl (fun y hA L => st_v (v_fieldAddr V.f46_0 rfl) ⟨rfl, rfl⟩) (by intros; rfl) (by intro y y2 h; rfl) ?_
  refine net_read (fun y => [Cel b 46 [.slice p1 (r.length + 1) c1, .slice p2 (r.length + 1) c2, .slice p3 (r.length + 1) c3]]) (fun y => [(16, _)]) (fun y => rfl) rfl (fun y => rfl) rfl (fun y FF hA => st_v (v_load V.s27 rfl (by first | exact mm0 | exact mm1 | exact mm2 | exact mm3 | exact mm4 | exact mm5 | exact mm6 | exact mm7 | exact mm8 | exact mm9 | exact mm10 | exact mm11 | exact mm12 | exact mm13 | exact mm14) rfl) ⟨rfl, rfl⟩) (by intros; rfl) (by intro y y2 h; rfl) ?_
  refine net_read (fun y => [Row I3 p1 (r.length + 1) c1 ((m :: r).map Mb.who)]) (fun y => [(17, _)]) (fun y => rfl) rfl (fun y => rfl) rfl (fun y FF hA => st_v (r_index (c := (I3)) V.sl27 rfl rfl (by first | exact own mm0 | exact own mm1 | exact own mm2 | exact own mm3 | exact own mm4 | exact own mm5 | exact own mm6 | exact own mm7 | exact own mm8 | exact own mm9 | exact own mm10 | exact own mm11) (by omega) (by omega)) ⟨rfl, rfl⟩) (by intros; rfl) (by intro y y2 h; rfl) ?_
  refine net_read (fun y => [Row I3 p1 (r.length + 1) c1 ((m :: r).map Mb.who)]) (fun y => [(18, _)]) (fun y => rfl) rfl (fun y => rfl) rfl (fun y FF hA => st_v (r_load (c := (I3)) V.s3 rfl (by first | exact own mm0 | exact own mm1 | exact own mm2 | exact own mm3 | exact own mm4 | exact own mm5 | exact own mm6 | exact own mm7 | exact own mm8 | exact own mm9 | exact own mm10 | exact own mm11) (by omega) (by omega) rfl rfl) ⟨rfl, rfl⟩) (by intros; rfl) (by intro y y2 h; rfl) ?_
  refine net_new (fun y v => .slice (some ⟨blk' (slP v), 0, none⟩) 1 1) (fun y v => True) (fun y => []) (fun y => []) (fun y v => [Row (I3) (some ⟨(blk' (slP v)), 0, none⟩) 1 1 [((I3).g ((m :: r).map Mb.who) 0)]]) (fun y => [(19, _)]) (fun y => rfl) (fun y => rfl) (fun y => rfl) (fun y => rfl) (fun y FF hA => st_newN (r_buildX (I3) ([((I3).g ((m :: r).map Mb.who) 0)]) V.sl27 V.z3 rfl rfl rfl rfl rfl)) (by intros; rfl) (by intros; rfl) (by intros; rfl) (by intro y y2 h; simp only [h 13 (.inl rfl)]) (by intro y y2 h; rfl) ?_
  refine net_new (fun y v => .slice (slP v) (((r.length + 1) - 1) + 1) (slC v)) (fun y v => True) (fun y => [Row (I3) (slP (y 6)) ((r.length + 1) - 1) (slC (y 6)) ((((m :: r).map Mb.who).drop 1).take ((r.length + 1) - 1))]) (fun y => [Row (I3) (some ⟨(blk' (slP (y 13))), 0, none⟩) 1 1 [((I3).g ((m :: r).map Mb.who) 0)]]) (fun y v => [Row (I3) (slP v) (((r.length + 1) - 1) + 1) (slC v) (((((m :: r).map Mb.who).drop 1).take ((r.length + 1) - 1)) ++ [((I3).g ((m :: r).map Mb.who) 0)])]) (fun y => [(13, _), (20, _)]) (fun y => rfl) (fun y => rfl) (fun y => rfl) (fun y => rfl) (fun y FF hA => st_appN (r_appendX (c := (I3)) V.sl27 V.z3 rfl rfl rfl rfl rr0 (by first | exact own mm0 | exact own mm1 | exact own mm2 | exact own mm3 | exact own mm4 | exact own mm5 | exact own mm6 | exact own mm7 | exact own mm8 | exact own mm9 | exact own mm10 | exact own mm11) (by omega)) (.refl _)) (by intros; rfl) (by intros; rfl) (by intros; rfl) (by intro y y2 h; simp only [h 6 (.inr (by decide)), h 13 (.inr (by decide)), h 14 (.inl rfl)]) (by intro y y2 h; rfl) ?_
  refine net_pure (fun y => [(7, _)]) (fun y => rfl) rfl rfl rfl (fun y hA L => st_v (v_nil rfl) ⟨rfl, rfl⟩) (by intros; rfl) (by intro y y2 h; rfl) ?_
  refine net_pure (fun y => [(22, _)]) (fun y => rfl) rfl rfl rfl (fun y hA L => st_v (v_fieldAddr V.f46_0 rfl) ⟨rfl, rfl⟩) (by intros; rfl) (by intro y y2 h; rfl) ?_
  refine net_eff (fun y => [Cel b 46 [.slice p1 (r.length + 1) c1, .slice p2 (r.length + 1) c2, .slice p3 (r.length + 1) c3]]) (fun y => []) (fun y => [Cel b 46 [.slice (slP (y 14)) (((r.length + 1) - 1) + 1) (slC (y 14)), .slice p2 (r.length + 1) c2, .slice p3 (r.length + 1) c3]]) (fun y => [(23, _), (21, _)]) (fun y => rfl) (fun y => rfl) (fun y => rfl) (fun y => rfl) (fun y FF hA => st_v (v_store V.s27 rfl rfl rfl (by first | exact pp0 | exact pp1 | exact pp2 | exact pp3 | exact pp4 | exact pp5 | exact pp6 | exact pp7 | exact pp8 | exact pp9 | exact pp10 | exact pp11 | exact pp12 | exact pp13 | exact pp14) (by exact Nat.le_of_ble_eq_true rfl) rfl) ⟨rfl, .refl _⟩) (by intros; rfl) (by intros; rfl) (by intro y y2 h; first | rfl | simp only [h 14 (.inr (by decide))]) ?_
  refine net_nil ?_
  intro y hA
  clear hA
  refine thn_n ?_
  refine w_keep _ (.cons (d := 0) rfl (.nil _)) ?_
  refine w_sub (M := Row I3 p1 (r.length + 1) c1 ((m :: r).map Mb.who) :: Row I3 p2 (r.length + 1) c2 ((m :: r).map Mb.q) :: Row I3 p3 (r.length + 1) c3 (((m :: r).map Mb.c).set (0 : Int).toNat 0) :: Row (I3) (some ⟨(blk' (slP (y 13))), 0, none⟩) 1 1 [((I3).g ((m :: r).map Mb.who) 0)] :: Row (I3) (slP (y 14)) (((r.length + 1) - 1) + 1) (slC (y 14)) (((((m :: r).map Mb.who).drop 1).take ((r.length + 1) - 1)) ++ [((I3).g ((m :: r).map Mb.who) 0)]) :: Cel b 46 [.slice (slP (y 14)) (((r.length + 1) - 1) + 1) (slC (y 14)), .slice p2 (r.length + 1) c2, .slice p3 (r.length + 1) c3] :: F) (fun _ _ h => h) ?_
  refine w_sub (sub .nil (.skip (.keep (.keep (.skip (.keep (.keep .refl))))))) ?_
  simp only [List.nil_append]
  generalize (slP (y 6)) = p13
  generalize (slC (y 6)) = c13
  generalize (blk' (slP (y 13))) = b20
  generalize (slP (y 14)) = p21
  generalize (slC (y 14)) = c21
  refine w_seq ?_
  refine w_net [⟨[], [], [0], 0, 0⟩, ⟨[], [], [0], 0, 0⟩, ⟨[1], [1], [], 0, 0⟩, ⟨[1, 2], [2], [], 0, 0⟩, ⟨[1, 2, 3], [3], [], 0, 0⟩, ⟨[1, 2, 3, 4], [4], [], 0, 0⟩, ⟨[1, 2, 3, 4, 5], [5], [], 0, 0⟩, ⟨[], [], [0], 0, 0⟩, ⟨[7], [7], [], 0, 0⟩, ⟨[7, 8], [8], [], 0, 0⟩, ⟨[7, 8, 9], [9], [], 0, 0⟩, ⟨[7, 8, 9, 10], [10], [], 0, 0⟩, ⟨[7, 8, 9, 10, 11], [11], [], 0, 0⟩, ⟨[7, 8, 9, 10, 11, 12], [12], [], 0, 0⟩, ⟨[1, 2, 3, 4, 5, 6, 7, 8, 9, 10, 11, 12, 13], [6, 13], [], 0, 0⟩, ⟨[0, 1, 2, 3, 4, 5, 6, 7, 8, 9, 10, 11, 12, 13, 14], [0], [], 0, 0⟩, ⟨[0, 1, 2, 3, 4, 5, 6, 7, 8, 9, 10, 11, 12, 13, 14, 15], [15], [], 0, 0⟩, ⟨[0, 1, 2, 3, 4, 5, 6, 7, 8, 9, 10, 11, 12, 13, 14, 15, 16], [16, 14], [], 0, 0⟩] [⟨fun y => Row I3 p2 (r.length + 1) c2 ((m :: r).map Mb.q), none, none, [6, 11, 12]⟩, ⟨fun y => Row I3 p3 (r.length + 1) c3 (((m :: r).map Mb.c).set (0 : Int).toNat 0), none, none, []⟩, ⟨fun y => Row (I3) p21 (((r.length + 1) - 1) + 1) c21 (((((m :: r).map Mb.who).drop 1).take ((r.length + 1) - 1)) ++ [((I3).g ((m :: r).map Mb.who) 0)]), none, none, []⟩, ⟨fun y => Cel b 46 [.slice p21 (((r.length + 1) - 1) + 1) c21, .slice p2 (r.length + 1) c2, .slice p3 (r.length + 1) c3], none, some 17, [4, 10]⟩, ⟨fun y => Row (I3) (slP (y 6)) ((r.length + 1) - 1) (slC (y 6)) ((((m :: r).map Mb.q).drop 1).take ((r.length + 1) - 1)), some 6, some 14, []⟩, ⟨fun y => Row (I3) (some ⟨(blk' (slP (y 13))), 0, none⟩) 1 1 [((I3).g ((m :: r).map Mb.q) 0)], some 13, none, [14]⟩, ⟨fun y => Row (I3) (slP (y 14)) (((r.length + 1) - 1) + 1) (slC (y 14)) (((((m :: r).map Mb.q).drop 1).take ((r.length + 1) - 1)) ++ [((I3).g ((m :: r).map Mb.q) 0)]), some 14, none, []⟩, ⟨fun y => Cel b 46 [.slice p21 (((r.length + 1) - 1) + 1) c21, .slice (slP (y 14)) (((r.length + 1) - 1) + 1) (slC (y 14)), .slice p3 (r.length + 1) c3], some 17, none, []⟩] F V.mixed (by kernel_rfl) rfl (fun _ => .refl _) (locT_0 _ (locT_0 _ (locT_0 _ (locT_0 _ (locT_1 [1, 2, 3, 4, 5] rfl (by intro y y2 h; simp only [h 6 (.inl rfl)]) (locT_1 [7, 8, 9, 10, 11, 12] rfl (by intro y y2 h; simp only [h 13 (.inl rfl)]) (locT_1 [1, 2, 3, 4, 5, 6, 7, 8, 9, 10, 11, 12, 13] rfl (by intro y y2 h; simp only [h 14 (.inl rfl)]) (locT_1 [0, 1, 2, 3, 4, 5, 6, 7, 8, 9, 10, 11, 12, 13, 14, 15, 16] rfl (by intro y y2 h; simp only [h 14 (.inr (by decide))]) locT_nil)))))))) ?_
  refine net_pure (fun y => [(0, _)]) (fun y => rfl) rfl rfl rfl (fun y hA L => st_v (v_move rfl) ⟨rfl, rfl⟩) (by intros; rfl) (by intro y y2 h; rfl) ?_
  refine net_pure (fun y => [(0, _)]) (fun y => rfl) rfl rfl rfl (fun y hA L => st_v (v_move rfl) ⟨rfl, rfl⟩) (by intros; rfl) (by intro y y2 h; rfl) ?_
  refine net_pure (fun y => [(25, _)]) (fun y => rfl) rfl rfl rfl (fun y hA L => st_v (v_nil rfl) ⟨rfl, rfl⟩) (by intros; rfl) (by intro y y2 h; rfl) ?_
  refine net_pure (fun y => [(26, _)]) (fun y => rfl) rfl rfl rfl (fun y hA L => st_v (v_fieldAddr V.f46_1 rfl) ⟨rfl, rfl⟩) (by intros; rfl) (by intro y y2 h; rfl) ?_
  refine net_read (fun y => [Cel b 46 [.slice p21 (((r.length + 1) - 1) + 1) c21, .slice p2 (r.length + 1) c2, .slice p3 (r.length + 1) c3]]) (fun y => [(27, _)]) (fun y => rfl) rfl (fun y => rfl) rfl (fun y FF hA => st_v (v_load V.s27 rfl (by first | exact mm0 | exact mm1 | exact mm2 | exact mm3 | exact mm4 | exact mm5 | exact mm6 | exact mm7 | exact mm8 | exact mm9 | exact mm10 | exact mm11 | exact mm12 | exact mm13 | exact mm14) rfl) ⟨rfl, rfl⟩) (by intros; rfl) (by intro y y2 h; rfl) ?_
  refine net_pure (fun y => [(28, _)]) (fun y => rfl) rfl rfl rfl (fun y hA L => st_v (v_slice 1 _ _ V.sl27 rfl ⟨_, rfl⟩ ⟨rfl, rfl⟩ rfl (by omega) (by omega) (by omega)) ⟨rfl, rfl⟩) (by intros; rfl) (by intro y y2 h; rfl) ?_
  refine net_new (fun y v => .slice (slP v) ((r.length + 1) - 1) (slC v)) (fun y v => True) (fun y => []) (fun y => [Row I3 p2 (r.length + 1) c2 ((m :: r).map Mb.q)]) (fun y v => [Row (I3) (slP v) ((r.length + 1) - 1) (slC v) ((((m :: r).map Mb.q).drop 1).take ((r.length + 1) - 1))]) (fun y => [(29, _)]) (fun y => rfl) (fun y => rfl) (fun y => rfl) (fun y => rfl) (fun y FF hA => st_appN (r_appNilX (c := (I3)) V.sl27 V.z3 rfl rfl rfl rfl (Has.sub (by first | exact own mm0 | exact own mm1 | exact own mm2 | exact own mm3 | exact own mm4 | exact own mm5 | exact own mm6 | exact own mm7 | exact own mm8 | exact own mm9 | exact own mm10 | exact own mm11) 1 (r.length + 1) c2 (by omega) (by omega) (by omega)) (by omega)) (.refl _)) (by intros; rfl) (by intros; rfl) (by intros; rfl) (by intro y y2 h; simp only [h 6 (.inl rfl)]) (by intro y y2 h; rfl) ?_
  refine net_pure (fun y => [(0, _)]) (fun y => rfl) rfl rfl rfl (fun y hA L => st_v (v_move rfl) ⟨rfl, rfl⟩) (by intros; rfl) (by intro y y2 h; rfl) ?_
  refine net_pure (fun y => [(31, _)]) (fun y => rfl) rfl rfl rfl (fun y hA L => st_v (v_nil rfl) ⟨rfl, rfl⟩) (by intros; rfl) (by intro y y2 h; rfl) ?_
  refine net_pure (fun y => [(32, _)]) (fun y => rfl) rfl rfl rfl (fun y hA L => st_v (v_fieldAddr V.f46_1 rfl) ⟨rfl, rfl⟩) (by intros; rfl) (by intro y y2 h; rfl) ?_
  refine net_read (fun y => [Cel b 46 [.slice p21 (((r.length + 1) - 1) + 1) c21, .slice p2 (r.length + 1) c2, .slice p3 (r.length + 1) c3]]) (fun y => [(33, _)]) (fun y => rfl) rfl (fun y => rfl) rfl (fun y FF hA => st_v (v_load V.s27 rfl (by first | exact mm0 | exact mm1 | exact mm2 | exact mm3 | exact mm4 | exact mm5 | exact mm6 | exact mm7 | exact mm8 | exact mm9 | exact mm10 | exact mm11 | exact mm12 | exact mm13 | exact mm14) rfl) ⟨rfl, rfl⟩) (by intros; rfl) (by intro y y2 h; rfl) ?_
  refine net_read (fun y => [Row I3 p2 (r.length + 1) c2 ((m :: r).map Mb.q)]) (fun y => [(34, _)]) (fun y => rfl) rfl (fun y => rfl) rfl (fun y FF hA => st_v (r_index (c := (I3)) V.sl27 rfl rfl (by first | exact own mm0 | exact own mm1 | exact own mm2 | exact own mm3 | exact own mm4 | exact own mm5 | exact own mm6 | exact own mm7 | exact own mm8 | exact own mm9 | exact own mm10 | exact own mm11) (by omega) (by omega)) ⟨rfl, rfl⟩) (by intros; rfl) (by intro y y2 h; rfl) ?_
  refine net_read (fun y => [Row I3 p2 (r.length + 1) c2 ((m :: r).map Mb.q)]) (fun y => [(35, _)]) (fun y => rfl) rfl (fun y => rfl) rfl (fun y FF hA => st_v (r_load (c := (I3)) V.s3 rfl (by first | exact own mm0 | exact own mm1 | exact own mm2 | exact own mm3 | exact own mm4 | exact own mm5 | exact own mm6 | exact own mm7 | exact own mm8 | exact own mm9 | exact own mm10 | exact own mm11) (by omega) (by omega) rfl rfl) ⟨rfl, rfl⟩) (by intros; rfl) (by intro y y2 h; rfl) ?_
  refine net_new (fun y v => .slice (some ⟨blk' (slP v), 0, none⟩) 1 1) (fun y v => True) (fun y => []) (fun y => []) (fun y v => [Row (I3) (some ⟨(blk' (slP v)), 0, none⟩) 1 1 [((I3).g ((m :: r).map Mb.q) 0)]]) (fun y => [(36, _)]) (fun y => rfl) (fun y => rfl) (fun y => rfl) (fun y => rfl) (fun y FF hA => st_newN (r_buildX (I3) ([((I3).g ((m :: r).map Mb.q) 0)]) V.sl27 V.z3 rfl rfl rfl rfl rfl)) (by intros; rfl) (by intros; rfl) (by intros; rfl) (by intro y y2 h; simp only [h 13 (.inl rfl)]) (by intro y y2 h; rfl) ?_
  refine net_new (fun y v => .slice (slP v) (((r.length + 1) - 1) + 1) (slC v)) (fun y v => True) (fun y => [Row (I3) (slP (y 6)) ((r.length + 1) - 1) (slC (y 6)) ((((m :: r).map Mb.q).drop 1).take ((r.length + 1) - 1))]) (fun y => [Row (I3) (some ⟨(blk' (slP (y 13))), 0, none⟩) 1 1 [((I3).g ((m :: r).map Mb.q) 0)]]) (fun y v => [Row (I3) (slP v) (((r.length + 1) - 1) + 1) (slC v) (((((m :: r).map Mb.q).drop 1).take ((r.length + 1) - 1)) ++ [((I3).g ((m :: r).map Mb.q) 0)])]) (fun y => [(30, _), (37, _)]) (fun y => rfl) (fun y => rfl) (fun y => rfl) (fun y => rfl) (fun y FF hA => st_appN (r_appendX (c := (I3)) V.sl27 V.z3 rfl rfl rfl rfl rr0 (by first | exact own mm0 | exact own mm1 | exact own mm2 | exact own mm3 | exact own mm4 | exact own mm5 | exact own mm6 | exact own mm7 | exact own mm8 | exact own mm9 | exact own mm10 | exact own mm11) (by omega)) (.refl _)) (by intros; rfl) (by intros; rfl) (by intros; rfl) (by intro y y2 h; simp only [h 6 (.inr (by decide)), h 13 (.inr (by decide)), h 14 (.inl rfl)]) (by intro y y2 h; rfl) ?_
  refine net_pure (fun y => [(24, _)]) (fun y => rfl) rfl rfl rfl (fun y hA L => st_v (v_nil rfl) ⟨rfl, rfl⟩) (by intros; rfl) (by intro y y2 h; rfl) ?_
  refine net_pure (fun y => [(39, _)]) (fun y => rfl) rfl rfl rfl (fun y hA L => st_v (v_fieldAddr V.f46_1 rfl) ⟨rfl, rfl⟩) (by intros; rfl) (by intro y y2 h; rfl) ?_
  refine net_eff (fun y => [Cel b 46 [.slice p21 (((r.length + 1) - 1) + 1) c21, .slice p2 (r.length + 1) c2, .slice p3 (r.length + 1) c3]]) (fun y => []) (fun y => [Cel b 46 [.slice p21 (((r.length + 1) - 1) + 1) c21, .slice (slP (y 14)) (((r.length + 1) - 1) + 1) (slC (y 14)), .slice p3 (r.length + 1) c3]]) (fun y => [(40, _), (38, _)]) (fun y => rfl) (fun y => rfl) (fun y => rfl) (fun y => rfl) (fun y FF hA => st_v (v_store V.s27 rfl rfl rfl (by first | exact pp0 | exact pp1 | exact pp2 | exact pp3 | exact pp4 | exact pp5 | exact pp6 | exact pp7 | exact pp8 | exact pp9 | exact pp10 | exact pp11 | exact pp12 | exact pp13 | exact pp14) (by exact Nat.le_of_ble_eq_true rfl) rfl) ⟨rfl, .refl _⟩) (by intros; rfl) (by intros; rfl) (by intro y y2 h; first | rfl | simp only [h 14 (.inr (by decide))]) ?_
  refine net_nil ?_
  intro y hA
  clear hA
  refine thn_n ?_
  refine w_keep _ (.cons (d := 0) rfl (.nil _)) ?_
  refine w_sub (M := Row I3 p2 (r.length + 1) c2 ((m :: r).map Mb.q) :: Row I3 p3 (r.length + 1) c3 (((m :: r).map Mb.c).set (0 : Int).toNat 0) :: Row (I3) p21 (((r.length + 1) - 1) + 1) c21 (((((m :: r).map Mb.who).drop 1).take ((r.length + 1) - 1)) ++ [((I3).g ((m :: r).map Mb.who) 0)]) :: Row (I3) (some ⟨(blk' (slP (y 13))), 0, none⟩) 1 1 [((I3).g ((m :: r).map Mb.q) 0)] :: Row (I3) (slP (y 14)) (((r.length + 1) - 1) + 1) (slC (y 14)) (((((m :: r).map Mb.q).drop 1).take ((r.length + 1) - 1)) ++ [((I3).g ((m :: r).map Mb.q) 0)]) :: Cel b 46 [.slice p21 (((r.length + 1) - 1) + 1) c21, .slice (slP (y 14)) (((r.length + 1) - 1) + 1) (slC (y 14)), .slice p3 (r.length + 1) c3] :: F) (fun _ _ h => h) ?_
  refine w_sub (sub .nil (.skip (.keep (.keep (.skip (.keep (.keep .refl))))))) ?_
  simp only [List.nil_append]
  generalize (slP (y 6)) = p30
  generalize (slC (y 6)) = c30
  generalize (blk' (slP (y 13))) = b37
  generalize (slP (y 14)) = p38
  generalize (slC (y 14)) = c38
  refine w_net [⟨[], [], [0], 0, 0⟩, ⟨[], [], [0], 0, 0⟩, ⟨[1], [1], [], 0, 0⟩, ⟨[1, 2], [2], [], 0, 0⟩, ⟨[1, 2, 3], [3], [], 0, 0⟩, ⟨[1, 2, 3, 4], [4], [], 0, 0⟩, ⟨[1, 2, 3, 4, 5], [5], [], 0, 0⟩, ⟨[], [], [0], 0, 0⟩, ⟨[7], [7], [], 0, 0⟩, ⟨[7, 8], [8], [], 0, 0⟩, ⟨[7, 8, 9], [9], [], 0, 0⟩, ⟨[7, 8, 9, 10], [10], [], 0, 0⟩, ⟨[7, 8, 9, 10, 11], [11], [], 0, 0⟩, ⟨[7, 8, 9, 10, 11, 12], [12], [], 0, 0⟩, ⟨[1, 2, 3, 4, 5, 6, 7, 8, 9, 10, 11, 12, 13], [6, 13], [], 0, 0⟩, ⟨[0, 1, 2, 3, 4, 5, 6, 7, 8, 9, 10, 11, 12, 13, 14], [0], [], 0, 0⟩, ⟨[0, 1, 2, 3, 4, 5, 6, 7, 8, 9, 10, 11, 12, 13, 14, 15], [15], [], 0, 0⟩, ⟨[0, 1, 2, 3, 4, 5, 6, 7, 8, 9, 10, 11, 12, 13, 14, 15, 16], [16, 14], [], 0, 0⟩] [⟨fun y => Row I3 p3 (r.length + 1) c3 (((m :: r).map Mb.c).set (0 : Int).toNat 0), none, none, [6, 11, 12]⟩, ⟨fun y => Row (I3) p21 (((r.length + 1) - 1) + 1) c21 (((((m :: r).map Mb.who).drop 1).take ((r.length + 1) - 1)) ++ [((I3).g ((m :: r).map Mb.who) 0)]), none, none, []⟩, ⟨fun y => Row (I3) p38 (((r.length + 1) - 1) + 1) c38 (((((m :: r).map Mb.q).drop 1).take ((r.length + 1) - 1)) ++ [((I3).g ((m :: r).map Mb.q) 0)]), none, none, []⟩, ⟨fun y => Cel b 46 [.slice p21 (((r.length + 1) - 1) + 1) c21, .slice p38 (((r.length + 1) - 1) + 1) c38, .slice p3 (r.length + 1) c3], none, some 17, [4, 10]⟩, ⟨fun y => Row (I3) (slP (y 6)) ((r.length + 1) - 1) (slC (y 6)) (((((m :: r).map Mb.c).set (0 : Int).toNat 0).drop 1).take ((r.length + 1) - 1)), some 6, some 14, []⟩, ⟨fun y => Row (I3) (some ⟨(blk' (slP (y 13))), 0, none⟩) 1 1 [((I3).g (((m :: r).map Mb.c).set (0 : Int).toNat 0) 0)], some 13, none, [14]⟩, ⟨fun y => Row (I3) (slP (y 14)) (((r.length + 1) - 1) + 1) (slC (y 14)) ((((((m :: r).map Mb.c).set (0 : Int).toNat 0).drop 1).take ((r.length + 1) - 1)) ++ [((I3).g (((m :: r).map Mb.c).set (0 : Int).toNat 0) 0)]), some 14, none, []⟩, ⟨fun y => Cel b 46 [.slice p21 (((r.length + 1) - 1) + 1) c21, .slice p38 (((r.length + 1) - 1) + 1) c38, .slice (slP (y 14)) (((r.length + 1) - 1) + 1) (slC (y 14))], some 17, none, []⟩] F V.mixed (by kernel_rfl) rfl (fun _ => .refl _) (locT_0 _ (locT_0 _ (locT_0 _ (locT_0 _ (locT_1 [1, 2, 3, 4, 5] rfl (by intro y y2 h; simp only [h 6 (.inl rfl)]) (locT_1 [7, 8, 9, 10, 11, 12] rfl (by intro y y2 h; simp only [h 13 (.inl rfl)]) (locT_1 [1, 2, 3, 4, 5, 6, 7, 8, 9, 10, 11, 12, 13] rfl (by intro y y2 h; simp only [h 14 (.inl rfl)]) (locT_1 [0, 1, 2, 3, 4, 5, 6, 7, 8, 9, 10, 11, 12, 13, 14, 15, 16] rfl (by intro y y2 h; simp only [h 14 (.inr (by decide))]) locT_nil)))))))) ?_
  refine net_pure (fun y => [(0, _)]) (fun y => rfl) rfl rfl rfl (fun y hA L => st_v (v_move rfl) ⟨rfl, rfl⟩) (by intros; rfl) (by intro y y2 h; rfl) ?_
  refine net_pure (fun y => [(0, _)]) (fun y => rfl) rfl rfl rfl (fun y hA L => st_v (v_move rfl) ⟨rfl, rfl⟩) (by intros; rfl) (by intro y y2 h; rfl) ?_
  refine net_pure (fun y => [(42, _)]) (fun y => rfl) rfl rfl rfl (fun y hA L => st_v (v_nil rfl) ⟨rfl, rfl⟩) (by intros; rfl) (by intro y y2 h; rfl) ?_
  refine net_pure (fun y => [(43, _)]) (fun y => rfl) rfl rfl rfl (fun y hA L => st_v (v_fieldAddr V.f46_2 rfl) ⟨rfl, rfl⟩) (by intros; rfl) (by intro y y2 h; rfl) ?_
  refine net_read (fun y => [Cel b 46 [.slice p21 (((r.length + 1) - 1) + 1) c21, .slice p38 (((r.length + 1) - 1) + 1) c38, .slice p3 (r.length + 1) c3]]) (fun y => [(44, _)]) (fun y => rfl) rfl (fun y => rfl) rfl (fun y FF hA => st_v (v_load V.s27 rfl (by first | exact mm0 | exact mm1 | exact mm2 | exact mm3 | exact mm4 | exact mm5 | exact mm6 | exact mm7 | exact mm8 | exact mm9 | exact mm10 | exact mm11 | exact mm12 | exact mm13 | exact mm14) rfl) ⟨rfl, rfl⟩) (by intros; rfl) (by intro y y2 h; rfl) ?_
  refine net_pure (fun y => [(45, _)]) (fun y => rfl) rfl rfl rfl (fun y hA L => st_v (v_slice 1 _ _ V.sl27 rfl ⟨_, rfl⟩ ⟨rfl, rfl⟩ rfl (by omega) (by omega) (by omega)) ⟨rfl, rfl⟩) (by intros; rfl) (by intro y y2 h; rfl) ?_
  refine net_new (fun y v => .slice (slP v) ((r.length + 1) - 1) (slC v)) (fun y v => True) (fun y => []) (fun y => [Row I3 p3 (r.length + 1) c3 (((m :: r).map Mb.c).set (0 : Int).toNat 0)]) (fun y v => [Row (I3) (slP v) ((r.length + 1) - 1) (slC v) (((((m :: r).map Mb.c).set (0 : Int).toNat 0).drop 1).take ((r.length + 1) - 1))]) (fun y => [(46, _)]) (fun y => rfl) (fun y => rfl) (fun y => rfl) (fun y => rfl) (fun y FF hA => st_appN (r_appNilX (c := (I3)) V.sl27 V.z3 rfl rfl rfl rfl (Has.sub (by first | exact own mm0 | exact own mm1 | exact own mm2 | exact own mm3 | exact own mm4 | exact own mm5 | exact own mm6 | exact own mm7 | exact own mm8 | exact own mm9 | exact own mm10 | exact own mm11) 1 (r.length + 1) c3 (by omega) (by omega) (by omega)) (by omega)) (.refl _)) (by intros; rfl) (by intros; rfl) (by intros; rfl) (by intro y y2 h; simp only [h 6 (.inl rfl)]) (by intro y y2 h; rfl) ?_
  refine net_pure (fun y => [(0, _)]) (fun y => rfl) rfl rfl rfl (fun y hA L => st_v (v_move rfl) ⟨rfl, rfl⟩) (by intros; rfl) (by intro y y2 h; rfl) ?_
  refine net_pure (fun y => [(48, _)]) (fun y => rfl) rfl rfl rfl (fun y hA L => st_v (v_nil rfl) ⟨rfl, rfl⟩) (by intros; rfl) (by intro y y2 h; rfl) ?_
  refine net_pure (fun y => [(49, _)]) (fun y => rfl) rfl rfl rfl (fun y hA L => st_v (v_fieldAddr V.f46_2 rfl) ⟨rfl, rfl⟩) (by intros; rfl) (by intro y y2 h; rfl) ?_
  refine net_read (fun y => [Cel b 46 [.slice p21 (((r.length + 1) - 1) + 1) c21, .slice p38 (((r.length + 1) - 1) + 1) c38, .slice p3 (r.length + 1) c3]]) (fun y => [(50, _)]) (fun y => rfl) rfl (fun y => rfl) rfl (fun y FF hA => st_v (v_load V.s27 rfl (by first | exact mm0 | exact mm1 | exact mm2 | exact mm3 | exact mm4 | exact mm5 | exact mm6 | exact mm7 | exact mm8 | exact mm9 | exact mm10 | exact mm11 | exact mm12 | exact mm13 | exact mm14) rfl) ⟨rfl, rfl⟩) (by intros; rfl) (by intro y y2 h; rfl) ?_
  refine net_read (fun y => [Row I3 p3 (r.length + 1) c3 (((m :: r).map Mb.c).set (0 : Int).toNat 0)]) (fun y => [(51, _)]) (fun y => rfl) rfl (fun y => rfl) rfl (fun y FF hA => st_v (r_index (c := (I3)) V.sl27 rfl rfl (by first | exact own mm0 | exact own mm1 | exact own mm2 | exact own mm3 | exact own mm4 | exact own mm5 | exact own mm6 | exact own mm7 | exact own mm8 | exact own mm9 | exact own mm10 | exact own mm11) (by omega) (by omega)) ⟨rfl, rfl⟩) (by intros; rfl) (by intro y y2 h; rfl) ?_
  refine net_read (fun y => [Row I3 p3 (r.length + 1) c3 (((m :: r).map Mb.c).set (0 : Int).toNat 0)]) (fun y => [(52, _)]) (fun y => rfl) rfl (fun y => rfl) rfl (fun y FF hA => st_v (r_load (c := (I3)) V.s3 rfl (by first | exact own mm0 | exact own mm1 | exact own mm2 | exact own mm3 | exact own mm4 | exact own mm5 | exact own mm6 | exact own mm7 | exact own mm8 | exact own mm9 | exact own mm10 | exact own mm11) (by omega) (by omega) rfl rfl) ⟨rfl, rfl⟩) (by intros; rfl) (by intro y y2 h; rfl) ?_
  refine net_new (fun y v => .slice (some ⟨blk' (slP v), 0, none⟩) 1 1) (fun y v => True) (fun y => []) (fun y => []) (fun y v => [Row (I3) (some ⟨(blk' (slP v)), 0, none⟩) 1 1 [((I3).g (((m :: r).map Mb.c).set (0 : Int).toNat 0) 0)]]) (fun y => [(53, _)]) (fun y => rfl) (fun y => rfl) (fun y => rfl) (fun y => rfl) (fun y FF hA => st_newN (r_buildX (I3) ([((I3).g (((m :: r).map Mb.c).set (0 : Int).toNat 0) 0)]) V.sl27 V.z3 rfl rfl rfl rfl rfl)) (by intros; rfl) (by intros; rfl) (by intros; rfl) (by intro y y2 h; simp only [h 13 (.inl rfl)]) (by intro y y2 h; rfl) ?_
  refine net_new (fun y v => .slice (slP v) (((r.length + 1) - 1) + 1) (slC v)) (fun y v => True) (fun y => [Row (I3) (slP (y 6)) ((r.length + 1) - 1) (slC (y 6)) (((((m :: r).map Mb.c).set (0 : Int).toNat 0).drop 1).take ((r.length + 1) - 1))]) (fun y => [Row (I3) (some ⟨(blk' (slP (y 13))), 0, none⟩) 1 1 [((I3).g (((m :: r).map Mb.c).set (0 : Int).toNat 0) 0)]]) (fun y v => [Row (I3) (slP v) (((r.length + 1) - 1) + 1) (slC v) ((((((m :: r).map Mb.c).set (0 : Int).toNat 0).drop 1).take ((r.length + 1) - 1)) ++ [((I3).g (((m :: r).map Mb.c).set (0 : Int).toNat 0) 0)])]) (fun y => [(47, _), (54, _)]) (fun y => rfl) (fun y => rfl) (fun y => rfl) (fun y => rfl) (fun y FF hA => st_appN (r_appendX (c := (I3)) V.sl27 V.z3 rfl rfl rfl rfl rr0 (by first | exact own mm0 | exact own mm1 | exact own mm2 | exact own mm3 | exact own mm4 | exact own mm5 | exact own mm6 | exact own mm7 | exact own mm8 | exact own mm9 | exact own mm10 | exact own mm11) (by omega)) (.refl _)) (by intros; rfl) (by intros; rfl) (by intros; rfl) (by intro y y2 h; simp only [h 6 (.inr (by decide)), h 13 (.inr (by decide)), h 14 (.inl rfl)]) (by intro y y2 h; rfl) ?_
  refine net_pure (fun y => [(41, _)]) (fun y => rfl) rfl rfl rfl (fun y hA L => st_v (v_nil rfl) ⟨rfl, rfl⟩) (by intros; rfl) (by intro y y2 h; rfl) ?_
  refine net_pure (fun y => [(56, _)]) (fun y => rfl) rfl rfl rfl (fun y hA L => st_v (v_fieldAddr V.f46_2 rfl) ⟨rfl, rfl⟩) (by intros; rfl) (by intro y y2 h; rfl) ?_
  refine net_eff (fun y => [Cel b 46 [.slice p21 (((r.length + 1) - 1) + 1) c21, .slice p38 (((r.length + 1) - 1) + 1) c38, .slice p3 (r.length + 1) c3]]) (fun y => []) (fun y => [Cel b 46 [.slice p21 (((r.length + 1) - 1) + 1) c21, .slice p38 (((r.length + 1) - 1) + 1) c38, .slice (slP (y 14)) (((r.length + 1) - 1) + 1) (slC (y 14))]]) (fun y => [(57, _), (55, _)]) (fun y => rfl) (fun y => rfl) (fun y => rfl) (fun y => rfl) (fun y FF hA => st_v (v_store V.s27 rfl rfl rfl (by first | exact pp0 | exact pp1 | exact pp2 | exact pp3 | exact pp4 | exact pp5 | exact pp6 | exact pp7 | exact pp8 | exact pp9 | exact pp10 | exact pp11 | exact pp12 | exact pp13 | exact pp14) (by exact Nat.le_of_ble_eq_true rfl) rfl) ⟨rfl, .refl _⟩) (by intros; rfl) (by intros; rfl) (by intro y y2 h; first | rfl | simp only [h 14 (.inr (by decide))]) ?_
  refine net_nil ?_
  intro y hA
  clear hA
  show retQ _ _ _ _ _ _ (Row I3 p3 (r.length + 1) c3 (((m :: r).map Mb.c).set (0 : Int).toNat 0) :: Row (I3) p21 (((r.length + 1) - 1) + 1) c21 (((((m :: r).map Mb.who).drop 1).take ((r.length + 1) - 1)) ++ [((I3).g ((m :: r).map Mb.who) 0)]) :: Row (I3) p38 (((r.length + 1) - 1) + 1) c38 (((((m :: r).map Mb.q).drop 1).take ((r.length + 1) - 1)) ++ [((I3).g ((m :: r).map Mb.q) 0)]) :: Row (I3) (some ⟨(blk' (slP (y 13))), 0, none⟩) 1 1 [((I3).g (((m :: r).map Mb.c).set (0 : Int).toNat 0) 0)] :: Row (I3) (slP (y 14)) (((r.length + 1) - 1) + 1) (slC (y 14)) ((((((m :: r).map Mb.c).set (0 : Int).toNat 0).drop 1).take ((r.length + 1) - 1)) ++ [((I3).g (((m :: r).map Mb.c).set (0 : Int).toNat 0) 0)]) :: Cel b 46 [.slice p21 (((r.length + 1) - 1) + 1) c21, .slice p38 (((r.length + 1) - 1) + 1) c38, .slice (slP (y 14)) (((r.length + 1) - 1) + 1) (slC (y 14))] :: F)
  generalize (slP (y 6)) = p47
  generalize (slC (y 6)) = c47
  generalize (blk' (slP (y 13))) = b54
  generalize (slP (y 14)) = p55
  generalize (slC (y 14)) = c55
  exact end_ok (G := [RF b (r ++ [zero m])]) res0 ⟨rfl, rfl⟩ (fold' (.cons (by first | exact rr0 | exact rr1 | exact rr2 | exact rr3 | exact rr4 | exact rr5 | exact rr6 | exact rr7 | exact rr8 | exact rr9 | exact rr10 | exact rr11 | exact rr12 | exact rr13 | exact rr14) (.cons (by first | exact rr0 | exact rr1 | exact rr2 | exact rr3 | exact rr4 | exact rr5 | exact rr6 | exact rr7 | exact rr8 | exact rr9 | exact rr10 | exact rr11 | exact rr12 | exact rr13 | exact rr14) (.cons (by first | exact rr0 | exact rr1 | exact rr2 | exact rr3 | exact rr4 | exact rr5 | exact rr6 | exact rr7 | exact rr8 | exact rr9 | exact rr10 | exact rr11 | exact rr12 | exact rr13 | exact rr14) (.cons (by first | exact rr0 | exact rr1 | exact rr2 | exact rr3 | exact rr4 | exact rr5 | exact rr6 | exact rr7 | exact rr8 | exact rr9 | exact rr10 | exact rr11 | exact rr12 | exact rr13 | exact rr14) .nil)))) (by first | exact dd0 | exact dd1 | exact dd2 | exact dd3 | exact dd4 | exact dd5 | exact dd6 | exact dd7 | exact dd8 | exact dd9 | exact dd10 | exact dd11 | exact dd12 | exact dd13 | exact dd14) (fun w0 h hh => rf_close (by simp) (by rw [turn_list _ _ (by simp)]; simp [zero, Ec.g]) (by rw [turn_list _ _ (by simp)]; simp [zero, Ec.g]) (by rw [List.map_cons, show (0 : Int).toNat = 0 from rfl, List.set_cons_zero]; simp [zero, Ec.g]; exact List.take_of_length_le (by simp)) hh))

theorem V.ext36 : ExtB Try.prog 36 (Extern.MathFloor.toIntegral "math.archFloor" .down) := ⟨_, Try.func36, by kernel_rfl, by kernel_rfl, by kernel_rfl, by kernel_rfl⟩
theorem ge_least {x : Nat} (h : Wt x) : Value.bool (FloatKind.f64.format.order x 4589168020290535424 == some .gt || FloatKind.f64.format.order x 4589168020290535424 == some .eq) = .bool true := by
  have h1 := h.order.1
  rw [f64_eq]
  rcases h1 with h1 | h1 <;> rw [show double.order x 4589168020290535424 = _ from h1] <;> rfl
theorem le_most {x : Nat} (h : Wt x) : Value.bool (FloatKind.f64.format.order x 4634204016564240384 == some .lt || FloatKind.f64.format.order x 4634204016564240384 == some .eq) = .bool true := by
  have h1 := h.order.2.1
  rw [f64_eq]
  rcases h1 with h1 | h1 <;> rw [show double.order x 4634204016564240384 = _ from h1] <;> rfl
theorem mul16 {x : Nat} (h : Wt x) : FloatKind.f64.format.mul x 4625196817309499392 = some (x + 18014398509481984) := by rw [f64_eq]; exact h.mul
theorem dec16 {x : Nat} (h : Wt x) : FloatKind.f64.decode (x + 18014398509481984) = .number false (sig x) ((x / 4503599627370496 : Nat) - 1071) := by unfold FloatKind.decode; rw [f64_eq]; exact h.read16
theorem floor16 {x : Nat} (h : Wt x) : FloatKind.f64.encode ((Ieee.Datum.number false (sig x) ((x / 4503599627370496 : Nat) - 1071)).integral .down) = double.write (.number false (quan x) 0) := by
  have e := h.whole (.inl rfl)
  rw [h.read16] at e
  rw [e]
  unfold FloatKind.encode
  rw [f64_eq]
theorem toInt16 {x : Nat} (h : Wt x) : (FloatKind.f64.decode (double.write (.number false (quan x) 0))).toInt .zero = some (quan x : Int) := by
  unfold FloatKind.decode
  rw [f64_eq]
  exact (whole h.qb.1 (by have := h.qb.2; omega)).1
theorem not_ge {x : Nat} (hx : x < 18446744073709551616) (h : ¬ Wt x) (hg : Value.bool (FloatKind.f64.format.order x 4589168020290535424 == some .gt || FloatKind.f64.format.order x 4589168020290535424 == some .eq) = .bool true) : Value.bool (FloatKind.f64.format.order x 4634204016564240384 == some .lt || FloatKind.f64.format.order x 4634204016564240384 == some .eq) = .bool false := by
  rw [f64_eq] at hg ⊢
  rcases not_wt hx h with e | e | e
  · have hn : (double.read x).isNaN = true := by
      cases hd : double.read x with
      | nan s t => rfl
      | number s m i => unfold Format.order at e; rw [hd, order_self rfl] at e; cases e
      | infinity s => unfold Format.order at e; rw [hd, order_self rfl] at e; cases e
    have : double.order x 4634204016564240384 = none := by
      unfold Format.order
      cases hd : double.read x with
      | nan s t => rfl
      | number s m i => rw [hd] at hn; cases hn
      | infinity s => rw [hd] at hn; cases hn
    rw [this]; rfl
  · rw [show double.order x 4589168020290535424 = _ from e] at hg; cases hg
  · rw [show double.order x 4634204016564240384 = _ from e]; rfl


set_option maxRecDepth 100000 in
theorem r_floor (x : Nat) (s : Bool) (m : Nat) (i : Int) (hd : FloatKind.f64.decode x = .number s m i) : Ctr Try.prog 31 [.float .f64 x] [] (Ret fun v G => v = .float .f64 (FloatKind.f64.encode ((Ieee.Datum.number s m i).integral .down)) ∧ G = []) := by
  refine spec_of [(0, _)] Try.func31 rfl Try.ntmps31 rfl rfl ?_
  intro w0 F
  refine w_seq ?_
  refine w_region ?_
  refine o_val (v_assign rfl) rfl ?_
  refine o_nil ?_
  refine thn_n ?_
  refine w_seq ?_
  refine w_condT rfl ?_
  refine w_seq ?_
  refine w_region ?_
  refine o_val (v_move rfl) rfl ?_
  refine o_val (v_extern V.ext36 rfl (fun w => run_floor hd)) rfl ?_
  refine o_val (v_assign rfl) rfl ?_
  refine o_nil ?_
  refine thn_n ?_
  refine w_ret ?_
  refine (thn_r ?_)
  exact ret_ok (G := []) (res1 rfl) ⟨rfl, rfl⟩ (sub .nil (by first | exact dd0 | exact dd1 | exact dd2 | exact dd3 | exact dd4 | exact dd5 | exact dd6 | exact dd7 | exact dd8 | exact dd9 | exact dd10 | exact dd11 | exact dd12 | exact dd13 | exact dd14))

set_option maxRecDepth 100000 in
theorem r_quantum_yes (x : Nat) (h : Wt x) : Ctr Try.prog 18 [.float .f64 x] [] (Ret fun v G => v = .tuple #[.int .i64 (quan x : Int), .bool true] ∧ G = []) := by
  refine spec_of [(0, _)] Try.func18 rfl Try.ntmps18 rfl rfl ?_
  intro w0 F
  refine w_seq ?_
  refine w_region ?_
  refine o_val (v_assign rfl) rfl ?_
  refine o_val (v_assign rfl) rfl ?_
  refine o_nil ?_
  refine thn_n ?_
  refine w_seq ?_
  refine w_seq ?_
  refine w_region ?_
  refine o_val (v_move rfl) rfl ?_
  refine o_val (v_to (v := .bool true) (v_fge rfl rfl) (ge_least h)) rfl ?_
  refine o_val (v_move rfl) rfl ?_
  refine o_want rfl ?_
  refine o_val (v_move rfl) rfl ?_
  refine o_want rfl ?_
  refine o_val (v_to (v := .bool true) (v_fle rfl rfl) (le_most h)) rfl ?_
  refine o_val (v_pickT rfl rfl) rfl ?_
  refine o_val (v_to (v := .bool false) (v_not rfl) rfl) rfl ?_
  refine o_nil ?_
  refine thn_n ?_
  refine w_condF rfl ?_
  refine w_skip ?_
  refine thn_n ?_
  refine w_seq ?_
  refine w_region ?_
  refine o_val (v_move rfl) rfl ?_
  refine o_val (v_fmul rfl rfl (mul16 h)) rfl ?_
  refine o_call (r_floor _ _ _ _ (dec16 h)) V.b31  rfl .nil rfl ?_
  rintro _ _ ⟨rfl, rfl⟩
  rw [floor16 h]
  refine o_val (v_ftoi Try.underlying30 Try.underlying3 rfl (toInt16 h) ⟨by show (-9223372036854775808 : Int) ≤ _; omega, by show _ ≤ (9223372036854775807 : Int); have := h.qb; omega⟩) rfl ?_
  refine o_val (v_assign rfl) rfl ?_
  refine o_val (v_assign rfl) rfl ?_
  refine o_nil ?_
  refine thn_n ?_
  refine w_ret ?_
  exact ret_ok (G := []) (res2 rfl rfl) ⟨rfl, rfl⟩ (sub .nil (by first | exact dd0 | exact dd1 | exact dd2 | exact dd3 | exact dd4 | exact dd5 | exact dd6 | exact dd7 | exact dd8 | exact dd9 | exact dd10 | exact dd11 | exact dd12 | exact dd13 | exact dd14))

set_option maxRecDepth 100000 in
theorem r_quantum_lo (x : Nat) (h : Value.bool (FloatKind.f64.format.order x 4589168020290535424 == some .gt || FloatKind.f64.format.order x 4589168020290535424 == some .eq) = .bool false) : Ctr Try.prog 18 [.float .f64 x] [] (Ret fun v G => v = .tuple #[.int .i64 0, .bool false] ∧ G = []) := by
  refine spec_of [(0, _)] Try.func18 rfl Try.ntmps18 rfl rfl ?_
  intro w0 F
  refine w_seq ?_
  refine w_region ?_
  refine o_val (v_assign rfl) rfl ?_
  refine o_val (v_assign rfl) rfl ?_
  refine o_nil ?_
  refine thn_n ?_
  refine w_seq ?_
  refine w_seq ?_
  refine w_region ?_
  refine o_val (v_move rfl) rfl ?_
  refine o_val (v_to (v := .bool false) (v_fge rfl rfl) h) rfl ?_
  refine o_val (v_move rfl) rfl ?_
  refine o_pass rfl rfl rfl ?_
  refine o_pass rfl rfl rfl ?_
  refine o_val (v_pickF rfl rfl) rfl ?_
  refine o_val (v_to (v := .bool true) (v_not rfl) rfl) rfl ?_
  refine o_nil ?_
  refine thn_n ?_
  refine w_condT rfl ?_
  refine w_seq ?_
  refine w_region ?_
  refine o_val (v_assign rfl) rfl ?_
  refine o_val (v_assign rfl) rfl ?_
  refine o_nil ?_
  refine thn_n ?_
  refine w_ret ?_
  refine (thn_r ?_)
  exact ret_ok (G := []) (res2 rfl rfl) ⟨rfl, rfl⟩ (sub .nil (by first | exact dd0 | exact dd1 | exact dd2 | exact dd3 | exact dd4 | exact dd5 | exact dd6 | exact dd7 | exact dd8 | exact dd9 | exact dd10 | exact dd11 | exact dd12 | exact dd13 | exact dd14))

set_option maxRecDepth 100000 in
theorem r_quantum_hi (x : Nat) (h0 : Value.bool (FloatKind.f64.format.order x 4589168020290535424 == some .gt || FloatKind.f64.format.order x 4589168020290535424 == some .eq) = .bool true) (h : Value.bool (FloatKind.f64.format.order x 4634204016564240384 == some .lt || FloatKind.f64.format.order x 4634204016564240384 == some .eq) = .bool false) : Ctr Try.prog 18 [.float .f64 x] [] (Ret fun v G => v = .tuple #[.int .i64 0, .bool false] ∧ G = []) := by
  refine spec_of [(0, _)] Try.func18 rfl Try.ntmps18 rfl rfl ?_
  intro w0 F
  refine w_seq ?_
  refine w_region ?_
  refine o_val (v_assign rfl) rfl ?_
  refine o_val (v_assign rfl) rfl ?_
  refine o_nil ?_
  refine thn_n ?_
  refine w_seq ?_
  refine w_seq ?_
  refine w_region ?_
  refine o_val (v_move rfl) rfl ?_
  refine o_val (v_to (v := .bool true) (v_fge rfl rfl) h0) rfl ?_
  refine o_val (v_move rfl) rfl ?_
  refine o_want rfl ?_
  refine o_val (v_move rfl) rfl ?_
  refine o_want rfl ?_
  refine o_val (v_to (v := .bool false) (v_fle rfl rfl) h) rfl ?_
  refine o_val (v_pickT rfl rfl) rfl ?_
  refine o_val (v_to (v := .bool true) (v_not rfl) rfl) rfl ?_
  refine o_nil ?_
  refine thn_n ?_
  refine w_condT rfl ?_
  refine w_seq ?_
  refine w_region ?_
  refine o_val (v_assign rfl) rfl ?_
  refine o_val (v_assign rfl) rfl ?_
  refine o_nil ?_
  refine thn_n ?_
  refine w_ret ?_
  refine (thn_r ?_)
  exact ret_ok (G := []) (res2 rfl rfl) ⟨rfl, rfl⟩ (sub .nil (by first | exact dd0 | exact dd1 | exact dd2 | exact dd3 | exact dd4 | exact dd5 | exact dd6 | exact dd7 | exact dd8 | exact dd9 | exact dd10 | exact dd11 | exact dd12 | exact dd13 | exact dd14))

theorem r_quantum (x : Nat) (hx : x < 18446744073709551616) : Ctr Try.prog 18 [.float .f64 x] [] (Ret fun v G => v = .tuple #[.int .i64 (if Wt x then (quan x : Int) else 0), .bool (decide (Wt x))] ∧ G = []) := by
  by_cases h : Wt x
  · have := r_quantum_yes x h
    simpa only [if_pos h, decide_eq_true h] using this
  · have h0 : Ctr Try.prog 18 [.float .f64 x] [] (Ret fun v G => v = .tuple #[.int .i64 0, .bool false] ∧ G = []) := by
      cases e : (FloatKind.f64.format.order x 4589168020290535424 == some .gt || FloatKind.f64.format.order x 4589168020290535424 == some .eq) with
      | false => exact r_quantum_lo x (by rw [e])
      | true => exact r_quantum_hi x (by rw [e]) (not_ge hx h (by rw [e]))
    simpa only [if_neg h, decide_eq_false h] using h0

end Go.Proofs.Ytpkemaglokbfiaa

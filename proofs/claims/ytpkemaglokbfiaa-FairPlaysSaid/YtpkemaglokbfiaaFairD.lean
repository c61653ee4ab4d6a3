/- Steps of the proof: the walks of the functions that the statement reaches; printed by a program of ours. -/
import Derived.Test.YtpkemaglokbfiaaProg
import Derived.KernelRfl
import Derived.Test.YtpkemaglokbfiaaFairC
namespace Go.Proofs.Ytpkemaglokbfiaa
open Go.Sl Go.FairP
set_option linter.unusedVariables false
set_option linter.unusedSimpArgs false
theorem T.b27 : bodyB Try.prog 27 = true := by kernel_rfl
theorem T.f57_1 : fieldB Try.prog 57 1 = some 1 := by kernel_rfl

theorem un_star {l L F : List HProp} (hr : Rem L (Star l) F) : Sub L (l ++ F) := fun _ _ hi => Inv.unstar (hi.perm hr.perm)
theorem star_of {l : List HProp} (w0 : World) (h : Hp) (hh : sats w0 l h) : Star l w0 h := hh
attribute [local irreducible] Star Cel Sl Rd


set_option maxRecDepth 100000 in
theorem next_no (b : Nat) (l : List Mb) (ws : List Bool) (pw : Option Addr) (cw : Nat) (RW : HProp) (hRW : ∀ w0 h, RW w0 h → Rd pw ws.length 1 (bools ws) w0 h) (hl : l.length ≤ 1000) (hwho : ∀ m ∈ l, 0 ≤ m.who) (hn : l.findIdx? (wantB ws) = none) : Ctr Try.prog 12 [.pointer (some ⟨b, 0, none⟩), .slice pw ws.length cw] [IsFair b l, RW] (Ret fun v G => v = .tuple #[.int .i64 0, .int .i64 0, .bool false] ∧ G = [IsFair b l, RW]) := by
  refine spec_of [(0, _), (1, _)] Try.func12 rfl Try.ntmps12 rfl rfl ?_
  intro w0 F
  refine w_opn (fun h hh => hh) ?_
  rintro ⟨p, cap⟩ _
  refine w_seq ?_
  refine w_region ?_
  refine o_box rfl (cs := [_]) rfl rfl ?_
  intro b3
  refine o_val (v_assign rfl) rfl ?_
  refine o_val (v_assign rfl) rfl ?_
  refine o_val (v_assign rfl) rfl ?_
  refine o_nil ?_
  refine thn_n ?_
  refine w_seq ?_
  refine w_seq ?_
  refine w_region ?_
  refine o_val (v_move rfl) rfl ?_
  refine o_val (v_to (v := .bool false) (v_eqnil Try.underlying24 rfl rfl) rfl) rfl ?_
  refine o_nil ?_
  refine thn_n ?_
  refine w_condF rfl ?_
  refine w_skip ?_
  refine thn_n ?_
  refine w_seq ?_
  refine w_region ?_
  refine o_val (v_fn (fs := []) (cs := [_]) rfl rfl) rfl ?_
  refine o_val (v_assign rfl) rfl ?_
  refine o_nil ?_
  refine thn_n ?_
  refine w_seq ?_
  refine w_seq ?_
  refine w_region ?_
  refine o_val (v_move rfl) rfl ?_
  refine o_val (v_nil rfl) rfl ?_
  refine o_val (v_fieldAddr T.f55_0 rfl) rfl ?_
  refine o_val (v_load T.s53 rfl (by first | exact mm0 | exact mm1 | exact mm2 | exact mm3 | exact mm4 | exact mm5 | exact mm6 | exact mm7) rfl) rfl ?_
  refine o_val (v_move rfl) rfl ?_
  refine o_sub (fold' (A := Star [Cel b3 26 [.slice pw ws.length cw], RW]) (.cons (by first | exact rr0 | exact rr1 | exact rr2 | exact rr3 | exact rr4 | exact rr5 | exact rr6 | exact rr7) (.cons (by first | exact rr0 | exact rr1 | exact rr2 | exact rr3 | exact rr4 | exact rr5 | exact rr6 | exact rr7) .nil)) dd0 star_of) ?_
  refine o_call (contains_no l p cap 26 [] [.pointer (some ⟨b3, 0, none⟩)] (Star [Cel b3 26 [.slice pw ws.length cw], RW]) (Sl p l.length cap 57 3 (l.flatMap enc)) (wantB ws) T.b26 (fun m hm => next1 m ws pw cw b3 RW hRW (hwho m hm)) (fun _ _ h => Sl.rd h) (by omega) hn) T.b27  rfl (.cons (by first | exact rr0 | exact rr1 | exact rr2 | exact rr3 | exact rr4 | exact rr5 | exact rr6 | exact rr7) (.cons (by first | exact rr0 | exact rr1 | exact rr2 | exact rr3 | exact rr4 | exact rr5 | exact rr6 | exact rr7) .nil)) rfl ?_
  rintro _ _ ⟨rfl, rfl⟩
  refine o_val (v_to (v := .bool true) (v_not rfl) rfl) rfl ?_
  refine o_nil ?_
  refine thn_n ?_
  refine w_condT rfl ?_
  refine w_seq ?_
  refine w_sub (un_star (by first | exact rr0 | exact rr1 | exact rr2 | exact rr3 | exact rr4 | exact rr5 | exact rr6 | exact rr7)) ?_
  refine w_region ?_
  refine o_val (v_assign rfl) rfl ?_
  refine o_val (v_assign rfl) rfl ?_
  refine o_val (v_assign rfl) rfl ?_
  refine o_nil ?_
  refine thn_n ?_
  refine w_ret ?_
  refine (thn_r ?_)
  exact ret_ok (G := [IsFair b l, RW]) (res3 rfl rfl rfl) ⟨rfl, rfl⟩ (Sub.trans (fold' (.cons (by first | exact rr0 | exact rr1 | exact rr2 | exact rr3 | exact rr4 | exact rr5 | exact rr6 | exact rr7) (.cons (by first | exact rr0 | exact rr1 | exact rr2 | exact rr3 | exact rr4 | exact rr5 | exact rr6 | exact rr7) .nil)) (by first | exact dd0 | exact dd1 | exact dd2 | exact dd3 | exact dd4 | exact dd5 | exact dd6 | exact dd7 | exact dd8) (fun w0 h hh => fair_close rfl hh)) (sub (.cons rr0 (.cons (by first | exact rr0 | exact rr1 | exact rr2 | exact rr3 | exact rr4 | exact rr5 | exact rr6 | exact rr7) .nil)) (by first | exact dd0 | exact dd1 | exact dd2 | exact dd3 | exact dd4 | exact dd5 | exact dd6 | exact dd7 | exact dd8)))

set_option maxHeartbeats 4000000 in
set_option maxRecDepth 100000 in
theorem next_yes (b : Nat) (l : List Mb) (ws : List Bool) (pw : Option Addr) (cw : Nat) (RW : HProp) (hRW : ∀ w0 h, RW w0 h → Rd pw ws.length 1 (bools ws) w0 h) (hl : l.length ≤ 1000) (hwho : ∀ m ∈ l, 0 ≤ m.who) (i : Nat) (hi : l.findIdx? (wantB ws) = some i) : Ctr Try.prog 12 [.pointer (some ⟨b, 0, none⟩), .slice pw ws.length cw] [IsFair b l, RW] (Ret fun v G => v = .tuple #[.int .i64 (l[i]'(findIdx_lt hi)).who, .int .i64 (full (l[i]'(findIdx_lt hi))).c, .bool true] ∧ G = [IsFair b (fnext l i), RW]) := by
  obtain ⟨hlt, hpi, hpj⟩ := find_lt hi
  refine spec_of [(0, _), (1, _)] Try.func12 rfl Try.ntmps12 rfl rfl ?_
  intro w0 F
  refine w_opn (fun h hh => hh) ?_
  rintro ⟨p, cap⟩ _
  refine w_seq ?_
  refine w_region ?_
  refine o_box rfl (cs := [_]) rfl rfl ?_
  intro b3
  refine o_val (v_assign rfl) rfl ?_
  refine o_val (v_assign rfl) rfl ?_
  refine o_val (v_assign rfl) rfl ?_
  refine o_nil ?_
  refine thn_n ?_
  refine w_seq ?_
  refine w_seq ?_
  refine w_region ?_
  refine o_val (v_move rfl) rfl ?_
  refine o_val (v_to (v := .bool false) (v_eqnil Try.underlying24 rfl rfl) rfl) rfl ?_
  refine o_nil ?_
  refine thn_n ?_
  refine w_condF rfl ?_
  refine w_skip ?_
  refine thn_n ?_
  refine w_seq ?_
  refine w_region ?_
  refine o_val (v_fn (fs := []) (cs := [_]) rfl rfl) rfl ?_
  refine o_val (v_assign rfl) rfl ?_
  refine o_nil ?_
  refine thn_n ?_
  refine w_seq ?_
  refine w_seq ?_
  refine w_region ?_
  refine o_val (v_move rfl) rfl ?_
  refine o_val (v_nil rfl) rfl ?_
  refine o_val (v_fieldAddr T.f55_0 rfl) rfl ?_
  refine o_val (v_load T.s53 rfl (by first | exact mm0 | exact mm1 | exact mm2 | exact mm3 | exact mm4 | exact mm5 | exact mm6 | exact mm7) rfl) rfl ?_
  refine o_val (v_move rfl) rfl ?_
  refine o_sub (fold' (A := Star [Cel b3 26 [.slice pw ws.length cw], RW]) (.cons (by first | exact rr0 | exact rr1 | exact rr2 | exact rr3 | exact rr4 | exact rr5 | exact rr6 | exact rr7) (.cons (by first | exact rr0 | exact rr1 | exact rr2 | exact rr3 | exact rr4 | exact rr5 | exact rr6 | exact rr7) .nil)) dd0 star_of) ?_
  refine o_call (contains_yes l p cap 26 [] [.pointer (some ⟨b3, 0, none⟩)] (Star [Cel b3 26 [.slice pw ws.length cw], RW]) (Sl p l.length cap 57 3 (l.flatMap enc)) (wantB ws) T.b26 (fun m hm => next1 m ws pw cw b3 RW hRW (hwho m hm)) (fun _ _ h => Sl.rd h) (by omega) i hi) T.b27  rfl (.cons (by first | exact rr0 | exact rr1 | exact rr2 | exact rr3 | exact rr4 | exact rr5 | exact rr6 | exact rr7) (.cons (by first | exact rr0 | exact rr1 | exact rr2 | exact rr3 | exact rr4 | exact rr5 | exact rr6 | exact rr7) .nil)) rfl ?_
  rintro _ _ ⟨rfl, rfl⟩
  refine o_sub (fold' (A := IsFair b (rotL l 0)) (.cons (by first | exact rr0 | exact rr1 | exact rr2 | exact rr3 | exact rr4 | exact rr5 | exact rr6 | exact rr7) (.cons (by first | exact rr0 | exact rr1 | exact rr2 | exact rr3 | exact rr4 | exact rr5 | exact rr6 | exact rr7) .nil)) dd0 (fun w0 h hh => fair_close' (by simp [rotL_len]) (by rw [rotL_zero]) hh)) ?_
  refine o_val (v_to (v := .bool false) (v_not rfl) rfl) rfl ?_
  refine o_nil ?_
  refine thn_n ?_
  refine w_condF rfl ?_
  refine w_skip ?_
  refine thn_n ?_
  refine w_seq ?_
  refine w_block ?_
  refine w_loop1 (fun (k : Nat) => [(0, .pointer (some ⟨b, 0, none⟩)), (3, .pointer (some ⟨b3, 0, none⟩)), (7, .func (.func 26) #[] #[.pointer (some ⟨b3, 0, none⟩)])]) (fun (k : Nat) => IsFair b (rotL l k) :: Star [Cel b3 26 [.slice pw ws.length cw], RW] :: F) (fun (k : Nat) => k ≤ i) (fun (k : Nat) => i - k) (i1 (0) ?_ (.cons rfl (.cons rfl (.cons rfl (.nil _)))) (sub (.cons (by first | exact rr0 | exact rr1 | exact rr2 | exact rr3 | exact rr4 | exact rr5 | exact rr6 | exact rr7) (.cons (by first | exact rr0 | exact rr1 | exact rr2 | exact rr3 | exact rr4 | exact rr5 | exact rr6 | exact rr7) .nil)) (by first | exact dd0 | exact dd1 | exact dd2 | exact dd3 | exact dd4 | exact dd5 | exact dd6 | exact dd7 | exact dd8))) ?_
  ·
    exact (by omega)
  intro k
  rintro hk
  refine w_seq ?_
  refine w_seq ?_
  have hkl : k < l.length := by omega
  rw [rotL_cons hkl]
  obtain ⟨m, hm⟩ : ∃ m, m = l[k] := ⟨_, rfl⟩
  obtain ⟨r, hr⟩ : ∃ r, r = l.drop (k + 1) ++ (l.take k).map zero := ⟨_, rfl⟩
  rw [← hm, ← hr]
  have hrl : r.length ≤ 1000 := by rw [hr]; simp; omega
  refine w_opn (fun h hh => hh) ?_
  rintro ⟨p, cap⟩ _
  refine w_some (p := p) (by first | exact mm0 | exact mm1 | exact mm2 | exact mm3 | exact mm4 | exact mm5 | exact mm6 | exact mm7) (Nat.succ_pos _) (fun ba o e => ?_)
  subst e
  refine w_region ?_
  refine o_val (v_move rfl) rfl ?_
  refine o_val (v_move rfl) rfl ?_
  refine o_val (v_nil rfl) rfl ?_
  refine o_val (v_fieldAddr T.f55_0 rfl) rfl ?_
  refine o_val (v_load T.s53 rfl (by first | exact mm0 | exact mm1 | exact mm2 | exact mm3 | exact mm4 | exact mm5 | exact mm6 | exact mm7) rfl) rfl ?_
  refine o_val (v_index 0 rfl T.sl53 rfl rfl (Nat.succ_pos _)) rfl ?_
  refine o_val (v_loadSA (us := enc m) 0 T.a57 rfl (by first | exact mm0 | exact mm1 | exact mm2 | exact mm3 | exact mm4 | exact mm5 | exact mm6 | exact mm7) (by omega) rfl rfl) rfl ?_
  refine o_callF (fs := []) (vs := [.agg (enc m).toArray]) (cs := [.pointer (some ⟨b3, 0, none⟩)]) (next1 m ws pw cw b3 RW hRW (hwho _ (by rw [hm]; exact List.getElem_mem _))) T.b26 rfl rfl (.cons (by first | exact rr0 | exact rr1 | exact rr2 | exact rr3 | exact rr4 | exact rr5 | exact rr6 | exact rr7) .nil) rfl ?_
  rintro _ _ ⟨rfl, rfl⟩
  refine o_val (v_not rfl) rfl ?_
  refine o_nil ?_
  refine thn_n ?_
  refine w_cond rfl (fun h27 => ?_) (fun h27 => ?_)
  ·
    have hk2 : k < i := by
      rcases Nat.lt_or_ge k i with h | h
      · exact h
      · have e : k = i := by omega
        subst e
        rw [hm, hpi] at h27
        cases h27
    refine w_skip ?_
    refine thn_n ?_
    refine w_block ?_
    refine w_sub (fold' (A := IsFair b (m :: r)) (.cons (by first | exact rr0 | exact rr1 | exact rr2 | exact rr3 | exact rr4 | exact rr5 | exact rr6 | exact rr7) (.cons (by first | exact rr0 | exact rr1 | exact rr2 | exact rr3 | exact rr4 | exact rr5 | exact rr6 | exact rr7) .nil)) dd0 (fun w0 h hh => fair_close' rfl rfl hh)) ?_
    refine w_region ?_
    refine o_val (v_move rfl) rfl ?_
    refine o_call (turn b m r hrl) T.b28  rfl (.cons (by first | exact rr0 | exact rr1 | exact rr2 | exact rr3 | exact rr4 | exact rr5 | exact rr6 | exact rr7) .nil) rfl ?_
    rintro _ _ ⟨rfl, rfl⟩
    refine o_nil ?_
    refine blk_n ?_
    rw [hr, hm, rotL_step hkl]
    refine j1 (k + 1) ⟨by omega, by omega⟩ (.cons rfl (.cons rfl (.cons rfl (.nil _)))) (sub (.cons (by first | exact rr0 | exact rr1 | exact rr2 | exact rr3 | exact rr4 | exact rr5 | exact rr6 | exact rr7) (.cons (by first | exact rr0 | exact rr1 | exact rr2 | exact rr3 | exact rr4 | exact rr5 | exact rr6 | exact rr7) .nil)) (by first | exact dd0 | exact dd1 | exact dd2 | exact dd3 | exact dd4 | exact dd5 | exact dd6 | exact dd7 | exact dd8))
  ·
    have hk2 : k = i := by
      rcases Nat.lt_or_ge k i with h | h
      · rw [hm, hpj k h] at h27
        cases h27
      · omega
    subst hk2
    refine w_exit ?_
    refine thn_e ?_
    refine thn_e ?_
    refine blk_x ?_
    refine thn_n ?_
    refine w_seq ?_
    refine w_region ?_
    refine o_val (v_move rfl) rfl ?_
    refine o_val (v_nil rfl) rfl ?_
    refine o_val (v_fieldAddr T.f55_0 rfl) rfl ?_
    refine o_val (v_load T.s53 rfl (by first | exact mm0 | exact mm1 | exact mm2 | exact mm3 | exact mm4 | exact mm5 | exact mm6 | exact mm7) rfl) rfl ?_
    refine o_val (v_index 0 rfl T.sl53 rfl rfl (Nat.succ_pos _)) rfl ?_
    refine o_val (v_assign rfl) rfl ?_
    refine o_nil ?_
    refine thn_n ?_
    refine w_seq ?_
    refine w_seq ?_
    refine w_region ?_
    refine o_val (v_move rfl) rfl ?_
    refine o_val (v_nil rfl) rfl ?_
    refine o_val (v_fieldAddr T.f57_2 rfl) rfl ?_
    refine o_val (v_loadS 2 T.s3 rfl (by first | exact mm0 | exact mm1 | exact mm2 | exact mm3 | exact mm4 | exact mm5 | exact mm6 | exact mm7) (by omega) rfl) rfl ?_
    refine o_val (v_eql rfl rfl) rfl ?_
    refine o_nil ?_
    refine thn_n ?_
    first | refine w_condD rfl (fun h39 => ?_) (fun h39 => ?_) | refine w_cond rfl (fun h39 => ?_) (fun h39 => ?_)
    ·
      refine w_region ?_
      refine o_val (v_move rfl) rfl ?_
      refine o_val (v_move rfl) rfl ?_
      refine o_val (v_nil rfl) rfl ?_
      refine o_val (v_fieldAddr T.f57_1 rfl) rfl ?_
      refine o_val (v_loadS 1 T.s3 rfl (by first | exact mm0 | exact mm1 | exact mm2 | exact mm3 | exact mm4 | exact mm5 | exact mm6 | exact mm7) (by omega) rfl) rfl ?_
      refine o_val (v_nil rfl) rfl ?_
      refine o_val (v_fieldAddr T.f57_2 rfl) rfl ?_
      refine o_eff (v_storeS (vs' := (full m :: r).flatMap enc) 2 T.s3 rfl rfl rfl (by first | exact pp0 | exact pp1 | exact pp2 | exact pp3 | exact pp4 | exact pp5 | exact pp6 | exact pp7) (by omega) (by simp [enc]) (by rw [show full m = { m with c := m.q } from if_pos h39]; rfl)) ?_
      refine o_nil ?_
      refine thn_n ?_
      refine w_seq ?_
      refine w_chain (Ls := [_]) [⟨[], [], [8], 0, 0⟩, ⟨[0], [0], [], 0, 0⟩, ⟨[0, 1], [1], [], 0, 0⟩, ⟨[0, 1, 2], [2], [], 0, 0⟩, ⟨[], [], [8], 0, 0⟩, ⟨[4], [4], [], 0, 0⟩, ⟨[4, 5], [5], [], 0, 0⟩, ⟨[4, 5, 6], [6], [], 0, 0⟩, ⟨[0, 1, 2, 3], [3], [], 0, 0⟩, ⟨[0, 1, 2, 3, 4, 5, 6, 7, 8], [7], [], 0, 0⟩, ⟨[0, 1, 2, 3, 4, 5, 6, 7, 8, 9], [], [], 0, 0⟩] [] T.mixed (by kernel_rfl) rfl rfl rfl rfl ?_
      refine owed_pure [(8, _)] rfl rfl (fun _ => st_v (v_move rfl) ⟨rfl, rfl⟩) ?_
      refine owed_pure [(47, _)] rfl rfl (fun _ => st_v (v_nil rfl) ⟨rfl, rfl⟩) ?_
      refine owed_pure [(48, _)] rfl rfl (fun _ => st_v (v_fieldAddr T.f57_0 rfl) ⟨rfl, rfl⟩) ?_
      refine owed_read1 [(49, _)] rfl rfl rfl (st_v (v_loadS 0 T.s3 rfl (by first | exact mm0 | exact mm1 | exact mm2 | exact mm3 | exact mm4 | exact mm5 | exact mm6 | exact mm7) (by omega) rfl) ⟨rfl, rfl⟩) ?_
      refine owed_pure [(8, _)] rfl rfl (fun _ => st_v (v_move rfl) ⟨rfl, rfl⟩) ?_
      refine owed_pure [(51, _)] rfl rfl (fun _ => st_v (v_nil rfl) ⟨rfl, rfl⟩) ?_
      refine owed_pure [(52, _)] rfl rfl (fun _ => st_v (v_fieldAddr T.f57_2 rfl) ⟨rfl, rfl⟩) ?_
      refine owed_read1 [(53, _)] rfl rfl rfl (st_v (v_loadS 2 T.s3 rfl (by first | exact mm0 | exact mm1 | exact mm2 | exact mm3 | exact mm4 | exact mm5 | exact mm6 | exact mm7) (by omega) rfl) ⟨rfl, rfl⟩) ?_
      refine owed_pure [(50, _)] rfl rfl (fun _ => st_v (v_assign rfl) ⟨rfl, rfl⟩) ?_
      refine owed_pure [(54, _)] rfl rfl (fun _ => st_v (v_assign rfl) ⟨rfl, rfl⟩) ?_
      refine owed_pure [] rfl rfl (fun _ => st_v (v_assign rfl) ⟨rfl, rfl⟩) ?_
      refine owed_nil ?_
      refine thn_n ?_
      refine w_keep _ (.cons (d := 4) rfl (.cons (d := 5) rfl (.cons (d := 6) rfl (.nil _)))) ?_
      refine w_ret ?_
      exact ret_ok (G := [IsFair b (fnext l k), RW]) (res3 rfl rfl rfl) ⟨by first | rw [← hm, hf] | rw [← hm, full_who], rfl⟩ (Sub.trans (fold' (A := IsFair b (fnext l k)) (.cons (by first | exact rr0 | exact rr1 | exact rr2 | exact rr3 | exact rr4 | exact rr5 | exact rr6 | exact rr7) (.cons (by first | exact rr0 | exact rr1 | exact rr2 | exact rr3 | exact rr4 | exact rr5 | exact rr6 | exact rr7) .nil)) dd0 (fun w0 h hh => fair_close' (by rw [fnext_eq hlt, ← hm, ← hr]; rfl) (by first | rw [fnext_eq hlt, ← hm, ← hr, hf] | rw [fnext_eq hlt, ← hm, ← hr]) hh)) (Sub.trans (un_star (by first | exact rr0 | exact rr1 | exact rr2 | exact rr3 | exact rr4 | exact rr5 | exact rr6 | exact rr7)) (sub (.cons (by first | exact rr0 | exact rr1 | exact rr2 | exact rr3 | exact rr4 | exact rr5 | exact rr6 | exact rr7) (.cons (by first | exact rr0 | exact rr1 | exact rr2 | exact rr3 | exact rr4 | exact rr5 | exact rr6 | exact rr7) .nil)) (by first | exact dd0 | exact dd1 | exact dd2 | exact dd3 | exact dd4 | exact dd5 | exact dd6 | exact dd7 | exact dd8))))
    ·
      have hf : full m = m := if_neg h39
      refine w_skip ?_
      refine thn_n ?_
      refine w_seq ?_
      refine w_chain (Ls := [_]) [⟨[], [], [8], 0, 0⟩, ⟨[0], [0], [], 0, 0⟩, ⟨[0, 1], [1], [], 0, 0⟩, ⟨[0, 1, 2], [2], [], 0, 0⟩, ⟨[], [], [8], 0, 0⟩, ⟨[4], [4], [], 0, 0⟩, ⟨[4, 5], [5], [], 0, 0⟩, ⟨[4, 5, 6], [6], [], 0, 0⟩, ⟨[0, 1, 2, 3], [3], [], 0, 0⟩, ⟨[0, 1, 2, 3, 4, 5, 6, 7, 8], [7], [], 0, 0⟩, ⟨[0, 1, 2, 3, 4, 5, 6, 7, 8, 9], [], [], 0, 0⟩] [] T.mixed (by kernel_rfl) rfl rfl rfl rfl ?_
      refine owed_pure [(8, _)] rfl rfl (fun _ => st_v (v_move rfl) ⟨rfl, rfl⟩) ?_
      refine owed_pure [(47, _)] rfl rfl (fun _ => st_v (v_nil rfl) ⟨rfl, rfl⟩) ?_
      refine owed_pure [(48, _)] rfl rfl (fun _ => st_v (v_fieldAddr T.f57_0 rfl) ⟨rfl, rfl⟩) ?_
      refine owed_read1 [(49, _)] rfl rfl rfl (st_v (v_loadS 0 T.s3 rfl (by first | exact mm0 | exact mm1 | exact mm2 | exact mm3 | exact mm4 | exact mm5 | exact mm6 | exact mm7) (by omega) rfl) ⟨rfl, rfl⟩) ?_
      refine owed_pure [(8, _)] rfl rfl (fun _ => st_v (v_move rfl) ⟨rfl, rfl⟩) ?_
      refine owed_pure [(51, _)] rfl rfl (fun _ => st_v (v_nil rfl) ⟨rfl, rfl⟩) ?_
      refine owed_pure [(52, _)] rfl rfl (fun _ => st_v (v_fieldAddr T.f57_2 rfl) ⟨rfl, rfl⟩) ?_
      refine owed_read1 [(53, _)] rfl rfl rfl (st_v (v_loadS 2 T.s3 rfl (by first | exact mm0 | exact mm1 | exact mm2 | exact mm3 | exact mm4 | exact mm5 | exact mm6 | exact mm7) (by omega) rfl) ⟨rfl, rfl⟩) ?_
      refine owed_pure [(50, _)] rfl rfl (fun _ => st_v (v_assign rfl) ⟨rfl, rfl⟩) ?_
      refine owed_pure [(54, _)] rfl rfl (fun _ => st_v (v_assign rfl) ⟨rfl, rfl⟩) ?_
      refine owed_pure [] rfl rfl (fun _ => st_v (v_assign rfl) ⟨rfl, rfl⟩) ?_
      refine owed_nil ?_
      refine thn_n ?_
      refine w_keep _ (.cons (d := 4) rfl (.cons (d := 5) rfl (.cons (d := 6) rfl (.nil _)))) ?_
      refine w_ret ?_
      exact ret_ok (G := [IsFair b (fnext l k), RW]) (res3 rfl rfl rfl) ⟨by first | rw [← hm, hf] | rw [← hm, full_who], rfl⟩ (Sub.trans (fold' (A := IsFair b (fnext l k)) (.cons (by first | exact rr0 | exact rr1 | exact rr2 | exact rr3 | exact rr4 | exact rr5 | exact rr6 | exact rr7) (.cons (by first | exact rr0 | exact rr1 | exact rr2 | exact rr3 | exact rr4 | exact rr5 | exact rr6 | exact rr7) .nil)) dd0 (fun w0 h hh => fair_close' (by rw [fnext_eq hlt, ← hm, ← hr]; rfl) (by first | rw [fnext_eq hlt, ← hm, ← hr, hf] | rw [fnext_eq hlt, ← hm, ← hr]) hh)) (Sub.trans (un_star (by first | exact rr0 | exact rr1 | exact rr2 | exact rr3 | exact rr4 | exact rr5 | exact rr6 | exact rr7)) (sub (.cons (by first | exact rr0 | exact rr1 | exact rr2 | exact rr3 | exact rr4 | exact rr5 | exact rr6 | exact rr7) (.cons (by first | exact rr0 | exact rr1 | exact rr2 | exact rr3 | exact rr4 | exact rr5 | exact rr6 | exact rr7) .nil)) (by first | exact dd0 | exact dd1 | exact dd2 | exact dd3 | exact dd4 | exact dd5 | exact dd6 | exact dd7 | exact dd8))))

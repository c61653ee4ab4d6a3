/- Steps of the proof: the walks of the functions that the statement reaches; printed by a program of ours. -/
import Derived.Test.YtpkemaglokbfiaaProg
import Derived.KernelRfl
import Derived.Test.YtpkemaglokbfiaaFairG
import Derived.Test.YtpkemaglokbfiaaFairPlain5
namespace Go.Proofs.Ytpkemaglokbfiaa
open Go.Sl Go.FairP
set_option linter.unusedVariables false
set_option linter.unusedSimpArgs false
theorem T.s5 : scalarB Try.prog 5 = true := by kernel_rfl
theorem T.sl22 : sliceB Try.prog 22 = some (5, 1, 1) := by kernel_rfl
theorem T.u5 : undB Try.prog 5 = true := by kernel_rfl


theorem spend_ok (b : Nat) (who n : Int) (m : Mb) (r : List Mb) (hl : r.length ≤ 999) (hm : m.who = who) (hn : 1 ≤ n) (hc : n ≤ m.c) (hc2 : m.c ≤ 100000) : Ctr Try.prog 13 [.pointer (some ⟨b, 0, none⟩), .int .i64 who, .int .i64 n] [IsFair b (m :: r)] (Ret fun v G => v = .bool true ∧ G = [IsFair b (spendL m r n)]) := by
  unfold spendL
  by_cases h : n < m.c
  · rw [if_pos h]
    exact spend_some b who n m r hl hm hn h hc2
  · rw [if_neg h]
    exact spend_all b who n m r hl hm hn (by omega) hc2
theorem someR {w0 w : World} {L : List HProp} {R : HProp} {p : Option Addr} {n sz : Nat} {vs : List Value} (hi : Inv w0 L w) (hm : R ∈ L) (hR : ∀ h, R w0 h → Rd p n sz vs w0 h) (hn : 0 < n) : ∃ b o, p = some ⟨b, o, none⟩ := by
  obtain ⟨_, h⟩ := hi.rd hm hR
  rcases h with h | ⟨b, o, h, _⟩
  · omega
  · exact ⟨b, o, h⟩
theorem next_cyc (b : Nat) (q : List Int) (r : Nat) (c : Int) (n cw : Nat) (pw : Option Addr) (RW : HProp) (hRW : ∀ w0 h, RW w0 h → Rd pw (List.replicate n true).length 1 (bools (List.replicate n true)) w0 h) (hr : r < q.length) (hq : q.length = n) (hn : n ≤ 8) :
    Ctr Try.prog 12 [.pointer (some ⟨b, 0, none⟩), .slice pw n cw] [IsFair b (cycD q r c), RW] (Ret fun v G => v = .tuple #[.int .i64 r, .int .i64 (if c = 0 then q.getD r 0 else c), .bool true] ∧ G = [IsFair b (⟨r, q.getD r 0, if c = 0 then q.getD r 0 else c⟩ :: ((base q).drop (r + 1) ++ (base q).take r)), RW]) := by
  have hi : (cycD q r c).findIdx? (wantB (List.replicate n true)) = some 0 := by
    rw [cycD_eq hr]
    exact idx_head (want_all (by show (0 : Int) ≤ (r : Int); omega) (by show (r : Int) < (n : Int); omega))
  have hl : (cycD q r c).length ≤ 1000 := by
    unfold cycD; rw [dif_pos hr, cyc_len]; omega
  have h := next_yes b (cycD q r c) (List.replicate n true) pw cw RW hRW hl cycD_who 0 hi
  have hf : full (⟨r, q.getD r 0, c⟩ : Mb) = ⟨r, q.getD r 0, if c = 0 then q.getD r 0 else c⟩ := by
    unfold full
    by_cases hc : c = 0
    · simp [hc]
    · simp [hc]
  have h0 : 0 < (cycD q r c).length := findIdx_lt hi
  have hg : (cycD q r c)[0] = ⟨r, q.getD r 0, c⟩ := by
    have e := cycD_eq (c := c) hr
    simp only [e, List.getElem_cons_zero]
  have hx : fnext (cycD q r c) 0 = ⟨r, q.getD r 0, if c = 0 then q.getD r 0 else c⟩ :: ((base q).drop (r + 1) ++ (base q).take r) := by
    rw [fnext_eq h0, hg, hf, cycD_eq hr]
    simp
  rw [hx] at h
  simp only [hg, hf, List.length_replicate] at h
  exact h



theorem end_row {ws : List Int} {K : Int} {j : Nat} (h : j < ws.length) : (ints .i64 ((qs ws).map (fun x => K * x)))[j]? = some (.int .i64 (K * (1 + ws[j]))) := by
  rw [ints_get (by simp [qs_len]; exact h)]
  simp [qs_get h]
theorem qs_row {ws : List Int} {j : Nat} (h : j < ws.length) : (ints .i64 (qs ws))[j]? = some (.int .i64 (1 + ws[j])) := by
  rw [ints_get (by rw [qs_len]; exact h), qs_get h]


set_option maxHeartbeats 8000000 in
set_option maxRecDepth 100000 in
theorem shares (ws : List Int) (pw : Option Addr) (cw : Nat) (RW : HProp) (hRW : ∀ w0 h, RW w0 h → Rd pw ws.length 1 (ints .u8 ws) w0 h) (hw : ∀ x ∈ ws, 0 ≤ x ∧ x ≤ 255) (sl : List Int) (ps : Option Addr) (cs : Nat) (RS : HProp) (hRS : ∀ w0 h, RS w0 h → Rd ps sl.length 1 (ints .u8 sl) w0 h) (hs : ∀ x ∈ sl, 0 ≤ x ∧ x ≤ 255) (n : Int) (hn : 0 ≤ n ∧ n ≤ 255) : Ctr Try.prog 3 [.slice pw ws.length cw, .slice ps sl.length cs, .int .u8 n] [RW, RS] (Ret fun v G => v = .bool true ∧ G = [RW, RS]) := by
  refine spec_of [(0, _), (1, _), (2, _)] Try.func3 rfl Try.ntmps3 rfl rfl ?_
  intro w0 F
  refine w_seq ?_
  refine w_region ?_
  refine o_val (v_assign rfl) rfl ?_
  refine o_nil ?_
  refine thn_n ?_
  refine w_seq ?_
  refine w_seq ?_
  refine w_region ?_
  refine o_call (awake) T.b9  rfl .nil rfl ?_
  rintro _ _ ⟨rfl, rfl⟩
  refine o_val (v_to (v := .bool false) (v_not rfl) rfl) rfl ?_
  refine o_nil ?_
  refine thn_n ?_
  refine w_condF rfl ?_
  refine w_skip ?_
  refine thn_n ?_
  refine w_seq ?_
  refine w_region ?_
  refine o_val (v_move rfl) rfl ?_
  refine o_val (v_len (ty' := 0) Try.underlying22 rfl) rfl ?_
  refine o_val (v_assign rfl) rfl ?_
  refine o_nil ?_
  refine thn_n ?_
  refine w_seq ?_
  refine w_seq ?_
  refine w_region ?_
  refine o_val (v_move rfl) rfl ?_
  refine o_val (v_lss rfl rfl) rfl ?_
  refine o_val (v_move rfl) rfl ?_
  first | refine o_boolD 28 rfl (fun h28 => ?_) (fun h28 => ?_) | refine o_bool 28 rfl (fun h28 => ?_) (fun h28 => ?_)
  ·
    refine o_pass rfl rfl rfl ?_
    refine o_pass rfl rfl rfl ?_
    refine o_val (v_pickT rfl rfl) rfl ?_
    refine o_val (v_move rfl) rfl ?_
    refine o_pass rfl rfl rfl ?_
    refine o_pass rfl rfl rfl ?_
    refine o_pass rfl rfl rfl ?_
    refine o_val (v_pickT rfl rfl) rfl ?_
    refine o_nil ?_
    refine thn_n ?_
    refine w_condT rfl ?_
    refine w_seq ?_
    refine w_region ?_
    refine o_val (v_assign rfl) rfl ?_
    refine o_nil ?_
    refine thn_n ?_
    refine w_ret ?_
    refine (thn_r ?_)
    exact ret_ok (G := [_, _]) (res1 rfl) ⟨rfl, rfl⟩ (sub (.cons (by first | exact rr0 | exact rr1 | exact rr2 | exact rr3 | exact rr4 | exact rr5 | exact rr6 | exact rr7) (.cons (by first | exact rr0 | exact rr1 | exact rr2 | exact rr3 | exact rr4 | exact rr5 | exact rr6 | exact rr7) .nil)) (by first | exact dd0 | exact dd1 | exact dd2 | exact dd3 | exact dd4 | exact dd5 | exact dd6 | exact dd7 | exact dd8))
  ·
    refine o_want rfl ?_
    refine o_val (v_move rfl) rfl ?_
    refine o_want rfl ?_
    refine o_val (v_gtr rfl rfl) rfl ?_
    refine o_val (v_pickF rfl rfl) rfl ?_
    refine o_val (v_move rfl) rfl ?_
    first | refine o_boolD 32 rfl (fun h32 => ?_) (fun h32 => ?_) | refine o_bool 32 rfl (fun h32 => ?_) (fun h32 => ?_)
    ·
      refine o_pass rfl rfl rfl ?_
      refine o_pass rfl rfl rfl ?_
      refine o_pass rfl rfl rfl ?_
      refine o_val (v_pickT rfl rfl) rfl ?_
      refine o_nil ?_
      refine thn_n ?_
      refine w_condT rfl ?_
      refine w_seq ?_
      refine w_region ?_
      refine o_val (v_assign rfl) rfl ?_
      refine o_nil ?_
      refine thn_n ?_
      refine w_ret ?_
      refine (thn_r ?_)
      exact ret_ok (G := [_, _]) (res1 rfl) ⟨rfl, rfl⟩ (sub (.cons (by first | exact rr0 | exact rr1 | exact rr2 | exact rr3 | exact rr4 | exact rr5 | exact rr6 | exact rr7) (.cons (by first | exact rr0 | exact rr1 | exact rr2 | exact rr3 | exact rr4 | exact rr5 | exact rr6 | exact rr7) .nil)) (by first | exact dd0 | exact dd1 | exact dd2 | exact dd3 | exact dd4 | exact dd5 | exact dd6 | exact dd7 | exact dd8))
    ·
      refine o_want rfl ?_
      refine o_val (v_move rfl) rfl ?_
      refine o_want rfl ?_
      refine o_val (v_len (ty' := 0) Try.underlying22 rfl) rfl ?_
      refine o_want rfl ?_
      refine o_val (v_gtr rfl rfl) rfl ?_
      refine o_val (v_pickF rfl rfl) rfl ?_
      refine o_nil ?_
      refine thn_n ?_
      first | refine w_condD rfl (fun h36 => ?_) (fun h36 => ?_) | refine w_cond rfl (fun h36 => ?_) (fun h36 => ?_)
      ·
        refine w_seq ?_
        refine w_region ?_
        refine o_val (v_assign rfl) rfl ?_
        refine o_nil ?_
        refine thn_n ?_
        refine w_ret ?_
        refine (thn_r ?_)
        exact ret_ok (G := [_, _]) (res1 rfl) ⟨rfl, rfl⟩ (sub (.cons (by first | exact rr0 | exact rr1 | exact rr2 | exact rr3 | exact rr4 | exact rr5 | exact rr6 | exact rr7) (.cons (by first | exact rr0 | exact rr1 | exact rr2 | exact rr3 | exact rr4 | exact rr5 | exact rr6 | exact rr7) .nil)) (by first | exact dd0 | exact dd1 | exact dd2 | exact dd3 | exact dd4 | exact dd5 | exact dd6 | exact dd7 | exact dd8))
      ·
        refine w_skip ?_
        refine thn_n ?_
        refine w_seq ?_
        refine w_region ?_
        refine o_call (new) T.b10  rfl .nil rfl ?_
        rintro _ _ ⟨bf, rfl, rfl⟩
        refine o_val (v_assign rfl) rfl ?_
        refine o_nil ?_
        refine thn_n ?_
        refine w_seq ?_
        refine w_seq ?_
        refine w_region ?_
        refine o_val (v_move rfl) rfl ?_
        refine o_val (v_to (v := .bool false) (v_eqnil Try.underlying24 rfl rfl) rfl) rfl ?_
        refine o_nil ?_
        refine thn_n ?_
        refine w_condF rfl ?_
        refine w_skip ?_
        refine thn_n ?_
        refine w_seq ?_
        refine w_region ?_
        refine o_val (v_move rfl) rfl ?_
        refine o_make _ _ rfl rfl T.sl26 T.z4 rfl rfl rfl (by omega) (by omega) (by omega) rfl ?_
        intro b41
        refine o_val (v_assign rfl) rfl ?_
        refine o_nil ?_
        refine thn_n ?_
        refine w_seq ?_
        refine w_region ?_
        refine o_val (v_move rfl) rfl ?_
        refine o_make _ _ rfl rfl T.sl27 T.z3 rfl rfl rfl (by omega) (by omega) (by omega) rfl ?_
        intro b43
        refine o_val (v_assign rfl) rfl ?_
        refine o_nil ?_
        refine thn_n ?_
        refine w_seq ?_
        refine w_region ?_
        refine o_val (v_assign rfl) rfl ?_
        refine o_nil ?_
        refine thn_n ?_
        refine w_seq ?_
        refine w_seq ?_
        refine w_region ?_
        refine o_val (v_assign rfl) rfl ?_
        refine o_nil ?_
        refine thn_n ?_
        refine w_block ?_
        rw [show (List.replicate ws.length [Value.bool false]).flatten = bools (List.replicate 0 true ++ List.replicate (ws.length - 0) false) from by rw [bools_zero]; rfl]
        rw [show (List.replicate ws.length [Value.int .i64 0]).flatten = ints .i64 ((qs ws).take 0 ++ List.replicate (ws.length - 0) 0) from by rw [ints_zero]; rfl]
        refine w_loop1 (fun (k : Nat) => [(0, .slice pw ws.length cw), (1, .slice ps sl.length cs), (2, .int .u8 n), (7, .int .i64 (ws.length : Int)), (8, .pointer (some ⟨bf, 0, none⟩)), (9, .slice (some ⟨b41, 0, none⟩) ws.length ws.length), (10, .slice (some ⟨b43, 0, none⟩) ws.length ws.length), (11, .int .i64 ((qs ws).take k).sum), (12, .int .i64 (k : Int))]) (fun (k : Nat) => IsFair bf (base ((qs ws).take k)) :: Sl (some ⟨b41, 0, none⟩) ws.length ws.length 4 1 (bools (List.replicate k true ++ List.replicate (ws.length - k) false)) :: Sl (some ⟨b43, 0, none⟩) ws.length ws.length 3 1 (ints .i64 ((qs ws).take k ++ List.replicate (ws.length - k) 0)) :: RW :: RS :: F) (fun (k : Nat) => k ≤ ws.length) (fun (k : Nat) => ws.length - k) (i1 (0) ?_ (.cons rfl (.cons rfl (.cons rfl (.cons rfl (.cons rfl (.cons rfl (.cons rfl (.cons rfl (.cons rfl (.nil _)))))))))) (sub (.cons (by first | exact rr0 | exact rr1 | exact rr2 | exact rr3 | exact rr4 | exact rr5 | exact rr6 | exact rr7) (.cons (by first | exact rr0 | exact rr1 | exact rr2 | exact rr3 | exact rr4 | exact rr5 | exact rr6 | exact rr7) (.cons (by first | exact rr0 | exact rr1 | exact rr2 | exact rr3 | exact rr4 | exact rr5 | exact rr6 | exact rr7) (.cons (by first | exact rr0 | exact rr1 | exact rr2 | exact rr3 | exact rr4 | exact rr5 | exact rr6 | exact rr7) (.cons (by first | exact rr0 | exact rr1 | exact rr2 | exact rr3 | exact rr4 | exact rr5 | exact rr6 | exact rr7) .nil))))) (by first | exact dd0 | exact dd1 | exact dd2 | exact dd3 | exact dd4 | exact dd5 | exact dd6 | exact dd7 | exact dd8))) ?_
        ·
          exact (by omega)
        intro k
        rintro hk
        refine w_seq ?_
        refine w_seq ?_
        refine w_region ?_
        refine o_val (v_move rfl) rfl ?_
        refine o_val (v_move rfl) rfl ?_
        refine o_val (v_lss rfl rfl) rfl ?_
        refine o_nil ?_
        refine thn_n ?_
        first | refine w_condD rfl (fun h46 => ?_) (fun h46 => ?_) | refine w_cond rfl (fun h46 => ?_) (fun h46 => ?_)
        ·
          refine w_skip ?_
          refine thn_n ?_
          refine w_seq ?_
          refine w_block ?_
          refine w_seq ?_
          have hk2 : k < ws.length := by omega
          have hwk := hw ws[k] (List.getElem_mem _)
          have hsb := sum_bound hw k hk
          obtain ⟨x, hx, hf⟩ := wt (q := 1 + ws[k]) (by omega) (by omega)
          refine w_someR (R := RW) (by first | exact mm0 | exact mm1 | exact mm2 | exact mm3 | exact mm4 | exact mm5 | exact mm6 | exact mm7) (fun h hh => hRW _ h hh) (by omega) (fun bw o e => ?_)
          subst e
          refine w_region ?_
          refine o_val (v_move rfl) rfl ?_
          refine o_val (v_move rfl) rfl ?_
          refine o_val (v_move rfl) rfl ?_
          refine o_val (v_move rfl) rfl ?_
          refine o_val (v_index1 k rfl T.sl22 rfl rfl hk2) rfl ?_
          refine o_val (v_loadR k T.s5 rfl (R := RW) (by first | exact mm0 | exact mm1 | exact mm2 | exact mm3 | exact mm4 | exact mm5 | exact mm6 | exact mm7) (fun h hh => hRW _ h hh) rfl (ints_get hk2)) rfl ?_
          refine o_val (v_conv T.u5 Try.underlying3 rfl (wrapI (by omega) (by omega))) rfl ?_
          refine o_val (v_add rfl rfl (wrapI (by omega) (by omega))) rfl ?_
          refine o_val (v_index1 k rfl T.sl27 rfl rfl hk2) rfl ?_
          refine o_eff (v_storeS (vs' := ints .i64 ((qs ws).take (k + 1) ++ List.replicate (ws.length - (k + 1)) 0)) k T.s3 rfl rfl rfl (by first | exact pp0 | exact pp1 | exact pp2 | exact pp3 | exact pp4 | exact pp5 | exact pp6 | exact pp7) (by omega) (by rw [ints_len]; simp [qs_len]; omega) (fill_q hk2)) ?_
          refine o_nil ?_
          refine thn_n ?_
          refine w_seq ?_
          refine w_region ?_
          refine o_val (v_move rfl) rfl ?_
          refine o_val (v_move rfl) rfl ?_
          refine o_val (v_move rfl) rfl ?_
          refine o_val (v_index1 k rfl T.sl27 rfl rfl hk2) rfl ?_
          refine o_val (v_loadS k T.s3 rfl (by first | exact mm0 | exact mm1 | exact mm2 | exact mm3 | exact mm4 | exact mm5 | exact mm6 | exact mm7) (by omega) (row_q hk2)) rfl ?_
          refine o_val (v_add rfl rfl (wrapI (by omega) (by omega))) rfl ?_
          refine o_val (v_assign rfl) rfl ?_
          refine o_nil ?_
          refine thn_n ?_
          refine w_seq ?_
          refine w_region ?_
          refine o_val (v_move rfl) rfl ?_
          refine o_val (v_move rfl) rfl ?_
          refine o_val (v_index1 k rfl T.sl26 rfl rfl hk2) rfl ?_
          refine o_eff (v_storeS (vs' := bools (List.replicate (k + 1) true ++ List.replicate (ws.length - (k + 1)) false)) k T.s4 rfl rfl rfl (by first | exact pp0 | exact pp1 | exact pp2 | exact pp3 | exact pp4 | exact pp5 | exact pp6 | exact pp7) (by omega) (by rw [bools_len]; simp; omega) (fill_b hk2)) ?_
          refine o_nil ?_
          refine thn_n ?_
          refine w_seq ?_
          refine w_region ?_
          refine o_val (v_move rfl) rfl ?_
          refine o_val (v_move rfl) rfl ?_
          refine o_val (v_move rfl) rfl ?_
          refine o_val (v_move rfl) rfl ?_
          refine o_val (v_index1 k rfl T.sl27 rfl rfl hk2) rfl ?_
          refine o_val (v_loadS k T.s3 rfl (by first | exact mm0 | exact mm1 | exact mm2 | exact mm3 | exact mm4 | exact mm5 | exact mm6 | exact mm7) (by omega) (row_q hk2)) rfl ?_
          refine o_val (v_itof Try.underlying3 Try.underlying30 rfl rfl) rfl ?_
          refine o_val (v_fdiv rfl rfl hx) rfl ?_
          refine o_call (join_ok bf k x (base ((qs ws).take k)) (by rw [base_len, List.length_take]; omega) (1 + ws[k]) hf (by omega) (by omega) (base_out (by omega))) T.b11  rfl (.cons (by first | exact rr0 | exact rr1 | exact rr2 | exact rr3 | exact rr4 | exact rr5 | exact rr6 | exact rr7) .nil) rfl ?_
          rintro _ _ ⟨rfl, rfl⟩
          refine o_val (v_F (v_neq rfl rfl) (by decide)) rfl ?_
          refine o_nil ?_
          refine thn_n ?_
          refine w_condF rfl ?_
          refine w_skip ?_
          refine blk_n ?_
          refine thn_n ?_
          refine w_region ?_
          refine o_val (v_move rfl) rfl ?_
          refine o_val (v_add rfl rfl (wrapI (by omega) (by omega))) rfl ?_
          refine o_val (v_assign rfl) rfl ?_
          refine o_nil ?_
          rw [sum_take hk2, base_take hk2]
          refine j1 (k + 1) ⟨by omega, by omega⟩ (.cons rfl (.cons rfl (.cons rfl (.cons rfl (.cons rfl (.cons rfl (.cons rfl (.cons rfl (.cons rfl (.nil _)))))))))) (sub (.cons (by first | exact rr0 | exact rr1 | exact rr2 | exact rr3 | exact rr4 | exact rr5 | exact rr6 | exact rr7) (.cons (by first | exact rr0 | exact rr1 | exact rr2 | exact rr3 | exact rr4 | exact rr5 | exact rr6 | exact rr7) (.cons (by first | exact rr0 | exact rr1 | exact rr2 | exact rr3 | exact rr4 | exact rr5 | exact rr6 | exact rr7) (.cons (by first | exact rr0 | exact rr1 | exact rr2 | exact rr3 | exact rr4 | exact rr5 | exact rr6 | exact rr7) (.cons (by first | exact rr0 | exact rr1 | exact rr2 | exact rr3 | exact rr4 | exact rr5 | exact rr6 | exact rr7) .nil))))) (by first | exact dd0 | exact dd1 | exact dd2 | exact dd3 | exact dd4 | exact dd5 | exact dd6 | exact dd7 | exact dd8))
        ·
          refine w_exit ?_
          refine thn_e ?_
          refine thn_e ?_
          refine blk_x ?_
          refine thn_n ?_
          refine w_seq ?_
          have hkn : k = ws.length := by omega
          subst hkn
          have hsb := sum_bound hw ws.length (Nat.le_refl _)
          rw [Nat.sub_self, show (qs ws).take ws.length = qs ws from List.take_of_length_le (by rw [qs_len]; omega)] at *
          simp only [List.replicate_zero, List.append_nil]
          refine w_region ?_
          refine o_val (v_move rfl) rfl ?_
          refine o_make _ _ rfl rfl T.sl27 T.z3 rfl rfl rfl (by omega) (by omega) (by omega) rfl ?_
          intro b78
          rw [show (List.replicate ws.length [Value.int .i64 0]).flatten = ints .i64 (spD (qs ws) 0 0 (FairP.part (qs ws) 0 0)) from by rw [ints_zero, ← spD_start (by rw [qs_len]; omega), qs_len]]
          rw [← cycD_start (by rw [qs_len]; omega)]
          refine o_val (v_assign rfl) rfl ?_
          refine o_nil ?_
          refine thn_n ?_
          refine w_seq ?_
          refine w_region ?_
          refine o_val (v_move rfl) rfl ?_
          refine o_val (v_conv T.u5 Try.underlying3 rfl (wrapI (by omega) (by omega))) rfl ?_
          refine o_val (v_rem rfl rfl (by omega) (remI (by omega))) rfl ?_
          refine o_val (v_add rfl rfl (wrapI (by omega) (by omega))) rfl ?_
          refine o_val (v_assign rfl) rfl ?_
          refine o_nil ?_
          refine thn_n ?_
          refine w_seq ?_
          obtain ⟨K, hKe⟩ : ∃ K, K = 1 + n % 5 := ⟨_, rfl⟩
          rw [← hKe]
          have hK : 1 ≤ K ∧ K ≤ 5 := by omega
          have hqp : ∀ x ∈ qs ws, 1 ≤ x := fun x hx => (qs_pos hw x hx).1
          have hP0 := Int.mul_nonneg hsb.1 (show 0 ≤ K by omega)
          have hP1 : (qs ws).sum * K ≤ 2048 * 5 := Int.mul_le_mul (by omega) (by omega) (by omega) (by omega)
          have hPc := Int.mul_comm (qs ws).sum K
          refine w_region ?_
          refine o_val (v_move rfl) rfl ?_
          refine o_val (v_move rfl) rfl ?_
          refine o_val (v_mul rfl rfl (wrapI (by omega) (by omega))) rfl ?_
          refine o_val (v_assign rfl) rfl ?_
          refine o_nil ?_
          refine thn_n ?_
          refine w_seq ?_
          refine w_seq ?_
          refine w_region ?_
          refine o_val (v_assign rfl) rfl ?_
          refine o_nil ?_
          refine thn_n ?_
          refine w_block ?_
          rw [hPc]
          rw [show K * (qs ws).sum = K * (qs ws).sum - tot (qs ws) 0 0 0 from by rw [tot_start]; omega]
          refine w_loop4 (fun (t : Int) (r : Nat) (c : Int) (i : Nat) => [(1, .slice ps sl.length cs), (7, .int .i64 (ws.length : Int)), (8, .pointer (some ⟨bf, 0, none⟩)), (9, .slice (some ⟨b41, 0, none⟩) ws.length ws.length), (10, .slice (some ⟨b43, 0, none⟩) ws.length ws.length), (13, .slice (some ⟨b78, 0, none⟩) ws.length ws.length), (14, .int .i64 K), (15, .int .i64 (K * (qs ws).sum - tot (qs ws) t r c)), (16, .int .i64 (i : Int))]) (fun (t : Int) (r : Nat) (c : Int) (i : Nat) => IsFair bf (cycD (qs ws) r c) :: Sl (some ⟨b41, 0, none⟩) ws.length ws.length 4 1 (bools (List.replicate ws.length true)) :: Sl (some ⟨b43, 0, none⟩) ws.length ws.length 3 1 (ints .i64 (qs ws)) :: Sl (some ⟨b78, 0, none⟩) ws.length ws.length 3 1 (ints .i64 (spD (qs ws) t r (FairP.part (qs ws) r c))) :: RW :: RS :: F) (fun (t : Int) (r : Nat) (c : Int) (i : Nat) => Ks (qs ws) K t r c ∧ (i : Int) ≤ tot (qs ws) t r c) (fun (t : Int) (r : Nat) (c : Int) (i : Nat) => (K * (qs ws).sum - tot (qs ws) t r c).toNat) (i4 (0) (0) (0) (0) ?_ (.cons rfl (.cons rfl (.cons rfl (.cons rfl (.cons rfl (.cons rfl (.cons rfl (.cons rfl (.cons rfl (.nil _)))))))))) (sub (.cons (by first | exact rr0 | exact rr1 | exact rr2 | exact rr3 | exact rr4 | exact rr5 | exact rr6 | exact rr7) (.cons (by first | exact rr0 | exact rr1 | exact rr2 | exact rr3 | exact rr4 | exact rr5 | exact rr6 | exact rr7) (.cons (by first | exact rr0 | exact rr1 | exact rr2 | exact rr3 | exact rr4 | exact rr5 | exact rr6 | exact rr7) (.cons (by first | exact rr0 | exact rr1 | exact rr2 | exact rr3 | exact rr4 | exact rr5 | exact rr6 | exact rr7) (.cons (by first | exact rr0 | exact rr1 | exact rr2 | exact rr3 | exact rr4 | exact rr5 | exact rr6 | exact rr7) (.cons (by first | exact rr0 | exact rr1 | exact rr2 | exact rr3 | exact rr4 | exact rr5 | exact rr6 | exact rr7) .nil)))))) (by first | exact dd0 | exact dd1 | exact dd2 | exact dd3 | exact dd4 | exact dd5 | exact dd6 | exact dd7 | exact dd8))) ?_
          ·
            exact ⟨Ks.start hqp (by rw [qs_len]; omega) (by omega), by rw [tot_start]; omega⟩
          intro t r c i
          rintro ⟨hks, hi⟩
          have hle := hks.le
          refine w_seq ?_
          refine w_seq ?_
          refine w_region ?_
          refine o_val (v_move rfl) rfl ?_
          refine o_val (v_gtr rfl rfl) rfl ?_
          refine o_val (v_move rfl) rfl ?_
          first | refine o_boolD 88 rfl (fun h88 => ?_) (fun h88 => ?_) | refine o_bool 88 rfl (fun h88 => ?_) (fun h88 => ?_)
          ·
            refine o_want rfl ?_
            refine o_val (v_move rfl) rfl ?_
            refine o_want rfl ?_
            refine o_val (v_lss rfl rfl) rfl ?_
            refine o_val (v_pickT rfl rfl) rfl ?_
            refine o_nil ?_
            refine thn_n ?_
            first | refine w_condD rfl (fun h91 => ?_) (fun h91 => ?_) | refine w_cond rfl (fun h91 => ?_) (fun h91 => ?_)
            ·
              refine w_skip ?_
              refine thn_n ?_
              refine w_seq ?_
              refine w_block ?_
              refine w_seq ?_
              have hr := hks.hr
              rw [qs_len] at hr
              have hgq := qs_pos hw _ (List.getElem_mem hks.hr)
              have hge : (qs ws).getD r 0 = (qs ws)[r]'hks.hr := by simp [hks.hr]
              rw [← hge] at hgq
              have hc1 := hks.c1
              have hc0 := hks.c0
              have hcr : 1 ≤ (if c = 0 then (qs ws).getD r 0 else c) ∧ (if c = 0 then (qs ws).getD r 0 else c) ≤ 256 ∧ (if c = 0 then (qs ws).getD r 0 else c) ≤ (qs ws).getD r 0 := by split <;> omega
              have htk := Ks.t_le hqp hks
              have ht0 := hks.ht
              have hpl := Ks.part_le hks
              have hTq0 := Int.mul_nonneg ht0 (show 0 ≤ (qs ws).getD r 0 by omega)
              have hTq1 : t * (qs ws).getD r 0 ≤ 5 * 256 := Int.mul_le_mul (by omega) (by omega) (by omega) (by omega)
              refine w_region ?_
              refine o_val (v_move rfl) rfl ?_
              refine o_val (v_move rfl) rfl ?_
              refine o_call (next_cyc bf (qs ws) r c ws.length ws.length (some ⟨b41, 0, none⟩) (Sl (some ⟨b41, 0, none⟩) ws.length ws.length 4 1 (bools (List.replicate ws.length true))) (fun _ _ h => by rw [List.length_replicate]; exact Sl.rd h) hks.hr (qs_len ws) (by omega)) T.b12  rfl (.cons (by first | exact rr0 | exact rr1 | exact rr2 | exact rr3 | exact rr4 | exact rr5 | exact rr6 | exact rr7) (.cons (by first | exact rr0 | exact rr1 | exact rr2 | exact rr3 | exact rr4 | exact rr5 | exact rr6 | exact rr7) .nil)) rfl ?_
              rintro _ _ ⟨rfl, rfl⟩
              refine o_val (v_move rfl) rfl ?_
              refine o_val (v_extract rfl rfl) rfl ?_
              refine o_val (v_extract rfl rfl) rfl ?_
              refine o_val (v_extract rfl rfl) rfl ?_
              refine o_val (v_assign rfl) rfl ?_
              refine o_val (v_assign rfl) rfl ?_
              refine o_val (v_assign rfl) rfl ?_
              refine o_nil ?_
              refine thn_n ?_
              refine w_seq ?_
              refine w_seq ?_
              refine w_region ?_
              refine o_val (v_move rfl) rfl ?_
              refine o_val (v_to (v := .bool false) (v_not rfl) rfl) rfl ?_
              refine o_val (v_move rfl) rfl ?_
              refine o_want rfl ?_
              refine o_val (v_move rfl) rfl ?_
              refine o_want rfl ?_
              refine o_val (v_F (v_lss rfl rfl) (by omega)) rfl ?_
              refine o_val (v_pickF rfl rfl) rfl ?_
              refine o_val (v_move rfl) rfl ?_
              refine o_want rfl ?_
              refine o_val (v_move rfl) rfl ?_
              refine o_want rfl ?_
              refine o_val (v_move rfl) rfl ?_
              refine o_want rfl ?_
              refine o_val (v_F (v_geq rfl rfl) (by omega)) rfl ?_
              refine o_val (v_pickF rfl rfl) rfl ?_
              refine o_val (v_move rfl) rfl ?_
              refine o_want rfl ?_
              refine o_val (v_move rfl) rfl ?_
              refine o_want rfl ?_
              refine o_val (v_F (v_lss rfl rfl) (by omega)) rfl ?_
              refine o_val (v_pickF rfl rfl) rfl ?_
              refine o_nil ?_
              refine thn_n ?_
              refine w_condF rfl ?_
              refine w_skip ?_
              refine thn_n ?_
              refine w_seq ?_
              refine w_region ?_
              refine o_val (v_move rfl) rfl ?_
              refine o_val (v_assign rfl) rfl ?_
              refine o_nil ?_
              refine thn_n ?_
              refine w_join1 (fun (u : Int) => [(1, .slice ps sl.length cs), (7, .int .i64 (ws.length : Int)), (8, .pointer (some ⟨bf, 0, none⟩)), (9, .slice (some ⟨b41, 0, none⟩) ws.length ws.length), (10, .slice (some ⟨b43, 0, none⟩) ws.length ws.length), (13, .slice (some ⟨b78, 0, none⟩) ws.length ws.length), (14, .int .i64 K), (15, .int .i64 (K * (qs ws).sum - tot (qs ws) t r c)), (16, .int .i64 (i : Int)), (17, .int .i64 (r : Int)), (20, .int .i64 u)]) (fun (u : Int) => IsFair bf (⟨r, (qs ws).getD r 0, if c = 0 then (qs ws).getD r 0 else c⟩ :: ((base (qs ws)).drop (r + 1) ++ (base (qs ws)).take r)) :: Sl (some ⟨b41, 0, none⟩) ws.length ws.length 4 1 (bools (List.replicate ws.length true)) :: Sl (some ⟨b43, 0, none⟩) ws.length ws.length 3 1 (ints .i64 (qs ws)) :: Sl (some ⟨b78, 0, none⟩) ws.length ws.length 3 1 (ints .i64 (spD (qs ws) t r (FairP.part (qs ws) r c))) :: RW :: RS :: F) (fun (u : Int) => 1 ≤ u ∧ u ≤ (if c = 0 then (qs ws).getD r 0 else c)) ?_ ?_
              ·
                refine w_seq ?_
                refine w_region ?_
                refine o_val (v_move rfl) rfl ?_
                refine o_val (v_len (ty' := 0) Try.underlying22 rfl) rfl ?_
                refine o_val (v_gtr rfl rfl) rfl ?_
                refine o_nil ?_
                refine thn_n ?_
                first | refine w_condD rfl (fun h119 => ?_) (fun h119 => ?_) | refine w_cond rfl (fun h119 => ?_) (fun h119 => ?_)
                ·
                  have hmod : i % sl.length < sl.length := Nat.mod_lt _ (by omega)
                  have hsx := hs sl[i % sl.length] (List.getElem_mem _)
                  refine w_someR (R := RS) (by first | exact mm0 | exact mm1 | exact mm2 | exact mm3 | exact mm4 | exact mm5 | exact mm6 | exact mm7) (fun h hh => hRS _ h hh) (by omega) (fun bs o e => ?_)
                  subst e
                  refine w_region ?_
                  refine o_val (v_move rfl) rfl ?_
                  refine o_val (v_move rfl) rfl ?_
                  refine o_val (v_move rfl) rfl ?_
                  refine o_val (v_move rfl) rfl ?_
                  refine o_val (v_len (ty' := 0) Try.underlying22 rfl) rfl ?_
                  refine o_val (v_rem rfl rfl (by omega) (remI (by omega))) rfl ?_
                  refine o_val (v_index1 (i % sl.length) rfl T.sl22 rfl rfl hmod) rfl ?_
                  refine o_val (v_loadR (i % sl.length) T.s5 rfl (R := RS) (by first | exact mm0 | exact mm1 | exact mm2 | exact mm3 | exact mm4 | exact mm5 | exact mm6 | exact mm7) (fun h hh => hRS _ h hh) rfl (ints_get hmod)) rfl ?_
                  refine o_val (v_conv T.u5 Try.underlying3 rfl (wrapI (by omega) (by omega))) rfl ?_
                  refine o_val (v_add rfl rfl (wrapI (by omega) (by omega))) rfl ?_
                  refine o_val (v_min rfl rfl) rfl ?_
                  refine o_val (v_assign rfl) rfl ?_
                  refine o_nil ?_
                  refine j1 _ ?_ (.cons rfl (.cons rfl (.cons rfl (.cons rfl (.cons rfl (.cons rfl (.cons rfl (.cons rfl (.cons rfl (.cons rfl (.cons rfl (.nil _)))))))))))) (sub (.cons (by first | exact rr0 | exact rr1 | exact rr2 | exact rr3 | exact rr4 | exact rr5 | exact rr6 | exact rr7) (.cons (by first | exact rr0 | exact rr1 | exact rr2 | exact rr3 | exact rr4 | exact rr5 | exact rr6 | exact rr7) (.cons (by first | exact rr0 | exact rr1 | exact rr2 | exact rr3 | exact rr4 | exact rr5 | exact rr6 | exact rr7) (.cons (by first | exact rr0 | exact rr1 | exact rr2 | exact rr3 | exact rr4 | exact rr5 | exact rr6 | exact rr7) (.cons (by first | exact rr0 | exact rr1 | exact rr2 | exact rr3 | exact rr4 | exact rr5 | exact rr6 | exact rr7) (.cons (by first | exact rr0 | exact rr1 | exact rr2 | exact rr3 | exact rr4 | exact rr5 | exact rr6 | exact rr7) .nil)))))) (by first | exact dd0 | exact dd1 | exact dd2 | exact dd3 | exact dd4 | exact dd5 | exact dd6 | exact dd7 | exact dd8))
                  first | exact ⟨by omega, by omega⟩ | (constructor <;> (split <;> omega))
                ·
                  refine w_skip ?_
                  refine j1 _ ?_ (.cons rfl (.cons rfl (.cons rfl (.cons rfl (.cons rfl (.cons rfl (.cons rfl (.cons rfl (.cons rfl (.cons rfl (.cons rfl (.nil _)))))))))))) (sub (.cons (by first | exact rr0 | exact rr1 | exact rr2 | exact rr3 | exact rr4 | exact rr5 | exact rr6 | exact rr7) (.cons (by first | exact rr0 | exact rr1 | exact rr2 | exact rr3 | exact rr4 | exact rr5 | exact rr6 | exact rr7) (.cons (by first | exact rr0 | exact rr1 | exact rr2 | exact rr3 | exact rr4 | exact rr5 | exact rr6 | exact rr7) (.cons (by first | exact rr0 | exact rr1 | exact rr2 | exact rr3 | exact rr4 | exact rr5 | exact rr6 | exact rr7) (.cons (by first | exact rr0 | exact rr1 | exact rr2 | exact rr3 | exact rr4 | exact rr5 | exact rr6 | exact rr7) (.cons (by first | exact rr0 | exact rr1 | exact rr2 | exact rr3 | exact rr4 | exact rr5 | exact rr6 | exact rr7) .nil)))))) (by first | exact dd0 | exact dd1 | exact dd2 | exact dd3 | exact dd4 | exact dd5 | exact dd6 | exact dd7 | exact dd8))
                  first | exact ⟨by omega, by omega⟩ | (constructor <;> (split <;> omega))
              ·
                intro u
                rintro hu
                refine w_seq ?_
                refine w_seq ?_
                refine w_region ?_
                refine o_val (v_move rfl) rfl ?_
                refine o_val (v_move rfl) rfl ?_
                refine o_val (v_move rfl) rfl ?_
                refine o_call (spend_ok bf r u ⟨r, (qs ws).getD r 0, (if c = 0 then (qs ws).getD r 0 else c)⟩ ((base (qs ws)).drop (r + 1) ++ (base (qs ws)).take r) (by simp [base_len, qs_len]; omega) rfl hu.1 hu.2 (by show (if c = 0 then (qs ws).getD r 0 else c) ≤ 100000; have := hks.c1; split <;> omega)) T.b13  rfl (.cons (by first | exact rr0 | exact rr1 | exact rr2 | exact rr3 | exact rr4 | exact rr5 | exact rr6 | exact rr7) .nil) rfl ?_
                rintro _ _ ⟨rfl, rfl⟩
                refine o_val (v_to (v := .bool false) (v_not rfl) rfl) rfl ?_
                refine o_nil ?_
                refine thn_n ?_
                refine w_condF rfl ?_
                refine w_skip ?_
                refine thn_n ?_
                refine w_seq ?_
                refine w_region ?_
                refine o_val (v_move rfl) rfl ?_
                refine o_val (v_move rfl) rfl ?_
                refine o_val (v_move rfl) rfl ?_
                refine o_val (v_move rfl) rfl ?_
                refine o_val (v_index1 r rfl T.sl27 rfl rfl hr) rfl ?_
                refine o_val (v_loadS r T.s3 rfl (by first | exact mm0 | exact mm1 | exact mm2 | exact mm3 | exact mm4 | exact mm5 | exact mm6 | exact mm7) (by omega) (spD_get hks.hr)) rfl ?_
                refine o_val (v_move rfl) rfl ?_
                refine o_val (v_add rfl rfl (wrapI (by omega) (by omega))) rfl ?_
                refine o_val (v_index1 r rfl T.sl27 rfl rfl hr) rfl ?_
                refine o_eff (v_storeS (vs' := ints .i64 (spD (qs ws) t r (FairP.part (qs ws) r c + u))) r T.s3 rfl rfl rfl (by first | exact pp0 | exact pp1 | exact pp2 | exact pp3 | exact pp4 | exact pp5 | exact pp6 | exact pp7) (by omega) (by rw [ints_len, spD_len hks.hr, qs_len]; omega) (spD_set hks.hr)) ?_
                refine o_nil ?_
                refine thn_n ?_
                refine w_region ?_
                refine o_val (v_move rfl) rfl ?_
                refine o_val (v_move rfl) rfl ?_
                refine o_val (v_sub rfl rfl (wrapI (by omega) (by omega))) rfl ?_
                refine o_val (v_assign rfl) rfl ?_
                refine o_nil ?_
                refine blk_n ?_
                refine thn_n ?_
                refine w_region ?_
                refine o_val (v_move rfl) rfl ?_
                refine o_val (v_add rfl rfl (wrapI (by omega) (by omega))) rfl ?_
                refine o_val (v_assign rfl) rfl ?_
                refine o_nil ?_
                obtain ⟨t2, r2, c2, hk2, e1, e2, e3⟩ := turn_step hqp hks (by omega) hu.1 hu.2
                rw [e1, e2, show K * (qs ws).sum - tot (qs ws) t r c - u = K * (qs ws).sum - tot (qs ws) t2 r2 c2 from by omega]
                have hle2 := hk2.le
                refine j4 t2 r2 c2 (i + 1) ⟨⟨hk2, by omega⟩, by omega⟩ (.cons rfl (.cons rfl (.cons rfl (.cons rfl (.cons rfl (.cons rfl (.cons rfl (.cons rfl (.cons rfl (.nil _)))))))))) (sub (.cons (by first | exact rr0 | exact rr1 | exact rr2 | exact rr3 | exact rr4 | exact rr5 | exact rr6 | exact rr7) (.cons (by first | exact rr0 | exact rr1 | exact rr2 | exact rr3 | exact rr4 | exact rr5 | exact rr6 | exact rr7) (.cons (by first | exact rr0 | exact rr1 | exact rr2 | exact rr3 | exact rr4 | exact rr5 | exact rr6 | exact rr7) (.cons (by first | exact rr0 | exact rr1 | exact rr2 | exact rr3 | exact rr4 | exact rr5 | exact rr6 | exact rr7) (.cons (by first | exact rr0 | exact rr1 | exact rr2 | exact rr3 | exact rr4 | exact rr5 | exact rr6 | exact rr7) (.cons (by first | exact rr0 | exact rr1 | exact rr2 | exact rr3 | exact rr4 | exact rr5 | exact rr6 | exact rr7) .nil)))))) (by first | exact dd0 | exact dd1 | exact dd2 | exact dd3 | exact dd4 | exact dd5 | exact dd6 | exact dd7 | exact dd8))
            ·
              exact absurd h91 (by omega)
          ·
            refine o_pass rfl rfl rfl ?_
            refine o_pass rfl rfl rfl ?_
            refine o_val (v_pickF rfl rfl) rfl ?_
            refine o_nil ?_
            refine thn_n ?_
            refine w_condF rfl ?_
            refine w_exit ?_
            refine thn_e ?_
            refine thn_e ?_
            refine blk_x ?_
            refine thn_n ?_
            refine w_seq ?_
            refine w_seq ?_
            have he : tot (qs ws) t r c = K * (qs ws).sum := by have := hks.le; omega
            rw [turn_end hqp hks he]
            refine w_region ?_
            refine o_val (v_assign rfl) rfl ?_
            refine o_nil ?_
            refine thn_n ?_
            refine w_block ?_
            refine w_loop1 (fun (j : Nat) => [(7, .int .i64 (ws.length : Int)), (10, .slice (some ⟨b43, 0, none⟩) ws.length ws.length), (13, .slice (some ⟨b78, 0, none⟩) ws.length ws.length), (14, .int .i64 K), (15, .int .i64 (K * (qs ws).sum - tot (qs ws) t r c)), (21, .int .i64 (j : Int))]) (fun (j : Nat) => Sl (some ⟨b43, 0, none⟩) ws.length ws.length 3 1 (ints .i64 (qs ws)) :: Sl (some ⟨b78, 0, none⟩) ws.length ws.length 3 1 (ints .i64 ((qs ws).map (fun x => K * x))) :: RW :: RS :: F) (fun (j : Nat) => j ≤ ws.length) (fun (j : Nat) => ws.length - j) (i1 (0) ?_ (.cons rfl (.cons rfl (.cons rfl (.cons rfl (.cons rfl (.cons rfl (.nil _))))))) (sub (.cons (by first | exact rr0 | exact rr1 | exact rr2 | exact rr3 | exact rr4 | exact rr5 | exact rr6 | exact rr7) (.cons (by first | exact rr0 | exact rr1 | exact rr2 | exact rr3 | exact rr4 | exact rr5 | exact rr6 | exact rr7) (.cons (by first | exact rr0 | exact rr1 | exact rr2 | exact rr3 | exact rr4 | exact rr5 | exact rr6 | exact rr7) (.cons (by first | exact rr0 | exact rr1 | exact rr2 | exact rr3 | exact rr4 | exact rr5 | exact rr6 | exact rr7) .nil)))) (by first | exact dd0 | exact dd1 | exact dd2 | exact dd3 | exact dd4 | exact dd5 | exact dd6 | exact dd7 | exact dd8))) ?_
            ·
              exact (by omega)
            intro j
            rintro hj
            refine w_seq ?_
            refine w_seq ?_
            refine w_region ?_
            refine o_val (v_move rfl) rfl ?_
            refine o_val (v_move rfl) rfl ?_
            refine o_val (v_lss rfl rfl) rfl ?_
            refine o_nil ?_
            refine thn_n ?_
            first | refine w_condD rfl (fun h150 => ?_) (fun h150 => ?_) | refine w_cond rfl (fun h150 => ?_) (fun h150 => ?_)
            ·
              refine w_skip ?_
              refine thn_n ?_
              refine w_seq ?_
              refine w_block ?_
              refine w_seq ?_
              have hj2 : j < ws.length := by omega
              have hwj := hw ws[j] (List.getElem_mem _)
              have hM0 := Int.mul_nonneg (show 0 ≤ K by omega) (show 0 ≤ 1 + ws[j] by omega)
              have hM1 : K * (1 + ws[j]) ≤ 5 * 256 := Int.mul_le_mul (by omega) (by omega) (by omega) (by omega)
              refine w_chain (Ls := [_]) [⟨[], [], [13], 0, 0⟩, ⟨[], [], [21], 0, 0⟩, ⟨[0, 1], [0, 1], [], 0, 0⟩, ⟨[0, 1, 2], [2], [], 0, 0⟩, ⟨[], [], [14], 0, 0⟩, ⟨[], [], [10], 0, 0⟩, ⟨[], [], [21], 0, 0⟩, ⟨[5, 6], [5, 6], [], 0, 0⟩, ⟨[5, 6, 7], [7], [], 0, 0⟩, ⟨[4, 5, 6, 7, 8], [4, 8], [], 0, 0⟩, ⟨[0, 1, 2, 3, 4, 5, 6, 7, 8, 9], [3, 9], [], 0, 0⟩] [] T.mixed (by kernel_rfl) rfl rfl rfl rfl ?_
              refine owed_pure [(13, _)] rfl rfl (fun _ => st_v (v_move rfl) ⟨rfl, rfl⟩) ?_
              refine owed_pure [(21, _)] rfl rfl (fun _ => st_v (v_move rfl) ⟨rfl, rfl⟩) ?_
              refine owed_pure [(153, _), (154, _)] rfl rfl (fun _ => st_v (v_index1 j rfl T.sl27 rfl rfl hj2) ⟨rfl, rfl⟩) ?_
              refine owed_read1 [(155, _)] rfl rfl rfl (st_v (v_loadS j T.s3 rfl (by first | exact mm0 | exact mm1 | exact mm2 | exact mm3 | exact mm4 | exact mm5 | exact mm6 | exact mm7) (by omega) (end_row hj2)) ⟨rfl, rfl⟩) ?_
              refine owed_pure [(14, _)] rfl rfl (fun _ => st_v (v_move rfl) ⟨rfl, rfl⟩) ?_
              refine owed_pure [(10, _)] rfl rfl (fun _ => st_v (v_move rfl) ⟨rfl, rfl⟩) ?_
              refine owed_pure [(21, _)] rfl rfl (fun _ => st_v (v_move rfl) ⟨rfl, rfl⟩) ?_
              refine owed_pure [(158, _), (159, _)] rfl rfl (fun _ => st_v (v_index1 j rfl T.sl27 rfl rfl hj2) ⟨rfl, rfl⟩) ?_
              refine owed_read1 [(160, _)] rfl rfl rfl (st_v (v_loadS j T.s3 rfl (by first | exact mm0 | exact mm1 | exact mm2 | exact mm3 | exact mm4 | exact mm5 | exact mm6 | exact mm7) (by omega) (qs_row hj2)) ⟨rfl, rfl⟩) ?_
              refine owed_pure [(157, _), (161, _)] rfl rfl (fun _ => st_v (v_mul rfl rfl (wrapI (by omega) (by omega))) ⟨rfl, rfl⟩) ?_
              refine owed_pure [(156, _), (162, _)] rfl rfl (fun _ => st_v (v_F (v_neq rfl rfl) (fun h => h rfl)) ⟨rfl, rfl⟩) ?_
              refine owed_nil ?_
              refine thn_n ?_
              refine w_keep _ (.cons (d := 7) rfl (.cons (d := 10) rfl (.cons (d := 13) rfl (.cons (d := 14) rfl (.cons (d := 15) rfl (.cons (d := 21) rfl (.cons (d := 163) rfl (.nil _)))))))) ?_
              refine w_condF rfl ?_
              refine w_skip ?_
              refine blk_n ?_
              refine thn_n ?_
              refine w_region ?_
              refine o_val (v_move rfl) rfl ?_
              refine o_val (v_add rfl rfl (wrapI (by omega) (by omega))) rfl ?_
              refine o_val (v_assign rfl) rfl ?_
              refine o_nil ?_
              refine j1 (j + 1) ⟨by omega, by omega⟩ (.cons rfl (.cons rfl (.cons rfl (.cons rfl (.cons rfl (.cons rfl (.nil _))))))) (sub (.cons (by first | exact rr0 | exact rr1 | exact rr2 | exact rr3 | exact rr4 | exact rr5 | exact rr6 | exact rr7) (.cons (by first | exact rr0 | exact rr1 | exact rr2 | exact rr3 | exact rr4 | exact rr5 | exact rr6 | exact rr7) (.cons (by first | exact rr0 | exact rr1 | exact rr2 | exact rr3 | exact rr4 | exact rr5 | exact rr6 | exact rr7) (.cons (by first | exact rr0 | exact rr1 | exact rr2 | exact rr3 | exact rr4 | exact rr5 | exact rr6 | exact rr7) .nil)))) (by first | exact dd0 | exact dd1 | exact dd2 | exact dd3 | exact dd4 | exact dd5 | exact dd6 | exact dd7 | exact dd8))
            ·
              refine w_exit ?_
              refine thn_e ?_
              refine thn_e ?_
              refine blk_x ?_
              refine thn_n ?_
              refine w_seq ?_
              refine w_region ?_
              refine o_val (v_move rfl) rfl ?_
              refine o_val (v_T (v_eql rfl rfl) (by omega)) rfl ?_
              refine o_val (v_assign rfl) rfl ?_
              refine o_nil ?_
              refine thn_n ?_
              refine w_ret ?_
              exact ret_ok (G := [_, _]) (res1 rfl) ⟨rfl, rfl⟩ (sub (.cons (by first | exact rr0 | exact rr1 | exact rr2 | exact rr3 | exact rr4 | exact rr5 | exact rr6 | exact rr7) (.cons (by first | exact rr0 | exact rr1 | exact rr2 | exact rr3 | exact rr4 | exact rr5 | exact rr6 | exact rr7) .nil)) (by first | exact dd0 | exact dd1 | exact dd2 | exact dd3 | exact dd4 | exact dd5 | exact dd6 | exact dd7 | exact dd8))

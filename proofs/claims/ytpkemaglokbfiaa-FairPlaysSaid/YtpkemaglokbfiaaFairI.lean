/-
  Steps of the proof: walks of functions that the statement reaches; printed by a program of ours.
-/
import Derived.Test.YtpkemaglokbfiaaFairH
import Derived.Test.YtpkemaglokbfiaaFairPlain6
import Derived.Test.YtpkemaglokbfiaaSl13
import Derived.Test.YtpkemaglokbfiaaFairFacts
namespace Go.Proofs.Ytpkemaglokbfiaa
open Go.Sl Go.FairP
set_option linter.unusedVariables false
set_option linter.unusedSimpArgs false


theorem next_turn (b : Nat) (ws : List Int) (l : List Mb) (s : Nat) (hT : Tn ws l s) (h8 : ws.length ≤ 8) (wl : List Bool) (pw : Option Addr) (cw : Nat) (hl : wl.length = ws.length) (h0 : wl.getD 0 false = true) :
    Ctr Try.prog 12 [.pointer (some ⟨b, 0, none⟩), .slice pw ws.length cw] [IsFair b l, Row (ecB 4) pw ws.length cw wl] (Ret fun v G => ∃ i, ∃ hi : i < l.length, wantB wl l[i] = true ∧ (∀ p (hp : p < l.length), l[p].who = 0 → i ≤ p) ∧ v = .tuple #[.int .i64 l[i].who, .int .i64 (full l[i]).c, .bool true] ∧ G = [IsFair b (full l[i] :: (l.drop (i + 1) ++ (l.take i).map zero)), Row (ecB 4) pw ws.length cw wl]) := by
  obtain ⟨i, hi⟩ := hT.find h0
  have h := next_yes b l wl pw cw (Row (ecB 4) pw ws.length cw wl) (fun _ _ h => Row.rdB h) (by rw [hT.len]; omega) (fun m hm => (hT.mem m hm).1) i hi
  rw [hl] at h
  refine h.mono ?_
  rintro e G ⟨v, rfl, hv, rfl⟩
  obtain ⟨h1, h2, h3⟩ := find_lt hi
  refine ⟨v, rfl, i, h1, h2, fun p hp hz => ?_, hv, by rw [fnext_eq h1]⟩
  rcases Nat.lt_or_ge p i with hlt | hge
  · have := h3 p hlt
    rw [want_zero h0 hz] at this
    cases this
  · exact hge


set_option maxHeartbeats 8000000 in
set_option maxRecDepth 100000 in
theorem turns (ws : List Int) (pw : Option Addr) (cw : Nat) (wants : List (Td.Ty (Td.sl 4 .bool))) (pn : Option Addr) (cn : Nat) (hw : ∀ x ∈ ws, 0 ≤ x ∧ x ≤ 255) : Ctr Try.prog 4 [.slice pw ws.length cw, .slice pn wants.length cn] [RdR (ecI 5 .u8) pw ws.length ws, Deep 26 (Td.sl 4 .bool) pn wants.length wants] (Ret fun v G => v = .bool true ∧ G = [RdR (ecI 5 .u8) pw ws.length ws, Deep 26 (Td.sl 4 .bool) pn wants.length wants]) := by
  refine spec_of [(0, _), (1, _)] Try.func4 rfl Try.ntmps4 rfl rfl ?_
  intro w0 F
  refine w_seq ?_
  refine w_region ?_
  refine o_val (v_assign rfl) rfl ?_
  refine o_nil ?_
  refine thn_n ?_
  refine w_seq ?_
  refine w_seq ?_
  refine w_region ?_
  refine o_call (awake) V.b9  rfl .nil rfl ?_
  rintro _ _ ⟨rfl, rfl⟩
  refine o_val (v_to (v := .bool false) (v_not rfl) rfl) rfl ?_
  refine o_nil ?_
  refine thn_n ?_
  refine w_condF rfl ?_
  refine w_skip ?_
  refine thn_n ?_
  refine w_seq ?_
  refine w_region ?_
  refine o_val (v_move rfl) rfl ?_
  refine o_val (v_len (ty' := 0) Try.underlying22 rfl) rfl ?_
  refine o_val (v_assign rfl) rfl ?_
  refine o_nil ?_
  refine thn_n ?_
  refine w_seq ?_
  refine w_seq ?_
  refine w_region ?_
  refine o_val (v_move rfl) rfl ?_
  refine o_val (v_lss rfl rfl) rfl ?_
  refine o_val (v_move rfl) rfl ?_
  first | refine o_boolD 21 rfl (fun h21 => ?_) (fun h21 => ?_) | refine o_bool 21 rfl (fun h21 => ?_) (fun h21 => ?_)
  ·
    refine o_pass rfl rfl rfl ?_
    refine o_pass rfl rfl rfl ?_
    refine o_val (v_pickT rfl rfl) rfl ?_
    refine o_val (v_move rfl) rfl ?_
    refine o_pass rfl rfl rfl ?_
    refine o_pass rfl rfl rfl ?_
    refine o_pass rfl rfl rfl ?_
    refine o_val (v_pickT rfl rfl) rfl ?_
    refine o_nil ?_
    refine thn_n ?_
    refine w_condT rfl ?_
    refine w_seq ?_
    refine w_region ?_
    refine o_val (v_assign rfl) rfl ?_
    refine o_nil ?_
    refine thn_n ?_
    refine w_ret ?_
    refine (thn_r ?_)
    exact ret_ok (G := [_, _]) (res1 rfl) ⟨rfl, rfl⟩ (sub (.cons (by first | exact rr0 | exact rr1 | exact rr2 | exact rr3 | exact rr4 | exact rr5 | exact rr6 | exact rr7 | exact rr8 | exact rr9 | exact rr10 | exact rr11 | exact rr12 | exact rr13 | exact rr14) (.cons (by first | exact rr0 | exact rr1 | exact rr2 | exact rr3 | exact rr4 | exact rr5 | exact rr6 | exact rr7 | exact rr8 | exact rr9 | exact rr10 | exact rr11 | exact rr12 | exact rr13 | exact rr14) .nil)) (by first | exact dd0 | exact dd1 | exact dd2 | exact dd3 | exact dd4 | exact dd5 | exact dd6 | exact dd7 | exact dd8 | exact dd9 | exact dd10 | exact dd11 | exact dd12 | exact dd13 | exact dd14))
  ·
    refine o_want rfl ?_
    refine o_val (v_move rfl) rfl ?_
    refine o_want rfl ?_
    refine o_val (v_gtr rfl rfl) rfl ?_
    refine o_val (v_pickF rfl rfl) rfl ?_
    refine o_val (v_move rfl) rfl ?_
    first | refine o_boolD 25 rfl (fun h25 => ?_) (fun h25 => ?_) | refine o_bool 25 rfl (fun h25 => ?_) (fun h25 => ?_)
    ·
      refine o_pass rfl rfl rfl ?_
      refine o_pass rfl rfl rfl ?_
      refine o_pass rfl rfl rfl ?_
      refine o_val (v_pickT rfl rfl) rfl ?_
      refine o_nil ?_
      refine thn_n ?_
      refine w_condT rfl ?_
      refine w_seq ?_
      refine w_region ?_
      refine o_val (v_assign rfl) rfl ?_
      refine o_nil ?_
      refine thn_n ?_
      refine w_ret ?_
      refine (thn_r ?_)
      exact ret_ok (G := [_, _]) (res1 rfl) ⟨rfl, rfl⟩ (sub (.cons (by first | exact rr0 | exact rr1 | exact rr2 | exact rr3 | exact rr4 | exact rr5 | exact rr6 | exact rr7 | exact rr8 | exact rr9 | exact rr10 | exact rr11 | exact rr12 | exact rr13 | exact rr14) (.cons (by first | exact rr0 | exact rr1 | exact rr2 | exact rr3 | exact rr4 | exact rr5 | exact rr6 | exact rr7 | exact rr8 | exact rr9 | exact rr10 | exact rr11 | exact rr12 | exact rr13 | exact rr14) .nil)) (by first | exact dd0 | exact dd1 | exact dd2 | exact dd3 | exact dd4 | exact dd5 | exact dd6 | exact dd7 | exact dd8 | exact dd9 | exact dd10 | exact dd11 | exact dd12 | exact dd13 | exact dd14))
    ·
      refine o_want rfl ?_
      refine o_val (v_move rfl) rfl ?_
      refine o_want rfl ?_
      refine o_val (v_len (ty' := 0) Try.underlying35 rfl) rfl ?_
      refine o_want rfl ?_
      refine o_val (v_gtr rfl rfl) rfl ?_
      refine o_val (v_pickF rfl rfl) rfl ?_
      refine o_nil ?_
      refine thn_n ?_
      first | refine w_condD rfl (fun h29 => ?_) (fun h29 => ?_) | refine w_cond rfl (fun h29 => ?_) (fun h29 => ?_)
      ·
        refine w_seq ?_
        refine w_region ?_
        refine o_val (v_assign rfl) rfl ?_
        refine o_nil ?_
        refine thn_n ?_
        refine w_ret ?_
        refine (thn_r ?_)
        exact ret_ok (G := [_, _]) (res1 rfl) ⟨rfl, rfl⟩ (sub (.cons (by first | exact rr0 | exact rr1 | exact rr2 | exact rr3 | exact rr4 | exact rr5 | exact rr6 | exact rr7 | exact rr8 | exact rr9 | exact rr10 | exact rr11 | exact rr12 | exact rr13 | exact rr14) (.cons (by first | exact rr0 | exact rr1 | exact rr2 | exact rr3 | exact rr4 | exact rr5 | exact rr6 | exact rr7 | exact rr8 | exact rr9 | exact rr10 | exact rr11 | exact rr12 | exact rr13 | exact rr14) .nil)) (by first | exact dd0 | exact dd1 | exact dd2 | exact dd3 | exact dd4 | exact dd5 | exact dd6 | exact dd7 | exact dd8 | exact dd9 | exact dd10 | exact dd11 | exact dd12 | exact dd13 | exact dd14))
      ·
        refine w_skip ?_
        refine thn_n ?_
        refine w_seq ?_
        refine w_region ?_
        refine o_call (new) V.b10  rfl .nil rfl ?_
        rintro _ _ ⟨b6, rfl, rfl⟩
        refine o_val (v_assign rfl) rfl ?_
        refine o_nil ?_
        refine thn_n ?_
        refine w_seq ?_
        refine w_seq ?_
        refine w_region ?_
        refine o_val (v_move rfl) rfl ?_
        refine o_val (v_to (v := .bool false) (v_eqnil Try.underlying24 rfl rfl) rfl) rfl ?_
        refine o_nil ?_
        refine thn_n ?_
        refine w_condF rfl ?_
        refine w_skip ?_
        refine thn_n ?_
        refine w_seq ?_
        refine w_seq ?_
        refine w_region ?_
        refine o_val (v_assign rfl) rfl ?_
        refine o_nil ?_
        refine thn_n ?_
        refine w_block ?_
        refine w_loop1 (fun (k : Nat) => [(0, .slice pw ws.length cw), (1, .slice pn wants.length cn), (5, .int .i64 (ws.length : Int)), (6, .pointer (some ⟨b6, 0, none⟩)), (7, .int .i64 (k : Int))]) (fun (k : Nat) => IsFair b6 (base ((qs ws).take k)) :: RdR (ecI 5 .u8) pw ws.length ws :: Deep 26 (Td.sl 4 .bool) pn wants.length wants :: F) (fun (k : Nat) => k ≤ ws.length) (fun (k : Nat) => ws.length - k) (i1 (0) ?_ (.cons rfl (.cons rfl (.cons rfl (.cons rfl (.cons rfl (.nil _)))))) (sub (.cons (by first | exact rr0 | exact rr1 | exact rr2 | exact rr3 | exact rr4 | exact rr5 | exact rr6 | exact rr7 | exact rr8 | exact rr9 | exact rr10 | exact rr11 | exact rr12 | exact rr13 | exact rr14) (.cons (by first | exact rr0 | exact rr1 | exact rr2 | exact rr3 | exact rr4 | exact rr5 | exact rr6 | exact rr7 | exact rr8 | exact rr9 | exact rr10 | exact rr11 | exact rr12 | exact rr13 | exact rr14) (.cons (by first | exact rr0 | exact rr1 | exact rr2 | exact rr3 | exact rr4 | exact rr5 | exact rr6 | exact rr7 | exact rr8 | exact rr9 | exact rr10 | exact rr11 | exact rr12 | exact rr13 | exact rr14) .nil))) (by first | exact dd0 | exact dd1 | exact dd2 | exact dd3 | exact dd4 | exact dd5 | exact dd6 | exact dd7 | exact dd8 | exact dd9 | exact dd10 | exact dd11 | exact dd12 | exact dd13 | exact dd14))) ?_
        ·
          exact (by omega)
        intro k
        rintro hk
        refine w_seq ?_
        refine w_seq ?_
        refine w_region ?_
        refine o_val (v_move rfl) rfl ?_
        refine o_val (v_move rfl) rfl ?_
        refine o_val (v_lss rfl rfl) rfl ?_
        refine o_nil ?_
        refine thn_n ?_
        first | refine w_condD rfl (fun h35 => ?_) (fun h35 => ?_) | refine w_cond rfl (fun h35 => ?_) (fun h35 => ?_)
        ·
          refine w_skip ?_
          refine thn_n ?_
          refine w_seq ?_
          refine w_block ?_
          refine w_seq ?_
          have hk2 : k < ws.length := by omega
          have hwk := hw ws[k] (List.getElem_mem _)
          have hgk := (ecI 5 .u8).g_nat hk2
          have hwg := g_byte (T := 5) (k := .u8) hw (k : Int)
          obtain ⟨x, hx, hf⟩ := wt (q := 1 + ws[k]) (by omega) (by omega)
          rw [← hgk] at hx
          refine w_region ?_
          refine o_val (v_move rfl) rfl ?_
          refine o_val (v_move rfl) rfl ?_
          refine o_val (v_move rfl) rfl ?_
          refine o_val (v_move rfl) rfl ?_
          refine o_val (r_index (c := (ecI 5 .u8)) V.sl22 rfl rfl (by first | exact own mm0 | exact own mm1 | exact own mm2 | exact own mm3 | exact own mm4 | exact own mm5 | exact own mm6 | exact own mm7 | exact own mm8 | exact own mm9 | exact own mm10 | exact own mm11 | exact rdH (fun _ _ h => h) mm0 | exact rdH (fun _ _ h => h) mm1 | exact rdH (fun _ _ h => h) mm2 | exact rdH (fun _ _ h => h) mm3 | exact rdH (fun _ _ h => h) mm4 | exact rdH (fun _ _ h => h) mm5 | exact rdH (fun _ _ h => h) mm6 | exact rdH (fun _ _ h => h) mm7 | exact rdH (fun _ _ h => h) mm8 | exact rdH (fun _ _ h => h) mm9 | exact rdH (fun _ _ h => h) mm10 | exact rdH (fun _ _ h => h) mm11 | exact deepH mm0 | exact deepH mm1 | exact deepH mm2 | exact deepH mm3 | exact deepH mm4 | exact deepH mm5 | exact deepH mm6 | exact deepH mm7 | exact deepH mm8 | exact deepH mm9 | exact deepH mm10 | exact deepH mm11) (by omega) (by omega)) rfl ?_
          refine o_val (r_load (c := (ecI 5 .u8)) V.s5 rfl (by first | exact own mm0 | exact own mm1 | exact own mm2 | exact own mm3 | exact own mm4 | exact own mm5 | exact own mm6 | exact own mm7 | exact own mm8 | exact own mm9 | exact own mm10 | exact own mm11 | exact rdH (fun _ _ h => h) mm0 | exact rdH (fun _ _ h => h) mm1 | exact rdH (fun _ _ h => h) mm2 | exact rdH (fun _ _ h => h) mm3 | exact rdH (fun _ _ h => h) mm4 | exact rdH (fun _ _ h => h) mm5 | exact rdH (fun _ _ h => h) mm6 | exact rdH (fun _ _ h => h) mm7 | exact rdH (fun _ _ h => h) mm8 | exact rdH (fun _ _ h => h) mm9 | exact rdH (fun _ _ h => h) mm10 | exact rdH (fun _ _ h => h) mm11 | exact deepH mm0 | exact deepH mm1 | exact deepH mm2 | exact deepH mm3 | exact deepH mm4 | exact deepH mm5 | exact deepH mm6 | exact deepH mm7 | exact deepH mm8 | exact deepH mm9 | exact deepH mm10 | exact deepH mm11) (by omega) (by omega) rfl rfl) rfl ?_
          refine o_val (v_conv V.u5 Try.underlying3 rfl (wrapI (by omega) (by omega))) rfl ?_
          refine o_val (v_add rfl rfl (wrapI (by omega) (by omega))) rfl ?_
          refine o_val (v_itof Try.underlying3 Try.underlying30 rfl rfl) rfl ?_
          refine o_val (v_fdiv rfl rfl hx) rfl ?_
          refine o_call (join_ok b6 k x (base ((qs ws).take k)) (by rw [base_len, List.length_take]; omega) (1 + ws[k]) hf (by omega) (by omega) (base_out (by omega))) V.b11  rfl (.cons (by first | exact rr0 | exact rr1 | exact rr2 | exact rr3 | exact rr4 | exact rr5 | exact rr6 | exact rr7 | exact rr8 | exact rr9 | exact rr10 | exact rr11 | exact rr12 | exact rr13 | exact rr14) .nil) rfl ?_
          rintro _ _ ⟨rfl, rfl⟩
          refine o_val (v_F (v_neq rfl rfl) (by decide)) rfl ?_
          refine o_nil ?_
          refine thn_n ?_
          refine w_condF rfl ?_
          refine w_skip ?_
          refine blk_n ?_
          refine thn_n ?_
          refine w_region ?_
          refine o_val (v_move rfl) rfl ?_
          refine o_val (v_add rfl rfl (wrapI (by omega) (by omega))) rfl ?_
          refine o_val (v_assign rfl) rfl ?_
          refine o_nil ?_
          rw [base_take hk2]
          refine j1 (k + 1) ?_ (.cons rfl (.cons rfl (.cons rfl (.cons rfl (.cons rfl (.nil _)))))) (sub (.cons (by first | exact rr0 | exact rr1 | exact rr2 | exact rr3 | exact rr4 | exact rr5 | exact rr6 | exact rr7 | exact rr8 | exact rr9 | exact rr10 | exact rr11 | exact rr12 | exact rr13 | exact rr14) (.cons (by first | exact rr0 | exact rr1 | exact rr2 | exact rr3 | exact rr4 | exact rr5 | exact rr6 | exact rr7 | exact rr8 | exact rr9 | exact rr10 | exact rr11 | exact rr12 | exact rr13 | exact rr14) (.cons (by first | exact rr0 | exact rr1 | exact rr2 | exact rr3 | exact rr4 | exact rr5 | exact rr6 | exact rr7 | exact rr8 | exact rr9 | exact rr10 | exact rr11 | exact rr12 | exact rr13 | exact rr14) .nil))) (by first | exact dd0 | exact dd1 | exact dd2 | exact dd3 | exact dd4 | exact dd5 | exact dd6 | exact dd7 | exact dd8 | exact dd9 | exact dd10 | exact dd11 | exact dd12 | exact dd13 | exact dd14))
          exact ⟨by omega, by omega⟩
        ·
          refine w_exit ?_
          refine thn_e ?_
          refine thn_e ?_
          refine blk_x ?_
          refine thn_n ?_
          refine w_seq ?_
          have hkn : k = ws.length := by omega
          subst hkn
          rw [show (qs ws).take ws.length = qs ws from List.take_of_length_le (by rw [qs_len]; omega)] at *
          refine w_region ?_
          refine o_val (v_assign rfl) rfl ?_
          refine o_nil ?_
          refine thn_n ?_
          refine w_seq ?_
          refine w_seq ?_
          refine w_region ?_
          refine o_val (v_assign rfl) rfl ?_
          refine o_nil ?_
          refine thn_n ?_
          refine w_block ?_
          refine w_loop3 (fun (l : List Mb) (s : Nat) (m : Nat) => [(0, .slice pw ws.length cw), (1, .slice pn wants.length cn), (5, .int .i64 (ws.length : Int)), (6, .pointer (some ⟨b6, 0, none⟩)), (8, .int .i64 (s : Int)), (9, .int .i64 (m : Int))]) (fun (l : List Mb) (s : Nat) (m : Nat) => IsFair b6 l :: RdR (ecI 5 .u8) pw ws.length ws :: Deep 26 (Td.sl 4 .bool) pn wants.length wants :: F) (fun (l : List Mb) (s : Nat) (m : Nat) => Tn ws l s ∧ m ≤ wants.length) (fun (l : List Mb) (s : Nat) (m : Nat) => wants.length - m) (i3 (_) (0) (0) ?_ (.cons rfl (.cons rfl (.cons rfl (.cons rfl (.cons rfl (.cons rfl (.nil _))))))) (sub (.cons (by first | exact rr0 | exact rr1 | exact rr2 | exact rr3 | exact rr4 | exact rr5 | exact rr6 | exact rr7 | exact rr8 | exact rr9 | exact rr10 | exact rr11 | exact rr12 | exact rr13 | exact rr14) (.cons (by first | exact rr0 | exact rr1 | exact rr2 | exact rr3 | exact rr4 | exact rr5 | exact rr6 | exact rr7 | exact rr8 | exact rr9 | exact rr10 | exact rr11 | exact rr12 | exact rr13 | exact rr14) (.cons (by first | exact rr0 | exact rr1 | exact rr2 | exact rr3 | exact rr4 | exact rr5 | exact rr6 | exact rr7 | exact rr8 | exact rr9 | exact rr10 | exact rr11 | exact rr12 | exact rr13 | exact rr14) .nil))) (by first | exact dd0 | exact dd1 | exact dd2 | exact dd3 | exact dd4 | exact dd5 | exact dd6 | exact dd7 | exact dd8 | exact dd9 | exact dd10 | exact dd11 | exact dd12 | exact dd13 | exact dd14))) ?_
          ·
            exact ⟨Tn.start (by omega), by omega⟩
          intro l s m
          rintro ⟨hT, hm⟩
          have hsn := hT.since
          refine w_seq ?_
          refine w_seq ?_
          refine w_region ?_
          refine o_val (v_move rfl) rfl ?_
          refine o_val (v_move rfl) rfl ?_
          refine o_val (v_len (ty' := 0) Try.underlying35 rfl) rfl ?_
          refine o_val (v_lss rfl rfl) rfl ?_
          refine o_nil ?_
          refine thn_n ?_
          first | refine w_condD rfl (fun h53 => ?_) (fun h53 => ?_) | refine w_cond rfl (fun h53 => ?_) (fun h53 => ?_)
          ·
            refine w_skip ?_
            refine thn_n ?_
            refine w_seq ?_
            refine w_block ?_
            refine w_seq ?_
            refine w_region ?_
            refine o_val (v_move rfl) rfl ?_
            refine r_makeN ws.length ws.length (ecB 4) rfl rfl V.sl26 V.z4 rfl rfl rfl rfl (by omega) (by omega) rfl rfl ?_
            intro b57
            refine o_val (v_assign rfl) rfl ?_
            refine o_nil ?_
            refine thn_n ?_
            refine w_seq ?_
            refine w_seq ?_
            refine w_region ?_
            refine o_val (v_assign rfl) rfl ?_
            refine o_nil ?_
            refine thn_n ?_
            refine w_block ?_
            have hm2 : m < wants.length := by omega
            refine w_holds (by first | exact mm0 | exact mm1 | exact mm2 | exact mm3) (fun hD => ?_)
            have hm3 := hD _ (List.getElem_mem hm2)
            have hgm := (Td.ec 26 (Td.sl 4 .bool)).g_nat hm2
            rw [← hgm] at hm3
            refine w_deep hm3 ?_
            refine w_loop2 (fun (wl : List Bool) (j : Nat) => [(0, .slice pw ws.length cw), (1, .slice pn wants.length cn), (5, .int .i64 (ws.length : Int)), (6, .pointer (some ⟨b6, 0, none⟩)), (8, .int .i64 (s : Int)), (9, .int .i64 (m : Int)), (10, .slice (some ⟨b57, 0, none⟩) ws.length ws.length), (11, .int .i64 (j : Int))]) (fun (wl : List Bool) (j : Nat) => Row (ecB 4) (some ⟨b57, 0, none⟩) ws.length ws.length wl :: Deep 4 .bool ((Td.ec 26 (Td.sl 4 .bool)).g wants (m : Int)).p ((Td.ec 26 (Td.sl 4 .bool)).g wants (m : Int)).l.length ((Td.ec 26 (Td.sl 4 .bool)).g wants (m : Int)).l :: IsFair b6 l :: RdR (ecI 5 .u8) pw ws.length ws :: Deep 26 (Td.sl 4 .bool) pn wants.length wants :: F) (fun (wl : List Bool) (j : Nat) => wl.length = ws.length ∧ 1 ≤ j ∧ j ≤ ws.length) (fun (wl : List Bool) (j : Nat) => ws.length - j) (i2 (_) (1) ?_ (.cons rfl (.cons rfl (.cons rfl (.cons rfl (.cons rfl (.cons rfl (.cons rfl (.cons rfl (.nil _))))))))) (sub (.cons (by first | exact rr0 | exact rr1 | exact rr2 | exact rr3 | exact rr4 | exact rr5 | exact rr6 | exact rr7 | exact rr8 | exact rr9 | exact rr10 | exact rr11 | exact rr12 | exact rr13 | exact rr14) (.cons (by first | exact rr0 | exact rr1 | exact rr2 | exact rr3 | exact rr4 | exact rr5 | exact rr6 | exact rr7 | exact rr8 | exact rr9 | exact rr10 | exact rr11 | exact rr12 | exact rr13 | exact rr14) (.cons (by first | exact rr0 | exact rr1 | exact rr2 | exact rr3 | exact rr4 | exact rr5 | exact rr6 | exact rr7 | exact rr8 | exact rr9 | exact rr10 | exact rr11 | exact rr12 | exact rr13 | exact rr14) (.cons (by first | exact rr0 | exact rr1 | exact rr2 | exact rr3 | exact rr4 | exact rr5 | exact rr6 | exact rr7 | exact rr8 | exact rr9 | exact rr10 | exact rr11 | exact rr12 | exact rr13 | exact rr14) (.cons (by first | exact rr0 | exact rr1 | exact rr2 | exact rr3 | exact rr4 | exact rr5 | exact rr6 | exact rr7 | exact rr8 | exact rr9 | exact rr10 | exact rr11 | exact rr12 | exact rr13 | exact rr14) .nil))))) (by first | exact dd0 | exact dd1 | exact dd2 | exact dd3 | exact dd4 | exact dd5 | exact dd6 | exact dd7 | exact dd8 | exact dd9 | exact dd10 | exact dd11 | exact dd12 | exact dd13 | exact dd14))) ?_
            ·
              exact ⟨by simp, by omega, by omega⟩
            intro wl j
            rintro ⟨hwl, hj1, hj⟩
            refine w_seq ?_
            refine w_seq ?_
            refine w_region ?_
            refine o_val (v_move rfl) rfl ?_
            refine o_val (v_move rfl) rfl ?_
            refine o_val (v_lss rfl rfl) rfl ?_
            refine o_val (v_move rfl) rfl ?_
            first | refine o_boolD 61 rfl (fun h61 => ?_) (fun h61 => ?_) | refine o_bool 61 rfl (fun h61 => ?_) (fun h61 => ?_)
            ·
              refine o_want rfl ?_
              refine o_val (v_move rfl) rfl ?_
              refine o_want rfl ?_
              refine o_val (v_move rfl) rfl ?_
              refine o_want rfl ?_
              refine o_val (v_move rfl) rfl ?_
              refine o_want rfl ?_
              refine o_val (r_index (c := (Td.ec 26 (Td.sl 4 .bool))) V.sl35 rfl rfl (by first | exact own mm0 | exact own mm1 | exact own mm2 | exact own mm3 | exact own mm4 | exact own mm5 | exact own mm6 | exact own mm7 | exact own mm8 | exact own mm9 | exact own mm10 | exact own mm11 | exact rdH (fun _ _ h => h) mm0 | exact rdH (fun _ _ h => h) mm1 | exact rdH (fun _ _ h => h) mm2 | exact rdH (fun _ _ h => h) mm3 | exact rdH (fun _ _ h => h) mm4 | exact rdH (fun _ _ h => h) mm5 | exact rdH (fun _ _ h => h) mm6 | exact rdH (fun _ _ h => h) mm7 | exact rdH (fun _ _ h => h) mm8 | exact rdH (fun _ _ h => h) mm9 | exact rdH (fun _ _ h => h) mm10 | exact rdH (fun _ _ h => h) mm11 | exact deepH mm0 | exact deepH mm1 | exact deepH mm2 | exact deepH mm3 | exact deepH mm4 | exact deepH mm5 | exact deepH mm6 | exact deepH mm7 | exact deepH mm8 | exact deepH mm9 | exact deepH mm10 | exact deepH mm11) (by omega) (by omega)) rfl ?_
              refine o_want rfl ?_
              refine o_val (r_load (c := (Td.ec 26 (Td.sl 4 .bool))) V.s26 rfl (by first | exact own mm0 | exact own mm1 | exact own mm2 | exact own mm3 | exact own mm4 | exact own mm5 | exact own mm6 | exact own mm7 | exact own mm8 | exact own mm9 | exact own mm10 | exact own mm11 | exact rdH (fun _ _ h => h) mm0 | exact rdH (fun _ _ h => h) mm1 | exact rdH (fun _ _ h => h) mm2 | exact rdH (fun _ _ h => h) mm3 | exact rdH (fun _ _ h => h) mm4 | exact rdH (fun _ _ h => h) mm5 | exact rdH (fun _ _ h => h) mm6 | exact rdH (fun _ _ h => h) mm7 | exact rdH (fun _ _ h => h) mm8 | exact rdH (fun _ _ h => h) mm9 | exact rdH (fun _ _ h => h) mm10 | exact rdH (fun _ _ h => h) mm11 | exact deepH mm0 | exact deepH mm1 | exact deepH mm2 | exact deepH mm3 | exact deepH mm4 | exact deepH mm5 | exact deepH mm6 | exact deepH mm7 | exact deepH mm8 | exact deepH mm9 | exact deepH mm10 | exact deepH mm11) (by omega) (by omega) rfl rfl) rfl ?_
              refine o_want rfl ?_
              refine o_val (v_len (ty' := 0) Try.underlying26 rfl) rfl ?_
              refine o_want rfl ?_
              refine o_val (v_lss rfl rfl) rfl ?_
              refine o_val (v_pickT rfl rfl) rfl ?_
              refine o_nil ?_
              refine thn_n ?_
              first | refine w_condD rfl (fun h69 => ?_) (fun h69 => ?_) | refine w_cond rfl (fun h69 => ?_) (fun h69 => ?_)
              ·
                refine w_skip ?_
                refine thn_n ?_
                refine w_seq ?_
                refine w_block ?_
                have hj2 : j < ws.length := by omega
                refine w_region ?_
                refine o_val (v_move rfl) rfl ?_
                refine o_val (v_move rfl) rfl ?_
                refine o_val (v_move rfl) rfl ?_
                refine o_val (v_move rfl) rfl ?_
                refine o_val (r_index (c := (Td.ec 26 (Td.sl 4 .bool))) V.sl35 rfl rfl (by first | exact own mm0 | exact own mm1 | exact own mm2 | exact own mm3 | exact own mm4 | exact own mm5 | exact own mm6 | exact own mm7 | exact own mm8 | exact own mm9 | exact own mm10 | exact own mm11 | exact rdH (fun _ _ h => h) mm0 | exact rdH (fun _ _ h => h) mm1 | exact rdH (fun _ _ h => h) mm2 | exact rdH (fun _ _ h => h) mm3 | exact rdH (fun _ _ h => h) mm4 | exact rdH (fun _ _ h => h) mm5 | exact rdH (fun _ _ h => h) mm6 | exact rdH (fun _ _ h => h) mm7 | exact rdH (fun _ _ h => h) mm8 | exact rdH (fun _ _ h => h) mm9 | exact rdH (fun _ _ h => h) mm10 | exact rdH (fun _ _ h => h) mm11 | exact deepH mm0 | exact deepH mm1 | exact deepH mm2 | exact deepH mm3 | exact deepH mm4 | exact deepH mm5 | exact deepH mm6 | exact deepH mm7 | exact deepH mm8 | exact deepH mm9 | exact deepH mm10 | exact deepH mm11) (by omega) (by omega)) rfl ?_
                refine o_val (r_load (c := (Td.ec 26 (Td.sl 4 .bool))) V.s26 rfl (by first | exact own mm0 | exact own mm1 | exact own mm2 | exact own mm3 | exact own mm4 | exact own mm5 | exact own mm6 | exact own mm7 | exact own mm8 | exact own mm9 | exact own mm10 | exact own mm11 | exact rdH (fun _ _ h => h) mm0 | exact rdH (fun _ _ h => h) mm1 | exact rdH (fun _ _ h => h) mm2 | exact rdH (fun _ _ h => h) mm3 | exact rdH (fun _ _ h => h) mm4 | exact rdH (fun _ _ h => h) mm5 | exact rdH (fun _ _ h => h) mm6 | exact rdH (fun _ _ h => h) mm7 | exact rdH (fun _ _ h => h) mm8 | exact rdH (fun _ _ h => h) mm9 | exact rdH (fun _ _ h => h) mm10 | exact rdH (fun _ _ h => h) mm11 | exact deepH mm0 | exact deepH mm1 | exact deepH mm2 | exact deepH mm3 | exact deepH mm4 | exact deepH mm5 | exact deepH mm6 | exact deepH mm7 | exact deepH mm8 | exact deepH mm9 | exact deepH mm10 | exact deepH mm11) (by omega) (by omega) rfl rfl) rfl ?_
                refine o_val (v_move rfl) rfl ?_
                refine o_val (r_index (c := (ecB 4)) V.sl26 rfl rfl (by first | exact own mm0 | exact own mm1 | exact own mm2 | exact own mm3 | exact own mm4 | exact own mm5 | exact own mm6 | exact own mm7 | exact own mm8 | exact own mm9 | exact own mm10 | exact own mm11 | exact rdH (fun _ _ h => h) mm0 | exact rdH (fun _ _ h => h) mm1 | exact rdH (fun _ _ h => h) mm2 | exact rdH (fun _ _ h => h) mm3 | exact rdH (fun _ _ h => h) mm4 | exact rdH (fun _ _ h => h) mm5 | exact rdH (fun _ _ h => h) mm6 | exact rdH (fun _ _ h => h) mm7 | exact rdH (fun _ _ h => h) mm8 | exact rdH (fun _ _ h => h) mm9 | exact rdH (fun _ _ h => h) mm10 | exact rdH (fun _ _ h => h) mm11 | exact deepH mm0 | exact deepH mm1 | exact deepH mm2 | exact deepH mm3 | exact deepH mm4 | exact deepH mm5 | exact deepH mm6 | exact deepH mm7 | exact deepH mm8 | exact deepH mm9 | exact deepH mm10 | exact deepH mm11) (by omega) (by omega)) rfl ?_
                refine o_val (r_load (c := (ecB 4)) V.s4 rfl (by first | exact own mm0 | exact own mm1 | exact own mm2 | exact own mm3 | exact own mm4 | exact own mm5 | exact own mm6 | exact own mm7 | exact own mm8 | exact own mm9 | exact own mm10 | exact own mm11 | exact rdH (fun _ _ h => h) mm0 | exact rdH (fun _ _ h => h) mm1 | exact rdH (fun _ _ h => h) mm2 | exact rdH (fun _ _ h => h) mm3 | exact rdH (fun _ _ h => h) mm4 | exact rdH (fun _ _ h => h) mm5 | exact rdH (fun _ _ h => h) mm6 | exact rdH (fun _ _ h => h) mm7 | exact rdH (fun _ _ h => h) mm8 | exact rdH (fun _ _ h => h) mm9 | exact rdH (fun _ _ h => h) mm10 | exact rdH (fun _ _ h => h) mm11 | exact deepH mm0 | exact deepH mm1 | exact deepH mm2 | exact deepH mm3 | exact deepH mm4 | exact deepH mm5 | exact deepH mm6 | exact deepH mm7 | exact deepH mm8 | exact deepH mm9 | exact deepH mm10 | exact deepH mm11) (by omega) (by omega) rfl rfl) rfl ?_
                refine o_val (r_index (c := (ecB 4)) V.sl26 rfl rfl (by first | exact own mm0 | exact own mm1 | exact own mm2 | exact own mm3 | exact own mm4 | exact own mm5 | exact own mm6 | exact own mm7 | exact own mm8 | exact own mm9 | exact own mm10 | exact own mm11 | exact rdH (fun _ _ h => h) mm0 | exact rdH (fun _ _ h => h) mm1 | exact rdH (fun _ _ h => h) mm2 | exact rdH (fun _ _ h => h) mm3 | exact rdH (fun _ _ h => h) mm4 | exact rdH (fun _ _ h => h) mm5 | exact rdH (fun _ _ h => h) mm6 | exact rdH (fun _ _ h => h) mm7 | exact rdH (fun _ _ h => h) mm8 | exact rdH (fun _ _ h => h) mm9 | exact rdH (fun _ _ h => h) mm10 | exact rdH (fun _ _ h => h) mm11 | exact deepH mm0 | exact deepH mm1 | exact deepH mm2 | exact deepH mm3 | exact deepH mm4 | exact deepH mm5 | exact deepH mm6 | exact deepH mm7 | exact deepH mm8 | exact deepH mm9 | exact deepH mm10 | exact deepH mm11) (by omega) (by omega)) rfl ?_
                refine o_eff (r_store (c := (ecB 4)) (_) V.s4 rfl rfl rfl (by first | exact pp0 | exact pp1 | exact pp2 | exact pp3 | exact pp4 | exact pp5 | exact pp6 | exact pp7 | exact pp8 | exact pp9 | exact pp10 | exact pp11 | exact pp12 | exact pp13 | exact pp14) (by omega) (by omega) rfl rfl) ?_
                refine o_nil ?_
                refine blk_n ?_
                refine thn_n ?_
                refine w_region ?_
                refine o_val (v_move rfl) rfl ?_
                refine o_val (v_add rfl rfl (wrapI (by omega) (by omega))) rfl ?_
                refine o_val (v_assign rfl) rfl ?_
                refine o_nil ?_
                refine j2 (_) (j + 1) ?_ (.cons rfl (.cons rfl (.cons rfl (.cons rfl (.cons rfl (.cons rfl (.cons rfl (.cons rfl (.nil _))))))))) (sub (.cons (by first | exact rr0 | exact rr1 | exact rr2 | exact rr3 | exact rr4 | exact rr5 | exact rr6 | exact rr7 | exact rr8 | exact rr9 | exact rr10 | exact rr11 | exact rr12 | exact rr13 | exact rr14) (.cons (by first | exact rr0 | exact rr1 | exact rr2 | exact rr3 | exact rr4 | exact rr5 | exact rr6 | exact rr7 | exact rr8 | exact rr9 | exact rr10 | exact rr11 | exact rr12 | exact rr13 | exact rr14) (.cons (by first | exact rr0 | exact rr1 | exact rr2 | exact rr3 | exact rr4 | exact rr5 | exact rr6 | exact rr7 | exact rr8 | exact rr9 | exact rr10 | exact rr11 | exact rr12 | exact rr13 | exact rr14) (.cons (by first | exact rr0 | exact rr1 | exact rr2 | exact rr3 | exact rr4 | exact rr5 | exact rr6 | exact rr7 | exact rr8 | exact rr9 | exact rr10 | exact rr11 | exact rr12 | exact rr13 | exact rr14) (.cons (by first | exact rr0 | exact rr1 | exact rr2 | exact rr3 | exact rr4 | exact rr5 | exact rr6 | exact rr7 | exact rr8 | exact rr9 | exact rr10 | exact rr11 | exact rr12 | exact rr13 | exact rr14) .nil))))) (by first | exact dd0 | exact dd1 | exact dd2 | exact dd3 | exact dd4 | exact dd5 | exact dd6 | exact dd7 | exact dd8 | exact dd9 | exact dd10 | exact dd11 | exact dd12 | exact dd13 | exact dd14))
                exact ⟨⟨by simp [hwl], by omega, by omega⟩, by omega⟩
              ·
                refine w_exit ?_
                refine thn_e ?_
                refine thn_e ?_
                refine blk_x ?_
                refine thn_n ?_
                refine w_seq ?_
                refine w_region ?_
                refine o_val (v_move rfl) rfl ?_
                refine o_val (r_index (c := (ecB 4)) V.sl26 rfl rfl (by first | exact own mm0 | exact own mm1 | exact own mm2 | exact own mm3 | exact own mm4 | exact own mm5 | exact own mm6 | exact own mm7 | exact own mm8 | exact own mm9 | exact own mm10 | exact own mm11 | exact rdH (fun _ _ h => h) mm0 | exact rdH (fun _ _ h => h) mm1 | exact rdH (fun _ _ h => h) mm2 | exact rdH (fun _ _ h => h) mm3 | exact rdH (fun _ _ h => h) mm4 | exact rdH (fun _ _ h => h) mm5 | exact rdH (fun _ _ h => h) mm6 | exact rdH (fun _ _ h => h) mm7 | exact rdH (fun _ _ h => h) mm8 | exact rdH (fun _ _ h => h) mm9 | exact rdH (fun _ _ h => h) mm10 | exact rdH (fun _ _ h => h) mm11 | exact deepH mm0 | exact deepH mm1 | exact deepH mm2 | exact deepH mm3 | exact deepH mm4 | exact deepH mm5 | exact deepH mm6 | exact deepH mm7 | exact deepH mm8 | exact deepH mm9 | exact deepH mm10 | exact deepH mm11) (by omega) (by omega)) rfl ?_
                refine o_eff (r_store (c := (ecB 4)) (_) V.s4 rfl rfl rfl (by first | exact pp0 | exact pp1 | exact pp2 | exact pp3 | exact pp4 | exact pp5 | exact pp6 | exact pp7 | exact pp8 | exact pp9 | exact pp10 | exact pp11 | exact pp12 | exact pp13 | exact pp14) (by omega) (by omega) rfl rfl) ?_
                refine o_nil ?_
                refine thn_n ?_
                refine w_seq ?_
                refine w_region ?_
                refine o_val (v_move rfl) rfl ?_
                refine o_val (v_move rfl) rfl ?_
                refine o_call (next_turn b6 ws l s hT (by omega) (wl.set 0 true) (some ⟨b57, 0, none⟩) ws.length (by simp [hwl]) (by cases wl with | nil => simp at hwl; omega | cons x wl => rfl)) V.b12  rfl (.cons (by first | exact rr0 | exact rr1 | exact rr2 | exact rr3 | exact rr4 | exact rr5 | exact rr6 | exact rr7 | exact rr8 | exact rr9 | exact rr10 | exact rr11 | exact rr12 | exact rr13 | exact rr14) (.cons (by first | exact rr0 | exact rr1 | exact rr2 | exact rr3 | exact rr4 | exact rr5 | exact rr6 | exact rr7 | exact rr8 | exact rr9 | exact rr10 | exact rr11 | exact rr12 | exact rr13 | exact rr14) .nil)) rfl ?_
                rintro _ _ ⟨i, hi, hwt, hfst, rfl, rfl⟩
                obtain ⟨hwg, hwd⟩ := want_get hwt
                have hmi := hT.mem _ (List.getElem_mem hi)
                have hwx := g_byte (T := 5) (k := .u8) hw l[i].who
                have hful : (full l[i]).c = 1 + (ecI 5 .u8).g ws l[i].who := by unfold full; rw [if_pos hmi.2.2.2]; exact hmi.2.2.1
                have hlen := hT.len
                simp only [List.length_set] at hwg
                have hgb : (ecB 4).g (wl.set 0 true) l[i].who = true := hwd
                obtain ⟨hT2, hs2⟩ := hT.step hi hfst
                refine o_val (v_move rfl) rfl ?_
                refine o_val (v_extract rfl rfl) rfl ?_
                refine o_val (v_extract rfl rfl) rfl ?_
                refine o_val (v_extract rfl rfl) rfl ?_
                refine o_val (v_assign rfl) rfl ?_
                refine o_val (v_assign rfl) rfl ?_
                refine o_val (v_assign rfl) rfl ?_
                refine o_nil ?_
                refine thn_n ?_
                refine w_seq ?_
                refine w_seq ?_
                refine w_region ?_
                refine o_val (v_move rfl) rfl ?_
                refine o_val (v_to (v := .bool false) (v_not rfl) rfl) rfl ?_
                refine o_val (v_move rfl) rfl ?_
                refine o_want rfl ?_
                refine o_val (v_move rfl) rfl ?_
                refine o_want rfl ?_
                refine o_val (v_move rfl) rfl ?_
                refine o_want rfl ?_
                refine o_val (r_index (c := (ecB 4)) V.sl26 rfl rfl (by first | exact own mm0 | exact own mm1 | exact own mm2 | exact own mm3 | exact own mm4 | exact own mm5 | exact own mm6 | exact own mm7 | exact own mm8 | exact own mm9 | exact own mm10 | exact own mm11 | exact rdH (fun _ _ h => h) mm0 | exact rdH (fun _ _ h => h) mm1 | exact rdH (fun _ _ h => h) mm2 | exact rdH (fun _ _ h => h) mm3 | exact rdH (fun _ _ h => h) mm4 | exact rdH (fun _ _ h => h) mm5 | exact rdH (fun _ _ h => h) mm6 | exact rdH (fun _ _ h => h) mm7 | exact rdH (fun _ _ h => h) mm8 | exact rdH (fun _ _ h => h) mm9 | exact rdH (fun _ _ h => h) mm10 | exact rdH (fun _ _ h => h) mm11 | exact deepH mm0 | exact deepH mm1 | exact deepH mm2 | exact deepH mm3 | exact deepH mm4 | exact deepH mm5 | exact deepH mm6 | exact deepH mm7 | exact deepH mm8 | exact deepH mm9 | exact deepH mm10 | exact deepH mm11) (by omega) (by omega)) rfl ?_
                refine o_want rfl ?_
                refine o_val (r_load (c := (ecB 4)) V.s4 rfl (by first | exact own mm0 | exact own mm1 | exact own mm2 | exact own mm3 | exact own mm4 | exact own mm5 | exact own mm6 | exact own mm7 | exact own mm8 | exact own mm9 | exact own mm10 | exact own mm11 | exact rdH (fun _ _ h => h) mm0 | exact rdH (fun _ _ h => h) mm1 | exact rdH (fun _ _ h => h) mm2 | exact rdH (fun _ _ h => h) mm3 | exact rdH (fun _ _ h => h) mm4 | exact rdH (fun _ _ h => h) mm5 | exact rdH (fun _ _ h => h) mm6 | exact rdH (fun _ _ h => h) mm7 | exact rdH (fun _ _ h => h) mm8 | exact rdH (fun _ _ h => h) mm9 | exact rdH (fun _ _ h => h) mm10 | exact rdH (fun _ _ h => h) mm11 | exact deepH mm0 | exact deepH mm1 | exact deepH mm2 | exact deepH mm3 | exact deepH mm4 | exact deepH mm5 | exact deepH mm6 | exact deepH mm7 | exact deepH mm8 | exact deepH mm9 | exact deepH mm10 | exact deepH mm11) (by omega) (by omega) rfl rfl) rfl ?_
                rw [hgb]
                refine o_want rfl ?_
                refine o_val (v_to (v := .bool false) (v_not rfl) rfl) rfl ?_
                refine o_val (v_pickF rfl rfl) rfl ?_
                refine o_val (v_move rfl) rfl ?_
                refine o_want rfl ?_
                refine o_val (v_move rfl) rfl ?_
                refine o_want rfl ?_
                refine o_val (v_move rfl) rfl ?_
                refine o_want rfl ?_
                refine o_val (v_move rfl) rfl ?_
                refine o_want rfl ?_
                refine o_val (r_index (c := (ecI 5 .u8)) V.sl22 rfl rfl (by first | exact own mm0 | exact own mm1 | exact own mm2 | exact own mm3 | exact own mm4 | exact own mm5 | exact own mm6 | exact own mm7 | exact own mm8 | exact own mm9 | exact own mm10 | exact own mm11 | exact rdH (fun _ _ h => h) mm0 | exact rdH (fun _ _ h => h) mm1 | exact rdH (fun _ _ h => h) mm2 | exact rdH (fun _ _ h => h) mm3 | exact rdH (fun _ _ h => h) mm4 | exact rdH (fun _ _ h => h) mm5 | exact rdH (fun _ _ h => h) mm6 | exact rdH (fun _ _ h => h) mm7 | exact rdH (fun _ _ h => h) mm8 | exact rdH (fun _ _ h => h) mm9 | exact rdH (fun _ _ h => h) mm10 | exact rdH (fun _ _ h => h) mm11 | exact deepH mm0 | exact deepH mm1 | exact deepH mm2 | exact deepH mm3 | exact deepH mm4 | exact deepH mm5 | exact deepH mm6 | exact deepH mm7 | exact deepH mm8 | exact deepH mm9 | exact deepH mm10 | exact deepH mm11) (by omega) (by omega)) rfl ?_
                refine o_want rfl ?_
                refine o_val (r_load (c := (ecI 5 .u8)) V.s5 rfl (by first | exact own mm0 | exact own mm1 | exact own mm2 | exact own mm3 | exact own mm4 | exact own mm5 | exact own mm6 | exact own mm7 | exact own mm8 | exact own mm9 | exact own mm10 | exact own mm11 | exact rdH (fun _ _ h => h) mm0 | exact rdH (fun _ _ h => h) mm1 | exact rdH (fun _ _ h => h) mm2 | exact rdH (fun _ _ h => h) mm3 | exact rdH (fun _ _ h => h) mm4 | exact rdH (fun _ _ h => h) mm5 | exact rdH (fun _ _ h => h) mm6 | exact rdH (fun _ _ h => h) mm7 | exact rdH (fun _ _ h => h) mm8 | exact rdH (fun _ _ h => h) mm9 | exact rdH (fun _ _ h => h) mm10 | exact rdH (fun _ _ h => h) mm11 | exact deepH mm0 | exact deepH mm1 | exact deepH mm2 | exact deepH mm3 | exact deepH mm4 | exact deepH mm5 | exact deepH mm6 | exact deepH mm7 | exact deepH mm8 | exact deepH mm9 | exact deepH mm10 | exact deepH mm11) (by omega) (by omega) rfl rfl) rfl ?_
                refine o_want rfl ?_
                refine o_val (v_conv V.u5 Try.underlying3 rfl (wrapI (by omega) (by omega))) rfl ?_
                refine o_want rfl ?_
                refine o_val (v_add rfl rfl (wrapI (by omega) (by omega))) rfl ?_
                refine o_want rfl ?_
                refine o_val (v_F (v_neq rfl rfl) (fun h => h hful)) rfl ?_
                refine o_val (v_pickF rfl rfl) rfl ?_
                refine o_val (v_move rfl) rfl ?_
                refine o_want rfl ?_
                refine o_val (v_move rfl) rfl ?_
                refine o_want rfl ?_
                refine o_val (v_move rfl) rfl ?_
                refine o_want rfl ?_
                refine o_val (v_move rfl) rfl ?_
                refine o_want rfl ?_
                refine o_call (spend_ok b6 l[i].who (full l[i]).c (full l[i]) (l.drop (i + 1) ++ (l.take i).map zero) (by simp; omega) (full_who _) (by rw [hful]; omega) (Int.le_refl _) (by rw [hful]; omega)) V.b13  rfl (.cons (by first | exact rr0 | exact rr1 | exact rr2 | exact rr3 | exact rr4 | exact rr5 | exact rr6 | exact rr7 | exact rr8 | exact rr9 | exact rr10 | exact rr11 | exact rr12 | exact rr13 | exact rr14) .nil) rfl ?_
                rintro _ _ ⟨rfl, rfl⟩
                rw [show spendL (full l[i]) (l.drop (i + 1) ++ (l.take i).map zero) (full l[i]).c = (l.drop (i + 1) ++ (l.take i).map zero) ++ [zero (full l[i])] from by unfold spendL; rw [if_neg (Int.lt_irrefl _)]]
                refine o_want rfl ?_
                refine o_val (v_to (v := .bool false) (v_not rfl) rfl) rfl ?_
                refine o_val (v_pickF rfl rfl) rfl ?_
                refine o_nil ?_
                refine thn_n ?_
                refine w_condF rfl ?_
                refine w_skip ?_
                refine thn_n ?_
                refine w_seq ?_
                refine w_region ?_
                refine o_val (v_move rfl) rfl ?_
                refine o_val (v_add rfl rfl (wrapI (by omega) (by omega))) rfl ?_
                refine o_val (v_assign rfl) rfl ?_
                refine o_nil ?_
                refine thn_n ?_
                refine w_join1 (fun (s2 : Nat) => [(0, .slice pw ws.length cw), (1, .slice pn wants.length cn), (5, .int .i64 (ws.length : Int)), (6, .pointer (some ⟨b6, 0, none⟩)), (8, .int .i64 (s2 : Int)), (9, .int .i64 (m : Int))]) (fun (s2 : Nat) => IsFair b6 ((l.drop (i + 1) ++ (l.take i).map zero) ++ [zero (full l[i])]) :: RdR (ecI 5 .u8) pw ws.length ws :: Deep 26 (Td.sl 4 .bool) pn wants.length wants :: F) (fun (s2 : Nat) => s2 = if l[i].who = 0 then 0 else s + 1) ?_ ?_
                ·
                  refine w_seq ?_
                  refine w_region ?_
                  refine o_val (v_move rfl) rfl ?_
                  refine o_val (v_eql rfl rfl) rfl ?_
                  refine o_nil ?_
                  refine thn_n ?_
                  first | refine w_condD rfl (fun h120 => ?_) (fun h120 => ?_) | refine w_cond rfl (fun h120 => ?_) (fun h120 => ?_)
                  ·
                    refine w_region ?_
                    refine o_val (v_assign rfl) rfl ?_
                    refine o_nil ?_
                    refine j1 (_) ?_ (.cons rfl (.cons rfl (.cons rfl (.cons rfl (.cons rfl (.cons rfl (.nil _))))))) (sub (.cons (by first | exact rr0 | exact rr1 | exact rr2 | exact rr3 | exact rr4 | exact rr5 | exact rr6 | exact rr7 | exact rr8 | exact rr9 | exact rr10 | exact rr11 | exact rr12 | exact rr13 | exact rr14) (.cons (by first | exact rr0 | exact rr1 | exact rr2 | exact rr3 | exact rr4 | exact rr5 | exact rr6 | exact rr7 | exact rr8 | exact rr9 | exact rr10 | exact rr11 | exact rr12 | exact rr13 | exact rr14) (.cons (by first | exact rr0 | exact rr1 | exact rr2 | exact rr3 | exact rr4 | exact rr5 | exact rr6 | exact rr7 | exact rr8 | exact rr9 | exact rr10 | exact rr11 | exact rr12 | exact rr13 | exact rr14) .nil))) (by first | exact dd0 | exact dd1 | exact dd2 | exact dd3 | exact dd4 | exact dd5 | exact dd6 | exact dd7 | exact dd8 | exact dd9 | exact dd10 | exact dd11 | exact dd12 | exact dd13 | exact dd14))
                    first | (rw [if_pos (by assumption)]) | (rw [if_neg (by assumption)])
                  ·
                    refine w_skip ?_
                    refine j1 (_) ?_ (.cons rfl (.cons rfl (.cons rfl (.cons rfl (.cons rfl (.cons rfl (.nil _))))))) (sub (.cons (by first | exact rr0 | exact rr1 | exact rr2 | exact rr3 | exact rr4 | exact rr5 | exact rr6 | exact rr7 | exact rr8 | exact rr9 | exact rr10 | exact rr11 | exact rr12 | exact rr13 | exact rr14) (.cons (by first | exact rr0 | exact rr1 | exact rr2 | exact rr3 | exact rr4 | exact rr5 | exact rr6 | exact rr7 | exact rr8 | exact rr9 | exact rr10 | exact rr11 | exact rr12 | exact rr13 | exact rr14) (.cons (by first | exact rr0 | exact rr1 | exact rr2 | exact rr3 | exact rr4 | exact rr5 | exact rr6 | exact rr7 | exact rr8 | exact rr9 | exact rr10 | exact rr11 | exact rr12 | exact rr13 | exact rr14) .nil))) (by first | exact dd0 | exact dd1 | exact dd2 | exact dd3 | exact dd4 | exact dd5 | exact dd6 | exact dd7 | exact dd8 | exact dd9 | exact dd10 | exact dd11 | exact dd12 | exact dd13 | exact dd14))
                    first | (rw [if_pos (by assumption)]) | (rw [if_neg (by assumption)])
                ·
                  intro s2
                  rintro hs3
                  rw [← hs3] at hT2 hs2
                  refine w_seq ?_
                  refine w_region ?_
                  refine o_val (v_move rfl) rfl ?_
                  refine o_val (v_move rfl) rfl ?_
                  refine o_val (v_geq rfl rfl) rfl ?_
                  refine o_nil ?_
                  refine thn_n ?_
                  first | refine w_condD rfl (fun h123 => ?_) (fun h123 => ?_) | refine w_cond rfl (fun h123 => ?_) (fun h123 => ?_)
                  ·
                    exact absurd h123 (by omega)
                  ·
                    refine w_skip ?_
                    refine blk_n ?_
                    refine thn_n ?_
                    refine w_region ?_
                    refine o_val (v_move rfl) rfl ?_
                    refine o_val (v_add rfl rfl (wrapI (by omega) (by omega))) rfl ?_
                    refine o_val (v_assign rfl) rfl ?_
                    refine o_nil ?_
                    refine j3 (_) (_) (m + 1) ?_ (.cons rfl (.cons rfl (.cons rfl (.cons rfl (.cons rfl (.cons rfl (.nil _))))))) (sub (.cons (by first | exact rr0 | exact rr1 | exact rr2 | exact rr3 | exact rr4 | exact rr5 | exact rr6 | exact rr7 | exact rr8 | exact rr9 | exact rr10 | exact rr11 | exact rr12 | exact rr13 | exact rr14) (.cons (by first | exact rr0 | exact rr1 | exact rr2 | exact rr3 | exact rr4 | exact rr5 | exact rr6 | exact rr7 | exact rr8 | exact rr9 | exact rr10 | exact rr11 | exact rr12 | exact rr13 | exact rr14) (.cons (by first | exact rr0 | exact rr1 | exact rr2 | exact rr3 | exact rr4 | exact rr5 | exact rr6 | exact rr7 | exact rr8 | exact rr9 | exact rr10 | exact rr11 | exact rr12 | exact rr13 | exact rr14) .nil))) (by first | exact dd0 | exact dd1 | exact dd2 | exact dd3 | exact dd4 | exact dd5 | exact dd6 | exact dd7 | exact dd8 | exact dd9 | exact dd10 | exact dd11 | exact dd12 | exact dd13 | exact dd14))
                    exact ⟨⟨hT2, by omega⟩, by omega⟩
            ·
              refine o_pass rfl rfl rfl ?_
              refine o_pass rfl rfl rfl ?_
              refine o_pass rfl rfl rfl ?_
              refine o_pass rfl rfl rfl ?_
              refine o_pass rfl rfl rfl ?_
              refine o_pass rfl rfl rfl ?_
              refine o_pass rfl rfl rfl ?_
              refine o_val (v_pickF rfl rfl) rfl ?_
              refine o_nil ?_
              refine thn_n ?_
              refine w_condF rfl ?_
              refine w_exit ?_
              refine thn_e ?_
              refine thn_e ?_
              refine blk_x ?_
              refine thn_n ?_
              refine w_seq ?_
              refine w_region ?_
              refine o_val (v_move rfl) rfl ?_
              refine o_val (r_index (c := (ecB 4)) V.sl26 rfl rfl (by first | exact own mm0 | exact own mm1 | exact own mm2 | exact own mm3 | exact own mm4 | exact own mm5 | exact own mm6 | exact own mm7 | exact own mm8 | exact own mm9 | exact own mm10 | exact own mm11 | exact rdH (fun _ _ h => h) mm0 | exact rdH (fun _ _ h => h) mm1 | exact rdH (fun _ _ h => h) mm2 | exact rdH (fun _ _ h => h) mm3 | exact rdH (fun _ _ h => h) mm4 | exact rdH (fun _ _ h => h) mm5 | exact rdH (fun _ _ h => h) mm6 | exact rdH (fun _ _ h => h) mm7 | exact rdH (fun _ _ h => h) mm8 | exact rdH (fun _ _ h => h) mm9 | exact rdH (fun _ _ h => h) mm10 | exact rdH (fun _ _ h => h) mm11 | exact deepH mm0 | exact deepH mm1 | exact deepH mm2 | exact deepH mm3 | exact deepH mm4 | exact deepH mm5 | exact deepH mm6 | exact deepH mm7 | exact deepH mm8 | exact deepH mm9 | exact deepH mm10 | exact deepH mm11) (by omega) (by omega)) rfl ?_
              refine o_eff (r_store (c := (ecB 4)) (_) V.s4 rfl rfl rfl (by first | exact pp0 | exact pp1 | exact pp2 | exact pp3 | exact pp4 | exact pp5 | exact pp6 | exact pp7 | exact pp8 | exact pp9 | exact pp10 | exact pp11 | exact pp12 | exact pp13 | exact pp14) (by omega) (by omega) rfl rfl) ?_
              refine o_nil ?_
              refine thn_n ?_
              refine w_seq ?_
              refine w_region ?_
              refine o_val (v_move rfl) rfl ?_
              refine o_val (v_move rfl) rfl ?_
              refine o_call (next_turn b6 ws l s hT (by omega) (wl.set 0 true) (some ⟨b57, 0, none⟩) ws.length (by simp [hwl]) (by cases wl with | nil => simp at hwl; omega | cons x wl => rfl)) V.b12  rfl (.cons (by first | exact rr0 | exact rr1 | exact rr2 | exact rr3 | exact rr4 | exact rr5 | exact rr6 | exact rr7 | exact rr8 | exact rr9 | exact rr10 | exact rr11 | exact rr12 | exact rr13 | exact rr14) (.cons (by first | exact rr0 | exact rr1 | exact rr2 | exact rr3 | exact rr4 | exact rr5 | exact rr6 | exact rr7 | exact rr8 | exact rr9 | exact rr10 | exact rr11 | exact rr12 | exact rr13 | exact rr14) .nil)) rfl ?_
              rintro _ _ ⟨i, hi, hwt, hfst, rfl, rfl⟩
              obtain ⟨hwg, hwd⟩ := want_get hwt
              have hmi := hT.mem _ (List.getElem_mem hi)
              have hwx := g_byte (T := 5) (k := .u8) hw l[i].who
              have hful : (full l[i]).c = 1 + (ecI 5 .u8).g ws l[i].who := by unfold full; rw [if_pos hmi.2.2.2]; exact hmi.2.2.1
              have hlen := hT.len
              simp only [List.length_set] at hwg
              have hgb : (ecB 4).g (wl.set 0 true) l[i].who = true := hwd
              obtain ⟨hT2, hs2⟩ := hT.step hi hfst
              refine o_val (v_move rfl) rfl ?_
              refine o_val (v_extract rfl rfl) rfl ?_
              refine o_val (v_extract rfl rfl) rfl ?_
              refine o_val (v_extract rfl rfl) rfl ?_
              refine o_val (v_assign rfl) rfl ?_
              refine o_val (v_assign rfl) rfl ?_
              refine o_val (v_assign rfl) rfl ?_
              refine o_nil ?_
              refine thn_n ?_
              refine w_seq ?_
              refine w_seq ?_
              refine w_region ?_
              refine o_val (v_move rfl) rfl ?_
              refine o_val (v_to (v := .bool false) (v_not rfl) rfl) rfl ?_
              refine o_val (v_move rfl) rfl ?_
              refine o_want rfl ?_
              refine o_val (v_move rfl) rfl ?_
              refine o_want rfl ?_
              refine o_val (v_move rfl) rfl ?_
              refine o_want rfl ?_
              refine o_val (r_index (c := (ecB 4)) V.sl26 rfl rfl (by first | exact own mm0 | exact own mm1 | exact own mm2 | exact own mm3 | exact own mm4 | exact own mm5 | exact own mm6 | exact own mm7 | exact own mm8 | exact own mm9 | exact own mm10 | exact own mm11 | exact rdH (fun _ _ h => h) mm0 | exact rdH (fun _ _ h => h) mm1 | exact rdH (fun _ _ h => h) mm2 | exact rdH (fun _ _ h => h) mm3 | exact rdH (fun _ _ h => h) mm4 | exact rdH (fun _ _ h => h) mm5 | exact rdH (fun _ _ h => h) mm6 | exact rdH (fun _ _ h => h) mm7 | exact rdH (fun _ _ h => h) mm8 | exact rdH (fun _ _ h => h) mm9 | exact rdH (fun _ _ h => h) mm10 | exact rdH (fun _ _ h => h) mm11 | exact deepH mm0 | exact deepH mm1 | exact deepH mm2 | exact deepH mm3 | exact deepH mm4 | exact deepH mm5 | exact deepH mm6 | exact deepH mm7 | exact deepH mm8 | exact deepH mm9 | exact deepH mm10 | exact deepH mm11) (by omega) (by omega)) rfl ?_
              refine o_want rfl ?_
              refine o_val (r_load (c := (ecB 4)) V.s4 rfl (by first | exact own mm0 | exact own mm1 | exact own mm2 | exact own mm3 | exact own mm4 | exact own mm5 | exact own mm6 | exact own mm7 | exact own mm8 | exact own mm9 | exact own mm10 | exact own mm11 | exact rdH (fun _ _ h => h) mm0 | exact rdH (fun _ _ h => h) mm1 | exact rdH (fun _ _ h => h) mm2 | exact rdH (fun _ _ h => h) mm3 | exact rdH (fun _ _ h => h) mm4 | exact rdH (fun _ _ h => h) mm5 | exact rdH (fun _ _ h => h) mm6 | exact rdH (fun _ _ h => h) mm7 | exact rdH (fun _ _ h => h) mm8 | exact rdH (fun _ _ h => h) mm9 | exact rdH (fun _ _ h => h) mm10 | exact rdH (fun _ _ h => h) mm11 | exact deepH mm0 | exact deepH mm1 | exact deepH mm2 | exact deepH mm3 | exact deepH mm4 | exact deepH mm5 | exact deepH mm6 | exact deepH mm7 | exact deepH mm8 | exact deepH mm9 | exact deepH mm10 | exact deepH mm11) (by omega) (by omega) rfl rfl) rfl ?_
              rw [hgb]
              refine o_want rfl ?_
              refine o_val (v_to (v := .bool false) (v_not rfl) rfl) rfl ?_
              refine o_val (v_pickF rfl rfl) rfl ?_
              refine o_val (v_move rfl) rfl ?_
              refine o_want rfl ?_
              refine o_val (v_move rfl) rfl ?_
              refine o_want rfl ?_
              refine o_val (v_move rfl) rfl ?_
              refine o_want rfl ?_
              refine o_val (v_move rfl) rfl ?_
              refine o_want rfl ?_
              refine o_val (r_index (c := (ecI 5 .u8)) V.sl22 rfl rfl (by first | exact own mm0 | exact own mm1 | exact own mm2 | exact own mm3 | exact own mm4 | exact own mm5 | exact own mm6 | exact own mm7 | exact own mm8 | exact own mm9 | exact own mm10 | exact own mm11 | exact rdH (fun _ _ h => h) mm0 | exact rdH (fun _ _ h => h) mm1 | exact rdH (fun _ _ h => h) mm2 | exact rdH (fun _ _ h => h) mm3 | exact rdH (fun _ _ h => h) mm4 | exact rdH (fun _ _ h => h) mm5 | exact rdH (fun _ _ h => h) mm6 | exact rdH (fun _ _ h => h) mm7 | exact rdH (fun _ _ h => h) mm8 | exact rdH (fun _ _ h => h) mm9 | exact rdH (fun _ _ h => h) mm10 | exact rdH (fun _ _ h => h) mm11 | exact deepH mm0 | exact deepH mm1 | exact deepH mm2 | exact deepH mm3 | exact deepH mm4 | exact deepH mm5 | exact deepH mm6 | exact deepH mm7 | exact deepH mm8 | exact deepH mm9 | exact deepH mm10 | exact deepH mm11) (by omega) (by omega)) rfl ?_
              refine o_want rfl ?_
              refine o_val (r_load (c := (ecI 5 .u8)) V.s5 rfl (by first | exact own mm0 | exact own mm1 | exact own mm2 | exact own mm3 | exact own mm4 | exact own mm5 | exact own mm6 | exact own mm7 | exact own mm8 | exact own mm9 | exact own mm10 | exact own mm11 | exact rdH (fun _ _ h => h) mm0 | exact rdH (fun _ _ h => h) mm1 | exact rdH (fun _ _ h => h) mm2 | exact rdH (fun _ _ h => h) mm3 | exact rdH (fun _ _ h => h) mm4 | exact rdH (fun _ _ h => h) mm5 | exact rdH (fun _ _ h => h) mm6 | exact rdH (fun _ _ h => h) mm7 | exact rdH (fun _ _ h => h) mm8 | exact rdH (fun _ _ h => h) mm9 | exact rdH (fun _ _ h => h) mm10 | exact rdH (fun _ _ h => h) mm11 | exact deepH mm0 | exact deepH mm1 | exact deepH mm2 | exact deepH mm3 | exact deepH mm4 | exact deepH mm5 | exact deepH mm6 | exact deepH mm7 | exact deepH mm8 | exact deepH mm9 | exact deepH mm10 | exact deepH mm11) (by omega) (by omega) rfl rfl) rfl ?_
              refine o_want rfl ?_
              refine o_val (v_conv V.u5 Try.underlying3 rfl (wrapI (by omega) (by omega))) rfl ?_
              refine o_want rfl ?_
              refine o_val (v_add rfl rfl (wrapI (by omega) (by omega))) rfl ?_
              refine o_want rfl ?_
              refine o_val (v_F (v_neq rfl rfl) (fun h => h hful)) rfl ?_
              refine o_val (v_pickF rfl rfl) rfl ?_
              refine o_val (v_move rfl) rfl ?_
              refine o_want rfl ?_
              refine o_val (v_move rfl) rfl ?_
              refine o_want rfl ?_
              refine o_val (v_move rfl) rfl ?_
              refine o_want rfl ?_
              refine o_val (v_move rfl) rfl ?_
              refine o_want rfl ?_
              refine o_call (spend_ok b6 l[i].who (full l[i]).c (full l[i]) (l.drop (i + 1) ++ (l.take i).map zero) (by simp; omega) (full_who _) (by rw [hful]; omega) (Int.le_refl _) (by rw [hful]; omega)) V.b13  rfl (.cons (by first | exact rr0 | exact rr1 | exact rr2 | exact rr3 | exact rr4 | exact rr5 | exact rr6 | exact rr7 | exact rr8 | exact rr9 | exact rr10 | exact rr11 | exact rr12 | exact rr13 | exact rr14) .nil) rfl ?_
              rintro _ _ ⟨rfl, rfl⟩
              rw [show spendL (full l[i]) (l.drop (i + 1) ++ (l.take i).map zero) (full l[i]).c = (l.drop (i + 1) ++ (l.take i).map zero) ++ [zero (full l[i])] from by unfold spendL; rw [if_neg (Int.lt_irrefl _)]]
              refine o_want rfl ?_
              refine o_val (v_to (v := .bool false) (v_not rfl) rfl) rfl ?_
              refine o_val (v_pickF rfl rfl) rfl ?_
              refine o_nil ?_
              refine thn_n ?_
              refine w_condF rfl ?_
              refine w_skip ?_
              refine thn_n ?_
              refine w_seq ?_
              refine w_region ?_
              refine o_val (v_move rfl) rfl ?_
              refine o_val (v_add rfl rfl (wrapI (by omega) (by omega))) rfl ?_
              refine o_val (v_assign rfl) rfl ?_
              refine o_nil ?_
              refine thn_n ?_
              refine w_join1 (fun (s2 : Nat) => [(0, .slice pw ws.length cw), (1, .slice pn wants.length cn), (5, .int .i64 (ws.length : Int)), (6, .pointer (some ⟨b6, 0, none⟩)), (8, .int .i64 (s2 : Int)), (9, .int .i64 (m : Int))]) (fun (s2 : Nat) => IsFair b6 ((l.drop (i + 1) ++ (l.take i).map zero) ++ [zero (full l[i])]) :: RdR (ecI 5 .u8) pw ws.length ws :: Deep 26 (Td.sl 4 .bool) pn wants.length wants :: F) (fun (s2 : Nat) => s2 = if l[i].who = 0 then 0 else s + 1) ?_ ?_
              ·
                refine w_seq ?_
                refine w_region ?_
                refine o_val (v_move rfl) rfl ?_
                refine o_val (v_eql rfl rfl) rfl ?_
                refine o_nil ?_
                refine thn_n ?_
                first | refine w_condD rfl (fun h120 => ?_) (fun h120 => ?_) | refine w_cond rfl (fun h120 => ?_) (fun h120 => ?_)
                ·
                  refine w_region ?_
                  refine o_val (v_assign rfl) rfl ?_
                  refine o_nil ?_
                  refine j1 (_) ?_ (.cons rfl (.cons rfl (.cons rfl (.cons rfl (.cons rfl (.cons rfl (.nil _))))))) (sub (.cons (by first | exact rr0 | exact rr1 | exact rr2 | exact rr3 | exact rr4 | exact rr5 | exact rr6 | exact rr7 | exact rr8 | exact rr9 | exact rr10 | exact rr11 | exact rr12 | exact rr13 | exact rr14) (.cons (by first | exact rr0 | exact rr1 | exact rr2 | exact rr3 | exact rr4 | exact rr5 | exact rr6 | exact rr7 | exact rr8 | exact rr9 | exact rr10 | exact rr11 | exact rr12 | exact rr13 | exact rr14) (.cons (by first | exact rr0 | exact rr1 | exact rr2 | exact rr3 | exact rr4 | exact rr5 | exact rr6 | exact rr7 | exact rr8 | exact rr9 | exact rr10 | exact rr11 | exact rr12 | exact rr13 | exact rr14) .nil))) (by first | exact dd0 | exact dd1 | exact dd2 | exact dd3 | exact dd4 | exact dd5 | exact dd6 | exact dd7 | exact dd8 | exact dd9 | exact dd10 | exact dd11 | exact dd12 | exact dd13 | exact dd14))
                  first | (rw [if_pos (by assumption)]) | (rw [if_neg (by assumption)])
                ·
                  refine w_skip ?_
                  refine j1 (_) ?_ (.cons rfl (.cons rfl (.cons rfl (.cons rfl (.cons rfl (.cons rfl (.nil _))))))) (sub (.cons (by first | exact rr0 | exact rr1 | exact rr2 | exact rr3 | exact rr4 | exact rr5 | exact rr6 | exact rr7 | exact rr8 | exact rr9 | exact rr10 | exact rr11 | exact rr12 | exact rr13 | exact rr14) (.cons (by first | exact rr0 | exact rr1 | exact rr2 | exact rr3 | exact rr4 | exact rr5 | exact rr6 | exact rr7 | exact rr8 | exact rr9 | exact rr10 | exact rr11 | exact rr12 | exact rr13 | exact rr14) (.cons (by first | exact rr0 | exact rr1 | exact rr2 | exact rr3 | exact rr4 | exact rr5 | exact rr6 | exact rr7 | exact rr8 | exact rr9 | exact rr10 | exact rr11 | exact rr12 | exact rr13 | exact rr14) .nil))) (by first | exact dd0 | exact dd1 | exact dd2 | exact dd3 | exact dd4 | exact dd5 | exact dd6 | exact dd7 | exact dd8 | exact dd9 | exact dd10 | exact dd11 | exact dd12 | exact dd13 | exact dd14))
                  first | (rw [if_pos (by assumption)]) | (rw [if_neg (by assumption)])
              ·
                intro s2
                rintro hs3
                rw [← hs3] at hT2 hs2
                refine w_seq ?_
                refine w_region ?_
                refine o_val (v_move rfl) rfl ?_
                refine o_val (v_move rfl) rfl ?_
                refine o_val (v_geq rfl rfl) rfl ?_
                refine o_nil ?_
                refine thn_n ?_
                first | refine w_condD rfl (fun h123 => ?_) (fun h123 => ?_) | refine w_cond rfl (fun h123 => ?_) (fun h123 => ?_)
                ·
                  exact absurd h123 (by omega)
                ·
                  refine w_skip ?_
                  refine blk_n ?_
                  refine thn_n ?_
                  refine w_region ?_
                  refine o_val (v_move rfl) rfl ?_
                  refine o_val (v_add rfl rfl (wrapI (by omega) (by omega))) rfl ?_
                  refine o_val (v_assign rfl) rfl ?_
                  refine o_nil ?_
                  refine j3 (_) (_) (m + 1) ?_ (.cons rfl (.cons rfl (.cons rfl (.cons rfl (.cons rfl (.cons rfl (.nil _))))))) (sub (.cons (by first | exact rr0 | exact rr1 | exact rr2 | exact rr3 | exact rr4 | exact rr5 | exact rr6 | exact rr7 | exact rr8 | exact rr9 | exact rr10 | exact rr11 | exact rr12 | exact rr13 | exact rr14) (.cons (by first | exact rr0 | exact rr1 | exact rr2 | exact rr3 | exact rr4 | exact rr5 | exact rr6 | exact rr7 | exact rr8 | exact rr9 | exact rr10 | exact rr11 | exact rr12 | exact rr13 | exact rr14) (.cons (by first | exact rr0 | exact rr1 | exact rr2 | exact rr3 | exact rr4 | exact rr5 | exact rr6 | exact rr7 | exact rr8 | exact rr9 | exact rr10 | exact rr11 | exact rr12 | exact rr13 | exact rr14) .nil))) (by first | exact dd0 | exact dd1 | exact dd2 | exact dd3 | exact dd4 | exact dd5 | exact dd6 | exact dd7 | exact dd8 | exact dd9 | exact dd10 | exact dd11 | exact dd12 | exact dd13 | exact dd14))
                  exact ⟨⟨hT2, by omega⟩, by omega⟩
          ·
            refine w_exit ?_
            refine thn_e ?_
            refine thn_e ?_
            refine blk_x ?_
            refine thn_n ?_
            refine w_seq ?_
            refine w_region ?_
            refine o_val (v_assign rfl) rfl ?_
            refine o_nil ?_
            refine thn_n ?_
            refine w_ret ?_
            exact ret_ok (G := [_, _]) (res1 rfl) ⟨rfl, rfl⟩ (sub (.cons (by first | exact rr0 | exact rr1 | exact rr2 | exact rr3 | exact rr4 | exact rr5 | exact rr6 | exact rr7 | exact rr8 | exact rr9 | exact rr10 | exact rr11 | exact rr12 | exact rr13 | exact rr14) (.cons (by first | exact rr0 | exact rr1 | exact rr2 | exact rr3 | exact rr4 | exact rr5 | exact rr6 | exact rr7 | exact rr8 | exact rr9 | exact rr10 | exact rr11 | exact rr12 | exact rr13 | exact rr14) .nil)) (by first | exact dd0 | exact dd1 | exact dd2 | exact dd3 | exact dd4 | exact dd5 | exact dd6 | exact dd7 | exact dd8 | exact dd9 | exact dd10 | exact dd11 | exact dd12 | exact dd13 | exact dd14))
end Go.Proofs.Ytpkemaglokbfiaa

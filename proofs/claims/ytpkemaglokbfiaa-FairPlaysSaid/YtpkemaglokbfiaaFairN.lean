/-
  Steps of the proof: walks of functions that the statement reaches; printed by a program of ours.
-/
import Derived.Test.YtpkemaglokbfiaaFairM
import Derived.Test.YtpkemaglokbfiaaFairFacts
namespace Go.Proofs.Ytpkemaglokbfiaa
open Go.Sl Go.FairP
set_option linter.unusedVariables false
set_option linter.unusedSimpArgs false

theorem deep_rdB {p : Option Addr} {l : List Bool} {w0 : World} {h : Hp} (hh : Deep 4 .bool p l.length l w0 h) : Rd p l.length 1 (bools l) w0 h := by
  have e := hh.1.2
  rw [show l.flatMap (Td.ec 4 .bool).e = bools l from bools_flat 4 l] at e
  exact e


set_option maxHeartbeats 16000000 in
set_option maxRecDepth 100000 in
theorem plays (ds : List (Td.Ty (.st (.seq (.int .i64) (.seq (.int .i64) (.seq (.int .i64) (.seq (.flt .f64) (.seq (.sl 4 .bool) .unit)))))))) (pd : Option Addr) (cd : Nat) : Ctr Try.prog 7 [.slice pd ds.length cd] [Deep 48 (.st (.seq (.int .i64) (.seq (.int .i64) (.seq (.int .i64) (.seq (.flt .f64) (.seq (.sl 4 .bool) .unit)))))) pd ds.length ds] (Ret fun v G => v = .bool true ∧ G = [Deep 48 (.st (.seq (.int .i64) (.seq (.int .i64) (.seq (.int .i64) (.seq (.flt .f64) (.seq (.sl 4 .bool) .unit)))))) pd ds.length ds]) := by
  refine spec_of [(0, _)] Try.func7 rfl Try.ntmps7 rfl rfl ?_
  intro w0 F
  refine w_seq ?_
  refine w_region ?_
  refine o_val (v_assign rfl) rfl ?_
  refine o_nil ?_
  refine thn_n ?_
  refine w_seq ?_
  refine w_seq ?_
  refine w_region ?_
  refine o_call (awake) V.b9  rfl .nil rfl ?_
  rintro _ _ ⟨rfl, rfl⟩
  refine o_val (v_to (v := .bool false) (v_not rfl) rfl) rfl ?_
  refine o_nil ?_
  refine thn_n ?_
  refine w_condF rfl ?_
  refine w_skip ?_
  refine thn_n ?_
  refine w_seq ?_
  refine w_seq ?_
  refine w_region ?_
  refine o_val (v_move rfl) rfl ?_
  refine o_val (v_len (ty' := 0) Try.underlying43 rfl) rfl ?_
  refine o_val (v_gtr rfl rfl) rfl ?_
  refine o_nil ?_
  refine thn_n ?_
  first | refine w_condD rfl (fun h20 => ?_) (fun h20 => ?_) | refine w_cond rfl (fun h20 => ?_) (fun h20 => ?_)
  ·
    refine w_seq ?_
    refine w_region ?_
    refine o_val (v_assign rfl) rfl ?_
    refine o_nil ?_
    refine thn_n ?_
    refine w_ret ?_
    refine (thn_r ?_)
    exact ret_ok (G := [_]) (res1 rfl) ⟨rfl, rfl⟩ (sub (.cons (by first | exact rr0 | exact rr1 | exact rr2 | exact rr3 | exact rr4 | exact rr5 | exact rr6 | exact rr7 | exact rr8 | exact rr9 | exact rr10 | exact rr11 | exact rr12 | exact rr13 | exact rr14) .nil) (by first | exact dd0 | exact dd1 | exact dd2 | exact dd3 | exact dd4 | exact dd5 | exact dd6 | exact dd7 | exact dd8 | exact dd9 | exact dd10 | exact dd11 | exact dd12 | exact dd13 | exact dd14))
  ·
    refine w_skip ?_
    refine thn_n ?_
    refine w_seq ?_
    refine w_region ?_
    refine o_call (new) V.b10  rfl .nil rfl ?_
    rintro _ _ ⟨bf, rfl, rfl⟩
    refine o_val (v_build V.pl46 V.z46 rfl (cs := [_, _, _]) rfl) rfl ?_
    refine o_box rfl (cs := [_, _, _]) rfl rfl ?_
    intro b23
    refine o_val (v_assign rfl) rfl ?_
    refine o_val (v_assign rfl) rfl ?_
    refine o_nil ?_
    refine thn_n ?_
    refine w_seq ?_
    refine w_seq ?_
    refine w_region ?_
    refine o_val (v_move rfl) rfl ?_
    refine o_val (v_to (v := .bool false) (v_eqnil Try.underlying24 rfl rfl) rfl) rfl ?_
    refine o_nil ?_
    refine thn_n ?_
    refine w_condF rfl ?_
    refine w_skip ?_
    refine thn_n ?_
    refine w_seq ?_
    refine w_seq ?_
    refine w_region ?_
    refine o_val (v_assign rfl) rfl ?_
    refine o_nil ?_
    refine thn_n ?_
    refine w_block ?_
    refine w_add0 (Row I3 none 0 0 []) (Row.nil _ _ _) ?_
    refine w_add0 (Row I3 none 0 0 []) (Row.nil _ _ _) ?_
    refine w_add0 (Row I3 none 0 0 []) (Row.nil _ _ _) ?_
    refine w_sub (fold' (.cons rr3 (.cons rr0 (.cons rr0 (.cons rr0 .nil)))) dd0 (fun w0 h hh => rf_close (l := []) rfl rfl rfl rfl hh)) ?_
    refine w_loop2 (fun (k : Nat) (m : List Mb) => [(0, .slice pd ds.length cd), (3, .pointer (some ⟨bf, 0, none⟩)), (4, .pointer (some ⟨b23, 0, none⟩)), (5, .int .i64 (k : Int))]) (fun (k : Nat) (m : List Mb) => IsFair bf m :: RF b23 m :: Deep 48 (.st (.seq (.int .i64) (.seq (.int .i64) (.seq (.int .i64) (.seq (.flt .f64) (.seq (.sl 4 .bool) .unit)))))) pd ds.length ds :: F) (fun (k : Nat) (m : List Mb) => Ok m k ∧ k ≤ ds.length) (fun (k : Nat) (m : List Mb) => ds.length - k) (i2 (0) ([]) ?_ (.cons rfl (.cons rfl (.cons rfl (.cons rfl (.nil _))))) (sub (.cons (by first | exact rr0 | exact rr1 | exact rr2 | exact rr3 | exact rr4 | exact rr5 | exact rr6 | exact rr7 | exact rr8 | exact rr9 | exact rr10 | exact rr11 | exact rr12 | exact rr13 | exact rr14) (.cons (by first | exact rr0 | exact rr1 | exact rr2 | exact rr3 | exact rr4 | exact rr5 | exact rr6 | exact rr7 | exact rr8 | exact rr9 | exact rr10 | exact rr11 | exact rr12 | exact rr13 | exact rr14) (.cons (by first | exact rr0 | exact rr1 | exact rr2 | exact rr3 | exact rr4 | exact rr5 | exact rr6 | exact rr7 | exact rr8 | exact rr9 | exact rr10 | exact rr11 | exact rr12 | exact rr13 | exact rr14) .nil))) (by first | exact dd0 | exact dd1 | exact dd2 | exact dd3 | exact dd4 | exact dd5 | exact dd6 | exact dd7 | exact dd8 | exact dd9 | exact dd10 | exact dd11 | exact dd12 | exact dd13 | exact dd14))) ?_
    ·
      exact ⟨⟨by simp, by simp⟩, by omega⟩
    intro k m
    rintro ⟨hOk, hk⟩
    refine w_seq ?_
    refine w_seq ?_
    refine w_region ?_
    refine o_val (v_move rfl) rfl ?_
    refine o_val (v_move rfl) rfl ?_
    refine o_val (v_len (ty' := 0) Try.underlying43 rfl) rfl ?_
    refine o_val (v_lss rfl rfl) rfl ?_
    refine o_nil ?_
    refine thn_n ?_
    first | refine w_condD rfl (fun h29 => ?_) (fun h29 => ?_) | refine w_cond rfl (fun h29 => ?_) (fun h29 => ?_)
    ·
      refine w_skip ?_
      refine thn_n ?_
      refine w_seq ?_
      refine w_block ?_
      refine w_seq ?_
      have hk2 : k < ds.length := by omega
      have hml := hOk.len
      refine w_holds (by first | exact mm0 | exact mm1 | exact mm2 | exact mm3 | exact mm4 | exact mm5 | exact mm6 | exact mm7 | exact mm8 | exact mm9 | exact mm10 | exact mm11 | exact mm12 | exact mm13 | exact mm14) (fun hD => ?_)
      have hDk := hD _ (List.getElem_mem hk2)
      have hgk := (Td.ec 48 (.st (.seq (.int .i64) (.seq (.int .i64) (.seq (.int .i64) (.seq (.flt .f64) (.seq (.sl 4 .bool) .unit))))))).g_nat hk2
      rw [← hgk] at hDk
      have hx : ((Td.ec 48 (.st (.seq (.int .i64) (.seq (.int .i64) (.seq (.int .i64) (.seq (.flt .f64) (.seq (.sl 4 .bool) .unit))))))).g ds (k : Int)).2.2.2.1 < 18446744073709551616 := by have := hDk.2.2.2.1; simp only [Td.Holds, Lit.wf, decide_eq_true_eq] at this; exact this
      refine w_region ?_
      refine o_val (v_move rfl) rfl ?_
      refine o_val (v_move rfl) rfl ?_
      refine o_val (r_index (c := (Td.ec 48 (.st (.seq (.int .i64) (.seq (.int .i64) (.seq (.int .i64) (.seq (.flt .f64) (.seq (.sl 4 .bool) .unit)))))))) V.sl43 rfl rfl (by first | exact own mm0 | exact own mm1 | exact own mm2 | exact own mm3 | exact own mm4 | exact own mm5 | exact own mm6 | exact own mm7 | exact own mm8 | exact own mm9 | exact own mm10 | exact own mm11 | exact deepH mm0 | exact deepH mm1 | exact deepH mm2 | exact deepH mm3 | exact deepH mm4 | exact deepH mm5 | exact deepH mm6 | exact deepH mm7 | exact deepH mm8 | exact deepH mm9 | exact deepH mm10 | exact deepH mm11) (by omega) (by omega)) rfl ?_
      refine o_val (r_loadA (c := (Td.ec 48 (.st (.seq (.int .i64) (.seq (.int .i64) (.seq (.int .i64) (.seq (.flt .f64) (.seq (.sl 4 .bool) .unit)))))))) V.a48 rfl (by first | exact own mm0 | exact own mm1 | exact own mm2 | exact own mm3 | exact own mm4 | exact own mm5 | exact own mm6 | exact own mm7 | exact own mm8 | exact own mm9 | exact own mm10 | exact own mm11 | exact deepH mm0 | exact deepH mm1 | exact deepH mm2 | exact deepH mm3 | exact deepH mm4 | exact deepH mm5 | exact deepH mm6 | exact deepH mm7 | exact deepH mm8 | exact deepH mm9 | exact deepH mm10 | exact deepH mm11) (by omega) (by omega) rfl) rfl ?_
      refine o_alloc V.z48 rfl ?_
      intro b6
      refine o_eff (v_storeAgg V.a48 rfl rfl (us := [_, _, _, _, _]) rfl rfl (by first | exact pp0 | exact pp1 | exact pp2 | exact pp3 | exact pp4 | exact pp5 | exact pp6 | exact pp7 | exact pp8 | exact pp9 | exact pp10 | exact pp11 | exact pp12 | exact pp13 | exact pp14) (by exact Nat.le_of_ble_eq_true rfl) rfl) ?_
      refine o_nil ?_
      refine thn_n ?_
      refine w_seq ?_
      refine w_seq ?_
      refine w_deep hDk.2.2.2.2.1 ?_
      clear hgk
      generalize ((Td.ec 48 (.st (.seq (.int .i64) (.seq (.int .i64) (.seq (.int .i64) (.seq (.flt .f64) (.seq (.sl 4 .bool) .unit))))))).g ds (k : Int)) = d at *
      refine w_region ?_
      refine o_val (v_fieldAddr V.f48_4 rfl) rfl ?_
      refine o_val (v_load V.s26 rfl (by first | exact mm0 | exact mm1 | exact mm2 | exact mm3 | exact mm4 | exact mm5 | exact mm6 | exact mm7 | exact mm8 | exact mm9 | exact mm10 | exact mm11 | exact mm12 | exact mm13 | exact mm14) rfl) rfl ?_
      refine o_val (v_len (ty' := 0) Try.underlying26 rfl) rfl ?_
      refine o_val (v_gtr rfl rfl) rfl ?_
      refine o_nil ?_
      refine thn_n ?_
      first | refine w_condD rfl (fun h39 => ?_) (fun h39 => ?_) | refine w_cond rfl (fun h39 => ?_) (fun h39 => ?_)
      ·
        refine w_seq ?_
        refine w_region ?_
        refine o_val (v_assign rfl) rfl ?_
        refine o_nil ?_
        refine thn_n ?_
        refine w_ret ?_
        refine (thn_r (blk_r (thn_r (thn_r (blk_r (thn_r ?_))))))
        exact ret_ok (G := [_]) (res1 rfl) ⟨rfl, rfl⟩ (sub (.cons (by first | exact rr0 | exact rr1 | exact rr2 | exact rr3 | exact rr4 | exact rr5 | exact rr6 | exact rr7 | exact rr8 | exact rr9 | exact rr10 | exact rr11 | exact rr12 | exact rr13 | exact rr14) .nil) (by first | exact dd0 | exact dd1 | exact dd2 | exact dd3 | exact dd4 | exact dd5 | exact dd6 | exact dd7 | exact dd8 | exact dd9 | exact dd10 | exact dd11 | exact dd12 | exact dd13 | exact dd14))
      ·
        refine w_skip ?_
        refine thn_n ?_
        refine w_seq ?_
        refine w_region ?_
        refine o_val (v_assign rfl) rfl ?_
        refine o_nil ?_
        refine thn_n ?_
        refine w_join1 (fun (m2 : List Mb) => [(0, .slice pd ds.length cd), (3, .pointer (some ⟨bf, 0, none⟩)), (4, .pointer (some ⟨b23, 0, none⟩)), (5, .int .i64 (k : Int)), (7, .bool true)]) (fun (m2 : List Mb) => IsFair bf m2 :: RF b23 m2 :: Deep 48 (.st (.seq (.int .i64) (.seq (.int .i64) (.seq (.int .i64) (.seq (.flt .f64) (.seq (.sl 4 .bool) .unit)))))) pd ds.length ds :: F) (fun (m2 : List Mb) => Ok m2 (k + 1)) ?_ ?_
        ·
          refine w_seq ?_
          refine w_region ?_
          refine o_val (v_fieldAddr V.f48_0 rfl) rfl ?_
          refine o_val (v_load V.s3 rfl (by first | exact mm0 | exact mm1 | exact mm2 | exact mm3 | exact mm4 | exact mm5 | exact mm6 | exact mm7 | exact mm8 | exact mm9 | exact mm10 | exact mm11 | exact mm12 | exact mm13 | exact mm14) rfl) rfl ?_
          refine o_nil ?_
          refine thn_n ?_
          refine w_block ?_
          refine w_join1 (fun (s : Bool) => [(0, .slice pd ds.length cd), (3, .pointer (some ⟨bf, 0, none⟩)), (4, .pointer (some ⟨b23, 0, none⟩)), (5, .int .i64 (k : Int)), (6, .pointer (some ⟨b6, 0, none⟩)), (7, .bool true), (41, .int .i64 d.1), (42, .bool s)]) (fun (s : Bool) => Deep 4 .bool d.2.2.2.2.1.p d.2.2.2.2.1.l.length d.2.2.2.2.1.l :: Cel b6 48 [.int .i64 d.1, .int .i64 d.2.1, .int .i64 d.2.2.1, .float .f64 d.2.2.2.1, .slice d.2.2.2.2.1.p d.2.2.2.2.1.l.length d.2.2.2.2.1.cap] :: IsFair bf m :: RF b23 m :: Deep 48 (.st (.seq (.int .i64) (.seq (.int .i64) (.seq (.int .i64) (.seq (.flt .f64) (.seq (.sl 4 .bool) .unit)))))) pd ds.length ds :: F) (fun (s : Bool) => True) ?_ ?_
          ·
            refine w_seq ?_
            refine w_region ?_
            refine o_val (v_eql rfl rfl) rfl ?_
            refine o_val (v_assign rfl) rfl ?_
            refine o_nil ?_
            refine thn_n ?_
            first | refine w_condD rfl (fun h42 => ?_) (fun h42 => ?_) | refine w_cond rfl (fun h42 => ?_) (fun h42 => ?_)
            ·
              refine w_skip ?_
              refine j1 (_) ?_ (.cons rfl (.cons rfl (.cons rfl (.cons rfl (.cons rfl (.cons rfl (.cons rfl (.cons rfl (.nil _))))))))) (sub (.cons (by first | exact rr0 | exact rr1 | exact rr2 | exact rr3 | exact rr4 | exact rr5 | exact rr6 | exact rr7 | exact rr8 | exact rr9 | exact rr10 | exact rr11 | exact rr12 | exact rr13 | exact rr14) (.cons (by first | exact rr0 | exact rr1 | exact rr2 | exact rr3 | exact rr4 | exact rr5 | exact rr6 | exact rr7 | exact rr8 | exact rr9 | exact rr10 | exact rr11 | exact rr12 | exact rr13 | exact rr14) (.cons (by first | exact rr0 | exact rr1 | exact rr2 | exact rr3 | exact rr4 | exact rr5 | exact rr6 | exact rr7 | exact rr8 | exact rr9 | exact rr10 | exact rr11 | exact rr12 | exact rr13 | exact rr14) (.cons (by first | exact rr0 | exact rr1 | exact rr2 | exact rr3 | exact rr4 | exact rr5 | exact rr6 | exact rr7 | exact rr8 | exact rr9 | exact rr10 | exact rr11 | exact rr12 | exact rr13 | exact rr14) (.cons (by first | exact rr0 | exact rr1 | exact rr2 | exact rr3 | exact rr4 | exact rr5 | exact rr6 | exact rr7 | exact rr8 | exact rr9 | exact rr10 | exact rr11 | exact rr12 | exact rr13 | exact rr14) .nil))))) (by first | exact dd0 | exact dd1 | exact dd2 | exact dd3 | exact dd4 | exact dd5 | exact dd6 | exact dd7 | exact dd8 | exact dd9 | exact dd10 | exact dd11 | exact dd12 | exact dd13 | exact dd14))
              trivial
            ·
              refine w_region ?_
              refine o_val (v_eql rfl rfl) rfl ?_
              refine o_val (v_assign rfl) rfl ?_
              refine o_nil ?_
              refine j1 (_) ?_ (.cons rfl (.cons rfl (.cons rfl (.cons rfl (.cons rfl (.cons rfl (.cons rfl (.cons rfl (.nil _))))))))) (sub (.cons (by first | exact rr0 | exact rr1 | exact rr2 | exact rr3 | exact rr4 | exact rr5 | exact rr6 | exact rr7 | exact rr8 | exact rr9 | exact rr10 | exact rr11 | exact rr12 | exact rr13 | exact rr14) (.cons (by first | exact rr0 | exact rr1 | exact rr2 | exact rr3 | exact rr4 | exact rr5 | exact rr6 | exact rr7 | exact rr8 | exact rr9 | exact rr10 | exact rr11 | exact rr12 | exact rr13 | exact rr14) (.cons (by first | exact rr0 | exact rr1 | exact rr2 | exact rr3 | exact rr4 | exact rr5 | exact rr6 | exact rr7 | exact rr8 | exact rr9 | exact rr10 | exact rr11 | exact rr12 | exact rr13 | exact rr14) (.cons (by first | exact rr0 | exact rr1 | exact rr2 | exact rr3 | exact rr4 | exact rr5 | exact rr6 | exact rr7 | exact rr8 | exact rr9 | exact rr10 | exact rr11 | exact rr12 | exact rr13 | exact rr14) (.cons (by first | exact rr0 | exact rr1 | exact rr2 | exact rr3 | exact rr4 | exact rr5 | exact rr6 | exact rr7 | exact rr8 | exact rr9 | exact rr10 | exact rr11 | exact rr12 | exact rr13 | exact rr14) .nil))))) (by first | exact dd0 | exact dd1 | exact dd2 | exact dd3 | exact dd4 | exact dd5 | exact dd6 | exact dd7 | exact dd8 | exact dd9 | exact dd10 | exact dd11 | exact dd12 | exact dd13 | exact dd14))
              trivial
          ·
            intro s
            rintro _
            first | refine w_condD rfl (fun h42 => ?_) (fun h42 => ?_) | refine w_cond rfl (fun h42 => ?_) (fun h42 => ?_)
            ·
              refine w_net [⟨[], [], [3], 0, 0⟩, ⟨[], [], [6], 0, 0⟩, ⟨[1], [1], [], 0, 0⟩, ⟨[], [], [6], 0, 0⟩, ⟨[3], [3], [], 0, 0⟩, ⟨[0, 1, 2, 3, 4], [0, 2, 4], [], 0, 0⟩, ⟨[], [], [4], 0, 0⟩, ⟨[], [], [6], 0, 0⟩, ⟨[7], [7], [], 0, 0⟩, ⟨[], [], [6], 0, 0⟩, ⟨[9], [9], [], 0, 0⟩, ⟨[0, 1, 2, 3, 4, 5, 6, 7, 8, 9, 10], [6, 8, 10], [], 0, 0⟩, ⟨[0, 1, 2, 3, 4, 5, 6, 7, 8, 9, 10, 11], [5, 11], [], 0, 0⟩, ⟨[0, 1, 2, 3, 4, 5, 6, 7, 8, 9, 10, 11, 12], [12], [], 0, 0⟩] [⟨fun y => Deep 4 .bool d.2.2.2.2.1.p d.2.2.2.2.1.l.length d.2.2.2.2.1.l, none, none, []⟩, ⟨fun y => Cel b6 48 [.int .i64 d.1, .int .i64 d.2.1, .int .i64 d.2.2.1, .float .f64 d.2.2.2.1, .slice d.2.2.2.2.1.p d.2.2.2.2.1.l.length d.2.2.2.2.1.cap], none, none, [2, 4, 8, 10]⟩, ⟨fun y => IsFair bf m, none, some 5, []⟩, ⟨fun y => RF b23 m, none, some 11, []⟩, ⟨fun y => Deep 48 (.st (.seq (.int .i64) (.seq (.int .i64) (.seq (.int .i64) (.seq (.flt .f64) (.seq (.sl 4 .bool) .unit)))))) pd ds.length ds, none, none, []⟩, ⟨fun y => IsFair bf (jList m d.2.1 d.2.2.2.1), some 5, none, []⟩, ⟨fun y => RF b23 (jList m d.2.1 d.2.2.2.1), some 11, none, []⟩] F V.mixed (by kernel_rfl) rfl (fun _ => .refl _) (locT_0 _ (locT_0 _ (locT_0 _ (locT_0 _ (locT_0 _ (locT_1 [0, 1, 2, 3, 4] rfl (by intro y y2 h; rfl) (locT_1 [0, 1, 2, 3, 4, 5, 6, 7, 8, 9, 10] rfl (by intro y y2 h; rfl) locT_nil))))))) ?_
              refine net_pure (fun y => [(3, _)]) (fun y => rfl) rfl rfl rfl (fun y hA L => st_v (v_move rfl) ⟨rfl, rfl⟩) (by intros; rfl) (by intro y y2 h; rfl) ?_
              refine net_pure (fun y => [(6, _)]) (fun y => rfl) rfl rfl rfl (fun y hA L => st_v (v_fieldAddr V.f48_1 rfl) ⟨rfl, rfl⟩) (by intros; rfl) (by intro y y2 h; rfl) ?_
              refine net_read (fun y => [Cel b6 48 [.int .i64 d.1, .int .i64 d.2.1, .int .i64 d.2.2.1, .float .f64 d.2.2.2.1, .slice d.2.2.2.2.1.p d.2.2.2.2.1.l.length d.2.2.2.2.1.cap]]) (fun y => [(46, _)]) (fun y => rfl) rfl (fun y => rfl) rfl (fun y FF hA => st_v (v_load V.s3 rfl (by first | exact mm0 | exact mm1 | exact mm2 | exact mm3 | exact mm4 | exact mm5 | exact mm6 | exact mm7 | exact mm8 | exact mm9 | exact mm10 | exact mm11 | exact mm12 | exact mm13 | exact mm14) rfl) ⟨rfl, rfl⟩) (by intros; rfl) (by intro y y2 h; rfl) ?_
              refine net_pure (fun y => [(6, _)]) (fun y => rfl) rfl rfl rfl (fun y hA L => st_v (v_fieldAddr V.f48_3 rfl) ⟨rfl, rfl⟩) (by intros; rfl) (by intro y y2 h; rfl) ?_
              refine net_read (fun y => [Cel b6 48 [.int .i64 d.1, .int .i64 d.2.1, .int .i64 d.2.2.1, .float .f64 d.2.2.2.1, .slice d.2.2.2.2.1.p d.2.2.2.2.1.l.length d.2.2.2.2.1.cap]]) (fun y => [(48, _)]) (fun y => rfl) rfl (fun y => rfl) rfl (fun y FF hA => st_v (v_load V.s30 rfl (by first | exact mm0 | exact mm1 | exact mm2 | exact mm3 | exact mm4 | exact mm5 | exact mm6 | exact mm7 | exact mm8 | exact mm9 | exact mm10 | exact mm11 | exact mm12 | exact mm13 | exact mm14) rfl) ⟨rfl, rfl⟩) (by intros; rfl) (by intro y y2 h; rfl) ?_
              refine net_eff (fun y => [IsFair bf m]) (fun y => []) (fun y => [IsFair bf (jList m d.2.1 d.2.2.2.1)]) (fun y => [(45, _), (47, _), (49, _)]) (fun y => rfl) (fun y => rfl) (fun y => rfl) (fun y => rfl) (fun y FF hA => st_callN (Post := [IsFair bf (jList m d.2.1 d.2.2.2.1)]) (p_join bf d.2.1 d.2.2.2.1 m (by omega) hx) V.b11 rfl (.cons (by first | exact rr0 | exact rr1 | exact rr2 | exact rr3 | exact rr4 | exact rr5 | exact rr6 | exact rr7 | exact rr8 | exact rr9 | exact rr10 | exact rr11 | exact rr12 | exact rr13 | exact rr14) .nil) (fun v G h => by rcases h with ⟨rfl, rfl⟩; exact ⟨rfl, .refl _⟩)) (by intros; rfl) (by intros; rfl) (by intro y y2 h; rfl) ?_
              refine net_pure (fun y => [(4, _)]) (fun y => rfl) rfl rfl rfl (fun y hA L => st_v (v_move rfl) ⟨rfl, rfl⟩) (by intros; rfl) (by intro y y2 h; rfl) ?_
              refine net_pure (fun y => [(6, _)]) (fun y => rfl) rfl rfl rfl (fun y hA L => st_v (v_fieldAddr V.f48_1 rfl) ⟨rfl, rfl⟩) (by intros; rfl) (by intro y y2 h; rfl) ?_
              refine net_read (fun y => [Cel b6 48 [.int .i64 d.1, .int .i64 d.2.1, .int .i64 d.2.2.1, .float .f64 d.2.2.2.1, .slice d.2.2.2.2.1.p d.2.2.2.2.1.l.length d.2.2.2.2.1.cap]]) (fun y => [(52, _)]) (fun y => rfl) rfl (fun y => rfl) rfl (fun y FF hA => st_v (v_load V.s3 rfl (by first | exact mm0 | exact mm1 | exact mm2 | exact mm3 | exact mm4 | exact mm5 | exact mm6 | exact mm7 | exact mm8 | exact mm9 | exact mm10 | exact mm11 | exact mm12 | exact mm13 | exact mm14) rfl) ⟨rfl, rfl⟩) (by intros; rfl) (by intro y y2 h; rfl) ?_
              refine net_pure (fun y => [(6, _)]) (fun y => rfl) rfl rfl rfl (fun y hA L => st_v (v_fieldAddr V.f48_3 rfl) ⟨rfl, rfl⟩) (by intros; rfl) (by intro y y2 h; rfl) ?_
              refine net_read (fun y => [Cel b6 48 [.int .i64 d.1, .int .i64 d.2.1, .int .i64 d.2.2.1, .float .f64 d.2.2.2.1, .slice d.2.2.2.2.1.p d.2.2.2.2.1.l.length d.2.2.2.2.1.cap]]) (fun y => [(54, _)]) (fun y => rfl) rfl (fun y => rfl) rfl (fun y FF hA => st_v (v_load V.s30 rfl (by first | exact mm0 | exact mm1 | exact mm2 | exact mm3 | exact mm4 | exact mm5 | exact mm6 | exact mm7 | exact mm8 | exact mm9 | exact mm10 | exact mm11 | exact mm12 | exact mm13 | exact mm14) rfl) ⟨rfl, rfl⟩) (by intros; rfl) (by intro y y2 h; rfl) ?_
              refine net_eff (fun y => [RF b23 m]) (fun y => []) (fun y => [RF b23 (jList m d.2.1 d.2.2.2.1)]) (fun y => [(51, _), (53, _), (55, _)]) (fun y => rfl) (fun y => rfl) (fun y => rfl) (fun y => rfl) (fun y FF hA => st_callN (Post := [RF b23 (jList m d.2.1 d.2.2.2.1)]) (r_join b23 d.2.1 d.2.2.2.1 m (by omega) hx) V.b19 rfl (.cons (by first | exact rr0 | exact rr1 | exact rr2 | exact rr3 | exact rr4 | exact rr5 | exact rr6 | exact rr7 | exact rr8 | exact rr9 | exact rr10 | exact rr11 | exact rr12 | exact rr13 | exact rr14) .nil) (fun v G h => by rcases h with ⟨rfl, rfl⟩; exact ⟨rfl, .refl _⟩)) (by intros; rfl) (by intros; rfl) (by intro y y2 h; rfl) ?_
              refine net_pure (fun y => [(50, _), (56, _)]) (fun y => rfl) rfl rfl rfl (fun y hA L => st_v (v_T (v_eql rfl rfl) rfl) ⟨rfl, rfl⟩) (by intros; rfl) (by intro y y2 h; rfl) ?_
              refine net_pure (fun y => [(57, _)]) (fun y => rfl) rfl rfl rfl (fun y hA L => st_v (v_assign rfl) ⟨rfl, rfl⟩) (by intros; rfl) (by intro y y2 h; rfl) ?_
              refine net_nil ?_
              intro y hA
              clear hA
              show blk _ _ _ _ (Deep 4 .bool d.2.2.2.2.1.p d.2.2.2.2.1.l.length d.2.2.2.2.1.l :: Cel b6 48 [.int .i64 d.1, .int .i64 d.2.1, .int .i64 d.2.2.1, .float .f64 d.2.2.2.1, .slice d.2.2.2.2.1.p d.2.2.2.2.1.l.length d.2.2.2.2.1.cap] :: Deep 48 (.st (.seq (.int .i64) (.seq (.int .i64) (.seq (.int .i64) (.seq (.flt .f64) (.seq (.sl 4 .bool) .unit)))))) pd ds.length ds :: IsFair bf (jList m d.2.1 d.2.2.2.1) :: RF b23 (jList m d.2.1 d.2.2.2.1) :: F)
              refine blk_n ?_
              refine j1 (_) ?_ (.cons rfl (.cons rfl (.cons rfl (.cons rfl (.cons rfl (.nil _)))))) (sub (.cons (by first | exact rr0 | exact rr1 | exact rr2 | exact rr3 | exact rr4 | exact rr5 | exact rr6 | exact rr7 | exact rr8 | exact rr9 | exact rr10 | exact rr11 | exact rr12 | exact rr13 | exact rr14) (.cons (by first | exact rr0 | exact rr1 | exact rr2 | exact rr3 | exact rr4 | exact rr5 | exact rr6 | exact rr7 | exact rr8 | exact rr9 | exact rr10 | exact rr11 | exact rr12 | exact rr13 | exact rr14) (.cons (by first | exact rr0 | exact rr1 | exact rr2 | exact rr3 | exact rr4 | exact rr5 | exact rr6 | exact rr7 | exact rr8 | exact rr9 | exact rr10 | exact rr11 | exact rr12 | exact rr13 | exact rr14) .nil))) (by first | exact dd0 | exact dd1 | exact dd2 | exact dd3 | exact dd4 | exact dd5 | exact dd6 | exact dd7 | exact dd8 | exact dd9 | exact dd10 | exact dd11 | exact dd12 | exact dd13 | exact dd14))
              first | exact hOk.join _ _ | exact (hOk.leave _).mono (by omega) | exact (hOk.next _).mono (by omega) | exact (hOk.spend _ _).mono (by omega) | exact hOk.mono (by omega)
            ·
              refine w_seq ?_
              refine w_region ?_
              refine o_val (v_eql rfl rfl) rfl ?_
              refine o_val (v_assign rfl) rfl ?_
              refine o_nil ?_
              refine thn_n ?_
              first | refine w_condD rfl (fun h58 => ?_) (fun h58 => ?_) | refine w_cond rfl (fun h58 => ?_) (fun h58 => ?_)
              ·
                refine w_net [⟨[], [], [3], 0, 0⟩, ⟨[], [], [6], 0, 0⟩, ⟨[1], [1], [], 0, 0⟩, ⟨[0, 1, 2], [0, 2], [], 0, 0⟩, ⟨[], [], [4], 0, 0⟩, ⟨[], [], [6], 0, 0⟩, ⟨[5], [5], [], 0, 0⟩, ⟨[0, 1, 2, 3, 4, 5, 6], [4, 6], [], 0, 0⟩, ⟨[0, 1, 2, 3, 4, 5, 6, 7], [3, 7], [], 0, 0⟩, ⟨[0, 1, 2, 3, 4, 5, 6, 7, 8], [8], [], 0, 0⟩] [⟨fun y => Deep 4 .bool d.2.2.2.2.1.p d.2.2.2.2.1.l.length d.2.2.2.2.1.l, none, none, []⟩, ⟨fun y => Cel b6 48 [.int .i64 d.1, .int .i64 d.2.1, .int .i64 d.2.2.1, .float .f64 d.2.2.2.1, .slice d.2.2.2.2.1.p d.2.2.2.2.1.l.length d.2.2.2.2.1.cap], none, none, [2, 6]⟩, ⟨fun y => IsFair bf m, none, some 3, []⟩, ⟨fun y => RF b23 m, none, some 7, []⟩, ⟨fun y => Deep 48 (.st (.seq (.int .i64) (.seq (.int .i64) (.seq (.int .i64) (.seq (.flt .f64) (.seq (.sl 4 .bool) .unit)))))) pd ds.length ds, none, none, []⟩, ⟨fun y => IsFair bf (lList m d.2.1), some 3, none, []⟩, ⟨fun y => RF b23 (lList m d.2.1), some 7, none, []⟩] F V.mixed (by kernel_rfl) rfl (fun _ => .refl _) (locT_0 _ (locT_0 _ (locT_0 _ (locT_0 _ (locT_0 _ (locT_1 [0, 1, 2] rfl (by intro y y2 h; rfl) (locT_1 [0, 1, 2, 3, 4, 5, 6] rfl (by intro y y2 h; rfl) locT_nil))))))) ?_
                refine net_pure (fun y => [(3, _)]) (fun y => rfl) rfl rfl rfl (fun y hA L => st_v (v_move rfl) ⟨rfl, rfl⟩) (by intros; rfl) (by intro y y2 h; rfl) ?_
                refine net_pure (fun y => [(6, _)]) (fun y => rfl) rfl rfl rfl (fun y hA L => st_v (v_fieldAddr V.f48_1 rfl) ⟨rfl, rfl⟩) (by intros; rfl) (by intro y y2 h; rfl) ?_
                refine net_read (fun y => [Cel b6 48 [.int .i64 d.1, .int .i64 d.2.1, .int .i64 d.2.2.1, .float .f64 d.2.2.2.1, .slice d.2.2.2.2.1.p d.2.2.2.2.1.l.length d.2.2.2.2.1.cap]]) (fun y => [(61, _)]) (fun y => rfl) rfl (fun y => rfl) rfl (fun y FF hA => st_v (v_load V.s3 rfl (by first | exact mm0 | exact mm1 | exact mm2 | exact mm3 | exact mm4 | exact mm5 | exact mm6 | exact mm7 | exact mm8 | exact mm9 | exact mm10 | exact mm11 | exact mm12 | exact mm13 | exact mm14) rfl) ⟨rfl, rfl⟩) (by intros; rfl) (by intro y y2 h; rfl) ?_
                refine net_eff (fun y => [IsFair bf m]) (fun y => []) (fun y => [IsFair bf (lList m d.2.1)]) (fun y => [(60, _), (62, _)]) (fun y => rfl) (fun y => rfl) (fun y => rfl) (fun y => rfl) (fun y FF hA => st_callN (Post := [IsFair bf (lList m d.2.1)]) (p_leave bf d.2.1 m (by omega)) V.b16 rfl (.cons (by first | exact rr0 | exact rr1 | exact rr2 | exact rr3 | exact rr4 | exact rr5 | exact rr6 | exact rr7 | exact rr8 | exact rr9 | exact rr10 | exact rr11 | exact rr12 | exact rr13 | exact rr14) .nil) (fun v G h => by rcases h with ⟨rfl, rfl⟩; exact ⟨rfl, .refl _⟩)) (by intros; rfl) (by intros; rfl) (by intro y y2 h; rfl) ?_
                refine net_pure (fun y => [(4, _)]) (fun y => rfl) rfl rfl rfl (fun y hA L => st_v (v_move rfl) ⟨rfl, rfl⟩) (by intros; rfl) (by intro y y2 h; rfl) ?_
                refine net_pure (fun y => [(6, _)]) (fun y => rfl) rfl rfl rfl (fun y hA L => st_v (v_fieldAddr V.f48_1 rfl) ⟨rfl, rfl⟩) (by intros; rfl) (by intro y y2 h; rfl) ?_
                refine net_read (fun y => [Cel b6 48 [.int .i64 d.1, .int .i64 d.2.1, .int .i64 d.2.2.1, .float .f64 d.2.2.2.1, .slice d.2.2.2.2.1.p d.2.2.2.2.1.l.length d.2.2.2.2.1.cap]]) (fun y => [(65, _)]) (fun y => rfl) rfl (fun y => rfl) rfl (fun y FF hA => st_v (v_load V.s3 rfl (by first | exact mm0 | exact mm1 | exact mm2 | exact mm3 | exact mm4 | exact mm5 | exact mm6 | exact mm7 | exact mm8 | exact mm9 | exact mm10 | exact mm11 | exact mm12 | exact mm13 | exact mm14) rfl) ⟨rfl, rfl⟩) (by intros; rfl) (by intro y y2 h; rfl) ?_
                refine net_eff (fun y => [RF b23 m]) (fun y => []) (fun y => [RF b23 (lList m d.2.1)]) (fun y => [(64, _), (66, _)]) (fun y => rfl) (fun y => rfl) (fun y => rfl) (fun y => rfl) (fun y FF hA => st_callN (Post := [RF b23 (lList m d.2.1)]) (r_leave b23 d.2.1 m (by omega)) V.b20 rfl (.cons (by first | exact rr0 | exact rr1 | exact rr2 | exact rr3 | exact rr4 | exact rr5 | exact rr6 | exact rr7 | exact rr8 | exact rr9 | exact rr10 | exact rr11 | exact rr12 | exact rr13 | exact rr14) .nil) (fun v G h => by rcases h with ⟨rfl, rfl⟩; exact ⟨rfl, .refl _⟩)) (by intros; rfl) (by intros; rfl) (by intro y y2 h; rfl) ?_
                refine net_pure (fun y => [(63, _), (67, _)]) (fun y => rfl) rfl rfl rfl (fun y hA L => st_v (v_to (v := .bool true) (v_eqb Try.underlying4 rfl rfl) (by simp)) ⟨rfl, rfl⟩) (by intros; rfl) (by intro y y2 h; rfl) ?_
                refine net_pure (fun y => [(68, _)]) (fun y => rfl) rfl rfl rfl (fun y hA L => st_v (v_assign rfl) ⟨rfl, rfl⟩) (by intros; rfl) (by intro y y2 h; rfl) ?_
                refine net_nil ?_
                intro y hA
                clear hA
                show blk _ _ _ _ (Deep 4 .bool d.2.2.2.2.1.p d.2.2.2.2.1.l.length d.2.2.2.2.1.l :: Cel b6 48 [.int .i64 d.1, .int .i64 d.2.1, .int .i64 d.2.2.1, .float .f64 d.2.2.2.1, .slice d.2.2.2.2.1.p d.2.2.2.2.1.l.length d.2.2.2.2.1.cap] :: Deep 48 (.st (.seq (.int .i64) (.seq (.int .i64) (.seq (.int .i64) (.seq (.flt .f64) (.seq (.sl 4 .bool) .unit)))))) pd ds.length ds :: IsFair bf (lList m d.2.1) :: RF b23 (lList m d.2.1) :: F)
                refine blk_n ?_
                refine j1 (_) ?_ (.cons rfl (.cons rfl (.cons rfl (.cons rfl (.cons rfl (.nil _)))))) (sub (.cons (by first | exact rr0 | exact rr1 | exact rr2 | exact rr3 | exact rr4 | exact rr5 | exact rr6 | exact rr7 | exact rr8 | exact rr9 | exact rr10 | exact rr11 | exact rr12 | exact rr13 | exact rr14) (.cons (by first | exact rr0 | exact rr1 | exact rr2 | exact rr3 | exact rr4 | exact rr5 | exact rr6 | exact rr7 | exact rr8 | exact rr9 | exact rr10 | exact rr11 | exact rr12 | exact rr13 | exact rr14) (.cons (by first | exact rr0 | exact rr1 | exact rr2 | exact rr3 | exact rr4 | exact rr5 | exact rr6 | exact rr7 | exact rr8 | exact rr9 | exact rr10 | exact rr11 | exact rr12 | exact rr13 | exact rr14) .nil))) (by first | exact dd0 | exact dd1 | exact dd2 | exact dd3 | exact dd4 | exact dd5 | exact dd6 | exact dd7 | exact dd8 | exact dd9 | exact dd10 | exact dd11 | exact dd12 | exact dd13 | exact dd14))
                first | exact hOk.join _ _ | exact (hOk.leave _).mono (by omega) | exact (hOk.next _).mono (by omega) | exact (hOk.spend _ _).mono (by omega) | exact hOk.mono (by omega)
              ·
                refine w_join1 (fun (s : Bool) => [(0, .slice pd ds.length cd), (3, .pointer (some ⟨bf, 0, none⟩)), (4, .pointer (some ⟨b23, 0, none⟩)), (5, .int .i64 (k : Int)), (6, .pointer (some ⟨b6, 0, none⟩)), (7, .bool true), (41, .int .i64 d.1), (69, .bool s)]) (fun (s : Bool) => Deep 4 .bool d.2.2.2.2.1.p d.2.2.2.2.1.l.length d.2.2.2.2.1.l :: Cel b6 48 [.int .i64 d.1, .int .i64 d.2.1, .int .i64 d.2.2.1, .float .f64 d.2.2.2.1, .slice d.2.2.2.2.1.p d.2.2.2.2.1.l.length d.2.2.2.2.1.cap] :: IsFair bf m :: RF b23 m :: Deep 48 (.st (.seq (.int .i64) (.seq (.int .i64) (.seq (.int .i64) (.seq (.flt .f64) (.seq (.sl 4 .bool) .unit)))))) pd ds.length ds :: F) (fun (s : Bool) => True) ?_ ?_
                ·
                  refine w_seq ?_
                  refine w_region ?_
                  refine o_val (v_eql rfl rfl) rfl ?_
                  refine o_val (v_assign rfl) rfl ?_
                  refine o_nil ?_
                  refine thn_n ?_
                  first | refine w_condD rfl (fun h69 => ?_) (fun h69 => ?_) | refine w_cond rfl (fun h69 => ?_) (fun h69 => ?_)
                  ·
                    refine w_skip ?_
                    refine j1 (_) ?_ (.cons rfl (.cons rfl (.cons rfl (.cons rfl (.cons rfl (.cons rfl (.cons rfl (.cons rfl (.nil _))))))))) (sub (.cons (by first | exact rr0 | exact rr1 | exact rr2 | exact rr3 | exact rr4 | exact rr5 | exact rr6 | exact rr7 | exact rr8 | exact rr9 | exact rr10 | exact rr11 | exact rr12 | exact rr13 | exact rr14) (.cons (by first | exact rr0 | exact rr1 | exact rr2 | exact rr3 | exact rr4 | exact rr5 | exact rr6 | exact rr7 | exact rr8 | exact rr9 | exact rr10 | exact rr11 | exact rr12 | exact rr13 | exact rr14) (.cons (by first | exact rr0 | exact rr1 | exact rr2 | exact rr3 | exact rr4 | exact rr5 | exact rr6 | exact rr7 | exact rr8 | exact rr9 | exact rr10 | exact rr11 | exact rr12 | exact rr13 | exact rr14) (.cons (by first | exact rr0 | exact rr1 | exact rr2 | exact rr3 | exact rr4 | exact rr5 | exact rr6 | exact rr7 | exact rr8 | exact rr9 | exact rr10 | exact rr11 | exact rr12 | exact rr13 | exact rr14) (.cons (by first | exact rr0 | exact rr1 | exact rr2 | exact rr3 | exact rr4 | exact rr5 | exact rr6 | exact rr7 | exact rr8 | exact rr9 | exact rr10 | exact rr11 | exact rr12 | exact rr13 | exact rr14) .nil))))) (by first | exact dd0 | exact dd1 | exact dd2 | exact dd3 | exact dd4 | exact dd5 | exact dd6 | exact dd7 | exact dd8 | exact dd9 | exact dd10 | exact dd11 | exact dd12 | exact dd13 | exact dd14))
                    trivial
                  ·
                    refine w_seq ?_
                    refine w_region ?_
                    refine o_val (v_eql rfl rfl) rfl ?_
                    refine o_val (v_assign rfl) rfl ?_
                    refine o_nil ?_
                    refine thn_n ?_
                    first | refine w_condD rfl (fun h69 => ?_) (fun h69 => ?_) | refine w_cond rfl (fun h69 => ?_) (fun h69 => ?_)
                    ·
                      refine w_skip ?_
                      refine j1 (_) ?_ (.cons rfl (.cons rfl (.cons rfl (.cons rfl (.cons rfl (.cons rfl (.cons rfl (.cons rfl (.nil _))))))))) (sub (.cons (by first | exact rr0 | exact rr1 | exact rr2 | exact rr3 | exact rr4 | exact rr5 | exact rr6 | exact rr7 | exact rr8 | exact rr9 | exact rr10 | exact rr11 | exact rr12 | exact rr13 | exact rr14) (.cons (by first | exact rr0 | exact rr1 | exact rr2 | exact rr3 | exact rr4 | exact rr5 | exact rr6 | exact rr7 | exact rr8 | exact rr9 | exact rr10 | exact rr11 | exact rr12 | exact rr13 | exact rr14) (.cons (by first | exact rr0 | exact rr1 | exact rr2 | exact rr3 | exact rr4 | exact rr5 | exact rr6 | exact rr7 | exact rr8 | exact rr9 | exact rr10 | exact rr11 | exact rr12 | exact rr13 | exact rr14) (.cons (by first | exact rr0 | exact rr1 | exact rr2 | exact rr3 | exact rr4 | exact rr5 | exact rr6 | exact rr7 | exact rr8 | exact rr9 | exact rr10 | exact rr11 | exact rr12 | exact rr13 | exact rr14) (.cons (by first | exact rr0 | exact rr1 | exact rr2 | exact rr3 | exact rr4 | exact rr5 | exact rr6 | exact rr7 | exact rr8 | exact rr9 | exact rr10 | exact rr11 | exact rr12 | exact rr13 | exact rr14) .nil))))) (by first | exact dd0 | exact dd1 | exact dd2 | exact dd3 | exact dd4 | exact dd5 | exact dd6 | exact dd7 | exact dd8 | exact dd9 | exact dd10 | exact dd11 | exact dd12 | exact dd13 | exact dd14))
                      trivial
                    ·
                      refine w_region ?_
                      refine o_val (v_eql rfl rfl) rfl ?_
                      refine o_val (v_assign rfl) rfl ?_
                      refine o_nil ?_
                      refine j1 (_) ?_ (.cons rfl (.cons rfl (.cons rfl (.cons rfl (.cons rfl (.cons rfl (.cons rfl (.cons rfl (.nil _))))))))) (sub (.cons (by first | exact rr0 | exact rr1 | exact rr2 | exact rr3 | exact rr4 | exact rr5 | exact rr6 | exact rr7 | exact rr8 | exact rr9 | exact rr10 | exact rr11 | exact rr12 | exact rr13 | exact rr14) (.cons (by first | exact rr0 | exact rr1 | exact rr2 | exact rr3 | exact rr4 | exact rr5 | exact rr6 | exact rr7 | exact rr8 | exact rr9 | exact rr10 | exact rr11 | exact rr12 | exact rr13 | exact rr14) (.cons (by first | exact rr0 | exact rr1 | exact rr2 | exact rr3 | exact rr4 | exact rr5 | exact rr6 | exact rr7 | exact rr8 | exact rr9 | exact rr10 | exact rr11 | exact rr12 | exact rr13 | exact rr14) (.cons (by first | exact rr0 | exact rr1 | exact rr2 | exact rr3 | exact rr4 | exact rr5 | exact rr6 | exact rr7 | exact rr8 | exact rr9 | exact rr10 | exact rr11 | exact rr12 | exact rr13 | exact rr14) (.cons (by first | exact rr0 | exact rr1 | exact rr2 | exact rr3 | exact rr4 | exact rr5 | exact rr6 | exact rr7 | exact rr8 | exact rr9 | exact rr10 | exact rr11 | exact rr12 | exact rr13 | exact rr14) .nil))))) (by first | exact dd0 | exact dd1 | exact dd2 | exact dd3 | exact dd4 | exact dd5 | exact dd6 | exact dd7 | exact dd8 | exact dd9 | exact dd10 | exact dd11 | exact dd12 | exact dd13 | exact dd14))
                      trivial
                ·
                  intro s
                  rintro _
                  first | refine w_condD rfl (fun h69 => ?_) (fun h69 => ?_) | refine w_cond rfl (fun h69 => ?_) (fun h69 => ?_)
                  ·
                    refine w_seq ?_
                    refine w_region ?_
                    refine o_val (v_move rfl) rfl ?_
                    refine o_val (v_fieldAddr V.f48_4 rfl) rfl ?_
                    refine o_val (v_load V.s26 rfl (by first | exact mm0 | exact mm1 | exact mm2 | exact mm3 | exact mm4 | exact mm5 | exact mm6 | exact mm7 | exact mm8 | exact mm9 | exact mm10 | exact mm11 | exact mm12 | exact mm13 | exact mm14) rfl) rfl ?_
                    refine o_call (p_next bf m d.2.2.2.2.1.l d.2.2.2.2.1.p d.2.2.2.2.1.cap (Deep 4 .bool d.2.2.2.2.1.p d.2.2.2.2.1.l.length d.2.2.2.2.1.l) (fun _ _ h => deep_rdB h) (by omega) (fun x hx => (hOk.mem x hx).1)) V.b12  rfl (.cons (by first | exact rr0 | exact rr1 | exact rr2 | exact rr3 | exact rr4 | exact rr5 | exact rr6 | exact rr7 | exact rr8 | exact rr9 | exact rr10 | exact rr11 | exact rr12 | exact rr13 | exact rr14) (.cons (by first | exact rr0 | exact rr1 | exact rr2 | exact rr3 | exact rr4 | exact rr5 | exact rr6 | exact rr7 | exact rr8 | exact rr9 | exact rr10 | exact rr11 | exact rr12 | exact rr13 | exact rr14) .nil)) rfl ?_
                    rintro _ _ ⟨rfl, rfl⟩
                    refine o_val (v_move rfl) rfl ?_
                    refine o_val (v_extract rfl rfl) rfl ?_
                    refine o_val (v_extract rfl rfl) rfl ?_
                    refine o_val (v_extract rfl rfl) rfl ?_
                    refine o_val (v_assign rfl) rfl ?_
                    refine o_val (v_assign rfl) rfl ?_
                    refine o_val (v_assign rfl) rfl ?_
                    refine o_nil ?_
                    refine thn_n ?_
                    refine w_seq ?_
                    refine w_region ?_
                    refine o_val (v_move rfl) rfl ?_
                    refine o_val (v_fieldAddr V.f48_4 rfl) rfl ?_
                    refine o_val (v_load V.s26 rfl (by first | exact mm0 | exact mm1 | exact mm2 | exact mm3 | exact mm4 | exact mm5 | exact mm6 | exact mm7 | exact mm8 | exact mm9 | exact mm10 | exact mm11 | exact mm12 | exact mm13 | exact mm14) rfl) rfl ?_
                    refine o_call (r_next b23 m d.2.2.2.2.1.l d.2.2.2.2.1.p d.2.2.2.2.1.cap (Deep 4 .bool d.2.2.2.2.1.p d.2.2.2.2.1.l.length d.2.2.2.2.1.l) (fun _ _ h => h.1) (by omega) (fun x hx => by have := hOk.mem x hx; omega)) V.b21  rfl (.cons (by first | exact rr0 | exact rr1 | exact rr2 | exact rr3 | exact rr4 | exact rr5 | exact rr6 | exact rr7 | exact rr8 | exact rr9 | exact rr10 | exact rr11 | exact rr12 | exact rr13 | exact rr14) (.cons (by first | exact rr0 | exact rr1 | exact rr2 | exact rr3 | exact rr4 | exact rr5 | exact rr6 | exact rr7 | exact rr8 | exact rr9 | exact rr10 | exact rr11 | exact rr12 | exact rr13 | exact rr14) .nil)) rfl ?_
                    rintro _ _ ⟨rfl, rfl⟩
                    refine o_val (v_move rfl) rfl ?_
                    refine o_val (v_extract rfl rfl) rfl ?_
                    refine o_val (v_extract rfl rfl) rfl ?_
                    refine o_val (v_extract rfl rfl) rfl ?_
                    refine o_val (v_assign rfl) rfl ?_
                    refine o_val (v_assign rfl) rfl ?_
                    refine o_val (v_assign rfl) rfl ?_
                    refine o_nil ?_
                    refine thn_n ?_
                    refine w_region ?_
                    refine o_val (v_move rfl) rfl ?_
                    refine o_val (v_move rfl) rfl ?_
                    refine o_val (v_T (v_eql rfl rfl) rfl) rfl ?_
                    refine o_val (v_move rfl) rfl ?_
                    refine o_want rfl ?_
                    refine o_val (v_move rfl) rfl ?_
                    refine o_want rfl ?_
                    refine o_val (v_move rfl) rfl ?_
                    refine o_want rfl ?_
                    refine o_val (v_T (v_eql rfl rfl) rfl) rfl ?_
                    refine o_val (v_pickT rfl rfl) rfl ?_
                    refine o_val (v_move rfl) rfl ?_
                    refine o_want rfl ?_
                    refine o_val (v_move rfl) rfl ?_
                    refine o_want rfl ?_
                    refine o_val (v_move rfl) rfl ?_
                    refine o_want rfl ?_
                    refine o_val (v_to (v := .bool true) (v_eqb Try.underlying4 rfl rfl) (by simp)) rfl ?_
                    refine o_val (v_pickT rfl rfl) rfl ?_
                    refine o_val (v_assign rfl) rfl ?_
                    refine o_nil ?_
                    refine blk_n ?_
                    refine j1 (_) ?_ (.cons rfl (.cons rfl (.cons rfl (.cons rfl (.cons rfl (.nil _)))))) (sub (.cons (by first | exact rr0 | exact rr1 | exact rr2 | exact rr3 | exact rr4 | exact rr5 | exact rr6 | exact rr7 | exact rr8 | exact rr9 | exact rr10 | exact rr11 | exact rr12 | exact rr13 | exact rr14) (.cons (by first | exact rr0 | exact rr1 | exact rr2 | exact rr3 | exact rr4 | exact rr5 | exact rr6 | exact rr7 | exact rr8 | exact rr9 | exact rr10 | exact rr11 | exact rr12 | exact rr13 | exact rr14) (.cons (by first | exact rr0 | exact rr1 | exact rr2 | exact rr3 | exact rr4 | exact rr5 | exact rr6 | exact rr7 | exact rr8 | exact rr9 | exact rr10 | exact rr11 | exact rr12 | exact rr13 | exact rr14) .nil))) (by first | exact dd0 | exact dd1 | exact dd2 | exact dd3 | exact dd4 | exact dd5 | exact dd6 | exact dd7 | exact dd8 | exact dd9 | exact dd10 | exact dd11 | exact dd12 | exact dd13 | exact dd14))
                    first | exact hOk.join _ _ | exact (hOk.leave _).mono (by omega) | exact (hOk.next _).mono (by omega) | exact (hOk.spend _ _).mono (by omega) | exact hOk.mono (by omega)
                  ·
                    refine w_join1 (fun (s : Bool) => [(0, .slice pd ds.length cd), (3, .pointer (some ⟨bf, 0, none⟩)), (4, .pointer (some ⟨b23, 0, none⟩)), (5, .int .i64 (k : Int)), (6, .pointer (some ⟨b6, 0, none⟩)), (7, .bool true), (102, .bool s)]) (fun (s : Bool) => Deep 4 .bool d.2.2.2.2.1.p d.2.2.2.2.1.l.length d.2.2.2.2.1.l :: Cel b6 48 [.int .i64 d.1, .int .i64 d.2.1, .int .i64 d.2.2.1, .float .f64 d.2.2.2.1, .slice d.2.2.2.2.1.p d.2.2.2.2.1.l.length d.2.2.2.2.1.cap] :: IsFair bf m :: RF b23 m :: Deep 48 (.st (.seq (.int .i64) (.seq (.int .i64) (.seq (.int .i64) (.seq (.flt .f64) (.seq (.sl 4 .bool) .unit)))))) pd ds.length ds :: F) (fun (s : Bool) => True) ?_ ?_
                    ·
                      refine w_seq ?_
                      refine w_region ?_
                      refine o_val (v_eql rfl rfl) rfl ?_
                      refine o_val (v_assign rfl) rfl ?_
                      refine o_nil ?_
                      refine thn_n ?_
                      first | refine w_condD rfl (fun h102 => ?_) (fun h102 => ?_) | refine w_cond rfl (fun h102 => ?_) (fun h102 => ?_)
                      ·
                        refine w_skip ?_
                        refine j1 (_) ?_ (.cons rfl (.cons rfl (.cons rfl (.cons rfl (.cons rfl (.cons rfl (.cons rfl (.nil _)))))))) (sub (.cons (by first | exact rr0 | exact rr1 | exact rr2 | exact rr3 | exact rr4 | exact rr5 | exact rr6 | exact rr7 | exact rr8 | exact rr9 | exact rr10 | exact rr11 | exact rr12 | exact rr13 | exact rr14) (.cons (by first | exact rr0 | exact rr1 | exact rr2 | exact rr3 | exact rr4 | exact rr5 | exact rr6 | exact rr7 | exact rr8 | exact rr9 | exact rr10 | exact rr11 | exact rr12 | exact rr13 | exact rr14) (.cons (by first | exact rr0 | exact rr1 | exact rr2 | exact rr3 | exact rr4 | exact rr5 | exact rr6 | exact rr7 | exact rr8 | exact rr9 | exact rr10 | exact rr11 | exact rr12 | exact rr13 | exact rr14) (.cons (by first | exact rr0 | exact rr1 | exact rr2 | exact rr3 | exact rr4 | exact rr5 | exact rr6 | exact rr7 | exact rr8 | exact rr9 | exact rr10 | exact rr11 | exact rr12 | exact rr13 | exact rr14) (.cons (by first | exact rr0 | exact rr1 | exact rr2 | exact rr3 | exact rr4 | exact rr5 | exact rr6 | exact rr7 | exact rr8 | exact rr9 | exact rr10 | exact rr11 | exact rr12 | exact rr13 | exact rr14) .nil))))) (by first | exact dd0 | exact dd1 | exact dd2 | exact dd3 | exact dd4 | exact dd5 | exact dd6 | exact dd7 | exact dd8 | exact dd9 | exact dd10 | exact dd11 | exact dd12 | exact dd13 | exact dd14))
                        trivial
                      ·
                        refine w_seq ?_
                        refine w_region ?_
                        refine o_val (v_eql rfl rfl) rfl ?_
                        refine o_val (v_assign rfl) rfl ?_
                        refine o_nil ?_
                        refine thn_n ?_
                        first | refine w_condD rfl (fun h102 => ?_) (fun h102 => ?_) | refine w_cond rfl (fun h102 => ?_) (fun h102 => ?_)
                        ·
                          refine w_skip ?_
                          refine j1 (_) ?_ (.cons rfl (.cons rfl (.cons rfl (.cons rfl (.cons rfl (.cons rfl (.cons rfl (.nil _)))))))) (sub (.cons (by first | exact rr0 | exact rr1 | exact rr2 | exact rr3 | exact rr4 | exact rr5 | exact rr6 | exact rr7 | exact rr8 | exact rr9 | exact rr10 | exact rr11 | exact rr12 | exact rr13 | exact rr14) (.cons (by first | exact rr0 | exact rr1 | exact rr2 | exact rr3 | exact rr4 | exact rr5 | exact rr6 | exact rr7 | exact rr8 | exact rr9 | exact rr10 | exact rr11 | exact rr12 | exact rr13 | exact rr14) (.cons (by first | exact rr0 | exact rr1 | exact rr2 | exact rr3 | exact rr4 | exact rr5 | exact rr6 | exact rr7 | exact rr8 | exact rr9 | exact rr10 | exact rr11 | exact rr12 | exact rr13 | exact rr14) (.cons (by first | exact rr0 | exact rr1 | exact rr2 | exact rr3 | exact rr4 | exact rr5 | exact rr6 | exact rr7 | exact rr8 | exact rr9 | exact rr10 | exact rr11 | exact rr12 | exact rr13 | exact rr14) (.cons (by first | exact rr0 | exact rr1 | exact rr2 | exact rr3 | exact rr4 | exact rr5 | exact rr6 | exact rr7 | exact rr8 | exact rr9 | exact rr10 | exact rr11 | exact rr12 | exact rr13 | exact rr14) .nil))))) (by first | exact dd0 | exact dd1 | exact dd2 | exact dd3 | exact dd4 | exact dd5 | exact dd6 | exact dd7 | exact dd8 | exact dd9 | exact dd10 | exact dd11 | exact dd12 | exact dd13 | exact dd14))
                          trivial
                        ·
                          refine w_region ?_
                          refine o_val (v_eql rfl rfl) rfl ?_
                          refine o_val (v_assign rfl) rfl ?_
                          refine o_nil ?_
                          refine j1 (_) ?_ (.cons rfl (.cons rfl (.cons rfl (.cons rfl (.cons rfl (.cons rfl (.cons rfl (.nil _)))))))) (sub (.cons (by first | exact rr0 | exact rr1 | exact rr2 | exact rr3 | exact rr4 | exact rr5 | exact rr6 | exact rr7 | exact rr8 | exact rr9 | exact rr10 | exact rr11 | exact rr12 | exact rr13 | exact rr14) (.cons (by first | exact rr0 | exact rr1 | exact rr2 | exact rr3 | exact rr4 | exact rr5 | exact rr6 | exact rr7 | exact rr8 | exact rr9 | exact rr10 | exact rr11 | exact rr12 | exact rr13 | exact rr14) (.cons (by first | exact rr0 | exact rr1 | exact rr2 | exact rr3 | exact rr4 | exact rr5 | exact rr6 | exact rr7 | exact rr8 | exact rr9 | exact rr10 | exact rr11 | exact rr12 | exact rr13 | exact rr14) (.cons (by first | exact rr0 | exact rr1 | exact rr2 | exact rr3 | exact rr4 | exact rr5 | exact rr6 | exact rr7 | exact rr8 | exact rr9 | exact rr10 | exact rr11 | exact rr12 | exact rr13 | exact rr14) (.cons (by first | exact rr0 | exact rr1 | exact rr2 | exact rr3 | exact rr4 | exact rr5 | exact rr6 | exact rr7 | exact rr8 | exact rr9 | exact rr10 | exact rr11 | exact rr12 | exact rr13 | exact rr14) .nil))))) (by first | exact dd0 | exact dd1 | exact dd2 | exact dd3 | exact dd4 | exact dd5 | exact dd6 | exact dd7 | exact dd8 | exact dd9 | exact dd10 | exact dd11 | exact dd12 | exact dd13 | exact dd14))
                          trivial
                    ·
                      intro s
                      rintro _
                      first | refine w_condD rfl (fun h102 => ?_) (fun h102 => ?_) | refine w_cond rfl (fun h102 => ?_) (fun h102 => ?_)
                      ·
                        refine w_seq ?_
                        refine w_region ?_
                        refine o_val (v_fieldAddr V.f48_1 rfl) rfl ?_
                        refine o_val (v_load V.s3 rfl (by first | exact mm0 | exact mm1 | exact mm2 | exact mm3 | exact mm4 | exact mm5 | exact mm6 | exact mm7 | exact mm8 | exact mm9 | exact mm10 | exact mm11 | exact mm12 | exact mm13 | exact mm14) rfl) rfl ?_
                        refine o_val (v_assign rfl) rfl ?_
                        refine o_nil ?_
                        refine thn_n ?_
                        refine w_join1 (fun (who : Int) => [(0, .slice pd ds.length cd), (3, .pointer (some ⟨bf, 0, none⟩)), (4, .pointer (some ⟨b23, 0, none⟩)), (5, .int .i64 (k : Int)), (6, .pointer (some ⟨b6, 0, none⟩)), (14, .int .i64 who)]) (fun (who : Int) => RF b23 m :: Deep 4 .bool d.2.2.2.2.1.p d.2.2.2.2.1.l.length d.2.2.2.2.1.l :: Cel b6 48 [.int .i64 d.1, .int .i64 d.2.1, .int .i64 d.2.2.1, .float .f64 d.2.2.2.1, .slice d.2.2.2.2.1.p d.2.2.2.2.1.l.length d.2.2.2.2.1.cap] :: IsFair bf m :: Deep 48 (.st (.seq (.int .i64) (.seq (.int .i64) (.seq (.int .i64) (.seq (.flt .f64) (.seq (.sl 4 .bool) .unit)))))) pd ds.length ds :: F) (fun (who : Int) => True) ?_ ?_
                        ·
                          refine w_seq ?_
                          refine w_opnR (A := RF b23 m) (by first | exact rr0 | exact rr1 | exact rr2 | exact rr3 | exact rr4 | exact rr5 | exact rr6 | exact rr7 | exact rr8 | exact rr9 | exact rr10 | exact rr11 | exact rr12 | exact rr13 | exact rr14) (fun h hh => hh) ?_
                          rintro ⟨p1, c1, p2, c2, p3, c3⟩ _
                          dsimp only
                          refine w_region ?_
                          refine o_val (v_move rfl) rfl ?_
                          refine o_val (v_nil rfl) rfl ?_
                          refine o_val (v_fieldAddr V.f46_0 rfl) rfl ?_
                          refine o_val (v_load V.s27 rfl (by first | exact mm0 | exact mm1 | exact mm2 | exact mm3 | exact mm4 | exact mm5 | exact mm6 | exact mm7 | exact mm8 | exact mm9 | exact mm10 | exact mm11 | exact mm12 | exact mm13 | exact mm14) rfl) rfl ?_
                          refine o_val (v_len (ty' := 0) Try.underlying27 rfl) rfl ?_
                          refine o_val (v_gtr rfl rfl) rfl ?_
                          refine o_val (v_move rfl) rfl ?_
                          first | refine o_boolD 114 rfl (fun h114 => ?_) (fun h114 => ?_) | refine o_bool 114 rfl (fun h114 => ?_) (fun h114 => ?_)
                          ·
                            refine o_want rfl ?_
                            refine o_val (v_fieldAddr V.f48_0 rfl) rfl ?_
                            refine o_want rfl ?_
                            refine o_val (v_load V.s3 rfl (by first | exact mm0 | exact mm1 | exact mm2 | exact mm3 | exact mm4 | exact mm5 | exact mm6 | exact mm7 | exact mm8 | exact mm9 | exact mm10 | exact mm11 | exact mm12 | exact mm13 | exact mm14) rfl) rfl ?_
                            refine o_want rfl ?_
                            refine o_val (v_lss rfl rfl) rfl ?_
                            refine o_val (v_pickT rfl rfl) rfl ?_
                            refine o_nil ?_
                            refine thn_n ?_
                            first | refine w_condD rfl (fun h118 => ?_) (fun h118 => ?_) | refine w_cond rfl (fun h118 => ?_) (fun h118 => ?_)
                            ·
                              refine w_region ?_
                              refine o_val (v_move rfl) rfl ?_
                              refine o_val (v_nil rfl) rfl ?_
                              refine o_val (v_fieldAddr V.f46_0 rfl) rfl ?_
                              refine o_val (v_load V.s27 rfl (by first | exact mm0 | exact mm1 | exact mm2 | exact mm3 | exact mm4 | exact mm5 | exact mm6 | exact mm7 | exact mm8 | exact mm9 | exact mm10 | exact mm11 | exact mm12 | exact mm13 | exact mm14) rfl) rfl ?_
                              refine o_val (r_index (c := (I3)) V.sl27 rfl rfl (by first | exact own mm0 | exact own mm1 | exact own mm2 | exact own mm3 | exact own mm4 | exact own mm5 | exact own mm6 | exact own mm7 | exact own mm8 | exact own mm9 | exact own mm10 | exact own mm11 | exact deepH mm0 | exact deepH mm1 | exact deepH mm2 | exact deepH mm3 | exact deepH mm4 | exact deepH mm5 | exact deepH mm6 | exact deepH mm7 | exact deepH mm8 | exact deepH mm9 | exact deepH mm10 | exact deepH mm11) (by omega) (by omega)) rfl ?_
                              refine o_val (r_load (c := (I3)) V.s3 rfl (by first | exact own mm0 | exact own mm1 | exact own mm2 | exact own mm3 | exact own mm4 | exact own mm5 | exact own mm6 | exact own mm7 | exact own mm8 | exact own mm9 | exact own mm10 | exact own mm11 | exact deepH mm0 | exact deepH mm1 | exact deepH mm2 | exact deepH mm3 | exact deepH mm4 | exact deepH mm5 | exact deepH mm6 | exact deepH mm7 | exact deepH mm8 | exact deepH mm9 | exact deepH mm10 | exact deepH mm11) (by omega) (by omega) rfl rfl) rfl ?_
                              refine o_val (v_assign rfl) rfl ?_
                              refine o_nil ?_
                              refine j1 (_) ?_ (.cons rfl (.cons rfl (.cons rfl (.cons rfl (.cons rfl (.cons rfl (.nil _))))))) (fold' (.cons (by first | exact rr0 | exact rr1 | exact rr2 | exact rr3 | exact rr4 | exact rr5 | exact rr6 | exact rr7 | exact rr8 | exact rr9 | exact rr10 | exact rr11 | exact rr12 | exact rr13 | exact rr14) (.cons (by first | exact rr0 | exact rr1 | exact rr2 | exact rr3 | exact rr4 | exact rr5 | exact rr6 | exact rr7 | exact rr8 | exact rr9 | exact rr10 | exact rr11 | exact rr12 | exact rr13 | exact rr14) (.cons (by first | exact rr0 | exact rr1 | exact rr2 | exact rr3 | exact rr4 | exact rr5 | exact rr6 | exact rr7 | exact rr8 | exact rr9 | exact rr10 | exact rr11 | exact rr12 | exact rr13 | exact rr14) (.cons (by first | exact rr0 | exact rr1 | exact rr2 | exact rr3 | exact rr4 | exact rr5 | exact rr6 | exact rr7 | exact rr8 | exact rr9 | exact rr10 | exact rr11 | exact rr12 | exact rr13 | exact rr14) .nil)))) dd0 (fun w0 h hh => rf_close (l := m) rfl rfl rfl rfl hh))
                              trivial
                            ·
                              refine w_skip ?_
                              refine j1 (_) ?_ (.cons rfl (.cons rfl (.cons rfl (.cons rfl (.cons rfl (.cons rfl (.nil _))))))) (fold' (.cons (by first | exact rr0 | exact rr1 | exact rr2 | exact rr3 | exact rr4 | exact rr5 | exact rr6 | exact rr7 | exact rr8 | exact rr9 | exact rr10 | exact rr11 | exact rr12 | exact rr13 | exact rr14) (.cons (by first | exact rr0 | exact rr1 | exact rr2 | exact rr3 | exact rr4 | exact rr5 | exact rr6 | exact rr7 | exact rr8 | exact rr9 | exact rr10 | exact rr11 | exact rr12 | exact rr13 | exact rr14) (.cons (by first | exact rr0 | exact rr1 | exact rr2 | exact rr3 | exact rr4 | exact rr5 | exact rr6 | exact rr7 | exact rr8 | exact rr9 | exact rr10 | exact rr11 | exact rr12 | exact rr13 | exact rr14) (.cons (by first | exact rr0 | exact rr1 | exact rr2 | exact rr3 | exact rr4 | exact rr5 | exact rr6 | exact rr7 | exact rr8 | exact rr9 | exact rr10 | exact rr11 | exact rr12 | exact rr13 | exact rr14) .nil)))) dd0 (fun w0 h hh => rf_close (l := m) rfl rfl rfl rfl hh))
                              trivial
                          ·
                            refine o_pass rfl rfl rfl ?_
                            refine o_pass rfl rfl rfl ?_
                            refine o_pass rfl rfl rfl ?_
                            refine o_val (v_pickF rfl rfl) rfl ?_
                            refine o_nil ?_
                            refine thn_n ?_
                            refine w_condF rfl ?_
                            refine w_skip ?_
                            refine j1 (_) ?_ (.cons rfl (.cons rfl (.cons rfl (.cons rfl (.cons rfl (.cons rfl (.nil _))))))) (fold' (.cons (by first | exact rr0 | exact rr1 | exact rr2 | exact rr3 | exact rr4 | exact rr5 | exact rr6 | exact rr7 | exact rr8 | exact rr9 | exact rr10 | exact rr11 | exact rr12 | exact rr13 | exact rr14) (.cons (by first | exact rr0 | exact rr1 | exact rr2 | exact rr3 | exact rr4 | exact rr5 | exact rr6 | exact rr7 | exact rr8 | exact rr9 | exact rr10 | exact rr11 | exact rr12 | exact rr13 | exact rr14) (.cons (by first | exact rr0 | exact rr1 | exact rr2 | exact rr3 | exact rr4 | exact rr5 | exact rr6 | exact rr7 | exact rr8 | exact rr9 | exact rr10 | exact rr11 | exact rr12 | exact rr13 | exact rr14) (.cons (by first | exact rr0 | exact rr1 | exact rr2 | exact rr3 | exact rr4 | exact rr5 | exact rr6 | exact rr7 | exact rr8 | exact rr9 | exact rr10 | exact rr11 | exact rr12 | exact rr13 | exact rr14) .nil)))) dd0 (fun w0 h hh => rf_close (l := m) rfl rfl rfl rfl hh))
                            trivial
                        ·
                          intro who
                          rintro _
                          refine w_net [⟨[], [], [3], 0, 0⟩, ⟨[], [], [14], 0, 0⟩, ⟨[], [], [6], 0, 0⟩, ⟨[2], [2], [], 0, 0⟩, ⟨[0, 1, 2, 3], [0, 1, 3], [], 0, 0⟩, ⟨[], [], [4], 0, 0⟩, ⟨[], [], [14], 0, 0⟩, ⟨[], [], [6], 0, 0⟩, ⟨[7], [7], [], 0, 0⟩, ⟨[0, 1, 2, 3, 4, 5, 6, 7, 8], [5, 6, 8], [], 0, 0⟩, ⟨[0, 1, 2, 3, 4, 5, 6, 7, 8, 9], [4, 9], [], 0, 0⟩, ⟨[0, 1, 2, 3, 4, 5, 6, 7, 8, 9, 10], [10], [], 0, 0⟩] [⟨fun y => RF b23 m, none, some 9, []⟩, ⟨fun y => Deep 4 .bool d.2.2.2.2.1.p d.2.2.2.2.1.l.length d.2.2.2.2.1.l, none, none, []⟩, ⟨fun y => Cel b6 48 [.int .i64 d.1, .int .i64 d.2.1, .int .i64 d.2.2.1, .float .f64 d.2.2.2.1, .slice d.2.2.2.2.1.p d.2.2.2.2.1.l.length d.2.2.2.2.1.cap], none, none, [3, 8]⟩, ⟨fun y => IsFair bf m, none, some 4, []⟩, ⟨fun y => Deep 48 (.st (.seq (.int .i64) (.seq (.int .i64) (.seq (.int .i64) (.seq (.flt .f64) (.seq (.sl 4 .bool) .unit)))))) pd ds.length ds, none, none, []⟩, ⟨fun y => IsFair bf (sList m who d.2.2.1), some 4, none, []⟩, ⟨fun y => RF b23 (sList m who d.2.2.1), some 9, none, []⟩] F V.mixed (by kernel_rfl) rfl (fun _ => .refl _) (locT_0 _ (locT_0 _ (locT_0 _ (locT_0 _ (locT_0 _ (locT_1 [0, 1, 2, 3] rfl (by intro y y2 h; rfl) (locT_1 [0, 1, 2, 3, 4, 5, 6, 7, 8] rfl (by intro y y2 h; rfl) locT_nil))))))) ?_
                          refine net_pure (fun y => [(3, _)]) (fun y => rfl) rfl rfl rfl (fun y hA L => st_v (v_move rfl) ⟨rfl, rfl⟩) (by intros; rfl) (by intro y y2 h; rfl) ?_
                          refine net_pure (fun y => [(14, _)]) (fun y => rfl) rfl rfl rfl (fun y hA L => st_v (v_move rfl) ⟨rfl, rfl⟩) (by intros; rfl) (by intro y y2 h; rfl) ?_
                          refine net_pure (fun y => [(6, _)]) (fun y => rfl) rfl rfl rfl (fun y hA L => st_v (v_fieldAddr V.f48_2 rfl) ⟨rfl, rfl⟩) (by intros; rfl) (by intro y y2 h; rfl) ?_
                          refine net_read (fun y => [Cel b6 48 [.int .i64 d.1, .int .i64 d.2.1, .int .i64 d.2.2.1, .float .f64 d.2.2.2.1, .slice d.2.2.2.2.1.p d.2.2.2.2.1.l.length d.2.2.2.2.1.cap]]) (fun y => [(127, _)]) (fun y => rfl) rfl (fun y => rfl) rfl (fun y FF hA => st_v (v_load V.s3 rfl (by first | exact mm0 | exact mm1 | exact mm2 | exact mm3 | exact mm4 | exact mm5 | exact mm6 | exact mm7 | exact mm8 | exact mm9 | exact mm10 | exact mm11 | exact mm12 | exact mm13 | exact mm14) rfl) ⟨rfl, rfl⟩) (by intros; rfl) (by intro y y2 h; rfl) ?_
                          refine net_eff (fun y => [IsFair bf m]) (fun y => []) (fun y => [IsFair bf (sList m who d.2.2.1)]) (fun y => [(125, _), (126, _), (128, _)]) (fun y => rfl) (fun y => rfl) (fun y => rfl) (fun y => rfl) (fun y FF hA => st_callN (Post := [IsFair bf (sList m who d.2.2.1)]) (p_spend bf who d.2.2.1 m (by omega) (fun x hx => by have := hOk.mem x hx; omega)) V.b13 rfl (.cons (by first | exact rr0 | exact rr1 | exact rr2 | exact rr3 | exact rr4 | exact rr5 | exact rr6 | exact rr7 | exact rr8 | exact rr9 | exact rr10 | exact rr11 | exact rr12 | exact rr13 | exact rr14) .nil) (fun v G h => by rcases h with ⟨rfl, rfl⟩; exact ⟨rfl, .refl _⟩)) (by intros; rfl) (by intros; rfl) (by intro y y2 h; rfl) ?_
                          refine net_pure (fun y => [(4, _)]) (fun y => rfl) rfl rfl rfl (fun y hA L => st_v (v_move rfl) ⟨rfl, rfl⟩) (by intros; rfl) (by intro y y2 h; rfl) ?_
                          refine net_pure (fun y => [(14, _)]) (fun y => rfl) rfl rfl rfl (fun y hA L => st_v (v_move rfl) ⟨rfl, rfl⟩) (by intros; rfl) (by intro y y2 h; rfl) ?_
                          refine net_pure (fun y => [(6, _)]) (fun y => rfl) rfl rfl rfl (fun y hA L => st_v (v_fieldAddr V.f48_2 rfl) ⟨rfl, rfl⟩) (by intros; rfl) (by intro y y2 h; rfl) ?_
                          refine net_read (fun y => [Cel b6 48 [.int .i64 d.1, .int .i64 d.2.1, .int .i64 d.2.2.1, .float .f64 d.2.2.2.1, .slice d.2.2.2.2.1.p d.2.2.2.2.1.l.length d.2.2.2.2.1.cap]]) (fun y => [(132, _)]) (fun y => rfl) rfl (fun y => rfl) rfl (fun y FF hA => st_v (v_load V.s3 rfl (by first | exact mm0 | exact mm1 | exact mm2 | exact mm3 | exact mm4 | exact mm5 | exact mm6 | exact mm7 | exact mm8 | exact mm9 | exact mm10 | exact mm11 | exact mm12 | exact mm13 | exact mm14) rfl) ⟨rfl, rfl⟩) (by intros; rfl) (by intro y y2 h; rfl) ?_
                          refine net_eff (fun y => [RF b23 m]) (fun y => []) (fun y => [RF b23 (sList m who d.2.2.1)]) (fun y => [(130, _), (131, _), (133, _)]) (fun y => rfl) (fun y => rfl) (fun y => rfl) (fun y => rfl) (fun y FF hA => st_callN (Post := [RF b23 (sList m who d.2.2.1)]) (r_spend b23 who d.2.2.1 m (by omega) (fun x hx => by have := hOk.mem x hx; omega)) V.b22 rfl (.cons (by first | exact rr0 | exact rr1 | exact rr2 | exact rr3 | exact rr4 | exact rr5 | exact rr6 | exact rr7 | exact rr8 | exact rr9 | exact rr10 | exact rr11 | exact rr12 | exact rr13 | exact rr14) .nil) (fun v G h => by rcases h with ⟨rfl, rfl⟩; exact ⟨rfl, .refl _⟩)) (by intros; rfl) (by intros; rfl) (by intro y y2 h; rfl) ?_
                          refine net_pure (fun y => [(129, _), (134, _)]) (fun y => rfl) rfl rfl rfl (fun y hA L => st_v (v_to (v := .bool true) (v_eqb Try.underlying4 rfl rfl) (by simp)) ⟨rfl, rfl⟩) (by intros; rfl) (by intro y y2 h; rfl) ?_
                          refine net_pure (fun y => [(135, _)]) (fun y => rfl) rfl rfl rfl (fun y hA L => st_v (v_assign rfl) ⟨rfl, rfl⟩) (by intros; rfl) (by intro y y2 h; rfl) ?_
                          refine net_nil ?_
                          intro y hA
                          clear hA
                          show blk _ _ _ _ (Deep 4 .bool d.2.2.2.2.1.p d.2.2.2.2.1.l.length d.2.2.2.2.1.l :: Cel b6 48 [.int .i64 d.1, .int .i64 d.2.1, .int .i64 d.2.2.1, .float .f64 d.2.2.2.1, .slice d.2.2.2.2.1.p d.2.2.2.2.1.l.length d.2.2.2.2.1.cap] :: Deep 48 (.st (.seq (.int .i64) (.seq (.int .i64) (.seq (.int .i64) (.seq (.flt .f64) (.seq (.sl 4 .bool) .unit)))))) pd ds.length ds :: IsFair bf (sList m who d.2.2.1) :: RF b23 (sList m who d.2.2.1) :: F)
                          refine blk_n ?_
                          refine j1 (_) ?_ (.cons rfl (.cons rfl (.cons rfl (.cons rfl (.cons rfl (.nil _)))))) (sub (.cons (by first | exact rr0 | exact rr1 | exact rr2 | exact rr3 | exact rr4 | exact rr5 | exact rr6 | exact rr7 | exact rr8 | exact rr9 | exact rr10 | exact rr11 | exact rr12 | exact rr13 | exact rr14) (.cons (by first | exact rr0 | exact rr1 | exact rr2 | exact rr3 | exact rr4 | exact rr5 | exact rr6 | exact rr7 | exact rr8 | exact rr9 | exact rr10 | exact rr11 | exact rr12 | exact rr13 | exact rr14) (.cons (by first | exact rr0 | exact rr1 | exact rr2 | exact rr3 | exact rr4 | exact rr5 | exact rr6 | exact rr7 | exact rr8 | exact rr9 | exact rr10 | exact rr11 | exact rr12 | exact rr13 | exact rr14) .nil))) (by first | exact dd0 | exact dd1 | exact dd2 | exact dd3 | exact dd4 | exact dd5 | exact dd6 | exact dd7 | exact dd8 | exact dd9 | exact dd10 | exact dd11 | exact dd12 | exact dd13 | exact dd14))
                          first | exact hOk.join _ _ | exact (hOk.leave _).mono (by omega) | exact (hOk.next _).mono (by omega) | exact (hOk.spend _ _).mono (by omega) | exact hOk.mono (by omega)
                      ·
                        refine w_skip ?_
                        refine blk_n ?_
                        refine j1 (_) ?_ (.cons rfl (.cons rfl (.cons rfl (.cons rfl (.cons rfl (.nil _)))))) (sub (.cons (by first | exact rr0 | exact rr1 | exact rr2 | exact rr3 | exact rr4 | exact rr5 | exact rr6 | exact rr7 | exact rr8 | exact rr9 | exact rr10 | exact rr11 | exact rr12 | exact rr13 | exact rr14) (.cons (by first | exact rr0 | exact rr1 | exact rr2 | exact rr3 | exact rr4 | exact rr5 | exact rr6 | exact rr7 | exact rr8 | exact rr9 | exact rr10 | exact rr11 | exact rr12 | exact rr13 | exact rr14) (.cons (by first | exact rr0 | exact rr1 | exact rr2 | exact rr3 | exact rr4 | exact rr5 | exact rr6 | exact rr7 | exact rr8 | exact rr9 | exact rr10 | exact rr11 | exact rr12 | exact rr13 | exact rr14) .nil))) (by first | exact dd0 | exact dd1 | exact dd2 | exact dd3 | exact dd4 | exact dd5 | exact dd6 | exact dd7 | exact dd8 | exact dd9 | exact dd10 | exact dd11 | exact dd12 | exact dd13 | exact dd14))
                        first | exact hOk.join _ _ | exact (hOk.leave _).mono (by omega) | exact (hOk.next _).mono (by omega) | exact (hOk.spend _ _).mono (by omega) | exact hOk.mono (by omega)
        ·
          intro m2
          rintro hOk2
          refine w_seq ?_
          refine w_seq ?_
          have hml2 := hOk2.len
          refine w_region ?_
          refine o_val (v_assign rfl) rfl ?_
          refine o_nil ?_
          refine thn_n ?_
          refine w_block ?_
          refine w_loop1 (fun (c : Nat) => [(0, .slice pd ds.length cd), (3, .pointer (some ⟨bf, 0, none⟩)), (4, .pointer (some ⟨b23, 0, none⟩)), (5, .int .i64 (k : Int)), (7, .bool true), (15, .int .i64 ((c : Int) - 1))]) (fun (c : Nat) => IsFair bf m2 :: RF b23 m2 :: Deep 48 (.st (.seq (.int .i64) (.seq (.int .i64) (.seq (.int .i64) (.seq (.flt .f64) (.seq (.sl 4 .bool) .unit)))))) pd ds.length ds :: F) (fun (c : Nat) => c ≤ 10) (fun (c : Nat) => 10 - c) (i1 (0) ?_ (.cons rfl (.cons rfl (.cons rfl (.cons rfl (.cons rfl (.cons rfl (.nil _))))))) (sub (.cons (by first | exact rr0 | exact rr1 | exact rr2 | exact rr3 | exact rr4 | exact rr5 | exact rr6 | exact rr7 | exact rr8 | exact rr9 | exact rr10 | exact rr11 | exact rr12 | exact rr13 | exact rr14) (.cons (by first | exact rr0 | exact rr1 | exact rr2 | exact rr3 | exact rr4 | exact rr5 | exact rr6 | exact rr7 | exact rr8 | exact rr9 | exact rr10 | exact rr11 | exact rr12 | exact rr13 | exact rr14) (.cons (by first | exact rr0 | exact rr1 | exact rr2 | exact rr3 | exact rr4 | exact rr5 | exact rr6 | exact rr7 | exact rr8 | exact rr9 | exact rr10 | exact rr11 | exact rr12 | exact rr13 | exact rr14) .nil))) (by first | exact dd0 | exact dd1 | exact dd2 | exact dd3 | exact dd4 | exact dd5 | exact dd6 | exact dd7 | exact dd8 | exact dd9 | exact dd10 | exact dd11 | exact dd12 | exact dd13 | exact dd14))) ?_
          ·
            exact Nat.zero_le _
          intro c
          rintro hc
          refine w_seq ?_
          refine w_seq ?_
          refine w_region ?_
          refine o_val (v_move rfl) rfl ?_
          refine o_val (v_leq rfl rfl) rfl ?_
          refine o_nil ?_
          refine thn_n ?_
          first | refine w_condD rfl (fun h137 => ?_) (fun h137 => ?_) | refine w_cond rfl (fun h137 => ?_) (fun h137 => ?_)
          ·
            refine w_skip ?_
            refine thn_n ?_
            refine w_seq ?_
            refine w_block ?_
            refine w_region ?_
            refine o_val (v_move rfl) rfl ?_
            refine o_val (v_move rfl) rfl ?_
            refine o_want rfl ?_
            refine o_val (v_move rfl) rfl ?_
            refine o_want rfl ?_
            refine o_val (v_move rfl) rfl ?_
            refine o_want rfl ?_
            refine o_call (p_credit bf ((c : Int) - 1) m2 (by omega)) V.b14  rfl (.cons (by first | exact rr0 | exact rr1 | exact rr2 | exact rr3 | exact rr4 | exact rr5 | exact rr6 | exact rr7 | exact rr8 | exact rr9 | exact rr10 | exact rr11 | exact rr12 | exact rr13 | exact rr14) .nil) rfl ?_
            rintro _ _ ⟨rfl, rfl⟩
            refine o_want rfl ?_
            refine o_val (v_move rfl) rfl ?_
            refine o_want rfl ?_
            refine o_val (v_move rfl) rfl ?_
            refine o_want rfl ?_
            refine o_call (r_credit b23 ((c : Int) - 1) m2 (by omega)) V.b23  rfl (.cons (by first | exact rr0 | exact rr1 | exact rr2 | exact rr3 | exact rr4 | exact rr5 | exact rr6 | exact rr7 | exact rr8 | exact rr9 | exact rr10 | exact rr11 | exact rr12 | exact rr13 | exact rr14) .nil) rfl ?_
            rintro _ _ ⟨rfl, rfl⟩
            refine o_want rfl ?_
            refine o_val (v_T (v_eql rfl rfl) rfl) rfl ?_
            refine o_val (v_pickT rfl rfl) rfl ?_
            refine o_val (v_assign rfl) rfl ?_
            refine o_nil ?_
            refine blk_n ?_
            refine thn_n ?_
            refine w_region ?_
            refine o_val (v_move rfl) rfl ?_
            refine o_val (v_add rfl rfl (wrapI (by omega) (by omega))) rfl ?_
            refine o_val (v_assign rfl) rfl ?_
            refine o_nil ?_
            rw [show (c : Int) - 1 + 1 = ((c + 1 : Nat) : Int) - 1 by omega]
            refine j1 (c + 1) ?_ (.cons rfl (.cons rfl (.cons rfl (.cons rfl (.cons rfl (.cons rfl (.nil _))))))) (sub (.cons (by first | exact rr0 | exact rr1 | exact rr2 | exact rr3 | exact rr4 | exact rr5 | exact rr6 | exact rr7 | exact rr8 | exact rr9 | exact rr10 | exact rr11 | exact rr12 | exact rr13 | exact rr14) (.cons (by first | exact rr0 | exact rr1 | exact rr2 | exact rr3 | exact rr4 | exact rr5 | exact rr6 | exact rr7 | exact rr8 | exact rr9 | exact rr10 | exact rr11 | exact rr12 | exact rr13 | exact rr14) (.cons (by first | exact rr0 | exact rr1 | exact rr2 | exact rr3 | exact rr4 | exact rr5 | exact rr6 | exact rr7 | exact rr8 | exact rr9 | exact rr10 | exact rr11 | exact rr12 | exact rr13 | exact rr14) .nil))) (by first | exact dd0 | exact dd1 | exact dd2 | exact dd3 | exact dd4 | exact dd5 | exact dd6 | exact dd7 | exact dd8 | exact dd9 | exact dd10 | exact dd11 | exact dd12 | exact dd13 | exact dd14))
            exact ⟨by omega, by omega⟩
          ·
            refine w_exit ?_
            refine thn_e ?_
            refine thn_e ?_
            refine blk_x ?_
            refine thn_n ?_
            refine w_seq ?_
            refine w_opnR (A := RF b23 m2) (by first | exact rr0 | exact rr1 | exact rr2 | exact rr3 | exact rr4 | exact rr5 | exact rr6 | exact rr7 | exact rr8 | exact rr9 | exact rr10 | exact rr11 | exact rr12 | exact rr13 | exact rr14) (fun h hh => hh) ?_
            rintro ⟨p1, c1, p2, c2, p3, c3⟩ _
            dsimp only
            refine w_net [⟨[], [], [7], 0, 0⟩, ⟨[0], [0], [], 0, 0⟩, ⟨[0, 1], [1], [], 0, 0⟩, ⟨[0, 1, 2], [2], [3], 0, 0⟩, ⟨[0, 1, 2, 3], [3, 2], [], 0, 0⟩, ⟨[0, 1, 2], [2], [4], 0, 0⟩, ⟨[0, 1, 2, 5], [5, 2], [], 0, 0⟩, ⟨[0, 1, 2, 5, 6], [6, 2], [], 0, 0⟩, ⟨[0, 1, 2, 5, 6, 7], [7, 2], [], 0, 0⟩, ⟨[0, 1, 2, 3, 4, 5, 6, 7, 8], [4, 8, 2], [], 0, 0⟩, ⟨[0, 1, 2, 3, 4, 5, 6, 7, 8, 9], [9, 2], [], 0, 0⟩, ⟨[0, 1, 2, 3, 4, 5, 6, 7, 8, 9, 10], [2, 10], [], 0, 0⟩] [⟨fun y => Cel b23 46 [.slice p1 m2.length c1, .slice p2 m2.length c2, .slice p3 m2.length c3], none, none, [8]⟩, ⟨fun y => Row I3 p1 m2.length c1 (m2.map Mb.who), none, some 9, []⟩, ⟨fun y => Row I3 p2 m2.length c2 (m2.map Mb.q), none, none, []⟩, ⟨fun y => Row I3 p3 m2.length c3 (m2.map Mb.c), none, none, []⟩, ⟨fun y => IsFair bf m2, none, some 4, []⟩, ⟨fun y => Deep 48 (.st (.seq (.int .i64) (.seq (.int .i64) (.seq (.int .i64) (.seq (.flt .f64) (.seq (.sl 4 .bool) .unit)))))) pd ds.length ds, none, none, []⟩, ⟨fun y => Row I3 (slP (y 4)) m2.length (slC (y 4)) (m2.map Mb.who), some 4, some 9, []⟩, ⟨fun y => IsFair bf m2, some 4, none, []⟩, ⟨fun y => Row I3 (slP (y 4)) m2.length (slC (y 4)) (m2.map Mb.who), some 9, none, []⟩, ⟨fun y => Row I3 p1 m2.length c1 (m2.map Mb.who), some 9, none, []⟩] F V.mixed (by kernel_rfl) rfl (fun _ => .refl _) (locT_0 _ (locT_0 _ (locT_0 _ (locT_0 _ (locT_0 _ (locT_0 _ (locT_1 [0, 1, 2, 3] rfl (by intro y y2 h; simp only [h 4 (.inl rfl)]) (locT_1 [0, 1, 2, 3] rfl (by intro y y2 h; rfl) (locT_1 [0, 1, 2, 3, 4, 5, 6, 7, 8] rfl (by intro y y2 h; simp only [h 4 (.inr (by decide))]) (locT_1 [0, 1, 2, 3, 4, 5, 6, 7, 8] rfl (by intro y y2 h; rfl) locT_nil)))))))))) ?_
            refine net_pure (fun y => [(7, _)]) (fun y => rfl) rfl rfl rfl (fun y hA L => st_v (v_move rfl) ⟨rfl, rfl⟩) (by intros; rfl) (by intro y y2 h; rfl) ?_
            refine net_pure (fun y => [(150, _)]) (fun y => rfl) rfl rfl rfl (fun y hA L => st_v (v_to (v := .bool false) (v_not rfl) rfl) ⟨rfl, rfl⟩) (by intros; rfl) (by intro y y2 h; rfl) ?_
            refine net_pure (fun y => [(151, _)]) (fun y => rfl) rfl rfl rfl (fun y hA L => st_v (v_move rfl) ⟨rfl, rfl⟩) (by intros; rfl) (by intro y y2 h; rfl) ?_
            refine net_pure (fun y => [(152, _), (3, _)]) (fun y => rfl) rfl rfl rfl (fun y hA L => st_want rfl (st_v (v_move rfl) ⟨rfl, rfl⟩)) (by intros; rfl) (by intro y y2 h; rfl) ?_
            refine net_new (fun y v => .slice (slP v) m2.length (slC v)) (fun y v => True) (fun y => [IsFair bf m2]) (fun y => []) (fun y v => [Row I3 (slP v) m2.length (slC v) (m2.map Mb.who), IsFair bf m2]) (fun y => [(153, _), (152, _)]) (fun y => rfl) (fun y => rfl) (fun y => rfl) (fun y => rfl) (fun y FF hA => st_want rfl (st_callSl (order_row bf m2 (by omega)) V.b15 rfl (.cons (by first | exact rr0 | exact rr1 | exact rr2 | exact rr3 | exact rr4 | exact rr5 | exact rr6 | exact rr7 | exact rr8 | exact rr9 | exact rr10 | exact rr11 | exact rr12 | exact rr13 | exact rr14) .nil))) (by intros; rfl) (by intros; rfl) (by intros; rfl) (by intro y y2 h; simp only [h 4 (.inl rfl)]) (by intro y y2 h; rfl) ?_
            refine net_pure (fun y => [(152, _), (4, _)]) (fun y => rfl) rfl rfl rfl (fun y hA L => st_want rfl (st_v (v_move rfl) ⟨rfl, rfl⟩)) (by intros; rfl) (by intro y y2 h; rfl) ?_
            refine net_pure (fun y => [(155, _), (152, _)]) (fun y => rfl) rfl rfl rfl (fun y hA L => st_want rfl (st_v (v_nil rfl) ⟨rfl, rfl⟩)) (by intros; rfl) (by intro y y2 h; rfl) ?_
            refine net_pure (fun y => [(156, _), (152, _)]) (fun y => rfl) rfl rfl rfl (fun y hA L => st_want rfl (st_v (v_fieldAddr V.f46_0 rfl) ⟨rfl, rfl⟩)) (by intros; rfl) (by intro y y2 h; rfl) ?_
            refine net_read (fun y => [Cel b23 46 [.slice p1 m2.length c1, .slice p2 m2.length c2, .slice p3 m2.length c3]]) (fun y => [(157, _), (152, _)]) (fun y => rfl) rfl (fun y => rfl) rfl (fun y FF hA => st_want rfl (st_v (v_load V.s27 rfl (by first | exact mm0 | exact mm1 | exact mm2 | exact mm3 | exact mm4 | exact mm5 | exact mm6 | exact mm7 | exact mm8 | exact mm9 | exact mm10 | exact mm11 | exact mm12 | exact mm13 | exact mm14) rfl) ⟨rfl, rfl⟩)) (by intros; rfl) (by intro y y2 h; rfl) ?_
            refine net_eff (fun y => [Row I3 p1 m2.length c1 (m2.map Mb.who), Row I3 (slP (y 4)) m2.length (slC (y 4)) (m2.map Mb.who)]) (fun y => []) (fun y => [Row I3 (slP (y 4)) m2.length (slC (y 4)) (m2.map Mb.who), Row I3 p1 m2.length c1 (m2.map Mb.who)]) (fun y => [(154, _), (158, _), (152, _)]) (fun y => rfl) (fun y => rfl) (fun y => rfl) (fun y => rfl) (fun y FF hA => st_want rfl (st_callN (Post := [Row I3 (slP (y 4)) m2.length (slC (y 4)) (m2.map Mb.who), Row I3 p1 m2.length c1 (m2.map Mb.who)]) (ints_len (m2.map Mb.who) m2.length (by simp) _ _ _ _ (Row I3 (slP (y 4)) m2.length (slC (y 4)) (m2.map Mb.who)) (Row I3 p1 m2.length c1 (m2.map Mb.who)) (fun _ _ h => h.rd) (fun _ _ h => h.rd) (by omega)) V.b24 rfl (.cons (by first | exact rr0 | exact rr1 | exact rr2 | exact rr3 | exact rr4 | exact rr5 | exact rr6 | exact rr7 | exact rr8 | exact rr9 | exact rr10 | exact rr11 | exact rr12 | exact rr13 | exact rr14) (.cons (by first | exact rr0 | exact rr1 | exact rr2 | exact rr3 | exact rr4 | exact rr5 | exact rr6 | exact rr7 | exact rr8 | exact rr9 | exact rr10 | exact rr11 | exact rr12 | exact rr13 | exact rr14) .nil)) (fun v G h => by rcases h with ⟨rfl, rfl⟩; exact ⟨rfl, .refl _⟩))) (by intros; rfl) (by intros; rfl) (by intro y y2 h; first | rfl | simp only [h 4 (.inr (by decide))]) ?_
            refine net_pure (fun y => [(159, _), (152, _)]) (fun y => rfl) rfl rfl rfl (fun y hA L => st_want rfl (st_v (v_to (v := .bool false) (v_not rfl) rfl) ⟨rfl, rfl⟩)) (by intros; rfl) (by intro y y2 h; rfl) ?_
            refine net_pure (fun y => [(152, _), (160, _)]) (fun y => rfl) rfl rfl rfl (fun y hA L => st_v (v_pickF rfl rfl) ⟨rfl, rfl⟩) (by intros; rfl) (by intro y y2 h; rfl) ?_
            refine net_nil ?_
            intro y hA
            clear hA
            refine thn_n ?_
            refine w_keep _ (.cons (d := 0) rfl (.cons (d := 3) rfl (.cons (d := 4) rfl (.cons (d := 5) rfl (.cons (d := 161) rfl (.nil _)))))) ?_
            refine w_sub (M := Cel b23 46 [.slice p1 m2.length c1, .slice p2 m2.length c2, .slice p3 m2.length c3] :: Row I3 p2 m2.length c2 (m2.map Mb.q) :: Row I3 p3 m2.length c3 (m2.map Mb.c) :: Deep 48 (.st (.seq (.int .i64) (.seq (.int .i64) (.seq (.int .i64) (.seq (.flt .f64) (.seq (.sl 4 .bool) .unit)))))) pd ds.length ds :: IsFair bf m2 :: Row I3 (slP (y 4)) m2.length (slC (y 4)) (m2.map Mb.who) :: Row I3 p1 m2.length c1 (m2.map Mb.who) :: F) (fun _ _ h => h) ?_
            refine w_sub (sub .nil (.keep (.keep (.keep (.keep (.keep (.skip (.keep .refl)))))))) ?_
            simp only [List.nil_append]
            generalize (slP (y 4)) = q154
            refine w_condF rfl ?_
            refine w_skip ?_
            refine blk_n ?_
            refine thn_n ?_
            refine w_region ?_
            refine o_val (v_move rfl) rfl ?_
            refine o_val (v_add rfl rfl (wrapI (by omega) (by omega))) rfl ?_
            refine o_val (v_assign rfl) rfl ?_
            refine o_nil ?_
            refine j2 (k + 1) (m2) ?_ (.cons rfl (.cons rfl (.cons rfl (.cons rfl (.nil _))))) ((fold' (.cons (by first | exact rr0 | exact rr1 | exact rr2 | exact rr3 | exact rr4 | exact rr5 | exact rr6 | exact rr7 | exact rr8 | exact rr9 | exact rr10 | exact rr11 | exact rr12 | exact rr13 | exact rr14) (.cons (by first | exact rr0 | exact rr1 | exact rr2 | exact rr3 | exact rr4 | exact rr5 | exact rr6 | exact rr7 | exact rr8 | exact rr9 | exact rr10 | exact rr11 | exact rr12 | exact rr13 | exact rr14) (.cons (by first | exact rr0 | exact rr1 | exact rr2 | exact rr3 | exact rr4 | exact rr5 | exact rr6 | exact rr7 | exact rr8 | exact rr9 | exact rr10 | exact rr11 | exact rr12 | exact rr13 | exact rr14) (.cons (by first | exact rr0 | exact rr1 | exact rr2 | exact rr3 | exact rr4 | exact rr5 | exact rr6 | exact rr7 | exact rr8 | exact rr9 | exact rr10 | exact rr11 | exact rr12 | exact rr13 | exact rr14) .nil)))) dd0 (fun w0 h hh => rf_close (l := m2) rfl rfl rfl rfl hh)).trans (sub (.cons (by first | exact rr0 | exact rr1 | exact rr2 | exact rr3 | exact rr4 | exact rr5 | exact rr6 | exact rr7 | exact rr8 | exact rr9 | exact rr10 | exact rr11 | exact rr12 | exact rr13 | exact rr14) (.cons (by first | exact rr0 | exact rr1 | exact rr2 | exact rr3 | exact rr4 | exact rr5 | exact rr6 | exact rr7 | exact rr8 | exact rr9 | exact rr10 | exact rr11 | exact rr12 | exact rr13 | exact rr14) (.cons (by first | exact rr0 | exact rr1 | exact rr2 | exact rr3 | exact rr4 | exact rr5 | exact rr6 | exact rr7 | exact rr8 | exact rr9 | exact rr10 | exact rr11 | exact rr12 | exact rr13 | exact rr14) .nil))) (by first | exact dd0 | exact dd1 | exact dd2 | exact dd3 | exact dd4 | exact dd5 | exact dd6 | exact dd7 | exact dd8 | exact dd9 | exact dd10 | exact dd11 | exact dd12 | exact dd13 | exact dd14)))
            exact ⟨⟨hOk2, by omega⟩, by omega⟩
    ·
      refine w_exit ?_
      refine thn_e ?_
      refine thn_e ?_
      refine blk_x ?_
      refine thn_n ?_
      refine w_seq ?_
      refine w_region ?_
      refine o_val (v_assign rfl) rfl ?_
      refine o_nil ?_
      refine thn_n ?_
      refine w_ret ?_
      exact ret_ok (G := [_]) (res1 rfl) ⟨rfl, rfl⟩ (sub (.cons (by first | exact rr0 | exact rr1 | exact rr2 | exact rr3 | exact rr4 | exact rr5 | exact rr6 | exact rr7 | exact rr8 | exact rr9 | exact rr10 | exact rr11 | exact rr12 | exact rr13 | exact rr14) .nil) (by first | exact dd0 | exact dd1 | exact dd2 | exact dd3 | exact dd4 | exact dd5 | exact dd6 | exact dd7 | exact dd8 | exact dd9 | exact dd10 | exact dd11 | exact dd12 | exact dd13 | exact dd14))
end Go.Proofs.Ytpkemaglokbfiaa

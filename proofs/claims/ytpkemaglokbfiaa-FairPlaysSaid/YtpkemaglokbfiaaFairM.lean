/-
  Steps of the proof: walks of functions that the statement reaches; printed by a program of ours.
-/
import Derived.Test.YtpkemaglokbfiaaFairL
import Derived.Test.YtpkemaglokbfiaaSl16
import Derived.Test.YtpkemaglokbfiaaFairFacts
namespace Go.Proofs.Ytpkemaglokbfiaa
open Go.Sl Go.FairP
set_option linter.unusedVariables false
set_option linter.unusedSimpArgs false

theorem n_none {l : List Mb} {ws : List Bool} (h : l.findIdx? (wantB ws) = none) : nWho l ws = 0 ∧ nCred l ws = 0 ∧ nOk l ws = false ∧ nList l ws = l := by
  unfold nWho nCred nOk nList
  rw [find_none h, h]
  exact ⟨rfl, rfl, rfl, rfl⟩
theorem p_next_none (b : Nat) (l : List Mb) (ws : List Bool) (n : Nat) (hn : ws.length = n) (pw : Option Addr) (cw : Nat) (hl : l.length ≤ 1000) (hwho : ∀ m ∈ l, 0 ≤ m.who) (hi : l.findIdx? (wantB ws) = none) : Ctr Try.prog 12 [.pointer (some ⟨b, 0, none⟩), .slice pw n cw] [IsFair b l, Row (ecB 4) pw n cw ws] (Ret fun v G => v = .tuple #[.int .i64 0, .int .i64 0, .bool false] ∧ G = [IsFair b l, Row (ecB 4) pw n cw ws]) := by
  subst hn
  have h := p_next b l ws pw cw (Row (ecB 4) pw ws.length cw ws) (fun _ _ h => Row.rdB h) hl hwho
  obtain ⟨e1, e2, e3, e4⟩ := n_none hi
  rw [e1, e2, e3, e4] at h
  exact h
theorem p_next_nil (b : Nat) (l : List Mb) (hl : l.length ≤ 1000) (hwho : ∀ m ∈ l, 0 ≤ m.who) : Ctr Try.prog 12 [.pointer (some ⟨b, 0, none⟩), .slice none 0 0] [IsFair b l] (Ret fun v G => v = .tuple #[.int .i64 0, .int .i64 0, .bool false] ∧ G = [IsFair b l]) := by
  refine Ctr.drop0 (A := Row (ecB 4) none 0 0 []) (fun w0 => Row.nil _ _ _) ?_
  exact p_next_none b l [] 0 rfl none 0 hl hwho (by rw [List.findIdx?_eq_none_iff]; intro m hm; unfold wantB; simp)
theorem p_spend_low (b : Nat) (who : Int) (l : List Mb) (hl : l.length ≤ 999) (hm : ∀ m ∈ l, m.c ≤ 100000) : Ctr Try.prog 13 [.pointer (some ⟨b, 0, none⟩), .int .i64 who, .int .i64 0] [IsFair b l] (Ret fun v G => v = .bool false ∧ G = [IsFair b l]) := by
  have h := p_spend b who 0 l hl hm
  have hs : sOk l who 0 = false := by cases l <;> simp [sOk]
  have hl : sList l who 0 = l := by unfold sList; rw [hs, if_neg Bool.false_ne_true]
  rw [hs, hl] at h
  exact h
theorem not_in {l : List Mb} {who : Int} (h : ∀ m ∈ l, m.who ≠ who) : l.findIdx? (isWho who) = none := by
  rw [List.findIdx?_eq_none_iff]
  intro m hm
  simp [isWho, h m hm]
theorem order_row (b : Nat) (l : List Mb) (hl : l.length ≤ 1000) : Ctr Try.prog 15 [.pointer (some ⟨b, 0, none⟩)] [IsFair b l] (Ret fun v G => ∃ p2 c2, v = .slice p2 l.length c2 ∧ G = Row I3 p2 l.length c2 (l.map Mb.who) :: [IsFair b l]) := by
  intro w0 F w hi
  refine (order b l hl w0 F w hi).mono ?_
  rintro e w' ⟨G, h1, v, rfl, p2, c2, e1, rfl⟩
  refine ⟨_, ?_, v, rfl, p2, c2, e1, rfl⟩
  refine Inv.imp (A := Sl p2 l.length c2 3 1 (ints .i64 (l.map Mb.who))) ?_ (h1.perm (List.Perm.swap _ _ _))
  intro h hh
  refine ⟨by simp, ?_⟩
  rw [ints_flat]
  exact hh


theorem ints_len (l : List Int) (n : Nat) (hn : l.length = n) (p q : Option Addr) (c d : Nat) (A B : HProp) (hPA : ∀ w0 h, A w0 h → RdR I3 p n l w0 h) (hPB : ∀ w0 h, B w0 h → RdR I3 q n l w0 h) (hl : n ≤ 1000) : Ctr Try.prog 24 [.slice p n c, .slice q n d] [A, B] (Ret fun v G => v = .bool true ∧ G = [A, B]) := by
  subst hn
  exact ints_same l p q c d A B hPA hPB hl


set_option maxHeartbeats 8000000 in
set_option maxRecDepth 100000 in
theorem nobody (ds : List (Td.Ty (.st (.seq (.int .i64) (.seq (.int .i64) (.seq (.int .i64) (.seq (.flt .f64) (.seq (.sl 4 .bool) .unit)))))))) (pd : Option Addr) (cd : Nat) (wl0 : List Bool) (pw : Option Addr) (cw : Nat) : Ctr Try.prog 8 [.slice pd ds.length cd, .slice pw wl0.length cw] [Deep 48 (.st (.seq (.int .i64) (.seq (.int .i64) (.seq (.int .i64) (.seq (.flt .f64) (.seq (.sl 4 .bool) .unit)))))) pd ds.length ds, RdR (ecB 4) pw wl0.length wl0] (Ret fun v G => v = .bool true ∧ G = [Deep 48 (.st (.seq (.int .i64) (.seq (.int .i64) (.seq (.int .i64) (.seq (.flt .f64) (.seq (.sl 4 .bool) .unit)))))) pd ds.length ds, RdR (ecB 4) pw wl0.length wl0]) := by
  refine spec_of [(0, _), (1, _)] Try.func8 rfl Try.ntmps8 rfl rfl ?_
  intro w0 F
  refine w_seq ?_
  refine w_region ?_
  refine o_val (v_assign rfl) rfl ?_
  refine o_nil ?_
  refine thn_n ?_
  refine w_seq ?_
  refine w_seq ?_
  refine w_region ?_
  refine o_call (awake) V.b9  rfl .nil rfl ?_
  rintro _ _ ⟨rfl, rfl⟩
  refine o_val (v_to (v := .bool false) (v_not rfl) rfl) rfl ?_
  refine o_nil ?_
  refine thn_n ?_
  refine w_condF rfl ?_
  refine w_skip ?_
  refine thn_n ?_
  refine w_seq ?_
  refine w_seq ?_
  refine w_region ?_
  refine o_val (v_move rfl) rfl ?_
  refine o_val (v_len (ty' := 0) Try.underlying43 rfl) rfl ?_
  refine o_val (v_gtr rfl rfl) rfl ?_
  refine o_val (v_move rfl) rfl ?_
  first | refine o_boolD 22 rfl (fun h22 => ?_) (fun h22 => ?_) | refine o_bool 22 rfl (fun h22 => ?_) (fun h22 => ?_)
  ·
    refine o_pass rfl rfl rfl ?_
    refine o_pass rfl rfl rfl ?_
    refine o_pass rfl rfl rfl ?_
    refine o_val (v_pickT rfl rfl) rfl ?_
    refine o_nil ?_
    refine thn_n ?_
    refine w_condT rfl ?_
    refine w_seq ?_
    refine w_region ?_
    refine o_val (v_assign rfl) rfl ?_
    refine o_nil ?_
    refine thn_n ?_
    refine w_ret ?_
    refine (thn_r ?_)
    exact ret_ok (G := [_, _]) (res1 rfl) ⟨rfl, rfl⟩ (sub (.cons (by first | exact rr0 | exact rr1 | exact rr2 | exact rr3 | exact rr4 | exact rr5 | exact rr6 | exact rr7 | exact rr8 | exact rr9 | exact rr10 | exact rr11 | exact rr12 | exact rr13 | exact rr14) (.cons (by first | exact rr0 | exact rr1 | exact rr2 | exact rr3 | exact rr4 | exact rr5 | exact rr6 | exact rr7 | exact rr8 | exact rr9 | exact rr10 | exact rr11 | exact rr12 | exact rr13 | exact rr14) .nil)) (by first | exact dd0 | exact dd1 | exact dd2 | exact dd3 | exact dd4 | exact dd5 | exact dd6 | exact dd7 | exact dd8 | exact dd9 | exact dd10 | exact dd11 | exact dd12 | exact dd13 | exact dd14))
  ·
    refine o_want rfl ?_
    refine o_val (v_move rfl) rfl ?_
    refine o_want rfl ?_
    refine o_val (v_len (ty' := 0) Try.underlying26 rfl) rfl ?_
    refine o_want rfl ?_
    refine o_val (v_gtr rfl rfl) rfl ?_
    refine o_val (v_pickF rfl rfl) rfl ?_
    refine o_nil ?_
    refine thn_n ?_
    first | refine w_condD rfl (fun h26 => ?_) (fun h26 => ?_) | refine w_cond rfl (fun h26 => ?_) (fun h26 => ?_)
    ·
      refine w_seq ?_
      refine w_region ?_
      refine o_val (v_assign rfl) rfl ?_
      refine o_nil ?_
      refine thn_n ?_
      refine w_ret ?_
      refine (thn_r ?_)
      exact ret_ok (G := [_, _]) (res1 rfl) ⟨rfl, rfl⟩ (sub (.cons (by first | exact rr0 | exact rr1 | exact rr2 | exact rr3 | exact rr4 | exact rr5 | exact rr6 | exact rr7 | exact rr8 | exact rr9 | exact rr10 | exact rr11 | exact rr12 | exact rr13 | exact rr14) (.cons (by first | exact rr0 | exact rr1 | exact rr2 | exact rr3 | exact rr4 | exact rr5 | exact rr6 | exact rr7 | exact rr8 | exact rr9 | exact rr10 | exact rr11 | exact rr12 | exact rr13 | exact rr14) .nil)) (by first | exact dd0 | exact dd1 | exact dd2 | exact dd3 | exact dd4 | exact dd5 | exact dd6 | exact dd7 | exact dd8 | exact dd9 | exact dd10 | exact dd11 | exact dd12 | exact dd13 | exact dd14))
    ·
      refine w_skip ?_
      refine thn_n ?_
      refine w_seq ?_
      refine w_region ?_
      refine o_call (new) V.b10  rfl .nil rfl ?_
      rintro _ _ ⟨bf, rfl, rfl⟩
      refine o_val (v_build V.pl46 V.z46 rfl (cs := [_, _, _]) rfl) rfl ?_
      refine o_box rfl (cs := [_, _, _]) rfl rfl ?_
      intro b29
      refine o_val (v_assign rfl) rfl ?_
      refine o_val (v_assign rfl) rfl ?_
      refine o_nil ?_
      refine thn_n ?_
      refine w_seq ?_
      refine w_seq ?_
      refine w_region ?_
      refine o_val (v_move rfl) rfl ?_
      refine o_val (v_to (v := .bool false) (v_eqnil Try.underlying24 rfl rfl) rfl) rfl ?_
      refine o_nil ?_
      refine thn_n ?_
      refine w_condF rfl ?_
      refine w_skip ?_
      refine thn_n ?_
      refine w_seq ?_
      refine w_seq ?_
      refine w_region ?_
      refine o_val (v_assign rfl) rfl ?_
      refine o_nil ?_
      refine thn_n ?_
      refine w_block ?_
      refine w_add0 (Row I3 none 0 0 []) (Row.nil _ _ _) ?_
      refine w_add0 (Row I3 none 0 0 []) (Row.nil _ _ _) ?_
      refine w_add0 (Row I3 none 0 0 []) (Row.nil _ _ _) ?_
      refine w_sub (fold' (.cons rr3 (.cons rr0 (.cons rr0 (.cons rr0 .nil)))) dd0 (fun w0 h hh => rf_close (l := []) rfl rfl rfl rfl hh)) ?_
      refine w_loop2 (fun (k : Nat) (m : List Mb) => [(0, .slice pd ds.length cd), (1, .slice pw wl0.length cw), (5, .pointer (some ⟨bf, 0, none⟩)), (6, .pointer (some ⟨b29, 0, none⟩)), (7, .int .i64 (k : Int))]) (fun (k : Nat) (m : List Mb) => IsFair bf m :: RF b29 m :: Deep 48 (.st (.seq (.int .i64) (.seq (.int .i64) (.seq (.int .i64) (.seq (.flt .f64) (.seq (.sl 4 .bool) .unit)))))) pd ds.length ds :: RdR (ecB 4) pw wl0.length wl0 :: F) (fun (k : Nat) (m : List Mb) => Ok m k ∧ k ≤ ds.length) (fun (k : Nat) (m : List Mb) => ds.length - k) (i2 (0) ([]) ?_ (.cons rfl (.cons rfl (.cons rfl (.cons rfl (.cons rfl (.nil _)))))) (sub (.cons (by first | exact rr0 | exact rr1 | exact rr2 | exact rr3 | exact rr4 | exact rr5 | exact rr6 | exact rr7 | exact rr8 | exact rr9 | exact rr10 | exact rr11 | exact rr12 | exact rr13 | exact rr14) (.cons (by first | exact rr0 | exact rr1 | exact rr2 | exact rr3 | exact rr4 | exact rr5 | exact rr6 | exact rr7 | exact rr8 | exact rr9 | exact rr10 | exact rr11 | exact rr12 | exact rr13 | exact rr14) (.cons (by first | exact rr0 | exact rr1 | exact rr2 | exact rr3 | exact rr4 | exact rr5 | exact rr6 | exact rr7 | exact rr8 | exact rr9 | exact rr10 | exact rr11 | exact rr12 | exact rr13 | exact rr14) (.cons (by first | exact rr0 | exact rr1 | exact rr2 | exact rr3 | exact rr4 | exact rr5 | exact rr6 | exact rr7 | exact rr8 | exact rr9 | exact rr10 | exact rr11 | exact rr12 | exact rr13 | exact rr14) .nil)))) (by first | exact dd0 | exact dd1 | exact dd2 | exact dd3 | exact dd4 | exact dd5 | exact dd6 | exact dd7 | exact dd8 | exact dd9 | exact dd10 | exact dd11 | exact dd12 | exact dd13 | exact dd14))) ?_
      ·
        exact ⟨⟨by simp, by simp⟩, by omega⟩
      intro k m
      rintro ⟨hOk, hk⟩
      refine w_seq ?_
      refine w_seq ?_
      refine w_region ?_
      refine o_val (v_move rfl) rfl ?_
      refine o_val (v_move rfl) rfl ?_
      refine o_val (v_len (ty' := 0) Try.underlying43 rfl) rfl ?_
      refine o_val (v_lss rfl rfl) rfl ?_
      refine o_nil ?_
      refine thn_n ?_
      first | refine w_condD rfl (fun h35 => ?_) (fun h35 => ?_) | refine w_cond rfl (fun h35 => ?_) (fun h35 => ?_)
      ·
        refine w_skip ?_
        refine thn_n ?_
        refine w_seq ?_
        refine w_block ?_
        refine w_seq ?_
        have hk2 : k < ds.length := by omega
        refine w_holds (by first | exact mm0 | exact mm1 | exact mm2 | exact mm3 | exact mm4 | exact mm5 | exact mm6 | exact mm7 | exact mm8 | exact mm9 | exact mm10 | exact mm11 | exact mm12 | exact mm13 | exact mm14) (fun hD => ?_)
        have hDk := hD _ (List.getElem_mem hk2)
        have hgk := (Td.ec 48 (.st (.seq (.int .i64) (.seq (.int .i64) (.seq (.int .i64) (.seq (.flt .f64) (.seq (.sl 4 .bool) .unit))))))).g_nat hk2
        rw [← hgk] at hDk
        have hx : ((Td.ec 48 (.st (.seq (.int .i64) (.seq (.int .i64) (.seq (.int .i64) (.seq (.flt .f64) (.seq (.sl 4 .bool) .unit))))))).g ds (k : Int)).2.2.2.1 < 18446744073709551616 := by have := hDk.2.2.2.1; simp only [Td.Holds, Lit.wf, decide_eq_true_eq] at this; exact this
        refine w_net [⟨[], [], [5], 0, 0⟩, ⟨[], [], [0], 0, 0⟩, ⟨[], [], [7], 0, 0⟩, ⟨[1, 2], [1, 2], [], 0, 0⟩, ⟨[1, 2, 3], [3], [], 0, 0⟩, ⟨[1, 2, 3, 4], [4], [], 0, 0⟩, ⟨[], [], [0], 0, 0⟩, ⟨[], [], [7], 0, 0⟩, ⟨[6, 7], [6, 7], [], 0, 0⟩, ⟨[6, 7, 8], [8], [], 0, 0⟩, ⟨[6, 7, 8, 9], [9], [], 0, 0⟩, ⟨[0, 1, 2, 3, 4, 5, 6, 7, 8, 9, 10], [0, 5, 10], [], 0, 0⟩] [⟨fun y => IsFair bf m, none, some 11, []⟩, ⟨fun y => RF b29 m, none, none, []⟩, ⟨fun y => Deep 48 (.st (.seq (.int .i64) (.seq (.int .i64) (.seq (.int .i64) (.seq (.flt .f64) (.seq (.sl 4 .bool) .unit)))))) pd ds.length ds, none, none, [3, 5, 8, 10]⟩, ⟨fun y => RdR (ecB 4) pw wl0.length wl0, none, none, []⟩, ⟨fun y => IsFair bf (jList m ((Td.ec 48 (.st (.seq (.int .i64) (.seq (.int .i64) (.seq (.int .i64) (.seq (.flt .f64) (.seq (.sl 4 .bool) .unit))))))).g ds (k : Int)).2.1 ((Td.ec 48 (.st (.seq (.int .i64) (.seq (.int .i64) (.seq (.int .i64) (.seq (.flt .f64) (.seq (.sl 4 .bool) .unit))))))).g ds (k : Int)).2.2.2.1), some 11, none, []⟩] F V.mixed (by kernel_rfl) rfl (fun _ => .refl _) (locT_0 _ (locT_0 _ (locT_0 _ (locT_0 _ (locT_1 [0, 1, 2, 3, 4, 5, 6, 7, 8, 9, 10] rfl (by intro y y2 h; rfl) locT_nil))))) ?_
        refine net_pure (fun y => [(5, _)]) (fun y => rfl) rfl rfl rfl (fun y hA L => st_v (v_move rfl) ⟨rfl, rfl⟩) (by intros; rfl) (by intro y y2 h; rfl) ?_
        refine net_pure (fun y => [(0, _)]) (fun y => rfl) rfl rfl rfl (fun y hA L => st_v (v_move rfl) ⟨rfl, rfl⟩) (by intros; rfl) (by intro y y2 h; rfl) ?_
        refine net_pure (fun y => [(7, _)]) (fun y => rfl) rfl rfl rfl (fun y hA L => st_v (v_move rfl) ⟨rfl, rfl⟩) (by intros; rfl) (by intro y y2 h; rfl) ?_
        refine net_read (fun y => [Deep 48 (.st (.seq (.int .i64) (.seq (.int .i64) (.seq (.int .i64) (.seq (.flt .f64) (.seq (.sl 4 .bool) .unit)))))) pd ds.length ds]) (fun y => [(39, _), (40, _)]) (fun y => rfl) rfl (fun y => rfl) rfl (fun y FF hA => st_v (r_index (c := (Td.ec 48 (.st (.seq (.int .i64) (.seq (.int .i64) (.seq (.int .i64) (.seq (.flt .f64) (.seq (.sl 4 .bool) .unit)))))))) V.sl43 rfl rfl (by first | exact own mm0 | exact own mm1 | exact own mm2 | exact own mm3 | exact own mm4 | exact own mm5 | exact own mm6 | exact own mm7 | exact own mm8 | exact own mm9 | exact own mm10 | exact own mm11 | exact rdH (fun _ _ h => h) mm0 | exact rdH (fun _ _ h => h) mm1 | exact rdH (fun _ _ h => h) mm2 | exact rdH (fun _ _ h => h) mm3 | exact rdH (fun _ _ h => h) mm4 | exact rdH (fun _ _ h => h) mm5 | exact rdH (fun _ _ h => h) mm6 | exact rdH (fun _ _ h => h) mm7 | exact rdH (fun _ _ h => h) mm8 | exact rdH (fun _ _ h => h) mm9 | exact rdH (fun _ _ h => h) mm10 | exact rdH (fun _ _ h => h) mm11 | exact deepH mm0 | exact deepH mm1 | exact deepH mm2 | exact deepH mm3 | exact deepH mm4 | exact deepH mm5 | exact deepH mm6 | exact deepH mm7 | exact deepH mm8 | exact deepH mm9 | exact deepH mm10 | exact deepH mm11) (by omega) (by omega)) ⟨rfl, rfl⟩) (by intros; rfl) (by intro y y2 h; rfl) ?_
        refine net_pure (fun y => [(41, _)]) (fun y => rfl) rfl rfl rfl (fun y hA L => st_v (v_fieldAddr V.f48_1 rfl) ⟨rfl, rfl⟩) (by intros; rfl) (by intro y y2 h; rfl) ?_
        refine net_read (fun y => [Deep 48 (.st (.seq (.int .i64) (.seq (.int .i64) (.seq (.int .i64) (.seq (.flt .f64) (.seq (.sl 4 .bool) .unit)))))) pd ds.length ds]) (fun y => [(42, _)]) (fun y => rfl) rfl (fun y => rfl) rfl (fun y FF hA => st_v (r_loadF (c := (Td.ec 48 (.st (.seq (.int .i64) (.seq (.int .i64) (.seq (.int .i64) (.seq (.flt .f64) (.seq (.sl 4 .bool) .unit)))))))) 1 V.s3 rfl (by first | exact own mm0 | exact own mm1 | exact own mm2 | exact own mm3 | exact own mm4 | exact own mm5 | exact own mm6 | exact own mm7 | exact own mm8 | exact own mm9 | exact own mm10 | exact own mm11 | exact rdH (fun _ _ h => h) mm0 | exact rdH (fun _ _ h => h) mm1 | exact rdH (fun _ _ h => h) mm2 | exact rdH (fun _ _ h => h) mm3 | exact rdH (fun _ _ h => h) mm4 | exact rdH (fun _ _ h => h) mm5 | exact rdH (fun _ _ h => h) mm6 | exact rdH (fun _ _ h => h) mm7 | exact rdH (fun _ _ h => h) mm8 | exact rdH (fun _ _ h => h) mm9 | exact rdH (fun _ _ h => h) mm10 | exact rdH (fun _ _ h => h) mm11 | exact deepH mm0 | exact deepH mm1 | exact deepH mm2 | exact deepH mm3 | exact deepH mm4 | exact deepH mm5 | exact deepH mm6 | exact deepH mm7 | exact deepH mm8 | exact deepH mm9 | exact deepH mm10 | exact deepH mm11) (by omega) (by omega) rfl rfl) ⟨rfl, rfl⟩) (by intros; rfl) (by intro y y2 h; rfl) ?_
        refine net_pure (fun y => [(0, _)]) (fun y => rfl) rfl rfl rfl (fun y hA L => st_v (v_move rfl) ⟨rfl, rfl⟩) (by intros; rfl) (by intro y y2 h; rfl) ?_
        refine net_pure (fun y => [(7, _)]) (fun y => rfl) rfl rfl rfl (fun y hA L => st_v (v_move rfl) ⟨rfl, rfl⟩) (by intros; rfl) (by intro y y2 h; rfl) ?_
        refine net_read (fun y => [Deep 48 (.st (.seq (.int .i64) (.seq (.int .i64) (.seq (.int .i64) (.seq (.flt .f64) (.seq (.sl 4 .bool) .unit)))))) pd ds.length ds]) (fun y => [(44, _), (45, _)]) (fun y => rfl) rfl (fun y => rfl) rfl (fun y FF hA => st_v (r_index (c := (Td.ec 48 (.st (.seq (.int .i64) (.seq (.int .i64) (.seq (.int .i64) (.seq (.flt .f64) (.seq (.sl 4 .bool) .unit)))))))) V.sl43 rfl rfl (by first | exact own mm0 | exact own mm1 | exact own mm2 | exact own mm3 | exact own mm4 | exact own mm5 | exact own mm6 | exact own mm7 | exact own mm8 | exact own mm9 | exact own mm10 | exact own mm11 | exact rdH (fun _ _ h => h) mm0 | exact rdH (fun _ _ h => h) mm1 | exact rdH (fun _ _ h => h) mm2 | exact rdH (fun _ _ h => h) mm3 | exact rdH (fun _ _ h => h) mm4 | exact rdH (fun _ _ h => h) mm5 | exact rdH (fun _ _ h => h) mm6 | exact rdH (fun _ _ h => h) mm7 | exact rdH (fun _ _ h => h) mm8 | exact rdH (fun _ _ h => h) mm9 | exact rdH (fun _ _ h => h) mm10 | exact rdH (fun _ _ h => h) mm11 | exact deepH mm0 | exact deepH mm1 | exact deepH mm2 | exact deepH mm3 | exact deepH mm4 | exact deepH mm5 | exact deepH mm6 | exact deepH mm7 | exact deepH mm8 | exact deepH mm9 | exact deepH mm10 | exact deepH mm11) (by omega) (by omega)) ⟨rfl, rfl⟩) (by intros; rfl) (by intro y y2 h; rfl) ?_
        refine net_pure (fun y => [(46, _)]) (fun y => rfl) rfl rfl rfl (fun y hA L => st_v (v_fieldAddr V.f48_3 rfl) ⟨rfl, rfl⟩) (by intros; rfl) (by intro y y2 h; rfl) ?_
        refine net_read (fun y => [Deep 48 (.st (.seq (.int .i64) (.seq (.int .i64) (.seq (.int .i64) (.seq (.flt .f64) (.seq (.sl 4 .bool) .unit)))))) pd ds.length ds]) (fun y => [(47, _)]) (fun y => rfl) rfl (fun y => rfl) rfl (fun y FF hA => st_v (r_loadF (c := (Td.ec 48 (.st (.seq (.int .i64) (.seq (.int .i64) (.seq (.int .i64) (.seq (.flt .f64) (.seq (.sl 4 .bool) .unit)))))))) 3 V.s30 rfl (by first | exact own mm0 | exact own mm1 | exact own mm2 | exact own mm3 | exact own mm4 | exact own mm5 | exact own mm6 | exact own mm7 | exact own mm8 | exact own mm9 | exact own mm10 | exact own mm11 | exact rdH (fun _ _ h => h) mm0 | exact rdH (fun _ _ h => h) mm1 | exact rdH (fun _ _ h => h) mm2 | exact rdH (fun _ _ h => h) mm3 | exact rdH (fun _ _ h => h) mm4 | exact rdH (fun _ _ h => h) mm5 | exact rdH (fun _ _ h => h) mm6 | exact rdH (fun _ _ h => h) mm7 | exact rdH (fun _ _ h => h) mm8 | exact rdH (fun _ _ h => h) mm9 | exact rdH (fun _ _ h => h) mm10 | exact rdH (fun _ _ h => h) mm11 | exact deepH mm0 | exact deepH mm1 | exact deepH mm2 | exact deepH mm3 | exact deepH mm4 | exact deepH mm5 | exact deepH mm6 | exact deepH mm7 | exact deepH mm8 | exact deepH mm9 | exact deepH mm10 | exact deepH mm11) (by omega) (by omega) rfl rfl) ⟨rfl, rfl⟩) (by intros; rfl) (by intro y y2 h; rfl) ?_
        refine net_eff (fun y => [IsFair bf m]) (fun y => []) (fun y => [IsFair bf (jList m ((Td.ec 48 (.st (.seq (.int .i64) (.seq (.int .i64) (.seq (.int .i64) (.seq (.flt .f64) (.seq (.sl 4 .bool) .unit))))))).g ds (k : Int)).2.1 ((Td.ec 48 (.st (.seq (.int .i64) (.seq (.int .i64) (.seq (.int .i64) (.seq (.flt .f64) (.seq (.sl 4 .bool) .unit))))))).g ds (k : Int)).2.2.2.1)]) (fun y => [(38, _), (43, _), (48, _)]) (fun y => rfl) (fun y => rfl) (fun y => rfl) (fun y => rfl) (fun y FF hA => st_callN (Post := [IsFair bf (jList m ((Td.ec 48 (.st (.seq (.int .i64) (.seq (.int .i64) (.seq (.int .i64) (.seq (.flt .f64) (.seq (.sl 4 .bool) .unit))))))).g ds (k : Int)).2.1 ((Td.ec 48 (.st (.seq (.int .i64) (.seq (.int .i64) (.seq (.int .i64) (.seq (.flt .f64) (.seq (.sl 4 .bool) .unit))))))).g ds (k : Int)).2.2.2.1)]) (p_join bf ((Td.ec 48 (.st (.seq (.int .i64) (.seq (.int .i64) (.seq (.int .i64) (.seq (.flt .f64) (.seq (.sl 4 .bool) .unit))))))).g ds (k : Int)).2.1 ((Td.ec 48 (.st (.seq (.int .i64) (.seq (.int .i64) (.seq (.int .i64) (.seq (.flt .f64) (.seq (.sl 4 .bool) .unit))))))).g ds (k : Int)).2.2.2.1 m (by have := hOk.len; omega) hx) V.b11 rfl (.cons (by first | exact rr0 | exact rr1 | exact rr2 | exact rr3 | exact rr4 | exact rr5 | exact rr6 | exact rr7 | exact rr8 | exact rr9 | exact rr10 | exact rr11 | exact rr12 | exact rr13 | exact rr14) .nil) (fun v G h => by rcases h with ⟨rfl, rfl⟩; exact ⟨rfl, .refl _⟩)) (by intros; rfl) (by intros; rfl) (by intro y y2 h; rfl) ?_
        refine net_nil ?_
        intro y hA
        clear hA
        refine thn_n ?_
        refine w_keep _ (.cons (d := 0) rfl (.cons (d := 1) rfl (.cons (d := 5) rfl (.cons (d := 6) rfl (.cons (d := 7) rfl (.nil _)))))) ?_
        refine w_sub (M := RF b29 m :: Deep 48 (.st (.seq (.int .i64) (.seq (.int .i64) (.seq (.int .i64) (.seq (.flt .f64) (.seq (.sl 4 .bool) .unit)))))) pd ds.length ds :: RdR (ecB 4) pw wl0.length wl0 :: IsFair bf (jList m ((Td.ec 48 (.st (.seq (.int .i64) (.seq (.int .i64) (.seq (.int .i64) (.seq (.flt .f64) (.seq (.sl 4 .bool) .unit))))))).g ds (k : Int)).2.1 ((Td.ec 48 (.st (.seq (.int .i64) (.seq (.int .i64) (.seq (.int .i64) (.seq (.flt .f64) (.seq (.sl 4 .bool) .unit))))))).g ds (k : Int)).2.2.2.1) :: F) (fun _ _ h => h) ?_
        refine w_net [⟨[], [], [6], 0, 0⟩, ⟨[], [], [0], 0, 0⟩, ⟨[], [], [7], 0, 0⟩, ⟨[1, 2], [1, 2], [], 0, 0⟩, ⟨[1, 2, 3], [3], [], 0, 0⟩, ⟨[1, 2, 3, 4], [4], [], 0, 0⟩, ⟨[], [], [0], 0, 0⟩, ⟨[], [], [7], 0, 0⟩, ⟨[6, 7], [6, 7], [], 0, 0⟩, ⟨[6, 7, 8], [8], [], 0, 0⟩, ⟨[6, 7, 8, 9], [9], [], 0, 0⟩, ⟨[0, 1, 2, 3, 4, 5, 6, 7, 8, 9, 10], [0, 5, 10], [], 0, 0⟩] [⟨fun y => RF b29 m, none, some 11, []⟩, ⟨fun y => Deep 48 (.st (.seq (.int .i64) (.seq (.int .i64) (.seq (.int .i64) (.seq (.flt .f64) (.seq (.sl 4 .bool) .unit)))))) pd ds.length ds, none, none, [3, 5, 8, 10]⟩, ⟨fun y => RdR (ecB 4) pw wl0.length wl0, none, none, []⟩, ⟨fun y => IsFair bf (jList m ((Td.ec 48 (.st (.seq (.int .i64) (.seq (.int .i64) (.seq (.int .i64) (.seq (.flt .f64) (.seq (.sl 4 .bool) .unit))))))).g ds (k : Int)).2.1 ((Td.ec 48 (.st (.seq (.int .i64) (.seq (.int .i64) (.seq (.int .i64) (.seq (.flt .f64) (.seq (.sl 4 .bool) .unit))))))).g ds (k : Int)).2.2.2.1), none, none, []⟩, ⟨fun y => RF b29 (jList m ((Td.ec 48 (.st (.seq (.int .i64) (.seq (.int .i64) (.seq (.int .i64) (.seq (.flt .f64) (.seq (.sl 4 .bool) .unit))))))).g ds (k : Int)).2.1 ((Td.ec 48 (.st (.seq (.int .i64) (.seq (.int .i64) (.seq (.int .i64) (.seq (.flt .f64) (.seq (.sl 4 .bool) .unit))))))).g ds (k : Int)).2.2.2.1), some 11, none, []⟩] F V.mixed (by kernel_rfl) rfl (fun _ => .refl _) (locT_0 _ (locT_0 _ (locT_0 _ (locT_0 _ (locT_1 [0, 1, 2, 3, 4, 5, 6, 7, 8, 9, 10] rfl (by intro y y2 h; rfl) locT_nil))))) ?_
        refine net_pure (fun y => [(6, _)]) (fun y => rfl) rfl rfl rfl (fun y hA L => st_v (v_move rfl) ⟨rfl, rfl⟩) (by intros; rfl) (by intro y y2 h; rfl) ?_
        refine net_pure (fun y => [(0, _)]) (fun y => rfl) rfl rfl rfl (fun y hA L => st_v (v_move rfl) ⟨rfl, rfl⟩) (by intros; rfl) (by intro y y2 h; rfl) ?_
        refine net_pure (fun y => [(7, _)]) (fun y => rfl) rfl rfl rfl (fun y hA L => st_v (v_move rfl) ⟨rfl, rfl⟩) (by intros; rfl) (by intro y y2 h; rfl) ?_
        refine net_read (fun y => [Deep 48 (.st (.seq (.int .i64) (.seq (.int .i64) (.seq (.int .i64) (.seq (.flt .f64) (.seq (.sl 4 .bool) .unit)))))) pd ds.length ds]) (fun y => [(51, _), (52, _)]) (fun y => rfl) rfl (fun y => rfl) rfl (fun y FF hA => st_v (r_index (c := (Td.ec 48 (.st (.seq (.int .i64) (.seq (.int .i64) (.seq (.int .i64) (.seq (.flt .f64) (.seq (.sl 4 .bool) .unit)))))))) V.sl43 rfl rfl (by first | exact own mm0 | exact own mm1 | exact own mm2 | exact own mm3 | exact own mm4 | exact own mm5 | exact own mm6 | exact own mm7 | exact own mm8 | exact own mm9 | exact own mm10 | exact own mm11 | exact rdH (fun _ _ h => h) mm0 | exact rdH (fun _ _ h => h) mm1 | exact rdH (fun _ _ h => h) mm2 | exact rdH (fun _ _ h => h) mm3 | exact rdH (fun _ _ h => h) mm4 | exact rdH (fun _ _ h => h) mm5 | exact rdH (fun _ _ h => h) mm6 | exact rdH (fun _ _ h => h) mm7 | exact rdH (fun _ _ h => h) mm8 | exact rdH (fun _ _ h => h) mm9 | exact rdH (fun _ _ h => h) mm10 | exact rdH (fun _ _ h => h) mm11 | exact deepH mm0 | exact deepH mm1 | exact deepH mm2 | exact deepH mm3 | exact deepH mm4 | exact deepH mm5 | exact deepH mm6 | exact deepH mm7 | exact deepH mm8 | exact deepH mm9 | exact deepH mm10 | exact deepH mm11) (by omega) (by omega)) ⟨rfl, rfl⟩) (by intros; rfl) (by intro y y2 h; rfl) ?_
        refine net_pure (fun y => [(53, _)]) (fun y => rfl) rfl rfl rfl (fun y hA L => st_v (v_fieldAddr V.f48_1 rfl) ⟨rfl, rfl⟩) (by intros; rfl) (by intro y y2 h; rfl) ?_
        refine net_read (fun y => [Deep 48 (.st (.seq (.int .i64) (.seq (.int .i64) (.seq (.int .i64) (.seq (.flt .f64) (.seq (.sl 4 .bool) .unit)))))) pd ds.length ds]) (fun y => [(54, _)]) (fun y => rfl) rfl (fun y => rfl) rfl (fun y FF hA => st_v (r_loadF (c := (Td.ec 48 (.st (.seq (.int .i64) (.seq (.int .i64) (.seq (.int .i64) (.seq (.flt .f64) (.seq (.sl 4 .bool) .unit)))))))) 1 V.s3 rfl (by first | exact own mm0 | exact own mm1 | exact own mm2 | exact own mm3 | exact own mm4 | exact own mm5 | exact own mm6 | exact own mm7 | exact own mm8 | exact own mm9 | exact own mm10 | exact own mm11 | exact rdH (fun _ _ h => h) mm0 | exact rdH (fun _ _ h => h) mm1 | exact rdH (fun _ _ h => h) mm2 | exact rdH (fun _ _ h => h) mm3 | exact rdH (fun _ _ h => h) mm4 | exact rdH (fun _ _ h => h) mm5 | exact rdH (fun _ _ h => h) mm6 | exact rdH (fun _ _ h => h) mm7 | exact rdH (fun _ _ h => h) mm8 | exact rdH (fun _ _ h => h) mm9 | exact rdH (fun _ _ h => h) mm10 | exact rdH (fun _ _ h => h) mm11 | exact deepH mm0 | exact deepH mm1 | exact deepH mm2 | exact deepH mm3 | exact deepH mm4 | exact deepH mm5 | exact deepH mm6 | exact deepH mm7 | exact deepH mm8 | exact deepH mm9 | exact deepH mm10 | exact deepH mm11) (by omega) (by omega) rfl rfl) ⟨rfl, rfl⟩) (by intros; rfl) (by intro y y2 h; rfl) ?_
        refine net_pure (fun y => [(0, _)]) (fun y => rfl) rfl rfl rfl (fun y hA L => st_v (v_move rfl) ⟨rfl, rfl⟩) (by intros; rfl) (by intro y y2 h; rfl) ?_
        refine net_pure (fun y => [(7, _)]) (fun y => rfl) rfl rfl rfl (fun y hA L => st_v (v_move rfl) ⟨rfl, rfl⟩) (by intros; rfl) (by intro y y2 h; rfl) ?_
        refine net_read (fun y => [Deep 48 (.st (.seq (.int .i64) (.seq (.int .i64) (.seq (.int .i64) (.seq (.flt .f64) (.seq (.sl 4 .bool) .unit)))))) pd ds.length ds]) (fun y => [(56, _), (57, _)]) (fun y => rfl) rfl (fun y => rfl) rfl (fun y FF hA => st_v (r_index (c := (Td.ec 48 (.st (.seq (.int .i64) (.seq (.int .i64) (.seq (.int .i64) (.seq (.flt .f64) (.seq (.sl 4 .bool) .unit)))))))) V.sl43 rfl rfl (by first | exact own mm0 | exact own mm1 | exact own mm2 | exact own mm3 | exact own mm4 | exact own mm5 | exact own mm6 | exact own mm7 | exact own mm8 | exact own mm9 | exact own mm10 | exact own mm11 | exact rdH (fun _ _ h => h) mm0 | exact rdH (fun _ _ h => h) mm1 | exact rdH (fun _ _ h => h) mm2 | exact rdH (fun _ _ h => h) mm3 | exact rdH (fun _ _ h => h) mm4 | exact rdH (fun _ _ h => h) mm5 | exact rdH (fun _ _ h => h) mm6 | exact rdH (fun _ _ h => h) mm7 | exact rdH (fun _ _ h => h) mm8 | exact rdH (fun _ _ h => h) mm9 | exact rdH (fun _ _ h => h) mm10 | exact rdH (fun _ _ h => h) mm11 | exact deepH mm0 | exact deepH mm1 | exact deepH mm2 | exact deepH mm3 | exact deepH mm4 | exact deepH mm5 | exact deepH mm6 | exact deepH mm7 | exact deepH mm8 | exact deepH mm9 | exact deepH mm10 | exact deepH mm11) (by omega) (by omega)) ⟨rfl, rfl⟩) (by intros; rfl) (by intro y y2 h; rfl) ?_
        refine net_pure (fun y => [(58, _)]) (fun y => rfl) rfl rfl rfl (fun y hA L => st_v (v_fieldAddr V.f48_3 rfl) ⟨rfl, rfl⟩) (by intros; rfl) (by intro y y2 h; rfl) ?_
        refine net_read (fun y => [Deep 48 (.st (.seq (.int .i64) (.seq (.int .i64) (.seq (.int .i64) (.seq (.flt .f64) (.seq (.sl 4 .bool) .unit)))))) pd ds.length ds]) (fun y => [(59, _)]) (fun y => rfl) rfl (fun y => rfl) rfl (fun y FF hA => st_v (r_loadF (c := (Td.ec 48 (.st (.seq (.int .i64) (.seq (.int .i64) (.seq (.int .i64) (.seq (.flt .f64) (.seq (.sl 4 .bool) .unit)))))))) 3 V.s30 rfl (by first | exact own mm0 | exact own mm1 | exact own mm2 | exact own mm3 | exact own mm4 | exact own mm5 | exact own mm6 | exact own mm7 | exact own mm8 | exact own mm9 | exact own mm10 | exact own mm11 | exact rdH (fun _ _ h => h) mm0 | exact rdH (fun _ _ h => h) mm1 | exact rdH (fun _ _ h => h) mm2 | exact rdH (fun _ _ h => h) mm3 | exact rdH (fun _ _ h => h) mm4 | exact rdH (fun _ _ h => h) mm5 | exact rdH (fun _ _ h => h) mm6 | exact rdH (fun _ _ h => h) mm7 | exact rdH (fun _ _ h => h) mm8 | exact rdH (fun _ _ h => h) mm9 | exact rdH (fun _ _ h => h) mm10 | exact rdH (fun _ _ h => h) mm11 | exact deepH mm0 | exact deepH mm1 | exact deepH mm2 | exact deepH mm3 | exact deepH mm4 | exact deepH mm5 | exact deepH mm6 | exact deepH mm7 | exact deepH mm8 | exact deepH mm9 | exact deepH mm10 | exact deepH mm11) (by omega) (by omega) rfl rfl) ⟨rfl, rfl⟩) (by intros; rfl) (by intro y y2 h; rfl) ?_
        refine net_eff (fun y => [RF b29 m]) (fun y => []) (fun y => [RF b29 (jList m ((Td.ec 48 (.st (.seq (.int .i64) (.seq (.int .i64) (.seq (.int .i64) (.seq (.flt .f64) (.seq (.sl 4 .bool) .unit))))))).g ds (k : Int)).2.1 ((Td.ec 48 (.st (.seq (.int .i64) (.seq (.int .i64) (.seq (.int .i64) (.seq (.flt .f64) (.seq (.sl 4 .bool) .unit))))))).g ds (k : Int)).2.2.2.1)]) (fun y => [(50, _), (55, _), (60, _)]) (fun y => rfl) (fun y => rfl) (fun y => rfl) (fun y => rfl) (fun y FF hA => st_callN (Post := [RF b29 (jList m ((Td.ec 48 (.st (.seq (.int .i64) (.seq (.int .i64) (.seq (.int .i64) (.seq (.flt .f64) (.seq (.sl 4 .bool) .unit))))))).g ds (k : Int)).2.1 ((Td.ec 48 (.st (.seq (.int .i64) (.seq (.int .i64) (.seq (.int .i64) (.seq (.flt .f64) (.seq (.sl 4 .bool) .unit))))))).g ds (k : Int)).2.2.2.1)]) (r_join b29 ((Td.ec 48 (.st (.seq (.int .i64) (.seq (.int .i64) (.seq (.int .i64) (.seq (.flt .f64) (.seq (.sl 4 .bool) .unit))))))).g ds (k : Int)).2.1 ((Td.ec 48 (.st (.seq (.int .i64) (.seq (.int .i64) (.seq (.int .i64) (.seq (.flt .f64) (.seq (.sl 4 .bool) .unit))))))).g ds (k : Int)).2.2.2.1 m (by have := hOk.len; omega) hx) V.b19 rfl (.cons (by first | exact rr0 | exact rr1 | exact rr2 | exact rr3 | exact rr4 | exact rr5 | exact rr6 | exact rr7 | exact rr8 | exact rr9 | exact rr10 | exact rr11 | exact rr12 | exact rr13 | exact rr14) .nil) (fun v G h => by rcases h with ⟨rfl, rfl⟩; exact ⟨rfl, .refl _⟩)) (by intros; rfl) (by intros; rfl) (by intro y y2 h; rfl) ?_
        refine net_nil ?_
        intro y hA
        clear hA
        show blk _ _ _ _ (Deep 48 (.st (.seq (.int .i64) (.seq (.int .i64) (.seq (.int .i64) (.seq (.flt .f64) (.seq (.sl 4 .bool) .unit)))))) pd ds.length ds :: RdR (ecB 4) pw wl0.length wl0 :: IsFair bf (jList m ((Td.ec 48 (.st (.seq (.int .i64) (.seq (.int .i64) (.seq (.int .i64) (.seq (.flt .f64) (.seq (.sl 4 .bool) .unit))))))).g ds (k : Int)).2.1 ((Td.ec 48 (.st (.seq (.int .i64) (.seq (.int .i64) (.seq (.int .i64) (.seq (.flt .f64) (.seq (.sl 4 .bool) .unit))))))).g ds (k : Int)).2.2.2.1) :: RF b29 (jList m ((Td.ec 48 (.st (.seq (.int .i64) (.seq (.int .i64) (.seq (.int .i64) (.seq (.flt .f64) (.seq (.sl 4 .bool) .unit))))))).g ds (k : Int)).2.1 ((Td.ec 48 (.st (.seq (.int .i64) (.seq (.int .i64) (.seq (.int .i64) (.seq (.flt .f64) (.seq (.sl 4 .bool) .unit))))))).g ds (k : Int)).2.2.2.1) :: F)
        refine blk_n ?_
        refine thn_n ?_
        refine w_region ?_
        refine o_val (v_move rfl) rfl ?_
        refine o_val (v_add rfl rfl (wrapI (by omega) (by omega))) rfl ?_
        refine o_val (v_assign rfl) rfl ?_
        refine o_nil ?_
        refine j2 (k + 1) (_) ?_ (.cons rfl (.cons rfl (.cons rfl (.cons rfl (.cons rfl (.nil _)))))) (sub (.cons (by first | exact rr0 | exact rr1 | exact rr2 | exact rr3 | exact rr4 | exact rr5 | exact rr6 | exact rr7 | exact rr8 | exact rr9 | exact rr10 | exact rr11 | exact rr12 | exact rr13 | exact rr14) (.cons (by first | exact rr0 | exact rr1 | exact rr2 | exact rr3 | exact rr4 | exact rr5 | exact rr6 | exact rr7 | exact rr8 | exact rr9 | exact rr10 | exact rr11 | exact rr12 | exact rr13 | exact rr14) (.cons (by first | exact rr0 | exact rr1 | exact rr2 | exact rr3 | exact rr4 | exact rr5 | exact rr6 | exact rr7 | exact rr8 | exact rr9 | exact rr10 | exact rr11 | exact rr12 | exact rr13 | exact rr14) (.cons (by first | exact rr0 | exact rr1 | exact rr2 | exact rr3 | exact rr4 | exact rr5 | exact rr6 | exact rr7 | exact rr8 | exact rr9 | exact rr10 | exact rr11 | exact rr12 | exact rr13 | exact rr14) .nil)))) (by first | exact dd0 | exact dd1 | exact dd2 | exact dd3 | exact dd4 | exact dd5 | exact dd6 | exact dd7 | exact dd8 | exact dd9 | exact dd10 | exact dd11 | exact dd12 | exact dd13 | exact dd14))
        exact ⟨⟨hOk.join _ _, by omega⟩, by omega⟩
      ·
        refine w_exit ?_
        refine thn_e ?_
        refine thn_e ?_
        refine blk_x ?_
        refine thn_n ?_
        refine w_seq ?_
        have hml := hOk.len
        have hw0 : ∀ x ∈ m, 0 ≤ x.who := fun x hx => (hOk.mem x hx).1
        refine w_region ?_
        refine r_build (ecB 4) [] V.sl26 V.z4 rfl rfl rfl rfl rfl rfl ?_
        intro b62
        refine o_val (v_move rfl) rfl ?_
        refine r_append (c := (ecB 4)) V.sl26 V.z4 rfl rfl rfl rfl (by first | exact rr0 | exact rr1 | exact rr2 | exact rr3 | exact rr4 | exact rr5 | exact rr6 | exact rr7 | exact rr8 | exact rr9 | exact rr10 | exact rr11 | exact rr12 | exact rr13 | exact rr14) (by first | exact own mm0 | exact own mm1 | exact own mm2 | exact own mm3 | exact own mm4 | exact own mm5 | exact own mm6 | exact own mm7 | exact own mm8 | exact own mm9 | exact own mm10 | exact own mm11 | exact rdH (fun _ _ h => h) mm0 | exact rdH (fun _ _ h => h) mm1 | exact rdH (fun _ _ h => h) mm2 | exact rdH (fun _ _ h => h) mm3 | exact rdH (fun _ _ h => h) mm4 | exact rdH (fun _ _ h => h) mm5 | exact rdH (fun _ _ h => h) mm6 | exact rdH (fun _ _ h => h) mm7 | exact rdH (fun _ _ h => h) mm8 | exact rdH (fun _ _ h => h) mm9 | exact rdH (fun _ _ h => h) mm10 | exact rdH (fun _ _ h => h) mm11 | exact deepH mm0 | exact deepH mm1 | exact deepH mm2 | exact deepH mm3 | exact deepH mm4 | exact deepH mm5 | exact deepH mm6 | exact deepH mm7 | exact deepH mm8 | exact deepH mm9 | exact deepH mm10 | exact deepH mm11) (by omega) rfl ?_
        intro p64 c64
        rw [Nat.zero_add]
        refine o_val (v_assign rfl) rfl ?_
        refine o_nil ?_
        refine thn_n ?_
        refine w_seq ?_
        refine w_seq ?_
        refine w_region ?_
        refine o_val (v_assign rfl) rfl ?_
        refine o_nil ?_
        refine thn_n ?_
        refine w_block ?_
        refine w_opnR (A := RF b29 m) (by first | exact rr0 | exact rr1 | exact rr2 | exact rr3 | exact rr4 | exact rr5 | exact rr6 | exact rr7 | exact rr8 | exact rr9 | exact rr10 | exact rr11 | exact rr12 | exact rr13 | exact rr14) (fun h hh => hh) ?_
        rintro ⟨p1, c1, p2, c2, p3, c3⟩ _
        dsimp only
        refine w_loop2 (fun (wl : List Bool) (i : Nat) => [(5, .pointer (some ⟨bf, 0, none⟩)), (6, .pointer (some ⟨b29, 0, none⟩)), (8, .slice p64 wl0.length c64), (9, .int .i64 (i : Int))]) (fun (wl : List Bool) (i : Nat) => Row (ecB 4) p64 wl0.length c64 wl :: IsFair bf m :: Cel b29 46 [.slice p1 m.length c1, .slice p2 m.length c2, .slice p3 m.length c3] :: Row I3 p1 m.length c1 (m.map Mb.who) :: Row I3 p2 m.length c2 (m.map Mb.q) :: Row I3 p3 m.length c3 (m.map Mb.c) :: Deep 48 (.st (.seq (.int .i64) (.seq (.int .i64) (.seq (.int .i64) (.seq (.flt .f64) (.seq (.sl 4 .bool) .unit)))))) pd ds.length ds :: RdR (ecB 4) pw wl0.length wl0 :: F) (fun (wl : List Bool) (i : Nat) => wl.length = wl0.length ∧ i ≤ wl0.length ∧ Cl m wl i 0) (fun (wl : List Bool) (i : Nat) => wl0.length - i) (i2 (_) (0) ?_ (.cons rfl (.cons rfl (.cons rfl (.cons rfl (.nil _))))) (sub (.cons (by first | exact rr0 | exact rr1 | exact rr2 | exact rr3 | exact rr4 | exact rr5 | exact rr6 | exact rr7 | exact rr8 | exact rr9 | exact rr10 | exact rr11 | exact rr12 | exact rr13 | exact rr14) (.cons (by first | exact rr0 | exact rr1 | exact rr2 | exact rr3 | exact rr4 | exact rr5 | exact rr6 | exact rr7 | exact rr8 | exact rr9 | exact rr10 | exact rr11 | exact rr12 | exact rr13 | exact rr14) (.cons (by first | exact rr0 | exact rr1 | exact rr2 | exact rr3 | exact rr4 | exact rr5 | exact rr6 | exact rr7 | exact rr8 | exact rr9 | exact rr10 | exact rr11 | exact rr12 | exact rr13 | exact rr14) (.cons (by first | exact rr0 | exact rr1 | exact rr2 | exact rr3 | exact rr4 | exact rr5 | exact rr6 | exact rr7 | exact rr8 | exact rr9 | exact rr10 | exact rr11 | exact rr12 | exact rr13 | exact rr14) (.cons (by first | exact rr0 | exact rr1 | exact rr2 | exact rr3 | exact rr4 | exact rr5 | exact rr6 | exact rr7 | exact rr8 | exact rr9 | exact rr10 | exact rr11 | exact rr12 | exact rr13 | exact rr14) (.cons (by first | exact rr0 | exact rr1 | exact rr2 | exact rr3 | exact rr4 | exact rr5 | exact rr6 | exact rr7 | exact rr8 | exact rr9 | exact rr10 | exact rr11 | exact rr12 | exact rr13 | exact rr14) (.cons (by first | exact rr0 | exact rr1 | exact rr2 | exact rr3 | exact rr4 | exact rr5 | exact rr6 | exact rr7 | exact rr8 | exact rr9 | exact rr10 | exact rr11 | exact rr12 | exact rr13 | exact rr14) (.cons (by first | exact rr0 | exact rr1 | exact rr2 | exact rr3 | exact rr4 | exact rr5 | exact rr6 | exact rr7 | exact rr8 | exact rr9 | exact rr10 | exact rr11 | exact rr12 | exact rr13 | exact rr14) .nil)))))))) (by first | exact dd0 | exact dd1 | exact dd2 | exact dd3 | exact dd4 | exact dd5 | exact dd6 | exact dd7 | exact dd8 | exact dd9 | exact dd10 | exact dd11 | exact dd12 | exact dd13 | exact dd14))) ?_
        ·
          exact ⟨rfl, by omega, Cl.start hw0⟩
        intro wl i
        rintro ⟨hwl, hi, hCl⟩
        refine w_seq ?_
        refine w_seq ?_
        refine w_region ?_
        refine o_val (v_move rfl) rfl ?_
        refine o_val (v_move rfl) rfl ?_
        refine o_val (v_len (ty' := 0) Try.underlying26 rfl) rfl ?_
        refine o_val (v_lss rfl rfl) rfl ?_
        refine o_nil ?_
        refine thn_n ?_
        first | refine w_condD rfl (fun h68 => ?_) (fun h68 => ?_) | refine w_cond rfl (fun h68 => ?_) (fun h68 => ?_)
        ·
          refine w_skip ?_
          refine thn_n ?_
          refine w_seq ?_
          refine w_block ?_
          refine w_seq ?_
          refine w_region ?_
          refine o_val (v_assign rfl) rfl ?_
          refine o_nil ?_
          refine thn_n ?_
          refine w_block ?_
          refine w_loop2 (fun (wl2 : List Bool) (j : Nat) => [(5, .pointer (some ⟨bf, 0, none⟩)), (6, .pointer (some ⟨b29, 0, none⟩)), (8, .slice p64 wl0.length c64), (9, .int .i64 (i : Int)), (10, .int .i64 (j : Int))]) (fun (wl2 : List Bool) (j : Nat) => Row (ecB 4) p64 wl0.length c64 wl2 :: IsFair bf m :: Cel b29 46 [.slice p1 m.length c1, .slice p2 m.length c2, .slice p3 m.length c3] :: Row I3 p1 m.length c1 (m.map Mb.who) :: Row I3 p2 m.length c2 (m.map Mb.q) :: Row I3 p3 m.length c3 (m.map Mb.c) :: Deep 48 (.st (.seq (.int .i64) (.seq (.int .i64) (.seq (.int .i64) (.seq (.flt .f64) (.seq (.sl 4 .bool) .unit)))))) pd ds.length ds :: RdR (ecB 4) pw wl0.length wl0 :: F) (fun (wl2 : List Bool) (j : Nat) => wl2.length = wl0.length ∧ j ≤ m.length ∧ Cl m wl2 i j) (fun (wl2 : List Bool) (j : Nat) => m.length - j) (i2 (_) (0) ?_ (.cons rfl (.cons rfl (.cons rfl (.cons rfl (.cons rfl (.nil _)))))) (sub (.cons (by first | exact rr0 | exact rr1 | exact rr2 | exact rr3 | exact rr4 | exact rr5 | exact rr6 | exact rr7 | exact rr8 | exact rr9 | exact rr10 | exact rr11 | exact rr12 | exact rr13 | exact rr14) (.cons (by first | exact rr0 | exact rr1 | exact rr2 | exact rr3 | exact rr4 | exact rr5 | exact rr6 | exact rr7 | exact rr8 | exact rr9 | exact rr10 | exact rr11 | exact rr12 | exact rr13 | exact rr14) (.cons (by first | exact rr0 | exact rr1 | exact rr2 | exact rr3 | exact rr4 | exact rr5 | exact rr6 | exact rr7 | exact rr8 | exact rr9 | exact rr10 | exact rr11 | exact rr12 | exact rr13 | exact rr14) (.cons (by first | exact rr0 | exact rr1 | exact rr2 | exact rr3 | exact rr4 | exact rr5 | exact rr6 | exact rr7 | exact rr8 | exact rr9 | exact rr10 | exact rr11 | exact rr12 | exact rr13 | exact rr14) (.cons (by first | exact rr0 | exact rr1 | exact rr2 | exact rr3 | exact rr4 | exact rr5 | exact rr6 | exact rr7 | exact rr8 | exact rr9 | exact rr10 | exact rr11 | exact rr12 | exact rr13 | exact rr14) (.cons (by first | exact rr0 | exact rr1 | exact rr2 | exact rr3 | exact rr4 | exact rr5 | exact rr6 | exact rr7 | exact rr8 | exact rr9 | exact rr10 | exact rr11 | exact rr12 | exact rr13 | exact rr14) (.cons (by first | exact rr0 | exact rr1 | exact rr2 | exact rr3 | exact rr4 | exact rr5 | exact rr6 | exact rr7 | exact rr8 | exact rr9 | exact rr10 | exact rr11 | exact rr12 | exact rr13 | exact rr14) (.cons (by first | exact rr0 | exact rr1 | exact rr2 | exact rr3 | exact rr4 | exact rr5 | exact rr6 | exact rr7 | exact rr8 | exact rr9 | exact rr10 | exact rr11 | exact rr12 | exact rr13 | exact rr14) .nil)))))))) (by first | exact dd0 | exact dd1 | exact dd2 | exact dd3 | exact dd4 | exact dd5 | exact dd6 | exact dd7 | exact dd8 | exact dd9 | exact dd10 | exact dd11 | exact dd12 | exact dd13 | exact dd14))) ?_
          ·
            exact ⟨hwl, by omega, hCl⟩
          intro wl2 j
          rintro ⟨hwl2, hj, hCl2⟩
          refine w_seq ?_
          refine w_seq ?_
          refine w_region ?_
          refine o_val (v_move rfl) rfl ?_
          refine o_val (v_move rfl) rfl ?_
          refine o_val (v_nil rfl) rfl ?_
          refine o_val (v_fieldAddr V.f46_0 rfl) rfl ?_
          refine o_val (v_load V.s27 rfl (by first | exact mm0 | exact mm1 | exact mm2 | exact mm3 | exact mm4 | exact mm5 | exact mm6 | exact mm7 | exact mm8 | exact mm9 | exact mm10 | exact mm11 | exact mm12 | exact mm13 | exact mm14) rfl) rfl ?_
          refine o_val (v_len (ty' := 0) Try.underlying27 rfl) rfl ?_
          refine o_val (v_lss rfl rfl) rfl ?_
          refine o_nil ?_
          refine thn_n ?_
          first | refine w_condD rfl (fun h77 => ?_) (fun h77 => ?_) | refine w_cond rfl (fun h77 => ?_) (fun h77 => ?_)
          ·
            refine w_skip ?_
            refine thn_n ?_
            refine w_seq ?_
            refine w_block ?_
            refine w_seq ?_
            have hj2 : j < m.length := by omega
            have hgj := g_who hj2
            refine w_region ?_
            refine o_val (v_move rfl) rfl ?_
            refine o_val (v_nil rfl) rfl ?_
            refine o_val (v_fieldAddr V.f46_0 rfl) rfl ?_
            refine o_val (v_load V.s27 rfl (by first | exact mm0 | exact mm1 | exact mm2 | exact mm3 | exact mm4 | exact mm5 | exact mm6 | exact mm7 | exact mm8 | exact mm9 | exact mm10 | exact mm11 | exact mm12 | exact mm13 | exact mm14) rfl) rfl ?_
            refine o_val (v_move rfl) rfl ?_
            refine o_val (r_index (c := (I3)) V.sl27 rfl rfl (by first | exact own mm0 | exact own mm1 | exact own mm2 | exact own mm3 | exact own mm4 | exact own mm5 | exact own mm6 | exact own mm7 | exact own mm8 | exact own mm9 | exact own mm10 | exact own mm11 | exact rdH (fun _ _ h => h) mm0 | exact rdH (fun _ _ h => h) mm1 | exact rdH (fun _ _ h => h) mm2 | exact rdH (fun _ _ h => h) mm3 | exact rdH (fun _ _ h => h) mm4 | exact rdH (fun _ _ h => h) mm5 | exact rdH (fun _ _ h => h) mm6 | exact rdH (fun _ _ h => h) mm7 | exact rdH (fun _ _ h => h) mm8 | exact rdH (fun _ _ h => h) mm9 | exact rdH (fun _ _ h => h) mm10 | exact rdH (fun _ _ h => h) mm11 | exact deepH mm0 | exact deepH mm1 | exact deepH mm2 | exact deepH mm3 | exact deepH mm4 | exact deepH mm5 | exact deepH mm6 | exact deepH mm7 | exact deepH mm8 | exact deepH mm9 | exact deepH mm10 | exact deepH mm11) (by omega) (by omega)) rfl ?_
            refine o_val (r_load (c := (I3)) V.s3 rfl (by first | exact own mm0 | exact own mm1 | exact own mm2 | exact own mm3 | exact own mm4 | exact own mm5 | exact own mm6 | exact own mm7 | exact own mm8 | exact own mm9 | exact own mm10 | exact own mm11 | exact rdH (fun _ _ h => h) mm0 | exact rdH (fun _ _ h => h) mm1 | exact rdH (fun _ _ h => h) mm2 | exact rdH (fun _ _ h => h) mm3 | exact rdH (fun _ _ h => h) mm4 | exact rdH (fun _ _ h => h) mm5 | exact rdH (fun _ _ h => h) mm6 | exact rdH (fun _ _ h => h) mm7 | exact rdH (fun _ _ h => h) mm8 | exact rdH (fun _ _ h => h) mm9 | exact rdH (fun _ _ h => h) mm10 | exact rdH (fun _ _ h => h) mm11 | exact deepH mm0 | exact deepH mm1 | exact deepH mm2 | exact deepH mm3 | exact deepH mm4 | exact deepH mm5 | exact deepH mm6 | exact deepH mm7 | exact deepH mm8 | exact deepH mm9 | exact deepH mm10 | exact deepH mm11) (by omega) (by omega) rfl rfl) rfl ?_
            refine o_val (v_move rfl) rfl ?_
            refine o_val (v_eql rfl rfl) rfl ?_
            refine o_nil ?_
            refine thn_n ?_
            first | refine w_condD rfl (fun h88 => ?_) (fun h88 => ?_) | refine w_cond rfl (fun h88 => ?_) (fun h88 => ?_)
            ·
              refine w_region ?_
              refine o_val (v_move rfl) rfl ?_
              refine o_val (v_move rfl) rfl ?_
              refine o_val (r_index (c := (ecB 4)) V.sl26 rfl rfl (by first | exact own mm0 | exact own mm1 | exact own mm2 | exact own mm3 | exact own mm4 | exact own mm5 | exact own mm6 | exact own mm7 | exact own mm8 | exact own mm9 | exact own mm10 | exact own mm11 | exact rdH (fun _ _ h => h) mm0 | exact rdH (fun _ _ h => h) mm1 | exact rdH (fun _ _ h => h) mm2 | exact rdH (fun _ _ h => h) mm3 | exact rdH (fun _ _ h => h) mm4 | exact rdH (fun _ _ h => h) mm5 | exact rdH (fun _ _ h => h) mm6 | exact rdH (fun _ _ h => h) mm7 | exact rdH (fun _ _ h => h) mm8 | exact rdH (fun _ _ h => h) mm9 | exact rdH (fun _ _ h => h) mm10 | exact rdH (fun _ _ h => h) mm11 | exact deepH mm0 | exact deepH mm1 | exact deepH mm2 | exact deepH mm3 | exact deepH mm4 | exact deepH mm5 | exact deepH mm6 | exact deepH mm7 | exact deepH mm8 | exact deepH mm9 | exact deepH mm10 | exact deepH mm11) (by omega) (by omega)) rfl ?_
              refine o_eff (r_store (c := (ecB 4)) (_) V.s4 rfl rfl rfl (by first | exact pp0 | exact pp1 | exact pp2 | exact pp3 | exact pp4 | exact pp5 | exact pp6 | exact pp7 | exact pp8 | exact pp9 | exact pp10 | exact pp11 | exact pp12 | exact pp13 | exact pp14) (by omega) (by omega) rfl rfl) ?_
              refine o_nil ?_
              refine blk_n ?_
              refine thn_n ?_
              refine w_region ?_
              refine o_val (v_move rfl) rfl ?_
              refine o_val (v_add rfl rfl (wrapI (by omega) (by omega))) rfl ?_
              refine o_val (v_assign rfl) rfl ?_
              refine o_nil ?_
              refine j2 (_) (j + 1) ?_ (.cons rfl (.cons rfl (.cons rfl (.cons rfl (.cons rfl (.nil _)))))) (sub (.cons (by first | exact rr0 | exact rr1 | exact rr2 | exact rr3 | exact rr4 | exact rr5 | exact rr6 | exact rr7 | exact rr8 | exact rr9 | exact rr10 | exact rr11 | exact rr12 | exact rr13 | exact rr14) (.cons (by first | exact rr0 | exact rr1 | exact rr2 | exact rr3 | exact rr4 | exact rr5 | exact rr6 | exact rr7 | exact rr8 | exact rr9 | exact rr10 | exact rr11 | exact rr12 | exact rr13 | exact rr14) (.cons (by first | exact rr0 | exact rr1 | exact rr2 | exact rr3 | exact rr4 | exact rr5 | exact rr6 | exact rr7 | exact rr8 | exact rr9 | exact rr10 | exact rr11 | exact rr12 | exact rr13 | exact rr14) (.cons (by first | exact rr0 | exact rr1 | exact rr2 | exact rr3 | exact rr4 | exact rr5 | exact rr6 | exact rr7 | exact rr8 | exact rr9 | exact rr10 | exact rr11 | exact rr12 | exact rr13 | exact rr14) (.cons (by first | exact rr0 | exact rr1 | exact rr2 | exact rr3 | exact rr4 | exact rr5 | exact rr6 | exact rr7 | exact rr8 | exact rr9 | exact rr10 | exact rr11 | exact rr12 | exact rr13 | exact rr14) (.cons (by first | exact rr0 | exact rr1 | exact rr2 | exact rr3 | exact rr4 | exact rr5 | exact rr6 | exact rr7 | exact rr8 | exact rr9 | exact rr10 | exact rr11 | exact rr12 | exact rr13 | exact rr14) (.cons (by first | exact rr0 | exact rr1 | exact rr2 | exact rr3 | exact rr4 | exact rr5 | exact rr6 | exact rr7 | exact rr8 | exact rr9 | exact rr10 | exact rr11 | exact rr12 | exact rr13 | exact rr14) (.cons (by first | exact rr0 | exact rr1 | exact rr2 | exact rr3 | exact rr4 | exact rr5 | exact rr6 | exact rr7 | exact rr8 | exact rr9 | exact rr10 | exact rr11 | exact rr12 | exact rr13 | exact rr14) .nil)))))))) (by first | exact dd0 | exact dd1 | exact dd2 | exact dd3 | exact dd4 | exact dd5 | exact dd6 | exact dd7 | exact dd8 | exact dd9 | exact dd10 | exact dd11 | exact dd12 | exact dd13 | exact dd14))
              first | exact ⟨⟨by simp [hwl2], by omega, hCl2.set hj2⟩, by omega⟩ | exact ⟨⟨hwl2, by omega, hCl2.skip hj2 (by rw [← hgj]; exact h88)⟩, by omega⟩
            ·
              refine w_skip ?_
              refine blk_n ?_
              refine thn_n ?_
              refine w_region ?_
              refine o_val (v_move rfl) rfl ?_
              refine o_val (v_add rfl rfl (wrapI (by omega) (by omega))) rfl ?_
              refine o_val (v_assign rfl) rfl ?_
              refine o_nil ?_
              refine j2 (_) (j + 1) ?_ (.cons rfl (.cons rfl (.cons rfl (.cons rfl (.cons rfl (.nil _)))))) (sub (.cons (by first | exact rr0 | exact rr1 | exact rr2 | exact rr3 | exact rr4 | exact rr5 | exact rr6 | exact rr7 | exact rr8 | exact rr9 | exact rr10 | exact rr11 | exact rr12 | exact rr13 | exact rr14) (.cons (by first | exact rr0 | exact rr1 | exact rr2 | exact rr3 | exact rr4 | exact rr5 | exact rr6 | exact rr7 | exact rr8 | exact rr9 | exact rr10 | exact rr11 | exact rr12 | exact rr13 | exact rr14) (.cons (by first | exact rr0 | exact rr1 | exact rr2 | exact rr3 | exact rr4 | exact rr5 | exact rr6 | exact rr7 | exact rr8 | exact rr9 | exact rr10 | exact rr11 | exact rr12 | exact rr13 | exact rr14) (.cons (by first | exact rr0 | exact rr1 | exact rr2 | exact rr3 | exact rr4 | exact rr5 | exact rr6 | exact rr7 | exact rr8 | exact rr9 | exact rr10 | exact rr11 | exact rr12 | exact rr13 | exact rr14) (.cons (by first | exact rr0 | exact rr1 | exact rr2 | exact rr3 | exact rr4 | exact rr5 | exact rr6 | exact rr7 | exact rr8 | exact rr9 | exact rr10 | exact rr11 | exact rr12 | exact rr13 | exact rr14) (.cons (by first | exact rr0 | exact rr1 | exact rr2 | exact rr3 | exact rr4 | exact rr5 | exact rr6 | exact rr7 | exact rr8 | exact rr9 | exact rr10 | exact rr11 | exact rr12 | exact rr13 | exact rr14) (.cons (by first | exact rr0 | exact rr1 | exact rr2 | exact rr3 | exact rr4 | exact rr5 | exact rr6 | exact rr7 | exact rr8 | exact rr9 | exact rr10 | exact rr11 | exact rr12 | exact rr13 | exact rr14) (.cons (by first | exact rr0 | exact rr1 | exact rr2 | exact rr3 | exact rr4 | exact rr5 | exact rr6 | exact rr7 | exact rr8 | exact rr9 | exact rr10 | exact rr11 | exact rr12 | exact rr13 | exact rr14) .nil)))))))) (by first | exact dd0 | exact dd1 | exact dd2 | exact dd3 | exact dd4 | exact dd5 | exact dd6 | exact dd7 | exact dd8 | exact dd9 | exact dd10 | exact dd11 | exact dd12 | exact dd13 | exact dd14))
              first | exact ⟨⟨by simp [hwl2], by omega, hCl2.set hj2⟩, by omega⟩ | exact ⟨⟨hwl2, by omega, hCl2.skip hj2 (by rw [← hgj]; exact h88)⟩, by omega⟩
          ·
            refine w_exit ?_
            refine thn_e ?_
            refine thn_e ?_
            refine blk_x ?_
            refine blk_n ?_
            refine thn_n ?_
            refine w_region ?_
            refine o_val (v_move rfl) rfl ?_
            refine o_val (v_add rfl rfl (wrapI (by omega) (by omega))) rfl ?_
            refine o_val (v_assign rfl) rfl ?_
            refine o_nil ?_
            refine j2 (_) (i + 1) ?_ (.cons rfl (.cons rfl (.cons rfl (.cons rfl (.nil _))))) (sub (.cons (by first | exact rr0 | exact rr1 | exact rr2 | exact rr3 | exact rr4 | exact rr5 | exact rr6 | exact rr7 | exact rr8 | exact rr9 | exact rr10 | exact rr11 | exact rr12 | exact rr13 | exact rr14) (.cons (by first | exact rr0 | exact rr1 | exact rr2 | exact rr3 | exact rr4 | exact rr5 | exact rr6 | exact rr7 | exact rr8 | exact rr9 | exact rr10 | exact rr11 | exact rr12 | exact rr13 | exact rr14) (.cons (by first | exact rr0 | exact rr1 | exact rr2 | exact rr3 | exact rr4 | exact rr5 | exact rr6 | exact rr7 | exact rr8 | exact rr9 | exact rr10 | exact rr11 | exact rr12 | exact rr13 | exact rr14) (.cons (by first | exact rr0 | exact rr1 | exact rr2 | exact rr3 | exact rr4 | exact rr5 | exact rr6 | exact rr7 | exact rr8 | exact rr9 | exact rr10 | exact rr11 | exact rr12 | exact rr13 | exact rr14) (.cons (by first | exact rr0 | exact rr1 | exact rr2 | exact rr3 | exact rr4 | exact rr5 | exact rr6 | exact rr7 | exact rr8 | exact rr9 | exact rr10 | exact rr11 | exact rr12 | exact rr13 | exact rr14) (.cons (by first | exact rr0 | exact rr1 | exact rr2 | exact rr3 | exact rr4 | exact rr5 | exact rr6 | exact rr7 | exact rr8 | exact rr9 | exact rr10 | exact rr11 | exact rr12 | exact rr13 | exact rr14) (.cons (by first | exact rr0 | exact rr1 | exact rr2 | exact rr3 | exact rr4 | exact rr5 | exact rr6 | exact rr7 | exact rr8 | exact rr9 | exact rr10 | exact rr11 | exact rr12 | exact rr13 | exact rr14) (.cons (by first | exact rr0 | exact rr1 | exact rr2 | exact rr3 | exact rr4 | exact rr5 | exact rr6 | exact rr7 | exact rr8 | exact rr9 | exact rr10 | exact rr11 | exact rr12 | exact rr13 | exact rr14) .nil)))))))) (by first | exact dd0 | exact dd1 | exact dd2 | exact dd3 | exact dd4 | exact dd5 | exact dd6 | exact dd7 | exact dd8 | exact dd9 | exact dd10 | exact dd11 | exact dd12 | exact dd13 | exact dd14))
            exact ⟨⟨hwl2, by omega, hCl2.next (by omega)⟩, by omega⟩
        ·
          refine w_exit ?_
          refine thn_e ?_
          refine thn_e ?_
          refine blk_x ?_
          refine thn_n ?_
          refine w_seq ?_
          refine w_region ?_
          refine o_val (v_move rfl) rfl ?_
          refine o_val (v_move rfl) rfl ?_
          refine o_call (p_next_none bf m wl wl0.length hwl p64 c64 (by omega) hw0 (hCl.fin (by omega) hw0)) V.b12  rfl (.cons (by first | exact rr0 | exact rr1 | exact rr2 | exact rr3 | exact rr4 | exact rr5 | exact rr6 | exact rr7 | exact rr8 | exact rr9 | exact rr10 | exact rr11 | exact rr12 | exact rr13 | exact rr14) (.cons (by first | exact rr0 | exact rr1 | exact rr2 | exact rr3 | exact rr4 | exact rr5 | exact rr6 | exact rr7 | exact rr8 | exact rr9 | exact rr10 | exact rr11 | exact rr12 | exact rr13 | exact rr14) .nil)) rfl ?_
          rintro _ _ ⟨rfl, rfl⟩
          refine o_val (v_move rfl) rfl ?_
          refine o_val (v_extract rfl rfl) rfl ?_
          refine o_val (v_extract rfl rfl) rfl ?_
          refine o_val (v_extract rfl rfl) rfl ?_
          refine o_val (v_assign rfl) rfl ?_
          refine o_val (v_assign rfl) rfl ?_
          refine o_val (v_assign rfl) rfl ?_
          refine o_nil ?_
          refine thn_n ?_
          refine w_seq ?_
          refine w_region ?_
          refine o_val (v_move rfl) rfl ?_
          refine o_call (p_next_nil bf m (by omega) hw0) V.b12  rfl (.cons (by first | exact rr0 | exact rr1 | exact rr2 | exact rr3 | exact rr4 | exact rr5 | exact rr6 | exact rr7 | exact rr8 | exact rr9 | exact rr10 | exact rr11 | exact rr12 | exact rr13 | exact rr14) .nil) rfl ?_
          rintro _ _ ⟨rfl, rfl⟩
          refine o_val (v_move rfl) rfl ?_
          refine o_val (v_extract rfl rfl) rfl ?_
          refine o_val (v_extract rfl rfl) rfl ?_
          refine o_val (v_extract rfl rfl) rfl ?_
          refine o_val (v_assign rfl) rfl ?_
          refine o_val (v_assign rfl) rfl ?_
          refine o_val (v_assign rfl) rfl ?_
          refine o_nil ?_
          refine thn_n ?_
          refine w_seq ?_
          refine w_net [⟨[], [], [13], 0, 0⟩, ⟨[0], [0], [], 0, 0⟩, ⟨[0, 1], [1], [], 0, 0⟩, ⟨[0, 1, 2], [2], [16], 0, 0⟩, ⟨[0, 1, 2, 3], [3, 2], [], 0, 0⟩, ⟨[0, 1, 2, 3, 4], [2, 4], [], 0, 0⟩, ⟨[0, 1, 2, 3, 4, 5], [5], [], 0, 0⟩, ⟨[0, 1, 2, 3, 4, 5, 6], [6], [11], 0, 0⟩, ⟨[0, 1, 2, 3, 4, 5, 6, 7], [7, 6], [], 0, 0⟩, ⟨[0, 1, 2, 3, 4, 5, 6, 7, 8], [6, 8], [], 0, 0⟩, ⟨[0, 1, 2, 3, 4, 5, 6, 7, 8, 9], [9], [], 0, 0⟩, ⟨[0, 1, 2, 3, 4, 5, 6, 7, 8, 9, 10], [10], [12], 0, 0⟩, ⟨[0, 1, 2, 3, 4, 5, 6, 7, 8, 9, 10, 11], [11, 10], [], 0, 0⟩, ⟨[0, 1, 2, 3, 4, 5, 6, 7, 8, 9, 10, 11, 12], [10, 12], [], 0, 0⟩, ⟨[0, 1, 2, 3, 4, 5, 6, 7, 8, 9, 10, 11, 12, 13], [13], [], 0, 0⟩, ⟨[0, 1, 2, 3, 4, 5, 6, 7, 8, 9, 10, 11, 12, 13, 14], [14], [14], 0, 0⟩, ⟨[0, 1, 2, 3, 4, 5, 6, 7, 8, 9, 10, 11, 12, 13, 14, 15], [15, 14], [], 0, 0⟩, ⟨[0, 1, 2, 3, 4, 5, 6, 7, 8, 9, 10, 11, 12, 13, 14, 15, 16], [14, 16], [], 0, 0⟩, ⟨[0, 1, 2, 3, 4, 5, 6, 7, 8, 9, 10, 11, 12, 13, 14, 15, 16, 17], [17], [], 0, 0⟩, ⟨[0, 1, 2, 3, 4, 5, 6, 7, 8, 9, 10, 11, 12, 13, 14, 15, 16, 17, 18], [18], [15], 0, 0⟩, ⟨[0, 1, 2, 3, 4, 5, 6, 7, 8, 9, 10, 11, 12, 13, 14, 15, 16, 17, 18, 19], [19, 18], [], 0, 0⟩, ⟨[0, 1, 2, 3, 4, 5, 6, 7, 8, 9, 10, 11, 12, 13, 14, 15, 16, 17, 18, 19, 20], [18, 20], [], 0, 0⟩, ⟨[0, 1, 2, 3, 4, 5, 6, 7, 8, 9, 10, 11, 12, 13, 14, 15, 16, 17, 18, 19, 20, 21], [21], [], 0, 0⟩, ⟨[0, 1, 2, 3, 4, 5, 6, 7, 8, 9, 10, 11, 12, 13, 14, 15, 16, 17, 18, 19, 20, 21, 22], [22], [5], 0, 0⟩, ⟨[0, 1, 2, 3, 4, 5, 6, 7, 8, 9, 10, 11, 12, 13, 14, 15, 16, 17, 18, 19, 20, 21, 22, 23], [23, 22], [], 0, 0⟩, ⟨[0, 1, 2, 3, 4, 5, 6, 7, 8, 9, 10, 11, 12, 13, 14, 15, 16, 17, 18, 19, 20, 21, 22], [22], [6], 0, 0⟩, ⟨[0, 1, 2, 3, 4, 5, 6, 7, 8, 9, 10, 11, 12, 13, 14, 15, 16, 17, 18, 19, 20, 21, 22, 25], [25, 22], [], 0, 0⟩, ⟨[0, 1, 2, 3, 4, 5, 6, 7, 8, 9, 10, 11, 12, 13, 14, 15, 16, 17, 18, 19, 20, 21, 22, 25, 26], [26, 22], [], 0, 0⟩, ⟨[0, 1, 2, 3, 4, 5, 6, 7, 8, 9, 10, 11, 12, 13, 14, 15, 16, 17, 18, 19, 20, 21, 22, 25, 26, 27], [27, 22], [], 0, 0⟩, ⟨[0, 1, 2, 3, 4, 5, 6, 7, 8, 9, 10, 11, 12, 13, 14, 15, 16, 17, 18, 19, 20, 21, 22, 23, 24, 25, 26, 27, 28], [24, 28, 22], [], 0, 0⟩, ⟨[0, 1, 2, 3, 4, 5, 6, 7, 8, 9, 10, 11, 12, 13, 14, 15, 16, 17, 18, 19, 20, 21, 22, 23, 24, 25, 26, 27, 28, 29], [22, 29], [], 0, 0⟩, ⟨[0, 1, 2, 3, 4, 5, 6, 7, 8, 9, 10, 11, 12, 13, 14, 15, 16, 17, 18, 19, 20, 21, 22, 23, 24, 25, 26, 27, 28, 29, 30], [30], [], 0, 0⟩, ⟨[0, 1, 2, 3, 4, 5, 6, 7, 8, 9, 10, 11, 12, 13, 14, 15, 16, 17, 18, 19, 20, 21, 22, 23, 24, 25, 26, 27, 28, 29, 30, 31], [31], [5], 0, 0⟩, ⟨[0, 1, 2, 3, 4, 5, 6, 7, 8, 9, 10, 11, 12, 13, 14, 15, 16, 17, 18, 19, 20, 21, 22, 23, 24, 25, 26, 27, 28, 29, 30, 31, 32], [32, 31], [], 0, 0⟩, ⟨[0, 1, 2, 3, 4, 5, 6, 7, 8, 9, 10, 11, 12, 13, 14, 15, 16, 17, 18, 19, 20, 21, 22, 23, 24, 25, 26, 27, 28, 29, 30, 31, 32, 33], [33, 31], [], 0, 0⟩, ⟨[0, 1, 2, 3, 4, 5, 6, 7, 8, 9, 10, 11, 12, 13, 14, 15, 16, 17, 18, 19, 20, 21, 22, 23, 24, 25, 26, 27, 28, 29, 30, 31, 32, 33, 34], [31, 34], [], 0, 0⟩, ⟨[0, 1, 2, 3, 4, 5, 6, 7, 8, 9, 10, 11, 12, 13, 14, 15, 16, 17, 18, 19, 20, 21, 22, 23, 24, 25, 26, 27, 28, 29, 30, 31, 32, 33, 34, 35], [35], [], 0, 0⟩, ⟨[0, 1, 2, 3, 4, 5, 6, 7, 8, 9, 10, 11, 12, 13, 14, 15, 16, 17, 18, 19, 20, 21, 22, 23, 24, 25, 26, 27, 28, 29, 30, 31, 32, 33, 34, 35, 36], [36], [5], 0, 0⟩, ⟨[0, 1, 2, 3, 4, 5, 6, 7, 8, 9, 10, 11, 12, 13, 14, 15, 16, 17, 18, 19, 20, 21, 22, 23, 24, 25, 26, 27, 28, 29, 30, 31, 32, 33, 34, 35, 36, 37], [37, 36], [], 0, 0⟩, ⟨[0, 1, 2, 3, 4, 5, 6, 7, 8, 9, 10, 11, 12, 13, 14, 15, 16, 17, 18, 19, 20, 21, 22, 23, 24, 25, 26, 27, 28, 29, 30, 31, 32, 33, 34, 35, 36, 37, 38], [38, 36], [], 0, 0⟩, ⟨[0, 1, 2, 3, 4, 5, 6, 7, 8, 9, 10, 11, 12, 13, 14, 15, 16, 17, 18, 19, 20, 21, 22, 23, 24, 25, 26, 27, 28, 29, 30, 31, 32, 33, 34, 35, 36, 37, 38, 39], [36, 39], [], 0, 0⟩, ⟨[0, 1, 2, 3, 4, 5, 6, 7, 8, 9, 10, 11, 12, 13, 14, 15, 16, 17, 18, 19, 20, 21, 22, 23, 24, 25, 26, 27, 28, 29, 30, 31, 32, 33, 34, 35, 36, 37, 38, 39, 40], [40], [], 0, 0⟩, ⟨[0, 1, 2, 3, 4, 5, 6, 7, 8, 9, 10, 11, 12, 13, 14, 15, 16, 17, 18, 19, 20, 21, 22, 23, 24, 25, 26, 27, 28, 29, 30, 31, 32, 33, 34, 35, 36, 37, 38, 39, 40, 41], [41], [5], 0, 0⟩, ⟨[0, 1, 2, 3, 4, 5, 6, 7, 8, 9, 10, 11, 12, 13, 14, 15, 16, 17, 18, 19, 20, 21, 22, 23, 24, 25, 26, 27, 28, 29, 30, 31, 32, 33, 34, 35, 36, 37, 38, 39, 40, 41, 42], [42, 41], [], 0, 0⟩, ⟨[0, 1, 2, 3, 4, 5, 6, 7, 8, 9, 10, 11, 12, 13, 14, 15, 16, 17, 18, 19, 20, 21, 22, 23, 24, 25, 26, 27, 28, 29, 30, 31, 32, 33, 34, 35, 36, 37, 38, 39, 40, 41, 42, 43], [43, 41], [], 0, 0⟩, ⟨[0, 1, 2, 3, 4, 5, 6, 7, 8, 9, 10, 11, 12, 13, 14, 15, 16, 17, 18, 19, 20, 21, 22, 23, 24, 25, 26, 27, 28, 29, 30, 31, 32, 33, 34, 35, 36, 37, 38, 39, 40, 41, 42, 43, 44], [41, 44], [], 0, 0⟩, ⟨[0, 1, 2, 3, 4, 5, 6, 7, 8, 9, 10, 11, 12, 13, 14, 15, 16, 17, 18, 19, 20, 21, 22, 23, 24, 25, 26, 27, 28, 29, 30, 31, 32, 33, 34, 35, 36, 37, 38, 39, 40, 41, 42, 43, 44, 45], [45], [], 0, 0⟩] [⟨fun y => IsFair bf m, none, some 24, []⟩, ⟨fun y => Row (ecB 4) p64 wl0.length c64 wl, none, none, []⟩, ⟨fun y => Cel b29 46 [.slice p1 m.length c1, .slice p2 m.length c2, .slice p3 m.length c3], none, none, [28]⟩, ⟨fun y => Row I3 p1 m.length c1 (m.map Mb.who), none, some 29, []⟩, ⟨fun y => Row I3 p2 m.length c2 (m.map Mb.q), none, none, []⟩, ⟨fun y => Row I3 p3 m.length c3 (m.map Mb.c), none, none, []⟩, ⟨fun y => Deep 48 (.st (.seq (.int .i64) (.seq (.int .i64) (.seq (.int .i64) (.seq (.flt .f64) (.seq (.sl 4 .bool) .unit)))))) pd ds.length ds, none, none, []⟩, ⟨fun y => RdR (ecB 4) pw wl0.length wl0, none, none, []⟩, ⟨fun y => Row I3 (slP (y 24)) m.length (slC (y 24)) (m.map Mb.who), some 24, some 29, []⟩, ⟨fun y => IsFair bf m, some 24, some 33, []⟩, ⟨fun y => Row I3 (slP (y 24)) m.length (slC (y 24)) (m.map Mb.who), some 29, none, []⟩, ⟨fun y => Row I3 p1 m.length c1 (m.map Mb.who), some 29, none, []⟩, ⟨fun y => IsFair bf m, some 33, some 38, []⟩, ⟨fun y => IsFair bf m, some 38, some 43, []⟩, ⟨fun y => IsFair bf m, some 43, none, []⟩] F V.mixed (by kernel_rfl) rfl (fun _ => .refl _) (locT_0 _ (locT_0 _ (locT_0 _ (locT_0 _ (locT_0 _ (locT_0 _ (locT_0 _ (locT_0 _ (locT_1 [0, 1, 2, 3, 4, 5, 6, 7, 8, 9, 10, 11, 12, 13, 14, 15, 16, 17, 18, 19, 20, 21, 22, 23] rfl (by intro y y2 h; simp only [h 24 (.inl rfl)]) (locT_1 [0, 1, 2, 3, 4, 5, 6, 7, 8, 9, 10, 11, 12, 13, 14, 15, 16, 17, 18, 19, 20, 21, 22, 23] rfl (by intro y y2 h; rfl) (locT_1 [0, 1, 2, 3, 4, 5, 6, 7, 8, 9, 10, 11, 12, 13, 14, 15, 16, 17, 18, 19, 20, 21, 22, 23, 24, 25, 26, 27, 28] rfl (by intro y y2 h; simp only [h 24 (.inr (by decide))]) (locT_1 [0, 1, 2, 3, 4, 5, 6, 7, 8, 9, 10, 11, 12, 13, 14, 15, 16, 17, 18, 19, 20, 21, 22, 23, 24, 25, 26, 27, 28] rfl (by intro y y2 h; rfl) (locT_1 [0, 1, 2, 3, 4, 5, 6, 7, 8, 9, 10, 11, 12, 13, 14, 15, 16, 17, 18, 19, 20, 21, 22, 23, 24, 25, 26, 27, 28, 29, 30, 31, 32] rfl (by intro y y2 h; rfl) (locT_1 [0, 1, 2, 3, 4, 5, 6, 7, 8, 9, 10, 11, 12, 13, 14, 15, 16, 17, 18, 19, 20, 21, 22, 23, 24, 25, 26, 27, 28, 29, 30, 31, 32, 33, 34, 35, 36, 37] rfl (by intro y y2 h; rfl) (locT_1 [0, 1, 2, 3, 4, 5, 6, 7, 8, 9, 10, 11, 12, 13, 14, 15, 16, 17, 18, 19, 20, 21, 22, 23, 24, 25, 26, 27, 28, 29, 30, 31, 32, 33, 34, 35, 36, 37, 38, 39, 40, 41, 42] rfl (by intro y y2 h; rfl) locT_nil))))))))))))))) ?_
          refine net_pure (fun y => [(13, _)]) (fun y => rfl) rfl rfl rfl (fun y hA L => st_v (v_move rfl) ⟨rfl, rfl⟩) (by intros; rfl) (by intro y y2 h; rfl) ?_
          refine net_pure (fun y => [(105, _)]) (fun y => rfl) rfl rfl rfl (fun y hA L => st_v (v_to (v := .bool true) (v_not rfl) rfl) ⟨rfl, rfl⟩) (by intros; rfl) (by intro y y2 h; rfl) ?_
          refine net_pure (fun y => [(106, _)]) (fun y => rfl) rfl rfl rfl (fun y hA L => st_v (v_move rfl) ⟨rfl, rfl⟩) (by intros; rfl) (by intro y y2 h; rfl) ?_
          refine net_pure (fun y => [(107, _), (16, _)]) (fun y => rfl) rfl rfl rfl (fun y hA L => st_want rfl (st_v (v_move rfl) ⟨rfl, rfl⟩)) (by intros; rfl) (by intro y y2 h; rfl) ?_
          refine net_pure (fun y => [(108, _), (107, _)]) (fun y => rfl) rfl rfl rfl (fun y hA L => st_want rfl (st_v (v_to (v := .bool true) (v_not rfl) rfl) ⟨rfl, rfl⟩)) (by intros; rfl) (by intro y y2 h; rfl) ?_
          refine net_pure (fun y => [(107, _), (109, _)]) (fun y => rfl) rfl rfl rfl (fun y hA L => st_v (v_pickT rfl rfl) ⟨rfl, rfl⟩) (by intros; rfl) (by intro y y2 h; rfl) ?_
          refine net_pure (fun y => [(110, _)]) (fun y => rfl) rfl rfl rfl (fun y hA L => st_v (v_move rfl) ⟨rfl, rfl⟩) (by intros; rfl) (by intro y y2 h; rfl) ?_
          refine net_pure (fun y => [(111, _), (11, _)]) (fun y => rfl) rfl rfl rfl (fun y hA L => st_want rfl (st_v (v_move rfl) ⟨rfl, rfl⟩)) (by intros; rfl) (by intro y y2 h; rfl) ?_
          refine net_pure (fun y => [(112, _), (111, _)]) (fun y => rfl) rfl rfl rfl (fun y hA L => st_want rfl (st_v (v_T (v_eql rfl rfl) rfl) ⟨rfl, rfl⟩)) (by intros; rfl) (by intro y y2 h; rfl) ?_
          refine net_pure (fun y => [(111, _), (113, _)]) (fun y => rfl) rfl rfl rfl (fun y hA L => st_v (v_pickT rfl rfl) ⟨rfl, rfl⟩) (by intros; rfl) (by intro y y2 h; rfl) ?_
          refine net_pure (fun y => [(114, _)]) (fun y => rfl) rfl rfl rfl (fun y hA L => st_v (v_move rfl) ⟨rfl, rfl⟩) (by intros; rfl) (by intro y y2 h; rfl) ?_
          refine net_pure (fun y => [(115, _), (12, _)]) (fun y => rfl) rfl rfl rfl (fun y hA L => st_want rfl (st_v (v_move rfl) ⟨rfl, rfl⟩)) (by intros; rfl) (by intro y y2 h; rfl) ?_
          refine net_pure (fun y => [(116, _), (115, _)]) (fun y => rfl) rfl rfl rfl (fun y hA L => st_want rfl (st_v (v_T (v_eql rfl rfl) rfl) ⟨rfl, rfl⟩)) (by intros; rfl) (by intro y y2 h; rfl) ?_
          refine net_pure (fun y => [(115, _), (117, _)]) (fun y => rfl) rfl rfl rfl (fun y hA L => st_v (v_pickT rfl rfl) ⟨rfl, rfl⟩) (by intros; rfl) (by intro y y2 h; rfl) ?_
          refine net_pure (fun y => [(118, _)]) (fun y => rfl) rfl rfl rfl (fun y hA L => st_v (v_move rfl) ⟨rfl, rfl⟩) (by intros; rfl) (by intro y y2 h; rfl) ?_
          refine net_pure (fun y => [(119, _), (14, _)]) (fun y => rfl) rfl rfl rfl (fun y hA L => st_want rfl (st_v (v_move rfl) ⟨rfl, rfl⟩)) (by intros; rfl) (by intro y y2 h; rfl) ?_
          refine net_pure (fun y => [(120, _), (119, _)]) (fun y => rfl) rfl rfl rfl (fun y hA L => st_want rfl (st_v (v_T (v_eql rfl rfl) rfl) ⟨rfl, rfl⟩)) (by intros; rfl) (by intro y y2 h; rfl) ?_
          refine net_pure (fun y => [(119, _), (121, _)]) (fun y => rfl) rfl rfl rfl (fun y hA L => st_v (v_pickT rfl rfl) ⟨rfl, rfl⟩) (by intros; rfl) (by intro y y2 h; rfl) ?_
          refine net_pure (fun y => [(122, _)]) (fun y => rfl) rfl rfl rfl (fun y hA L => st_v (v_move rfl) ⟨rfl, rfl⟩) (by intros; rfl) (by intro y y2 h; rfl) ?_
          refine net_pure (fun y => [(123, _), (15, _)]) (fun y => rfl) rfl rfl rfl (fun y hA L => st_want rfl (st_v (v_move rfl) ⟨rfl, rfl⟩)) (by intros; rfl) (by intro y y2 h; rfl) ?_
          refine net_pure (fun y => [(124, _), (123, _)]) (fun y => rfl) rfl rfl rfl (fun y hA L => st_want rfl (st_v (v_T (v_eql rfl rfl) rfl) ⟨rfl, rfl⟩)) (by intros; rfl) (by intro y y2 h; rfl) ?_
          refine net_pure (fun y => [(123, _), (125, _)]) (fun y => rfl) rfl rfl rfl (fun y hA L => st_v (v_pickT rfl rfl) ⟨rfl, rfl⟩) (by intros; rfl) (by intro y y2 h; rfl) ?_
          refine net_pure (fun y => [(126, _)]) (fun y => rfl) rfl rfl rfl (fun y hA L => st_v (v_move rfl) ⟨rfl, rfl⟩) (by intros; rfl) (by intro y y2 h; rfl) ?_
          refine net_pure (fun y => [(127, _), (5, _)]) (fun y => rfl) rfl rfl rfl (fun y hA L => st_want rfl (st_v (v_move rfl) ⟨rfl, rfl⟩)) (by intros; rfl) (by intro y y2 h; rfl) ?_
          refine net_new (fun y v => .slice (slP v) m.length (slC v)) (fun y v => True) (fun y => [IsFair bf m]) (fun y => []) (fun y v => [Row I3 (slP v) m.length (slC v) (m.map Mb.who), IsFair bf m]) (fun y => [(128, _), (127, _)]) (fun y => rfl) (fun y => rfl) (fun y => rfl) (fun y => rfl) (fun y FF hA => st_want rfl (st_callSl (order_row bf m (by omega)) V.b15 rfl (.cons (by first | exact rr0 | exact rr1 | exact rr2 | exact rr3 | exact rr4 | exact rr5 | exact rr6 | exact rr7 | exact rr8 | exact rr9 | exact rr10 | exact rr11 | exact rr12 | exact rr13 | exact rr14) .nil))) (by intros; rfl) (by intros; rfl) (by intros; rfl) (by intro y y2 h; simp only [h 24 (.inl rfl)]) (by intro y y2 h; rfl) ?_
          refine net_pure (fun y => [(127, _), (6, _)]) (fun y => rfl) rfl rfl rfl (fun y hA L => st_want rfl (st_v (v_move rfl) ⟨rfl, rfl⟩)) (by intros; rfl) (by intro y y2 h; rfl) ?_
          refine net_pure (fun y => [(130, _), (127, _)]) (fun y => rfl) rfl rfl rfl (fun y hA L => st_want rfl (st_v (v_nil rfl) ⟨rfl, rfl⟩)) (by intros; rfl) (by intro y y2 h; rfl) ?_
          refine net_pure (fun y => [(131, _), (127, _)]) (fun y => rfl) rfl rfl rfl (fun y hA L => st_want rfl (st_v (v_fieldAddr V.f46_0 rfl) ⟨rfl, rfl⟩)) (by intros; rfl) (by intro y y2 h; rfl) ?_
          refine net_read (fun y => [Cel b29 46 [.slice p1 m.length c1, .slice p2 m.length c2, .slice p3 m.length c3]]) (fun y => [(132, _), (127, _)]) (fun y => rfl) rfl (fun y => rfl) rfl (fun y FF hA => st_want rfl (st_v (v_load V.s27 rfl (by first | exact mm0 | exact mm1 | exact mm2 | exact mm3 | exact mm4 | exact mm5 | exact mm6 | exact mm7 | exact mm8 | exact mm9 | exact mm10 | exact mm11 | exact mm12 | exact mm13 | exact mm14) rfl) ⟨rfl, rfl⟩)) (by intros; rfl) (by intro y y2 h; rfl) ?_
          refine net_eff (fun y => [Row I3 p1 m.length c1 (m.map Mb.who), Row I3 (slP (y 24)) m.length (slC (y 24)) (m.map Mb.who)]) (fun y => []) (fun y => [Row I3 (slP (y 24)) m.length (slC (y 24)) (m.map Mb.who), Row I3 p1 m.length c1 (m.map Mb.who)]) (fun y => [(129, _), (133, _), (127, _)]) (fun y => rfl) (fun y => rfl) (fun y => rfl) (fun y => rfl) (fun y FF hA => st_want rfl (st_callN (Post := [Row I3 (slP (y 24)) m.length (slC (y 24)) (m.map Mb.who), Row I3 p1 m.length c1 (m.map Mb.who)]) (ints_len (m.map Mb.who) m.length (by simp) _ _ _ _ (Row I3 (slP (y 24)) m.length (slC (y 24)) (m.map Mb.who)) (Row I3 p1 m.length c1 (m.map Mb.who)) (fun _ _ h => h.rd) (fun _ _ h => h.rd) (by omega)) V.b24 rfl (.cons (by first | exact rr0 | exact rr1 | exact rr2 | exact rr3 | exact rr4 | exact rr5 | exact rr6 | exact rr7 | exact rr8 | exact rr9 | exact rr10 | exact rr11 | exact rr12 | exact rr13 | exact rr14) (.cons (by first | exact rr0 | exact rr1 | exact rr2 | exact rr3 | exact rr4 | exact rr5 | exact rr6 | exact rr7 | exact rr8 | exact rr9 | exact rr10 | exact rr11 | exact rr12 | exact rr13 | exact rr14) .nil)) (fun v G h => by rcases h with ⟨rfl, rfl⟩; exact ⟨rfl, .refl _⟩))) (by intros; rfl) (by intros; rfl) (by intro y y2 h; first | rfl | simp only [h 24 (.inr (by decide))]) ?_
          refine net_pure (fun y => [(127, _), (134, _)]) (fun y => rfl) rfl rfl rfl (fun y hA L => st_v (v_pickT rfl rfl) ⟨rfl, rfl⟩) (by intros; rfl) (by intro y y2 h; rfl) ?_
          refine net_pure (fun y => [(135, _)]) (fun y => rfl) rfl rfl rfl (fun y hA L => st_v (v_move rfl) ⟨rfl, rfl⟩) (by intros; rfl) (by intro y y2 h; rfl) ?_
          refine net_pure (fun y => [(136, _), (5, _)]) (fun y => rfl) rfl rfl rfl (fun y hA L => st_want rfl (st_v (v_move rfl) ⟨rfl, rfl⟩)) (by intros; rfl) (by intro y y2 h; rfl) ?_
          refine net_eff (fun y => [IsFair bf m]) (fun y => []) (fun y => [IsFair bf m]) (fun y => [(137, _), (136, _)]) (fun y => rfl) (fun y => rfl) (fun y => rfl) (fun y => rfl) (fun y FF hA => st_want rfl (st_callN (Post := [IsFair bf m]) (p_spend_low bf 0 m (by omega) (fun x hx => by have := hOk.mem x hx; omega)) V.b13 rfl (.cons (by first | exact rr0 | exact rr1 | exact rr2 | exact rr3 | exact rr4 | exact rr5 | exact rr6 | exact rr7 | exact rr8 | exact rr9 | exact rr10 | exact rr11 | exact rr12 | exact rr13 | exact rr14) .nil) (fun v G h => by rcases h with ⟨rfl, rfl⟩; exact ⟨rfl, .refl _⟩))) (by intros; rfl) (by intros; rfl) (by intro y y2 h; rfl) ?_
          refine net_pure (fun y => [(138, _), (136, _)]) (fun y => rfl) rfl rfl rfl (fun y hA L => st_want rfl (st_v (v_to (v := .bool true) (v_not rfl) rfl) ⟨rfl, rfl⟩)) (by intros; rfl) (by intro y y2 h; rfl) ?_
          refine net_pure (fun y => [(136, _), (139, _)]) (fun y => rfl) rfl rfl rfl (fun y hA L => st_v (v_pickT rfl rfl) ⟨rfl, rfl⟩) (by intros; rfl) (by intro y y2 h; rfl) ?_
          refine net_pure (fun y => [(140, _)]) (fun y => rfl) rfl rfl rfl (fun y hA L => st_v (v_move rfl) ⟨rfl, rfl⟩) (by intros; rfl) (by intro y y2 h; rfl) ?_
          refine net_pure (fun y => [(141, _), (5, _)]) (fun y => rfl) rfl rfl rfl (fun y hA L => st_want rfl (st_v (v_move rfl) ⟨rfl, rfl⟩)) (by intros; rfl) (by intro y y2 h; rfl) ?_
          refine net_eff (fun y => [IsFair bf m]) (fun y => []) (fun y => [IsFair bf m]) (fun y => [(142, _), (141, _)]) (fun y => rfl) (fun y => rfl) (fun y => rfl) (fun y => rfl) (fun y FF hA => st_want rfl (st_callN (Post := [IsFair bf m]) (leave_no bf (-1) m (by omega) (not_in (fun x hx => by have := hOk.mem x hx; omega))) V.b16 rfl (.cons (by first | exact rr0 | exact rr1 | exact rr2 | exact rr3 | exact rr4 | exact rr5 | exact rr6 | exact rr7 | exact rr8 | exact rr9 | exact rr10 | exact rr11 | exact rr12 | exact rr13 | exact rr14) .nil) (fun v G h => by rcases h with ⟨rfl, rfl⟩; exact ⟨rfl, .refl _⟩))) (by intros; rfl) (by intros; rfl) (by intro y y2 h; rfl) ?_
          refine net_pure (fun y => [(143, _), (141, _)]) (fun y => rfl) rfl rfl rfl (fun y hA L => st_want rfl (st_v (v_to (v := .bool true) (v_not rfl) rfl) ⟨rfl, rfl⟩)) (by intros; rfl) (by intro y y2 h; rfl) ?_
          refine net_pure (fun y => [(141, _), (144, _)]) (fun y => rfl) rfl rfl rfl (fun y hA L => st_v (v_pickT rfl rfl) ⟨rfl, rfl⟩) (by intros; rfl) (by intro y y2 h; rfl) ?_
          refine net_pure (fun y => [(145, _)]) (fun y => rfl) rfl rfl rfl (fun y hA L => st_v (v_move rfl) ⟨rfl, rfl⟩) (by intros; rfl) (by intro y y2 h; rfl) ?_
          refine net_pure (fun y => [(146, _), (5, _)]) (fun y => rfl) rfl rfl rfl (fun y hA L => st_want rfl (st_v (v_move rfl) ⟨rfl, rfl⟩)) (by intros; rfl) (by intro y y2 h; rfl) ?_
          refine net_eff (fun y => [IsFair bf m]) (fun y => []) (fun y => [IsFair bf m]) (fun y => [(147, _), (146, _)]) (fun y => rfl) (fun y => rfl) (fun y => rfl) (fun y => rfl) (fun y FF hA => st_want rfl (st_callN (Post := [IsFair bf m]) (credit_no bf 99 m (by omega) (not_in (fun x hx => by have := hOk.mem x hx; omega))) V.b14 rfl (.cons (by first | exact rr0 | exact rr1 | exact rr2 | exact rr3 | exact rr4 | exact rr5 | exact rr6 | exact rr7 | exact rr8 | exact rr9 | exact rr10 | exact rr11 | exact rr12 | exact rr13 | exact rr14) .nil) (fun v G h => by rcases h with ⟨rfl, rfl⟩; exact ⟨rfl, .refl _⟩))) (by intros; rfl) (by intros; rfl) (by intro y y2 h; rfl) ?_
          refine net_pure (fun y => [(148, _), (146, _)]) (fun y => rfl) rfl rfl rfl (fun y hA L => st_want rfl (st_v (v_T (v_eql rfl rfl) rfl) ⟨rfl, rfl⟩)) (by intros; rfl) (by intro y y2 h; rfl) ?_
          refine net_pure (fun y => [(146, _), (149, _)]) (fun y => rfl) rfl rfl rfl (fun y hA L => st_v (v_pickT rfl rfl) ⟨rfl, rfl⟩) (by intros; rfl) (by intro y y2 h; rfl) ?_
          refine net_pure (fun y => [(150, _)]) (fun y => rfl) rfl rfl rfl (fun y hA L => st_v (v_assign rfl) ⟨rfl, rfl⟩) (by intros; rfl) (by intro y y2 h; rfl) ?_
          refine net_nil ?_
          intro y hA
          clear hA
          refine thn_n ?_
          refine w_keep _ (.cons (d := 4) rfl (.nil _)) ?_
          refine w_sub (M := Row (ecB 4) p64 wl0.length c64 wl :: Cel b29 46 [.slice p1 m.length c1, .slice p2 m.length c2, .slice p3 m.length c3] :: Row I3 p2 m.length c2 (m.map Mb.q) :: Row I3 p3 m.length c3 (m.map Mb.c) :: Deep 48 (.st (.seq (.int .i64) (.seq (.int .i64) (.seq (.int .i64) (.seq (.flt .f64) (.seq (.sl 4 .bool) .unit)))))) pd ds.length ds :: RdR (ecB 4) pw wl0.length wl0 :: Row I3 (slP (y 24)) m.length (slC (y 24)) (m.map Mb.who) :: Row I3 p1 m.length c1 (m.map Mb.who) :: IsFair bf m :: F) (fun _ _ h => h) ?_
          refine w_sub (sub .nil (.skip (.keep (.keep (.keep (.keep (.keep (.skip (.keep (.keep .refl)))))))))) ?_
          simp only [List.nil_append]
          generalize (slP (y 24)) = q129
          refine w_ret ?_
          exact ret_ok (G := [_, _]) (res1 rfl) ⟨rfl, rfl⟩ (sub (.cons (by first | exact rr0 | exact rr1 | exact rr2 | exact rr3 | exact rr4 | exact rr5 | exact rr6 | exact rr7 | exact rr8 | exact rr9 | exact rr10 | exact rr11 | exact rr12 | exact rr13 | exact rr14) (.cons (by first | exact rr0 | exact rr1 | exact rr2 | exact rr3 | exact rr4 | exact rr5 | exact rr6 | exact rr7 | exact rr8 | exact rr9 | exact rr10 | exact rr11 | exact rr12 | exact rr13 | exact rr14) .nil)) (by first | exact dd0 | exact dd1 | exact dd2 | exact dd3 | exact dd4 | exact dd5 | exact dd6 | exact dd7 | exact dd8 | exact dd9 | exact dd10 | exact dd11 | exact dd12 | exact dd13 | exact dd14))
end Go.Proofs.Ytpkemaglokbfiaa

/- Steps of the proof: the walks of the functions that the statement reaches; printed by a program of ours. -/
import Derived.Test.YthmgkggpipnalaaM35
import Derived.Test.YthmgkggpipnalaaSl22
import Derived.KernelRfl
import Derived.Test.YthmgkggpipnalaaM31
/-
  Steps of the proof: walks of functions that the statement reaches; printed by a program of ours.
-/
namespace Go.Proofs.Ythmgkggpipnalaa
open Go.Sl 
set_option linter.unusedVariables false
set_option linter.unusedSimpArgs false

set_option maxRecDepth 100000 in
theorem c_clone (p : Option Addr) (cap : Nat) (B : List Int) (R : HProp) (hR : ∀ w0 h, R w0 h → RdR U5 p B.length B w0 h) (hl : B.length < 500000000) : Ctr Try.prog 24 [.slice p B.length cap] [R] (Ret fun v G => ∃ q c, v = .slice q B.length c ∧ G = [Row U5 q B.length c B, R]) := by
  refine spec_of [(0, _)] Try.func24 rfl Try.ntmps24 rfl rfl ?_
  intro w0 F
  refine w_fact (fun w hi => rd_nil (List.mem_cons_self ..) hR hi) (fun hp => ?_)
  refine w_seq ?_
  refine w_region ?_
  refine o_val (v_assign rfl) rfl ?_
  refine o_nil ?_
  refine thn_n ?_
  refine w_seq ?_
  refine w_seq ?_
  refine w_region ?_
  refine o_val (v_move rfl) rfl ?_
  refine o_val (v_eqnilS Try.underlying23 rfl rfl) rfl ?_
  refine o_nil ?_
  refine thn_n ?_
  first | refine w_condD rfl (fun h4 => ?_) (fun h4 => ?_) | refine w_cond rfl (fun h4 => ?_) (fun h4 => ?_)
  ·
    refine w_seq ?_
    refine w_region ?_
    refine o_val (v_assign rfl) rfl ?_
    refine o_nil ?_
    refine thn_n ?_
    refine w_ret ?_
    refine (thn_r ?_)
    obtain rfl : p = none := by cases p with | none => rfl | some _ => simp at h4
    obtain rfl : B = [] := hp rfl
    exact ret_ok (G := [Row U5 none 0 0 [], R]) (res1 rfl) ⟨none, 0, rfl, rfl⟩ ((sub_add0 (fun w0 => Row.nil _ _ _)).trans (sub (.cons (by repeat first | exact .head | apply Rem.tail) (.cons (by repeat first | exact .head | apply Rem.tail) .nil)) (by repeat first | exact .refl | apply Drop.skip)))
  ·
    refine w_skip ?_
    refine thn_n ?_
    refine w_seq ?_
    refine w_region ?_
    refine r_build (U5) [] V.sl23 V.z5 rfl rfl rfl rfl rfl rfl ?_
    intro b5
    refine o_val (v_move rfl) rfl ?_
    refine r_append (c := (U5)) V.sl23 V.z5 rfl rfl rfl rfl (by repeat first | exact .head | apply Rem.tail) (by first | exact own mm0 | exact own mm1 | exact own mm2 | exact own mm3 | exact own mm4 | exact own mm5 | exact own mm6 | exact own mm7 | exact own mm8 | exact own mm9 | exact own mm10 | exact own mm11 | exact rdH hR mm0 | exact rdH hR mm1 | exact rdH hR mm2 | exact rdH hR mm3 | exact rdH hR mm4 | exact rdH hR mm5 | exact rdH hR mm6 | exact rdH hR mm7 | exact rdH hR mm8 | exact rdH hR mm9 | exact rdH hR mm10 | exact rdH hR mm11) (by omega) rfl ?_
    intro p7 c7
    refine o_val (v_assign rfl) rfl ?_
    refine o_nil ?_
    refine thn_n ?_
    refine w_ret ?_
    exact ret_ok (G := [Row U5 p7 (0 + B.length) c7 ([] ++ B), R]) (res1 rfl) ⟨p7, c7, by rw [Nat.zero_add], by rw [Nat.zero_add, List.nil_append]⟩ (sub (.cons (by repeat first | exact .head | apply Rem.tail) (.cons (by repeat first | exact .head | apply Rem.tail) .nil)) (by repeat first | exact .refl | apply Drop.skip))
end Go.Proofs.Ythmgkggpipnalaa

/-
  Steps of the proof: walks of functions that the statement reaches; printed by a program of ours.
-/
namespace Go.Proofs.Ythmgkggpipnalaa
open Go.Sl 
set_option linter.unusedVariables false
theorem TTDhC : okT Try.prog ⟨[117], [(119, 0, 0), (123, 1, 1)]⟩ = true := by kernel_rfl
set_option linter.unusedSimpArgs false

attribute [local irreducible] HuffP.newE HuffP.tk HuffP.ord HuffP.cntL HuffP.words HuffP.mostL InfP.fixK InfP.frs
attribute [local irreducible] HuffP.wd HuffP.lkW HuffP.lkN HuffP.lkB

set_option maxRecDepth 100000 in
theorem h_word (b : Nat) (ls : List Int) (x : Int) : Ctr Try.prog 62 [.pointer (some ⟨b, 0, none⟩), .int .i64 x] [HC b ls] (Ret fun v G => v = .tuple #[.int .i64 (HuffP.lkW ls x), .int .i64 (HuffP.lkN ls x), .bool (HuffP.lkB ls x)] ∧ G = [HC b ls]) := by
  refine spec_of [(0, _), (1, _)] Try.func62 rfl Try.ntmps62 rfl rfl ?_
  intro w0 F
  refine w_opn (fun h hh => hh) ?_
  rintro ⟨p1, c1, p2, c2⟩ _
  dsimp only
  have hgw : 0 ≤ x → x < ls.length → W63.g (HuffP.words ls) x = HuffP.wd ls x.toNat := fun h0 h1 => HuffP.words_get (by omega)
  refine rT TTDhC 11 rfl ?_
  refine o_val (v_to (v := .bool false) (v_eqnil Try.underlying98 rfl rfl) rfl) rfl ?_
  refine rO TTDhC 5 rfl ?_
  refine o_boolD 14 rfl (fun h14 => ?_) (fun h14 => ?_)
  ·
    refine rO TTDhC 31 rfl ?_
    obtain ⟨e1, e2, e3⟩ := HuffP.lk_none (ls := ls) (x := x) (by exact .inl (by omega))
    rw [e1, e2, e3]
    exact ret_ok (G := [HC b ls]) (res3 rfl rfl rfl) ⟨rfl, rfl⟩ (fold' (.cons (by exact rr0) (.cons (by exact rr0) (.cons (by exact rr0) .nil))) (by exact dd0) (fun w0 h hh => hc_close rfl hh))
  ·
    refine rO TTDhC 4 rfl ?_
    refine o_want rfl ?_
    refine o_val (v_load V.s117 rfl (by exact mm0) rfl) rfl ?_
    refine rO TTDhC 4 rfl ?_
    refine o_boolD 23 rfl (fun h23 => ?_) (fun h23 => ?_)
    ·
      refine rO TTDhC 22 rfl ?_
      obtain ⟨e1, e2, e3⟩ := HuffP.lk_none (ls := ls) (x := x) (by exact .inr (.inl (by omega)))
      rw [e1, e2, e3]
      exact ret_ok (G := [HC b ls]) (res3 rfl rfl rfl) ⟨rfl, rfl⟩ (fold' (.cons (by exact rr0) (.cons (by exact rr0) (.cons (by exact rr0) .nil))) (by exact dd0) (fun w0 h hh => hc_close rfl hh))
    ·
      refine rO TTDhC 3 rfl ?_
      refine o_want rfl ?_
      refine o_val (v_load V.s117 rfl (by exact mm0) rfl) rfl ?_
      refine o_want rfl ?_
      refine o_val (v_move rfl) rfl ?_
      refine o_want rfl ?_
      refine o_val (r_index (c := (W63)) V.sl117 rfl rfl (by exact own mm1) (by omega) (by omega)) rfl ?_
      refine o_want rfl ?_
      refine o_val (v_fieldAddr V.f123_1 rfl) rfl ?_
      refine o_want rfl ?_
      refine o_val (r_loadF (c := (W63)) 1 V.s3 rfl (by exact own mm1) (by omega) (by omega) rfl rfl) rfl ?_
      refine rO TTDhC 4 rfl ?_
      refine w_condD rfl (fun h33 => ?_) (fun h33 => ?_)
      ·
        refine rC TTDhC 9 rfl ?_
        obtain ⟨e1, e2, e3⟩ := HuffP.lk_none (ls := ls) (x := x) (by exact .inr (.inr (by rw [← hgw (by omega) (by omega)]; assumption)))
        rw [e1, e2, e3]
        exact ret_ok (G := [HC b ls]) (res3 rfl rfl rfl) ⟨rfl, rfl⟩ (fold' (.cons (by exact rr0) (.cons (by exact rr0) (.cons (by exact rr0) .nil))) (by exact dd0) (fun w0 h hh => hc_close rfl hh))
      ·
        refine rC TTDhC 7 rfl ?_
        refine o_val (v_load V.s117 rfl (by exact mm0) rfl) rfl ?_
        refine o_val (v_move rfl) rfl ?_
        refine o_val (r_index (c := (W63)) V.sl117 rfl rfl (by exact own mm1) (by omega) (by omega)) rfl ?_
        refine o_val (r_loadA (c := (W63)) V.a123 rfl (by exact own mm1) (by omega) (by omega) rfl) rfl ?_
        refine o_alloc V.z123 rfl ?_
        intro b7
        refine o_eff (v_storeAgg V.a123 rfl rfl (us := [_, _]) rfl rfl (by exact pp0) (by exact Nat.le_of_ble_eq_true rfl) rfl) ?_
        refine rO TTDhC 3 rfl ?_
        refine w_net [⟨[], [], [7], 0, 0⟩, ⟨[0], [0], [], 0, 0⟩, ⟨[], [], [7], 0, 0⟩, ⟨[2], [2], [], 0, 0⟩, ⟨[0, 1], [1], [], 0, 0⟩, ⟨[0, 1, 2, 3, 4], [3], [], 0, 0⟩, ⟨[0, 1, 2, 3, 4, 5], [], [], 0, 0⟩] [⟨fun y => Cel b7 123 [.int .i64 (W63.g (HuffP.words ls) x).1, .int .i64 (W63.g (HuffP.words ls) x).2], none, none, [1, 3]⟩, ⟨fun y => Cel b 119 (CA [.slice p1 ls.length c1] .i64 (HuffP.cntL ls) [.slice p2 (HuffP.ord ls).length c2, .int .i64 (HuffP.mostL ls)]), none, none, []⟩, ⟨fun y => Row W63 p1 ls.length c1 (HuffP.words ls), none, none, []⟩, ⟨fun y => Row I3 p2 (HuffP.ord ls).length c2 (HuffP.ord ls), none, none, []⟩] F V.mixed (by kernel_rfl) rfl (fun _ => .refl _) (locT_0 _ (locT_0 _ (locT_0 _ (locT_0 _ locT_nil)))) ?_
        refine net_pure (fun y => [(7, _)]) (fun y => rfl) rfl rfl rfl (fun y hA L => st_v (v_fieldAddr V.f123_0 rfl) ⟨rfl, rfl⟩) (by intros; rfl) (by intro y y2 h; rfl) ?_
        refine net_read (fun y => [Cel b7 123 [.int .i64 (W63.g (HuffP.words ls) x).1, .int .i64 (W63.g (HuffP.words ls) x).2]]) (fun y => [(41, _)]) (fun y => rfl) rfl (fun y => rfl) rfl (fun y FF hA => st_v (v_load V.s3 rfl (by exact mm0) rfl) ⟨rfl, rfl⟩) (by intros; rfl) (by intro y y2 h; rfl) ?_
        refine net_pure (fun y => [(7, _)]) (fun y => rfl) rfl rfl rfl (fun y hA L => st_v (v_fieldAddr V.f123_1 rfl) ⟨rfl, rfl⟩) (by intros; rfl) (by intro y y2 h; rfl) ?_
        refine net_read (fun y => [Cel b7 123 [.int .i64 (W63.g (HuffP.words ls) x).1, .int .i64 (W63.g (HuffP.words ls) x).2]]) (fun y => [(43, _)]) (fun y => rfl) rfl (fun y => rfl) rfl (fun y FF hA => st_v (v_load V.s3 rfl (by exact mm0) rfl) ⟨rfl, rfl⟩) (by intros; rfl) (by intro y y2 h; rfl) ?_
        refine net_pure (fun y => [(42, _)]) (fun y => rfl) rfl rfl rfl (fun y hA L => st_v (v_assign rfl) ⟨rfl, rfl⟩) (by intros; rfl) (by intro y y2 h; rfl) ?_
        refine net_pure (fun y => [(44, _)]) (fun y => rfl) rfl rfl rfl (fun y hA L => st_v (v_assign rfl) ⟨rfl, rfl⟩) (by intros; rfl) (by intro y y2 h; rfl) ?_
        refine net_pure (fun y => []) (fun y => rfl) rfl rfl rfl (fun y hA L => st_v (v_assign rfl) ⟨rfl, rfl⟩) (by intros; rfl) (by intro y y2 h; rfl) ?_
        refine net_nil ?_
        intro y hA
        clear hA
        refine thn_n ?_
        refine w_keep _ (.cons (d := 4) rfl (.cons (d := 5) rfl (.cons (d := 6) rfl (.nil _)))) ?_
        refine w_sub (M := Cel b7 123 [.int .i64 (W63.g (HuffP.words ls) x).1, .int .i64 (W63.g (HuffP.words ls) x).2] :: Cel b 119 (CA [.slice p1 ls.length c1] .i64 (HuffP.cntL ls) [.slice p2 (HuffP.ord ls).length c2, .int .i64 (HuffP.mostL ls)]) :: Row W63 p1 ls.length c1 (HuffP.words ls) :: Row I3 p2 (HuffP.ord ls).length c2 (HuffP.ord ls) :: F) (fun _ _ h => h) ?_
        refine rC TTDhC 1 rfl ?_
        obtain ⟨e1, e2, e3⟩ := HuffP.lk_some (ls := ls) (x := x) (by omega) (by omega) (by rw [← hgw (by omega) (by omega)]; assumption)
        rw [e1, e2, e3, ← hgw (by omega) (by omega)]
        exact ret_ok (G := [HC b ls]) (res3 rfl rfl rfl) ⟨rfl, rfl⟩ (fold' (.cons (by exact rr1) (.cons (by exact rr1) (.cons (by exact rr1) .nil))) (by exact dd1) (fun w0 h hh => hc_close rfl hh))
end Go.Proofs.Ythmgkggpipnalaa

/-
  Steps of the proof: walks of functions that the statement reaches; printed by a program of ours.
-/
namespace Go.Proofs.Ythmgkggpipnalaa
open Go.Sl 
set_option linter.unusedVariables false
theorem TTDhN : okT Try.prog ⟨[], [(86, 1, 1), (86, 3, 3), (88, 0, 0)]⟩ = true := by kernel_rfl
set_option linter.unusedSimpArgs false

set_option maxRecDepth 100000 in
theorem c_room0 (b : Nat) (out : List Int) (hl : out.length < 500000000) : Ctr Try.prog 49 [.pointer (some ⟨b, 0, none⟩)] [LW b [] 0 out 0] (Ret fun v G => v = .int .i64 7 ∧ G = [LW b [] 0 (out ++ [0]) 7]) := by
  refine spec_of [(0, _)] Try.func49 rfl Try.ntmps49 rfl rfl ?_
  intro w0 F
  refine w_opn (fun h hh => hh) ?_
  rintro ⟨p1, c1, p2, c2⟩ _
  dsimp only
  refine rT TTDhN 11 rfl ?_
  refine o_val (v_load V.s3 rfl (by exact mm0) rfl) rfl ?_
  refine o_val (v_T (v_eql rfl rfl) rfl) rfl ?_
  refine rO TTDhN 9 rfl ?_
  refine o_val (v_load V.s23 rfl (by exact mm0) rfl) rfl ?_
  refine r_build (U5) [0] V.sl23 V.z5 rfl rfl rfl rfl rfl rfl ?_
  intro b13
  refine r_append (c := (U5)) V.sl23 V.z5 rfl rfl rfl rfl (by exact rr3) (by exact own mm0) (by omega) rfl ?_
  intro p14 c14
  refine rO TTDhN 2 rfl ?_
  refine o_eff (v_store V.s23 rfl rfl rfl (by exact pp2) (by exact Nat.le_of_ble_eq_true rfl) rfl) ?_
  refine rO TTDhN 6 rfl ?_
  refine o_eff (v_store V.s3 rfl rfl rfl (by exact pp2) (by exact Nat.le_of_ble_eq_true rfl) rfl) ?_
  refine rO TTDhN 7 rfl ?_
  refine o_val (v_load V.s3 rfl (by exact mm2) rfl) rfl ?_
  refine rOs TTDhN 3 rfl (by omega) ?_
  refine o_eff (v_store V.s3 rfl rfl rfl (by exact pp2) (by exact Nat.le_of_ble_eq_true rfl) rfl) ?_
  refine rO TTDhN 7 rfl ?_
  refine o_val (v_load V.s3 rfl (by exact mm2) rfl) rfl ?_
  refine rO TTDhN 4 rfl ?_
  exact ret_ok (G := [LW b [] 0 (out ++ [0]) 7]) (res1 rfl) ⟨rfl, rfl⟩ (fold' (.cons (by exact rr2) (.cons (by exact rr2) (.cons (by exact rr0) .nil))) (by exact dd1) (fun w0 h (hh : sats w0 [Cel b 88 [.slice p1 0 c1, .slice p14 (out.length + 1) c14, .int .i64 0, .int .i64 7], Row U5 p1 0 c1 [], Row U5 p14 (out.length + 1) c14 (out ++ [0])] h) => lw_close (B := []) (out := out ++ [0]) (by rw [List.length_append]; exact hh)))

set_option maxRecDepth 100000 in
theorem c_roomS (b : Nat) (out : List Int) (fr : Nat) (h1 : 1 ≤ fr) (h8 : fr ≤ 8) : Ctr Try.prog 49 [.pointer (some ⟨b, 0, none⟩)] [LW b [] 0 out (fr : Int)] (Ret fun v G => v = .int .i64 ((fr : Int) - 1) ∧ G = [LW b [] 0 out ((fr : Int) - 1)]) := by
  refine spec_of [(0, _)] Try.func49 rfl Try.ntmps49 rfl rfl ?_
  intro w0 F
  refine w_opn (fun h hh => hh) ?_
  rintro ⟨p1, c1, p2, c2⟩ _
  dsimp only
  refine rT TTDhN 11 rfl ?_
  refine o_val (v_load V.s3 rfl (by exact mm0) rfl) rfl ?_
  refine o_val (v_F (v_eql rfl rfl) (by omega)) rfl ?_
  refine rO TTDhN 10 rfl ?_
  refine o_val (v_load V.s3 rfl (by exact mm0) rfl) rfl ?_
  refine rOs TTDhN 3 rfl (by omega) ?_
  refine o_eff (v_store V.s3 rfl rfl rfl (by exact pp0) (by exact Nat.le_of_ble_eq_true rfl) rfl) ?_
  refine rO TTDhN 7 rfl ?_
  refine o_val (v_load V.s3 rfl (by exact mm0) rfl) rfl ?_
  refine rO TTDhN 4 rfl ?_
  exact ret_ok (G := [LW b [] 0 out ((fr : Int) - 1)]) (res1 rfl) ⟨rfl, rfl⟩ (fold' (.cons (by exact rr0) (.cons (by exact rr0) (.cons (by exact rr0) .nil))) (by exact dd0) (fun w0 h hh => lw_close (B := []) hh))


theorem c_room (b : Nat) (bs : List Int) (hl : bs.length < 500000000) : Ctr Try.prog 49 [.pointer (some ⟨b, 0, none⟩)] [WB b bs] (Ret fun v G => ∃ out fr, BitP.Pk bs out fr ∧ 1 ≤ fr ∧ v = .int .i64 ((fr : Int) - 1) ∧ G = [LW b [] 0 out ((fr : Int) - 1)]) := by
  intro w0 F w hi
  obtain ⟨⟨out, fr⟩, ⟨hpk, hf8⟩, hi2⟩ := hi.opn (fun h hh => hh)
  dsimp only at hpk hi2 hf8
  have hlen := hpk.len
  have h8 := hpk.le
  rcases Nat.eq_zero_or_pos fr with e | e
  · subst e
    refine (c_room0 b out (by omega) w0 F w hi2).mono ?_
    rintro e w' ⟨G, h1, v, rfl, rfl, rfl⟩
    exact ⟨_, h1, _, rfl, out ++ [0], 8, BitP.pk_room hpk, by omega, rfl, rfl⟩
  · refine (c_roomS b out fr e h8 w0 F w hi2).mono ?_
    rintro e w' ⟨G, h1, v, rfl, rfl, rfl⟩
    exact ⟨_, h1, _, rfl, out, fr, hpk, by omega, rfl, rfl⟩


set_option maxHeartbeats 1000000 in
set_option maxRecDepth 100000 in
theorem c_put (b : Nat) (bs : List Int) (x : Int) (n : Nat) (hx : 0 ≤ x ∧ x < 2 ^ 40) (hn : n ≤ 24) (hl : bs.length < 400000000) : Ctr Try.prog 39 [.pointer (some ⟨b, 0, none⟩), .int .i64 x, .int .i64 (n : Int)] [WB b bs] (Ret fun v G => v = .tuple #[] ∧ G = [WB b (bs ++ BitP.lowB x n)]) := by
  refine spec_of [(0, _), (1, _), (2, _)] Try.func39 rfl Try.ntmps39 rfl rfl ?_
  intro w0 F
  refine rT TTDhN 4 rfl ?_
  refine o_val (v_F (v_lss rfl rfl) (by omega)) rfl ?_
  refine rO TTDhN 2 rfl ?_
  refine o_want rfl ?_
  refine o_val (v_F (v_gtr rfl rfl) (by omega)) rfl ?_
  refine rO TTDhN 13 rfl ?_
  refine w_loop1 (fun (k : Nat) => [(0, .pointer (some ⟨b, 0, none⟩)), (1, .int .i64 x), (16, .int .i64 (n : Int)), (17, .int .i64 (k : Int))]) (fun (k : Nat) => WB b (bs ++ BitP.lowB x k) :: F) (fun (k : Nat) => k ≤ n) (fun (k : Nat) => n - k) (i1 (0) ?_ (.cons rfl (.cons rfl (.cons rfl (.cons rfl (.nil _))))) (by show Sub _ (WB b (bs ++ BitP.lowB x 0) :: F); rw [BitP.lowB_zero, List.append_nil]; exact (sub (.cons (by exact rr0) .nil) (by exact dd0)))) ?_
  ·
    exact Nat.zero_le _
  intro k
  rintro hk
  refine rL TTDhN 6 rfl ?_
  refine w_condD rfl (fun h18 => ?_) (fun h18 => ?_)
  ·
    refine rC TTDhN 15 rfl ?_
    refine o_call (c_room b (bs ++ BitP.lowB x k) (by rw [List.length_append, BitP.lowB_len]; omega)) V.b49  rfl (.cons (by exact rr0) .nil) rfl ?_
    rintro _ _ ⟨out, fr, hpk, hfr, rfl, rfl⟩
    refine rO TTDhN 3 rfl ?_
    have hle8 := hpk.le
    have hlen := hpk.len
    have hby := hpk.byt.get (out.length - 1)
    have hdn := BitP.div_nn hx.1 k
    have hob : out.length < 500000000 := by have := hpk.len; rw [List.length_append, BitP.lowB_len] at this; omega
    have hgo : U5.g out ((out.length : Int) - 1) = out.getD (out.length - 1) 0 := gE (out.length - 1) (by omega)
    refine w_opn (fun h hh => hh) ?_
    rintro ⟨p1, c1, p2, c2⟩ _
    dsimp only
    refine w_net [⟨[], [], [0], 0, 0⟩, ⟨[0], [0], [], 0, 0⟩, ⟨[0, 1], [1], [], 0, 0⟩, ⟨[0, 1, 2], [2], [], 0, 0⟩, ⟨[0, 1, 2, 3], [3], [], 0, 0⟩, ⟨[], [], [0], 0, 0⟩, ⟨[5], [5], [], 0, 0⟩, ⟨[5, 6], [6], [], 0, 0⟩, ⟨[5, 6, 7], [7], [], 0, 0⟩, ⟨[5, 6, 7, 8], [8], [], 0, 0⟩, ⟨[5, 6, 7, 8, 9], [9], [], 0, 0⟩, ⟨[5, 6, 7, 8, 9, 10], [10], [], 0, 0⟩, ⟨[0, 1, 2, 3, 4, 5, 6, 7, 8, 9, 10, 11], [4, 11], [], 0, 0⟩, ⟨[0, 1, 2, 3, 4, 5, 6, 7, 8, 9, 10, 11, 12], [12], [], 0, 0⟩, ⟨[], [], [1], 0, 0⟩, ⟨[], [], [6], 0, 0⟩, ⟨[14, 15], [14, 15], [], 0, 0⟩, ⟨[14, 15, 16], [16], [], 0, 0⟩, ⟨[14, 15, 16, 17], [17], [], 0, 0⟩, ⟨[], [], [7], 0, 0⟩, ⟨[19], [19], [], 0, 0⟩, ⟨[14, 15, 16, 17, 18, 19, 20], [18, 20], [], 0, 0⟩, ⟨[0, 1, 2, 3, 4, 5, 6, 7, 8, 9, 10, 11, 12, 13, 14, 15, 16, 17, 18, 19, 20, 21], [13, 21], [], 0, 0⟩, ⟨[0, 1, 2, 3, 4, 5, 6, 7, 8, 9, 10, 11, 12, 13, 14, 15, 16, 17, 18, 19, 20, 21, 22], [4, 11], [], 0, 0⟩, ⟨[0, 1, 2, 3, 4, 5, 6, 7, 8, 9, 10, 11, 12, 13, 14, 15, 16, 17, 18, 19, 20, 21, 22, 23], [23, 22], [], 0, 0⟩] [⟨fun y => Cel b 88 [.slice p1 0 c1, .slice p2 out.length c2, .int .i64 0, .int .i64 ((fr : Int) - 1)], none, none, [4, 9]⟩, ⟨fun y => Row U5 p1 0 c1 [], none, none, []⟩, ⟨fun y => Row U5 p2 out.length c2 out, none, some 24, [12, 13, 23]⟩, ⟨fun y => Row U5 p2 out.length c2 (out.set ((out.length : Int) - 1).toNat (BitP.orB (out.getD (out.length - 1) 0) (x / 2 ^ k % 2) (8 - fr))), some 24, none, []⟩] F V.mixed (by kernel_rfl) rfl (fun _ => .refl _) (locT_0 _ (locT_0 _ (locT_0 _ (locT_1 [0, 1, 2, 3, 4, 5, 6, 7, 8, 9, 10, 11, 12, 13, 14, 15, 16, 17, 18, 19, 20, 21, 22, 23] rfl (by intro y y2 h; rfl) locT_nil)))) ?_
    refine net_pure (fun y => [(0, _)]) (fun y => rfl) rfl rfl rfl (fun y hA L => st_v (v_move rfl) ⟨rfl, rfl⟩) (by intros; rfl) (by intro y y2 h; rfl) ?_
    refine net_pure (fun y => [(24, _)]) (fun y => rfl) rfl rfl rfl (fun y hA L => st_v (v_nil rfl) ⟨rfl, rfl⟩) (by intros; rfl) (by intro y y2 h; rfl) ?_
    refine net_pure (fun y => [(25, _)]) (fun y => rfl) rfl rfl rfl (fun y hA L => st_v (v_fieldAddr V.f88_0 rfl) ⟨rfl, rfl⟩) (by intros; rfl) (by intro y y2 h; rfl) ?_
    refine net_pure (fun y => [(26, _)]) (fun y => rfl) rfl rfl rfl (fun y hA L => st_v (v_fieldAddr V.f86_1 rfl) ⟨rfl, rfl⟩) (by intros; rfl) (by intro y y2 h; rfl) ?_
    refine net_read (fun y => [Cel b 88 [.slice p1 0 c1, .slice p2 out.length c2, .int .i64 0, .int .i64 ((fr : Int) - 1)]]) (fun y => [(27, _)]) (fun y => rfl) rfl (fun y => rfl) rfl (fun y FF hA => st_v (v_load V.s23 rfl (by exact mm0) rfl) ⟨rfl, rfl⟩) (by intros; rfl) (by intro y y2 h; rfl) ?_
    refine net_pure (fun y => [(0, _)]) (fun y => rfl) rfl rfl rfl (fun y hA L => st_v (v_move rfl) ⟨rfl, rfl⟩) (by intros; rfl) (by intro y y2 h; rfl) ?_
    refine net_pure (fun y => [(29, _)]) (fun y => rfl) rfl rfl rfl (fun y hA L => st_v (v_nil rfl) ⟨rfl, rfl⟩) (by intros; rfl) (by intro y y2 h; rfl) ?_
    refine net_pure (fun y => [(30, _)]) (fun y => rfl) rfl rfl rfl (fun y hA L => st_v (v_fieldAddr V.f88_0 rfl) ⟨rfl, rfl⟩) (by intros; rfl) (by intro y y2 h; rfl) ?_
    refine net_pure (fun y => [(31, _)]) (fun y => rfl) rfl rfl rfl (fun y hA L => st_v (v_fieldAddr V.f86_1 rfl) ⟨rfl, rfl⟩) (by intros; rfl) (by intro y y2 h; rfl) ?_
    refine net_read (fun y => [Cel b 88 [.slice p1 0 c1, .slice p2 out.length c2, .int .i64 0, .int .i64 ((fr : Int) - 1)]]) (fun y => [(32, _)]) (fun y => rfl) rfl (fun y => rfl) rfl (fun y FF hA => st_v (v_load V.s23 rfl (by exact mm0) rfl) ⟨rfl, rfl⟩) (by intros; rfl) (by intro y y2 h; rfl) ?_
    refine net_pure (fun y => [(33, _)]) (fun y => rfl) rfl rfl rfl (fun y hA L => st_v (v_len (ty' := 0) Try.underlying23 rfl) ⟨rfl, rfl⟩) (by intros; rfl) (by intro y y2 h; rfl) ?_
    refine net_pure (fun y => [(34, _)]) (fun y => rfl) rfl rfl rfl (fun y hA L => st_v (v_sub rfl rfl (wrapI (by omega) (by omega))) ⟨rfl, rfl⟩) (by intros; rfl) (by intro y y2 h; rfl) ?_
    refine net_read (fun y => [Row U5 p2 out.length c2 out]) (fun y => [(28, _), (35, _)]) (fun y => rfl) rfl (fun y => rfl) rfl (fun y FF hA => st_v (r_index (c := (U5)) V.sl23 rfl rfl (by exact own mm0) (by omega) (by omega)) ⟨rfl, rfl⟩) (by intros; rfl) (by intro y y2 h; rfl) ?_
    refine net_read (fun y => [Row U5 p2 out.length c2 out]) (fun y => [(36, _)]) (fun y => rfl) rfl (fun y => rfl) rfl (fun y FF hA => st_v (r_load (c := (U5)) V.s5 rfl (by exact own mm0) (by omega) (by omega) rfl rfl) ⟨rfl, rfl⟩) (by intros; rfl) (by intro y y2 h; rfl) ?_
    refine net_pure (fun y => [(1, _)]) (fun y => rfl) rfl rfl rfl (fun y hA L => st_v (v_move rfl) ⟨rfl, rfl⟩) (by intros; rfl) (by intro y y2 h; rfl) ?_
    refine net_pure (fun y => [(6, _)]) (fun y => rfl) rfl rfl rfl (fun y hA L => st_v (v_move rfl) ⟨rfl, rfl⟩) (by intros; rfl) (by intro y y2 h; rfl) ?_
    refine net_pure (fun y => [(38, _), (39, _)]) (fun y => rfl) rfl rfl rfl (fun y hA L => st_v (v_shr (r := x / 2 ^ k) rfl rfl (by omega) (BitP.shrI (by omega) rfl)) ⟨rfl, rfl⟩) (by intros; rfl) (by intro y y2 h; rfl) ?_
    refine net_pure (fun y => [(40, _)]) (fun y => rfl) rfl rfl rfl (fun y hA L => st_v (v_and (r := (x / 2 ^ k % 2)) rfl rfl (BitP.and_one64 hdn.1 (by omega))) ⟨rfl, rfl⟩) (by intros; rfl) (by intro y y2 h; rfl) ?_
    refine net_pure (fun y => [(41, _)]) (fun y => rfl) rfl rfl rfl (fun y hA L => st_v (v_conv V.u3 Try.underlying5 rfl (wrap8 (by omega) (by omega))) ⟨rfl, rfl⟩) (by intros; rfl) (by intro y y2 h; rfl) ?_
    refine net_pure (fun y => [(7, _)]) (fun y => rfl) rfl rfl rfl (fun y hA L => st_v (v_move rfl) ⟨rfl, rfl⟩) (by intros; rfl) (by intro y y2 h; rfl) ?_
    refine net_pure (fun y => [(43, _)]) (fun y => rfl) rfl rfl rfl (fun y hA L => st_v (v_sub rfl rfl (wrapI (by omega) (by omega))) ⟨rfl, rfl⟩) (by intros; rfl) (by intro y y2 h; rfl) ?_
    refine net_pure (fun y => [(42, _), (44, _)]) (fun y => rfl) rfl rfl rfl (fun y hA L => st_v (v_shl (r := (x / 2 ^ k % 2) * 2 ^ (8 - fr)) rfl rfl (by omega) (BitP.shl8 (by omega) (by omega) (by omega))) ⟨rfl, rfl⟩) (by intros; rfl) (by intro y y2 h; rfl) ?_
    refine net_pure (fun y => [(37, _), (45, _)]) (fun y => rfl) rfl rfl rfl (fun y hA L => st_v (v_or (r := BitP.orB (out.getD (out.length - 1) 0) (x / 2 ^ k % 2) (8 - fr)) rfl rfl (by rw [hgo]; exact BitP.or_put hby (by omega) (by omega))) ⟨rfl, rfl⟩) (by intros; rfl) (by intro y y2 h; rfl) ?_
    refine net_read (fun y => [Row U5 p2 out.length c2 out]) (fun y => [(28, _), (35, _)]) (fun y => rfl) rfl (fun y => rfl) rfl (fun y FF hA => st_v (r_index (c := (U5)) V.sl23 rfl rfl (by exact own mm0) (by omega) (by omega)) ⟨rfl, rfl⟩) (by intros; rfl) (by intro y y2 h; rfl) ?_
    refine net_eff (fun y => [Row U5 p2 out.length c2 out]) (fun y => []) (fun y => [Row U5 p2 out.length c2 (out.set ((out.length : Int) - 1).toNat (BitP.orB (out.getD (out.length - 1) 0) (x / 2 ^ k % 2) (8 - fr)))]) (fun y => [(47, _), (46, _)]) (fun y => rfl) (fun y => rfl) (fun y => rfl) (fun y => rfl) (fun y FF hA => st_v (r_store (c := (U5)) (_) V.s5 rfl rfl rfl (by exact pp0) (by omega) (by omega) rfl rfl) ⟨rfl, .refl _⟩) (by intros; rfl) (by intros; rfl) (by intro y y2 h; rfl) ?_
    refine net_nil ?_
    intro y hA
    clear hA
    show blk _ _ _ _ (Cel b 88 [.slice p1 0 c1, .slice p2 out.length c2, .int .i64 0, .int .i64 ((fr : Int) - 1)] :: Row U5 p1 0 c1 [] :: Row U5 p2 out.length c2 (out.set ((out.length : Int) - 1).toNat (BitP.orB (out.getD (out.length - 1) 0) (x / 2 ^ k % 2) (8 - fr))) :: F)
    refine blk_n ?_
    refine thn_n ?_
    refine w_region ?_
    refine o_val (v_add rfl rfl (wrapI (by omega) (by omega))) rfl ?_
    refine o_val (v_move rfl) rfl ?_
    refine o_nil ?_
    refine j1 (k + 1) ?_ (.cons rfl (.cons rfl (.cons rfl (.cons rfl (.nil _))))) (fold' (.cons (by exact rr0) (.cons (by exact rr0) (.cons (by exact rr0) .nil))) (by exact dd0) (fun w0 h (hh : sats w0 [Cel b 88 [.slice p1 0 c1, .slice p2 out.length c2, .int .i64 0, .int .i64 ((fr : Int) - 1)], Row U5 p1 0 c1 [], Row U5 p2 out.length c2 (out.set ((out.length : Int) - 1).toNat (BitP.orB (out.getD (out.length - 1) 0) (x / 2 ^ k % 2) (8 - fr)))] h) => wb_close (fr := fr - 1) (f := (fr : Int) - 1) (p1 := p1) (c1 := c1) (p2 := p2) (c2 := c2) (by rw [← BitP.lowB_snoc, ← List.append_assoc]; exact BitP.pk_put hpk hfr (by omega)) (by omega) (by omega) (by rw [List.length_set]) (by rw [show ((out.length : Int) - 1).toNat = out.length - 1 from by omega] at hh; exact hh)))
    exact ⟨by omega, by omega⟩
  ·
    refine rC TTDhN 4 rfl ?_
    obtain rfl : k = n := by omega
    exact end_ok (G := [WB b (bs ++ BitP.lowB x k)]) res0 ⟨rfl, rfl⟩ (sub (.cons (by exact rr0) .nil) (by exact dd0))
end Go.Proofs.Ythmgkggpipnalaa

/-
  Steps of the proof: walks of functions that the statement reaches; printed by a program of ours.
-/
namespace Go.Proofs.Ythmgkggpipnalaa
open Go.Sl 
set_option linter.unusedVariables false
theorem TTDhO : okT Try.prog ⟨[], [(86, 1, 1), (88, 0, 0)]⟩ = true := by kernel_rfl
set_option linter.unusedSimpArgs false

attribute [local irreducible] HuffP.newE HuffP.tk HuffP.ord HuffP.cntL HuffP.words HuffP.mostL HuffP.lkW HuffP.lkN HuffP.lkB HuffP.wb HuffP.ins HuffP.bits

set_option maxRecDepth 100000 in
theorem c_out (b : Nat) (B : List Int) (at_ : Nat) (out : List Int) (free : Int) (hl : out.length < 500000000) : Ctr Try.prog 41 [.pointer (some ⟨b, 0, none⟩)] [LW b B at_ out free] (Ret fun v G => ∃ q c, v = .slice q out.length c ∧ G = [Row U5 q out.length c out, LW b B at_ out free]) := by
  refine spec_of [(0, _)] Try.func41 rfl Try.ntmps41 rfl rfl ?_
  intro w0 F
  refine w_opn (fun h hh => hh) ?_
  rintro ⟨p1, c1, p2, c2⟩ _
  dsimp only
  refine rT TTDhO 9 rfl ?_
  refine o_val (v_to (v := .bool false) (v_eqnil Try.underlying84 rfl rfl) rfl) rfl ?_
  refine rO TTDhO 11 rfl ?_
  refine o_val (v_load V.s23 rfl (by exact mm0) rfl) rfl ?_
  refine o_call (c_clone p2 c2 out (Row U5 p2 out.length c2 out) (fun _ _ h => h.rd) hl) V.b24  rfl (.cons (by exact rr2) .nil) rfl ?_
  rintro _ _ ⟨q, c, rfl, rfl⟩
  refine rO TTDhO 4 rfl ?_
  exact ret_ok (G := [Row U5 q out.length c out, LW b B at_ out free]) (res1 rfl) ⟨q, c, rfl, rfl⟩ ((fold' (.cons (by exact rr2) (.cons (by exact rr2) (.cons (by exact rr1) .nil))) (by exact dd0) (fun w0 h (hh : sats w0 [Cel b 88 [.slice p1 B.length c1, .slice p2 out.length c2, .int .i64 (at_ : Int), .int .i64 free], Row U5 p1 B.length c1 B, Row U5 p2 out.length c2 out] h) => lw_close hh)).trans (sub (.cons (by exact rr1) (.cons (by exact rr0) .nil)) (by exact dd0)))


theorem c_outW (b : Nat) (bs : List Int) (hl : bs.length < 500000000) : Ctr Try.prog 41 [.pointer (some ⟨b, 0, none⟩)] [WB b bs] (Ret fun v G => ∃ out fr q c, BitP.Pk bs out fr ∧ fr < 8 ∧ v = .slice q out.length c ∧ G = [Row U5 q out.length c out]) := by
  intro w0 F w hi
  obtain ⟨⟨out, fr⟩, ⟨hpk, hf8⟩, hi2⟩ := hi.opn (fun h hh => hh)
  dsimp only at hpk hi2 hf8
  have hlen := hpk.len
  refine (c_out b [] 0 out (fr : Int) (by omega) w0 F w hi2).mono ?_
  rintro e w' ⟨G, h1, v, rfl, q, c, rfl, rfl⟩
  exact ⟨[Row U5 q out.length c out], (h1.perm (.swap _ _ _)).tail, _, rfl, out, fr, q, c, hpk, hf8, rfl, rfl⟩


set_option maxRecDepth 100000 in
theorem h_put_yes (b : Nat) (ls : List Int) (b2 : Nat) (bs : List Int) (x : Int) (hE : HuffP.newE ls = 0) (hb : HuffP.lkB ls x = true) (hl : bs.length < 300000000) : Ctr Try.prog 46 [.pointer (some ⟨b, 0, none⟩), .pointer (some ⟨b2, 0, none⟩), .int .i64 x] [HC b ls, WB b2 bs] (Ret fun v G => v = .bool true ∧ G = [HC b ls, WB b2 (bs ++ HuffP.wb ls x)]) := by
  refine spec_of [(0, _), (1, _), (2, _)] Try.func46 rfl Try.ntmps46 rfl rfl ?_
  intro w0 F
  obtain ⟨hV, hW⟩ := HuffP.newE_vl hE
  have hws := HuffP.word_small hV hW hb
  refine rT TTDhO 9 rfl ?_
  refine o_call (h_word b ls x) V.b62  rfl (.cons (by exact rr0) .nil) rfl ?_
  rintro _ _ ⟨rfl, rfl⟩
  rw [hb]
  refine rO TTDhO 16 rfl ?_
  refine o_want rfl ?_
  refine o_val (v_to (v := .bool false) (v_eqnil Try.underlying84 rfl rfl) rfl) rfl ?_
  refine rOs TTDhO 15 rfl (by omega) ?_
  rw [show HuffP.lkN ls x - 1 = HuffP.lkN ls x - 1 - ((0 : Nat) : Int) from by omega]
  refine w_loop1 (fun (k : Nat) => [(1, .pointer (some ⟨b2, 0, none⟩)), (7, .int .i64 (HuffP.lkW ls x)), (10, .int .i64 (HuffP.lkN ls x - 1 - (k : Int)))]) (fun (k : Nat) => HC b ls :: WB b2 (bs ++ (HuffP.wb ls x).take k) :: F) (fun (k : Nat) => (k : Int) ≤ HuffP.lkN ls x) (fun (k : Nat) => (HuffP.lkN ls x).toNat - k) (i1 (0) ?_ (.cons rfl (.cons rfl (.cons rfl (.nil _)))) (by show Sub _ (HC b ls :: WB b2 (bs ++ (HuffP.wb ls x).take 0) :: F); rw [List.take_zero, List.append_nil]; exact (sub (.cons (by exact rr0) (.cons (by exact rr0) .nil)) (by exact dd0)))) ?_
  ·
    exact (by omega)
  intro k
  rintro hk
  refine rL TTDhO 7 rfl ?_
  refine w_condD rfl (fun h27 => ?_) (fun h27 => ?_)
  ·
    refine rC TTDhO 4 rfl ?_
    have hdn := BitP.div_nn hws.1 ((HuffP.lkN ls x).toNat - 1 - k)
    refine rC TTDhO 4 rfl ?_
    refine o_val (v_shr (r := HuffP.lkW ls x / 2 ^ ((HuffP.lkN ls x).toNat - 1 - k)) rfl rfl (by omega) (BitP.shrI (by omega) (by omega))) rfl ?_
    refine o_call (c_put b2 (bs ++ (HuffP.wb ls x).take k) (HuffP.lkW ls x / 2 ^ ((HuffP.lkN ls x).toNat - 1 - k)) 1 (by omega) (by omega) (by rw [List.length_append, List.length_take]; omega)) V.b39  rfl (.cons (by exact rr1) .nil) rfl ?_
    rintro _ _ ⟨rfl, rfl⟩
    refine rOs TTDhO 8 rfl (by omega) ?_
    rw [BitP.lowB_one, List.append_assoc, HuffP.wb_take (by omega), show HuffP.lkN ls x - 1 - (k : Int) - 1 = HuffP.lkN ls x - 1 - ((k + 1 : Nat) : Int) from by omega]
    refine j1 (k + 1) ?_ (.cons rfl (.cons rfl (.cons rfl (.nil _)))) (sub (.cons (by exact rr1) (.cons (by exact rr0) .nil)) (by exact dd0))
    exact ⟨by omega, by omega⟩
  ·
    refine rC TTDhO 11 rfl ?_
    rw [List.take_of_length_le (by rw [HuffP.wb_len]; omega)]
    exact ret_ok (G := [HC b ls, WB b2 (bs ++ HuffP.wb ls x)]) (res1 rfl) ⟨rfl, rfl⟩ (sub (.cons (by exact rr0) (.cons (by exact rr0) .nil)) (by exact dd0))
end Go.Proofs.Ythmgkggpipnalaa

/-
  What deflate has in memory; printed by a program of ours.
-/
namespace Go.Sl
set_option linter.unusedVariables false
abbrev TK : Ec DefP.Tok := ⟨79, 3, fun t => [.int .i64 t.lit, .int .i64 t.n, .int .i64 t.far], ⟨0, 0, 0⟩, fun _ => rfl, fun _ => rfl⟩
theorem wb_new {b : Nat} {w0 : World} {h : Hp} (hh : Cel b 88 [.slice none 0 0, .slice none 0 0, .int .i64 0, .int .i64 0] w0 h) : WB b [] w0 h :=
  ⟨([], 0), ⟨BitP.pk_nil, by decide⟩, h, fun _ => none, fun _ => .inr rfl, Hp.le_refl _, (fun _ _ e => by cases e), ⟨⟨none, 0, none, 0⟩, trivial, h, fun _ => none, fun _ => .inr rfl, Hp.le_refl _, (fun _ _ e => by cases e), hh, fun _ => none, fun _ => none, fun _ => .inl rfl, (fun _ _ e => by cases e), (fun _ _ e => by cases e), Row.nil _ _ _, fun _ => none, fun _ => none, fun _ => .inl rfl, (fun _ _ e => by cases e), (fun _ _ e => by cases e), Row.nil _ _ _, trivial⟩, trivial⟩
end Go.Sl

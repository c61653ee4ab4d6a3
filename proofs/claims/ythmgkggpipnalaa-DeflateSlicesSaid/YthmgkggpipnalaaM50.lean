/- Steps of the proof: the walks of the functions that the statement reaches; printed by a program of ours. -/
import Derived.Test.YthmgkggpipnalaaSl22
import Derived.KernelRfl
import Derived.Test.YthmgkggpipnalaaM36
import Derived.Test.YthmgkggpipnalaaM38
import Derived.Test.YthmgkggpipnalaaM30
/-
  Steps of the proof: walks of functions that the statement reaches; printed by a program of ours.
-/
namespace Go.Proofs.Ythmgkggpipnalaa
open Go.Sl 
set_option linter.unusedVariables false
theorem TTDiJ : okT Try.prog ⟨[], [(48, 1, 1), (48, 2, 2), (48, 3, 3)]⟩ = true := by kernel_rfl
set_option linter.unusedSimpArgs false

set_option maxRecDepth 100000 in
theorem d_Left (b : Nat) (p : Option Addr) (cap : Nat) (B : List Int) (R : HProp) (hR : ∀ w0 h, R w0 h → RdR U5 p B.length B w0 h) (at_ : Nat) (sh : Bool) (hl : B.length < 500000000) (ha : at_ ≤ 8 * B.length) : Ctr Try.prog 18 [.pointer (some ⟨b, 0, none⟩)] [Cel b 48 [.slice p B.length cap, .int .i64 (at_ : Int), .bool false, .bool sh], R] (Ret fun v G => v = .int .i64 (8 * (B.length : Int) - (at_ : Int)) ∧ G = [Cel b 48 [.slice p B.length cap, .int .i64 (at_ : Int), .bool false, .bool sh], R]) := by
  refine spec_of [(0, _)] Try.func18 rfl Try.ntmps18 rfl rfl ?_
  intro w0 F
  refine rT TTDiJ 6 rfl ?_
  refine w_net [⟨[], [], [0], 0, 0⟩, ⟨[0], [0], [], 0, 0⟩, ⟨[0, 1], [1], [], 0, 0⟩, ⟨[0, 1, 2], [2], [], 0, 0⟩, ⟨[0, 1, 2, 3], [3], [], 0, 0⟩, ⟨[0, 1, 2, 3, 4], [4], [], 0, 0⟩, ⟨[], [], [0], 0, 0⟩, ⟨[6], [6], [], 0, 0⟩, ⟨[6, 7], [7], [], 0, 0⟩, ⟨[6, 7, 8], [8], [], 0, 0⟩, ⟨[0, 1, 2, 3, 4, 5, 6, 7, 8, 9], [5, 9], [], 0, 0⟩, ⟨[0, 1, 2, 3, 4, 5, 6, 7, 8, 9, 10], [10], [], 0, 0⟩] [⟨fun y => Cel b 48 [.slice p B.length cap, .int .i64 (at_ : Int), .bool false, .bool sh], none, none, [3, 9]⟩, ⟨fun y => R, none, none, []⟩] F V.mixed (by kernel_rfl) rfl (fun _ => .refl _) (locT_0 _ (locT_0 _ locT_nil)) ?_
  refine net_pure (fun y => [(0, _)]) (fun y => rfl) rfl rfl rfl (fun y hA L => st_v (v_move rfl) ⟨rfl, rfl⟩) (by intros; rfl) (by intro y y2 h; rfl) ?_
  refine net_pure (fun y => [(3, _)]) (fun y => rfl) rfl rfl rfl (fun y hA L => st_v (v_nil rfl) ⟨rfl, rfl⟩) (by intros; rfl) (by intro y y2 h; rfl) ?_
  refine net_pure (fun y => [(4, _)]) (fun y => rfl) rfl rfl rfl (fun y hA L => st_v (v_fieldAddr V.f48_0 rfl) ⟨rfl, rfl⟩) (by intros; rfl) (by intro y y2 h; rfl) ?_
  refine net_read (fun y => [Cel b 48 [.slice p B.length cap, .int .i64 (at_ : Int), .bool false, .bool sh]]) (fun y => [(5, _)]) (fun y => rfl) rfl (fun y => rfl) rfl (fun y FF hA => st_v (v_load V.s23 rfl (by exact mm0) rfl) ⟨rfl, rfl⟩) (by intros; rfl) (by intro y y2 h; rfl) ?_
  refine net_pure (fun y => [(6, _)]) (fun y => rfl) rfl rfl rfl (fun y hA L => st_v (v_len (ty' := 0) Try.underlying23 rfl) ⟨rfl, rfl⟩) (by intros; rfl) (by intro y y2 h; rfl) ?_
  refine net_pure (fun y => [(7, _)]) (fun y => rfl) rfl rfl rfl (fun y hA L => st_v (v_mul rfl rfl (wrapI (by omega) (by omega))) ⟨rfl, rfl⟩) (by intros; rfl) (by intro y y2 h; rfl) ?_
  refine net_pure (fun y => [(0, _)]) (fun y => rfl) rfl rfl rfl (fun y hA L => st_v (v_move rfl) ⟨rfl, rfl⟩) (by intros; rfl) (by intro y y2 h; rfl) ?_
  refine net_pure (fun y => [(9, _)]) (fun y => rfl) rfl rfl rfl (fun y hA L => st_v (v_nil rfl) ⟨rfl, rfl⟩) (by intros; rfl) (by intro y y2 h; rfl) ?_
  refine net_pure (fun y => [(10, _)]) (fun y => rfl) rfl rfl rfl (fun y hA L => st_v (v_fieldAddr V.f48_1 rfl) ⟨rfl, rfl⟩) (by intros; rfl) (by intro y y2 h; rfl) ?_
  refine net_read (fun y => [Cel b 48 [.slice p B.length cap, .int .i64 (at_ : Int), .bool false, .bool sh]]) (fun y => [(11, _)]) (fun y => rfl) rfl (fun y => rfl) rfl (fun y FF hA => st_v (v_load V.s3 rfl (by exact mm0) rfl) ⟨rfl, rfl⟩) (by intros; rfl) (by intro y y2 h; rfl) ?_
  refine net_pure (fun y => [(8, _), (12, _)]) (fun y => rfl) rfl rfl rfl (fun y hA L => st_v (v_sub rfl rfl (wrapI (by omega) (by omega))) ⟨rfl, rfl⟩) (by intros; rfl) (by intro y y2 h; rfl) ?_
  refine net_pure (fun y => [(13, _)]) (fun y => rfl) rfl rfl rfl (fun y hA L => st_v (v_assign rfl) ⟨rfl, rfl⟩) (by intros; rfl) (by intro y y2 h; rfl) ?_
  refine net_nil ?_
  intro y hA
  clear hA
  refine thn_n ?_
  refine w_keep _ (.cons (d := 2) rfl (.nil _)) ?_
  refine w_sub (M := Cel b 48 [.slice p B.length cap, .int .i64 (at_ : Int), .bool false, .bool sh] :: R :: F) (fun _ _ h => h) ?_
  refine rC TTDiJ 1 rfl ?_
  exact ret_ok (G := [_, _]) (res1 rfl) ⟨rfl, rfl⟩ (sub (.cons (by exact rr0) (.cons (by exact rr0) .nil)) (by exact dd0))

set_option maxRecDepth 100000 in
theorem d_one (b : Nat) (p : Option Addr) (cap : Nat) (B : List Int) (R : HProp) (hR : ∀ w0 h, R w0 h → RdR U5 p B.length B w0 h) (at_ : Nat) (sh : Bool) (hl : B.length < 500000000) (hB : BitP.Byt B) (ha : at_ < 8 * B.length) : Ctr Try.prog 26 [.pointer (some ⟨b, 0, none⟩)] [Cel b 48 [.slice p B.length cap, .int .i64 (at_ : Int), .bool false, .bool sh], R] (Ret fun v G => v = .int .i64 (BitP.bitL B at_) ∧ G = [Cel b 48 [.slice p B.length cap, .int .i64 ((at_ + 1 : Nat) : Int), .bool false, .bool sh], R]) := by
  refine spec_of [(0, _)] Try.func26 rfl Try.ntmps26 rfl rfl ?_
  intro w0 F
  have hq : U5.g B ((at_ : Int) / 8) = B.getD (at_ / 8) 0 := gE (at_ / 8) (by omega)
  have hb := hB.get (at_ / 8)
  have hd := BitP.div_byte hb.1 hb.2 (at_ % 8)
  have hb2 := BitP.bitL_01 B at_
  refine rT TTDiJ 6 rfl ?_
  refine w_net [⟨[], [], [0], 0, 0⟩, ⟨[0], [0], [], 0, 0⟩, ⟨[0, 1], [1], [], 0, 0⟩, ⟨[0, 1, 2], [2], [], 0, 0⟩, ⟨[], [], [0], 0, 0⟩, ⟨[4], [4], [], 0, 0⟩, ⟨[4, 5], [5], [], 0, 0⟩, ⟨[4, 5, 6], [6], [], 0, 0⟩, ⟨[4, 5, 6, 7], [7], [], 0, 0⟩, ⟨[0, 1, 2, 3, 4, 5, 6, 7, 8], [3, 8], [], 0, 0⟩, ⟨[0, 1, 2, 3, 4, 5, 6, 7, 8, 9], [9], [], 0, 0⟩, ⟨[0, 1, 2, 3, 4, 5, 6, 7, 8, 9, 10], [10], [], 0, 0⟩] [⟨fun y => Cel b 48 [.slice p B.length cap, .int .i64 (at_ : Int), .bool false, .bool sh], none, none, [3, 7]⟩, ⟨fun y => R, none, none, [9, 10]⟩] F V.mixed (by kernel_rfl) rfl (fun _ => .refl _) (locT_0 _ (locT_0 _ locT_nil)) ?_
  refine net_pure (fun y => [(0, _)]) (fun y => rfl) rfl rfl rfl (fun y hA L => st_v (v_move rfl) ⟨rfl, rfl⟩) (by intros; rfl) (by intro y y2 h; rfl) ?_
  refine net_pure (fun y => [(5, _)]) (fun y => rfl) rfl rfl rfl (fun y hA L => st_v (v_nil rfl) ⟨rfl, rfl⟩) (by intros; rfl) (by intro y y2 h; rfl) ?_
  refine net_pure (fun y => [(6, _)]) (fun y => rfl) rfl rfl rfl (fun y hA L => st_v (v_fieldAddr V.f48_0 rfl) ⟨rfl, rfl⟩) (by intros; rfl) (by intro y y2 h; rfl) ?_
  refine net_read (fun y => [Cel b 48 [.slice p B.length cap, .int .i64 (at_ : Int), .bool false, .bool sh]]) (fun y => [(7, _)]) (fun y => rfl) rfl (fun y => rfl) rfl (fun y FF hA => st_v (v_load V.s23 rfl (by exact mm0) rfl) ⟨rfl, rfl⟩) (by intros; rfl) (by intro y y2 h; rfl) ?_
  refine net_pure (fun y => [(0, _)]) (fun y => rfl) rfl rfl rfl (fun y hA L => st_v (v_move rfl) ⟨rfl, rfl⟩) (by intros; rfl) (by intro y y2 h; rfl) ?_
  refine net_pure (fun y => [(9, _)]) (fun y => rfl) rfl rfl rfl (fun y hA L => st_v (v_nil rfl) ⟨rfl, rfl⟩) (by intros; rfl) (by intro y y2 h; rfl) ?_
  refine net_pure (fun y => [(10, _)]) (fun y => rfl) rfl rfl rfl (fun y hA L => st_v (v_fieldAddr V.f48_1 rfl) ⟨rfl, rfl⟩) (by intros; rfl) (by intro y y2 h; rfl) ?_
  refine net_read (fun y => [Cel b 48 [.slice p B.length cap, .int .i64 (at_ : Int), .bool false, .bool sh]]) (fun y => [(11, _)]) (fun y => rfl) rfl (fun y => rfl) rfl (fun y FF hA => st_v (v_load V.s3 rfl (by exact mm0) rfl) ⟨rfl, rfl⟩) (by intros; rfl) (by intro y y2 h; rfl) ?_
  refine net_pure (fun y => [(12, _)]) (fun y => rfl) rfl rfl rfl (fun y hA L => st_v (v_quo rfl rfl (by omega) (quoI (by omega) (by omega) (by omega))) ⟨rfl, rfl⟩) (by intros; rfl) (by intro y y2 h; rfl) ?_
  refine net_read (fun y => [R]) (fun y => [(8, _), (13, _)]) (fun y => rfl) rfl (fun y => rfl) rfl (fun y FF hA => st_v (r_index (c := (U5)) V.sl23 rfl rfl (by exact rdH hR mm0) (by omega) (by omega)) ⟨rfl, rfl⟩) (by intros; rfl) (by intro y y2 h; rfl) ?_
  refine net_read (fun y => [R]) (fun y => [(14, _)]) (fun y => rfl) rfl (fun y => rfl) rfl (fun y FF hA => st_v (r_load (c := (U5)) V.s5 rfl (by exact rdH hR mm0) (by omega) (by omega) rfl rfl) ⟨rfl, rfl⟩) (by intros; rfl) (by intro y y2 h; rfl) ?_
  refine net_pure (fun y => [(15, _)]) (fun y => rfl) rfl rfl rfl (fun y hA L => st_v (v_assign rfl) ⟨rfl, rfl⟩) (by intros; rfl) (by intro y y2 h; rfl) ?_
  refine net_nil ?_
  intro y hA
  clear hA
  refine thn_n ?_
  refine w_keep _ (.cons (d := 0) rfl (.cons (d := 3) rfl (.nil _))) ?_
  refine w_sub (M := Cel b 48 [.slice p B.length cap, .int .i64 (at_ : Int), .bool false, .bool sh] :: R :: F) (fun _ _ h => h) ?_
  refine rC TTDiJ 5 rfl ?_
  refine o_val (v_load V.s3 rfl (by exact mm0) rfl) rfl ?_
  refine o_val (v_rem rfl rfl (by omega) (remI (by omega))) rfl ?_
  refine o_val (v_conv V.u3 Try.underlying44 rfl (wrapU (by omega) (by omega))) rfl ?_
  refine rO TTDiJ 9 rfl ?_
  refine o_val (v_load V.s4 rfl (by exact mm0) rfl) rfl ?_
  refine rO TTDiJ 10 rfl ?_
  refine o_val (v_load V.s3 rfl (by exact mm0) rfl) rfl ?_
  refine rOs TTDiJ 3 rfl (by omega) ?_
  refine o_eff (v_store V.s3 rfl rfl rfl (by exact pp0) (by exact Nat.le_of_ble_eq_true rfl) rfl) ?_
  refine rO TTDiJ 3 rfl ?_
  rw [hq]
  refine rC TTDiJ 3 rfl ?_
  refine o_val (v_shr (r := B.getD (at_ / 8) 0 / 2 ^ (at_ % 8)) rfl rfl (by omega) (BitP.shr8 hb.1 (by omega) (by omega))) rfl ?_
  refine o_val (v_conv V.u5 Try.underlying3 rfl (wrapI (by omega) (by omega))) rfl ?_
  refine o_val (v_and (r := BitP.bitL B at_) rfl rfl (BitP.and_one64 hd.1 (by omega))) rfl ?_
  refine rO TTDiJ 4 rfl ?_
  rw [show (at_ : Int) + 1 = ((at_ + 1 : Nat) : Int) from by omega]
  exact ret_ok (G := [Cel b 48 [.slice p B.length cap, .int .i64 ((at_ + 1 : Nat) : Int), .bool false, .bool sh], R]) (res1 rfl) ⟨rfl, rfl⟩ (sub (.cons (by exact rr0) (.cons (by exact rr0) .nil)) (by exact dd0))

set_option maxRecDepth 100000 in
theorem d_take (b : Nat) (p : Option Addr) (cap : Nat) (B : List Int) (R : HProp) (hR : ∀ w0 h, R w0 h → RdR U5 p B.length B w0 h) (at_ : Nat) (sh : Bool) (n : Nat) (hl : B.length < 500000000) (hB : BitP.Byt B) (hn : n ≤ 24) (ha : at_ + n ≤ 8 * B.length) : Ctr Try.prog 19 [.pointer (some ⟨b, 0, none⟩), .int .i64 (n : Int)] [Cel b 48 [.slice p B.length cap, .int .i64 (at_ : Int), .bool false, .bool sh], R] (Ret fun v G => v = .tuple #[.int .i64 (BitP.numL B at_ n), .bool true] ∧ G = [Cel b 48 [.slice p B.length cap, .int .i64 ((at_ + n : Nat) : Int), .bool false, .bool sh], R]) := by
  refine spec_of [(0, _), (1, _)] Try.func19 rfl Try.ntmps19 rfl rfl ?_
  intro w0 F
  refine rT TTDiJ 10 rfl ?_
  refine o_val (v_F (v_lss rfl rfl) (by omega)) rfl ?_
  refine rO TTDiJ 2 rfl ?_
  refine o_want rfl ?_
  refine o_val (v_F (v_gtr rfl rfl) (by omega)) rfl ?_
  refine rO TTDiJ 3 rfl ?_
  refine o_want rfl ?_
  refine o_call (d_Left b p cap B R hR at_ sh hl (by omega)) V.b18  rfl (.cons (by exact rr0) (.cons (by exact rr0) .nil)) rfl ?_
  rintro _ _ ⟨rfl, rfl⟩
  refine o_want rfl ?_
  refine o_val (v_move rfl) rfl ?_
  refine o_want rfl ?_
  refine o_val (v_F (v_lss rfl rfl) (by omega)) rfl ?_
  refine rO TTDiJ 18 rfl ?_
  refine w_loop1 (fun (k : Nat) => [(0, .pointer (some ⟨b, 0, none⟩)), (1, .int .i64 (n : Int)), (6, .int .i64 (BitP.numL B at_ k)), (7, .int .i64 (k : Int))]) (fun (k : Nat) => Cel b 48 [.slice p B.length cap, .int .i64 ((at_ + k : Nat) : Int), .bool false, .bool sh] :: R :: F) (fun (k : Nat) => k ≤ n) (fun (k : Nat) => n - k) (i1 (0) ?_ (.cons rfl (.cons rfl (.cons rfl (.cons rfl (.nil _))))) (sub (.cons (by exact rr0) (.cons (by exact rr0) .nil)) (by exact dd0))) ?_
  ·
    exact Nat.zero_le _
  intro k
  rintro hk
  refine rL TTDiJ 8 rfl ?_
  refine w_condD rfl (fun h25 => ?_) (fun h25 => ?_)
  ·
    refine rC TTDiJ 9 rfl ?_
    refine o_val (v_load V.s4 rfl (by exact mm0) rfl) rfl ?_
    refine rO TTDiJ 3 rfl ?_
    have hb := BitP.bitL_01 B (at_ + k)
    have hnb := BitP.numL_bound B at_ k
    refine rC TTDiJ 3 rfl ?_
    refine o_call (d_one b p cap B R hR (at_ + k) sh hl hB (by omega)) V.b26  rfl (.cons (by exact rr0) (.cons (by exact rr0) .nil)) rfl ?_
    rintro _ _ ⟨rfl, rfl⟩
    refine o_val (v_move rfl) rfl ?_
    refine o_val (v_conv V.u3 Try.underlying44 rfl (wrapU (by omega) (by omega))) rfl ?_
    refine o_val (v_shl (r := BitP.bitL B (at_ + k) * 2 ^ k) rfl rfl (by omega) (BitP.shl24 hb (by omega) rfl)) rfl ?_
    refine o_val (v_or (r := BitP.numL B at_ k + BitP.bitL B (at_ + k) * 2 ^ k) rfl rfl (BitP.or_up hnb.1 hnb.2 hb (by omega))) rfl ?_
    refine rOs TTDiJ 9 rfl (by omega) ?_
    refine j1 (k + 1) ?_ (.cons rfl (.cons rfl (.cons rfl (.cons rfl (.nil _))))) (sub (.cons (by exact rr0) (.cons (by exact rr0) .nil)) (by exact dd0))
    exact ⟨by omega, by omega⟩
  ·
    refine rC TTDiJ 13 rfl ?_
    obtain rfl : k = n := by omega
    exact ret_ok (G := [Cel b 48 [.slice p B.length cap, .int .i64 ((at_ + k : Nat) : Int), .bool false, .bool sh], R]) (res2 rfl rfl) ⟨rfl, rfl⟩ (sub (.cons (by exact rr0) (.cons (by exact rr0) .nil)) (by exact dd0))

set_option maxRecDepth 100000 in
theorem d_takeE (b : Nat) (p : Option Addr) (cap : Nat) (B : List Int) (R : HProp) (hR : ∀ w0 h, R w0 h → RdR U5 p B.length B w0 h) (at_ : Nat) (sh : Bool) (n : Nat) (hl : B.length < 500000000) (hB : BitP.Byt B) (hn : n ≤ 24) (ha : at_ ≤ 8 * B.length) (hx : 8 * B.length < at_ + n) : Ctr Try.prog 19 [.pointer (some ⟨b, 0, none⟩), .int .i64 (n : Int)] [Cel b 48 [.slice p B.length cap, .int .i64 (at_ : Int), .bool false, .bool sh], R] (Ret fun v G => v = .tuple #[.int .i64 0, .bool false] ∧ G = [Cel b 48 [.slice p B.length cap, .int .i64 (at_ : Int), .bool false, .bool true], R]) := by
  refine spec_of [(0, _), (1, _)] Try.func19 rfl Try.ntmps19 rfl rfl ?_
  intro w0 F
  refine rT TTDiJ 10 rfl ?_
  refine o_val (v_F (v_lss rfl rfl) (by omega)) rfl ?_
  refine rO TTDiJ 2 rfl ?_
  refine o_want rfl ?_
  refine o_val (v_F (v_gtr rfl rfl) (by omega)) rfl ?_
  refine rO TTDiJ 3 rfl ?_
  refine o_want rfl ?_
  refine o_call (d_Left b p cap B R hR at_ sh hl (by omega)) V.b18  rfl (.cons (by exact rr0) (.cons (by exact rr0) .nil)) rfl ?_
  rintro _ _ ⟨rfl, rfl⟩
  refine o_want rfl ?_
  refine o_val (v_move rfl) rfl ?_
  refine o_want rfl ?_
  refine o_val (v_T (v_lss rfl rfl) (by omega)) rfl ?_
  refine rO TTDiJ 9 rfl ?_
  refine o_eff (v_store V.s4 rfl rfl rfl (by exact pp0) (by exact Nat.le_of_ble_eq_true rfl) rfl) ?_
  refine rO TTDiJ 10 rfl ?_
  exact ret_ok (G := [Cel b 48 [.slice p B.length cap, .int .i64 (at_ : Int), .bool false, .bool true], R]) (res2 rfl rfl) ⟨rfl, rfl⟩ (sub (.cons (by exact rr0) (.cons (by exact rr0) .nil)) (by exact dd0))
end Go.Proofs.Ythmgkggpipnalaa

/-
  Steps of the proof: walks of functions that the statement reaches; printed by a program of ours.
-/
namespace Go.Proofs.Ythmgkggpipnalaa
open Go.Sl 
set_option linter.unusedVariables false
theorem TTDiK : okT Try.prog ⟨[34], [(73, 0, 0), (73, 1, 16)]⟩ = true := by kernel_rfl
set_option linter.unusedSimpArgs false

attribute [local irreducible] HuffP.ord HuffP.wordsK HuffP.posn HuffP.cntL HuffP.mostL HuffP.words HuffP.wordOf HuffP.lenOf HuffP.newE HuffP.wholeB HuffP.wd HuffP.lkW HuffP.lkN HuffP.lkB HuffP.cls HuffP.off HuffP.tk

set_option maxHeartbeats 2000000 in
set_option maxRecDepth 100000 in
theorem r_take (b : Nat) (ls : List Int) (b2 : Nat) (p : Option Addr) (cap : Nat) (B : List Int) (R : HProp) (hR : ∀ w0 h, R w0 h → RdR U5 p B.length B w0 h) (at_ : Nat) (sh : Bool) (hE : HuffP.newE ls = 0) (hl : B.length < 500000000) (hB : BitP.Byt B) (ha : at_ ≤ 8 * B.length) : Ctr Try.prog 29 [.pointer (some ⟨b, 0, none⟩), .pointer (some ⟨b2, 0, none⟩)] [RC b ls, Cel b2 48 [.slice p B.length cap, .int .i64 (at_ : Int), .bool false, .bool sh], R] (Ret fun v G => (∃ n s, HuffP.tk ls B at_ = .hit n s ∧ v = .tuple #[.int .i64 s, .int .i64 0] ∧ G = [RC b ls, Cel b2 48 [.slice p B.length cap, .int .i64 ((at_ + n : Nat) : Int), .bool false, .bool sh], R]) ∨ (∃ n, HuffP.tk ls B at_ = .short n ∧ v = .tuple #[.int .i64 0, .int .i64 2] ∧ G = [RC b ls, Cel b2 48 [.slice p B.length cap, .int .i64 ((at_ + n : Nat) : Int), .bool false, .bool true], R]) ∨ (∃ n, HuffP.tk ls B at_ = .none_ n ∧ v = .tuple #[.int .i64 0, .int .i64 4] ∧ G = [RC b ls, Cel b2 48 [.slice p B.length cap, .int .i64 ((at_ + n : Nat) : Int), .bool false, .bool sh], R])) := by
  refine spec_of [(0, _), (1, _)] Try.func29 rfl Try.ntmps29 rfl rfl ?_
  intro w0 F
  have hV := (HuffP.newE_vl hE).1
  have hW := (HuffP.newE_vl hE).2
  have hcl := HuffP.cntL_len ls
  have hCb := HuffP.cntL_bound hV.1
  have hm15 := HuffP.mst_le hV
  have hme := HuffP.mst_eq ls
  refine w_opn (fun h hh => hh) ?_
  rintro ⟨p1, c1, p2, c2⟩ _
  dsimp only
  refine rT TTDiK 12 rfl ?_
  refine o_val (a_loadP (n := 16) 0 V.s34 rfl (by exact mm0) (by omega) rfl rfl) rfl ?_
  refine rO TTDiK 4 rfl ?_
  refine w_condD rfl (fun h17 => ?_) (fun h17 => ?_)
  ·
    refine rC TTDiK 8 rfl ?_
    exact ret_ok (G := [RC b ls, Cel b2 48 [.slice p B.length cap, .int .i64 ((at_ + 0 : Nat) : Int), .bool false, .bool sh], R]) (res2 rfl rfl) (.inr (.inr ⟨0, (HuffP.tk_start ha).none (by rw [HuffP.mst_zero hV (by omega)]; omega), rfl, rfl⟩)) ((fold' (.cons (by exact rr0) (.cons (by exact rr0) (.cons (by exact rr0) .nil))) (by exact dd0) (fun w0 h hh => rc_close hh)).trans (sub (.cons (by exact rr0) (.cons (by exact rr0) (.cons (by exact rr0) .nil))) (by exact dd0)))
  ·
    refine rC TTDiK 3 rfl ?_
    have hol0 : (HuffP.ord ls).length ≠ 0 := by omega
    have hol : (HuffP.ord ls).length ≤ 320 := by rw [HuffP.ord_len]; exact HuffP.off_16 hV (m := 15) (by omega)
    have hmp := HuffP.mst_pos hV (by omega)
    refine rC TTDiK 13 rfl ?_
    rw [show ((8 : Nat), Value.int .i64 0) = (8, .int .i64 (HuffP.off ls (0 + 1) : Int)) from by unfold HuffP.off; rfl]
    refine w_loop1 (fun (m : Nat) => [(0, .pointer (some ⟨b, 0, none⟩)), (1, .pointer (some ⟨b2, 0, none⟩)), (6, .int .i64 (BitP.acc B at_ m)), (7, .int .i64 (HuffP.base ls m + HuffP.cnt ls m)), (8, .int .i64 (HuffP.off ls (m + 1) : Int)), (9, .int .i64 ((m : Int) + 1))]) (fun (m : Nat) => Cel b 73 (CA [] .i64 (HuffP.cntL ls) [.slice p1 (HuffP.ord ls).length c1, .slice p2 ls.length c2]) :: Row I3 p1 (HuffP.ord ls).length c1 (HuffP.ord ls) :: Row I3 p2 ls.length c2 ls :: Cel b2 48 [.slice p B.length cap, .int .i64 ((at_ + m : Nat) : Int), .bool false, .bool sh] :: R :: F) (fun (m : Nat) => HuffP.Tk ls B at_ m ∧ m < HuffP.mst ls) (fun (m : Nat) => 15 - m) (i1 (0) ?_ (.cons rfl (.cons rfl (.cons rfl (.cons rfl (.cons rfl (.cons rfl (.nil _))))))) (sub (.cons (by exact rr0) (.cons (by exact rr0) (.cons (by exact rr0) (.cons (by exact rr0) (.cons (by exact rr0) .nil))))) (by exact dd0))) ?_
    ·
      exact ⟨HuffP.tk_start ha, hmp⟩
    intro m
    rintro ⟨ht, htl⟩
    have hcn := HuffP.cntL_i (ls := ls) (m := m) (by omega)
    have hbf := HuffP.full_le hW (n := m + 1) (by omega)
    have hbn := HuffP.base_nn ls (m + 1)
    have hc1 := HuffP.cnt_nonneg ls (m + 1)
    have hof := HuffP.off_16 hV (m := m) (by omega)
    have hac := BitP.acc_bound B at_ (m + 1)
    have hac0 := BitP.acc_bound B at_ m
    have hp15 := HuffP.pow_15 (show m + 1 ≤ 15 by omega)
    have hp14 := HuffP.pow_15 (show m ≤ 15 by omega)
    have hb := BitP.bitL_01 B (at_ + m)
    have hnn := ht.nn
    refine rL TTDiK 4 rfl ?_
    refine o_val (v_T (v_leq rfl rfl) (by omega)) rfl ?_
    refine rO TTDiK 7 rfl ?_
    rcases (Nat.lt_or_ge (at_ + m) (8 * B.length)) with hx | hx
    ·
      refine rC TTDiK 3 rfl ?_
      refine o_call (d_take b2 p cap B R hR (at_ + m) sh 1 hl hB (by omega) (by omega)) V.b19  rfl (.cons (by exact rr3) (.cons (by exact rr3) .nil)) rfl ?_
      rintro _ _ ⟨rfl, rfl⟩
      rw [BitP.numL_one]
      refine rO TTDiK 20 rfl ?_
      refine o_val (v_shl (r := 2 * BitP.acc B at_ m) rfl rfl (by decide) (BitP.shl1 hac0.1 (by omega))) rfl ?_
      refine o_val (v_move rfl) rfl ?_
      refine o_val (v_or (r := BitP.acc B at_ (m + 1)) rfl rfl (BitP.or_low hac0.1 (by omega) hb)) rfl ?_
      refine o_val (v_move rfl) rfl ?_
      refine o_val (v_shl (r := HuffP.base ls (m + 1)) rfl rfl (by decide) (shl_base hW (by omega))) rfl ?_
      refine rOs TTDiK 14 rfl (by omega) ?_
      refine o_val (v_indexA (m + 1) rfl V.ar71 rfl rfl (by omega)) rfl ?_
      refine o_val (a_load ((m : Int) + 1) V.s3 rfl (by exact mm2) (by (simp only [List.length_cons, List.length_nil]; omega)) (by omega) (by omega)) rfl ?_
      refine rO TTDiK 3 rfl ?_
      refine w_condD rfl (fun h44 => ?_) (fun h44 => ?_)
      ·
        refine rC TTDiK 1 rfl ?_
        have hlt : BitP.acc B at_ (m + 1) - HuffP.base ls (m + 1) < HuffP.cnt ls (m + 1) := by rw [← hcn]; exact h44
        have hat := HuffP.hit_at (by omega) hnn hlt
        refine rC TTDiK 4 rfl ?_
        refine o_val (a_loadP (n := 16) 0 V.s34 rfl (by exact mm2) (by omega) rfl rfl) rfl ?_
        refine rOs TTDiK 5 rfl (by omega) ?_
        refine o_val (r_index (c := (I3)) V.sl34 rfl rfl (by exact own mm3) (by omega) (by omega)) rfl ?_
        refine o_val (r_load (c := (I3)) V.s3 rfl (by exact own mm3) (by omega) (by omega) rfl rfl) rfl ?_
        refine rO TTDiK 11 rfl ?_
        exact ret_ok (G := [RC b ls, Cel b2 48 [.slice p B.length cap, .int .i64 ((at_ + (m + 1) : Nat) : Int), .bool false, .bool sh], R]) (res2 rfl rfl) (.inl ⟨m + 1, _, ht.hit (by omega) hx hlt, by rw [← gE (c := I3) (e := (HuffP.off ls (m + 1) : Int) + BitP.acc B at_ (m + 1) - HuffP.base ls (m + 1)) _ (by omega)], rfl⟩) ((fold' (.cons (by exact rr2) (.cons (by exact rr2) (.cons (by exact rr2) .nil))) (by exact dd0) (fun w0 h hh => rc_close hh)).trans (sub (.cons (by exact rr0) (.cons (by exact rr0) (.cons (by exact rr0) .nil))) (by exact dd0)))
      ·
        refine rC TTDiK 4 rfl ?_
        have hms := ht.miss (by omega) hx (by rw [← hcn]; exact h44)
        refine rC TTDiK 4 rfl ?_
        refine o_val (a_loadP (n := 16) 0 V.s34 rfl (by exact mm2) (by omega) rfl rfl) rfl ?_
        refine rO TTDiK 4 rfl ?_
        refine w_condD rfl (fun h61 => ?_) (fun h61 => ?_)
        ·
          refine rC TTDiK 1 rfl ?_
          have hm1 := HuffP.mst_one hE (by omega)
          refine rC TTDiK 12 rfl ?_
          exact ret_ok (G := [RC b ls, Cel b2 48 [.slice p B.length cap, .int .i64 ((at_ + (m + 1) : Nat) : Int), .bool false, .bool sh], R]) (res2 rfl rfl) (.inr (.inr ⟨m + 1, hms.none (by omega), rfl, rfl⟩)) ((fold' (.cons (by exact rr2) (.cons (by exact rr2) (.cons (by exact rr2) .nil))) (by exact dd0) (fun w0 h hh => rc_close hh)).trans (sub (.cons (by exact rr0) (.cons (by exact rr0) (.cons (by exact rr0) .nil))) (by exact dd0)))
        ·
          refine rC TTDiK 2 rfl ?_
          refine w_net [⟨[], [], [8], 0, 0⟩, ⟨[], [], [0], 0, 0⟩, ⟨[], [], [9], 0, 0⟩, ⟨[1], [1], [], 0, 0⟩, ⟨[1, 3], [3], [], 0, 0⟩, ⟨[1, 2, 3, 4], [4, 2], [], 0, 0⟩, ⟨[1, 2, 3, 4, 5], [5], [], 0, 0⟩, ⟨[0, 1, 2, 3, 4, 5, 6], [0, 6], [], 0, 0⟩, ⟨[], [], [7], 0, 0⟩, ⟨[], [], [0], 0, 0⟩, ⟨[], [], [9], 0, 0⟩, ⟨[9], [9], [], 0, 0⟩, ⟨[9, 11], [11], [], 0, 0⟩, ⟨[9, 10, 11, 12], [12, 10], [], 0, 0⟩, ⟨[9, 10, 11, 12, 13], [13], [], 0, 0⟩, ⟨[8, 9, 10, 11, 12, 13, 14], [8, 14], [], 0, 0⟩, ⟨[0, 1, 2, 3, 4, 5, 6, 7], [7], [], 0, 0⟩, ⟨[0, 1, 2, 3, 4, 5, 6, 7, 8, 9, 10, 11, 12, 13, 14, 15, 16], [15], [], 0, 0⟩] [⟨fun y => Cel b2 48 [.slice p B.length cap, .int .i64 ((at_ + m + 1 : Nat) : Int), .bool false, .bool sh], none, none, []⟩, ⟨fun y => R, none, none, []⟩, ⟨fun y => Cel b 73 (CA [] .i64 (HuffP.cntL ls) [.slice p1 (HuffP.ord ls).length c1, .slice p2 ls.length c2]), none, none, [6, 14]⟩, ⟨fun y => Row I3 p1 (HuffP.ord ls).length c1 (HuffP.ord ls), none, none, []⟩, ⟨fun y => Row I3 p2 ls.length c2 ls, none, none, []⟩] F V.mixed (by kernel_rfl) rfl (fun _ => .refl _) (locT_0 _ (locT_0 _ (locT_0 _ (locT_0 _ (locT_0 _ locT_nil))))) ?_
          refine net_pure (fun y => [(8, _)]) (fun y => rfl) rfl rfl rfl (fun y hA L => st_v (v_move rfl) ⟨rfl, rfl⟩) (by intros; rfl) (by intro y y2 h; rfl) ?_
          refine net_pure (fun y => [(0, _)]) (fun y => rfl) rfl rfl rfl (fun y hA L => st_v (v_move rfl) ⟨rfl, rfl⟩) (by intros; rfl) (by intro y y2 h; rfl) ?_
          refine net_pure (fun y => [(9, _)]) (fun y => rfl) rfl rfl rfl (fun y hA L => st_v (v_move rfl) ⟨rfl, rfl⟩) (by intros; rfl) (by intro y y2 h; rfl) ?_
          refine net_pure (fun y => [(63, _)]) (fun y => rfl) rfl rfl rfl (fun y hA L => st_v (v_nil rfl) ⟨rfl, rfl⟩) (by intros; rfl) (by intro y y2 h; rfl) ?_
          refine net_pure (fun y => [(65, _)]) (fun y => rfl) rfl rfl rfl (fun y hA L => st_v (v_fieldAddr V.f73_0 rfl) ⟨rfl, rfl⟩) (by intros; rfl) (by intro y y2 h; rfl) ?_
          refine net_pure (fun y => [(66, _), (64, _)]) (fun y => rfl) rfl rfl rfl (fun y hA L => st_v (v_indexA (m + 1) rfl V.ar71 rfl rfl (by omega)) ⟨rfl, rfl⟩) (by intros; rfl) (by intro y y2 h; rfl) ?_
          refine net_read (fun y => [Cel b 73 (CA [] .i64 (HuffP.cntL ls) [.slice p1 (HuffP.ord ls).length c1, .slice p2 ls.length c2])]) (fun y => [(67, _)]) (fun y => rfl) rfl (fun y => rfl) rfl (fun y FF hA => st_v (a_load ((m : Int) + 1) V.s3 rfl (by exact mm0) (by (simp only [List.length_cons, List.length_nil]; omega)) (by omega) (by omega)) ⟨rfl, rfl⟩) (by intros; rfl) (by intro y y2 h; rfl) ?_
          refine net_pure (fun y => [(62, _), (68, _)]) (fun y => rfl) rfl rfl rfl (fun y hA L => st_v (v_add rfl rfl (wrapI (by omega) (by omega))) ⟨rfl, rfl⟩) (by intros; rfl) (by intro y y2 h; rfl) ?_
          refine net_pure (fun y => [(7, _)]) (fun y => rfl) rfl rfl rfl (fun y hA L => st_v (v_move rfl) ⟨rfl, rfl⟩) (by intros; rfl) (by intro y y2 h; rfl) ?_
          refine net_pure (fun y => [(0, _)]) (fun y => rfl) rfl rfl rfl (fun y hA L => st_v (v_move rfl) ⟨rfl, rfl⟩) (by intros; rfl) (by intro y y2 h; rfl) ?_
          refine net_pure (fun y => [(9, _)]) (fun y => rfl) rfl rfl rfl (fun y hA L => st_v (v_move rfl) ⟨rfl, rfl⟩) (by intros; rfl) (by intro y y2 h; rfl) ?_
          refine net_pure (fun y => [(71, _)]) (fun y => rfl) rfl rfl rfl (fun y hA L => st_v (v_nil rfl) ⟨rfl, rfl⟩) (by intros; rfl) (by intro y y2 h; rfl) ?_
          refine net_pure (fun y => [(73, _)]) (fun y => rfl) rfl rfl rfl (fun y hA L => st_v (v_fieldAddr V.f73_0 rfl) ⟨rfl, rfl⟩) (by intros; rfl) (by intro y y2 h; rfl) ?_
          refine net_pure (fun y => [(74, _), (72, _)]) (fun y => rfl) rfl rfl rfl (fun y hA L => st_v (v_indexA (m + 1) rfl V.ar71 rfl rfl (by omega)) ⟨rfl, rfl⟩) (by intros; rfl) (by intro y y2 h; rfl) ?_
          refine net_read (fun y => [Cel b 73 (CA [] .i64 (HuffP.cntL ls) [.slice p1 (HuffP.ord ls).length c1, .slice p2 ls.length c2])]) (fun y => [(75, _)]) (fun y => rfl) rfl (fun y => rfl) rfl (fun y FF hA => st_v (a_load ((m : Int) + 1) V.s3 rfl (by exact mm0) (by (simp only [List.length_cons, List.length_nil]; omega)) (by omega) (by omega)) ⟨rfl, rfl⟩) (by intros; rfl) (by intro y y2 h; rfl) ?_
          refine net_pure (fun y => [(70, _), (76, _)]) (fun y => rfl) rfl rfl rfl (fun y hA L => st_v (v_add rfl rfl (wrapI (by omega) (by omega))) ⟨rfl, rfl⟩) (by intros; rfl) (by intro y y2 h; rfl) ?_
          refine net_pure (fun y => [(69, _)]) (fun y => rfl) rfl rfl rfl (fun y hA L => st_v (v_assign rfl) ⟨rfl, rfl⟩) (by intros; rfl) (by intro y y2 h; rfl) ?_
          refine net_pure (fun y => [(77, _)]) (fun y => rfl) rfl rfl rfl (fun y hA L => st_v (v_assign rfl) ⟨rfl, rfl⟩) (by intros; rfl) (by intro y y2 h; rfl) ?_
          refine net_nil ?_
          intro y hA
          clear hA
          show blk _ _ _ _ (Cel b2 48 [.slice p B.length cap, .int .i64 ((at_ + m + 1 : Nat) : Int), .bool false, .bool sh] :: R :: Cel b 73 (CA [] .i64 (HuffP.cntL ls) [.slice p1 (HuffP.ord ls).length c1, .slice p2 ls.length c2]) :: Row I3 p1 (HuffP.ord ls).length c1 (HuffP.ord ls) :: Row I3 p2 ls.length c2 ls :: F)
          refine blk_n ?_
          refine thn_n ?_
          refine w_region ?_
          refine o_val (v_move rfl) rfl ?_
          refine o_val (v_add rfl rfl (wrapI (by omega) (by omega))) rfl ?_
          refine o_val (v_assign rfl) rfl ?_
          refine o_nil ?_
          rw [hcn, ← HuffP.off_cnt ls (m + 1), show (m : Int) + 1 = ((m + 1 : Nat) : Int) from by omega]
          refine j1 (m + 1) ?_ (.cons rfl (.cons rfl (.cons rfl (.cons rfl (.cons rfl (.cons rfl (.nil _))))))) (sub (.cons (by exact rr2) (.cons (by exact rr2) (.cons (by exact rr2) (.cons (by exact rr0) (.cons (by exact rr0) .nil))))) (by exact dd0))
          exact ⟨⟨hms, HuffP.tk_full hE (by omega) (by omega) hms.ge⟩, by omega⟩
    ·
      refine rC TTDiK 3 rfl ?_
      refine o_call (d_takeE b2 p cap B R hR (at_ + m) sh 1 hl hB (by omega) ht.room (by omega)) V.b19  rfl (.cons (by exact rr3) (.cons (by exact rr3) .nil)) rfl ?_
      rintro _ _ ⟨rfl, rfl⟩
      refine rO TTDiK 28 rfl ?_
      exact ret_ok (G := [RC b ls, Cel b2 48 [.slice p B.length cap, .int .i64 ((at_ + m : Nat) : Int), .bool false, .bool true], R]) (res2 rfl rfl) (.inr (.inl ⟨m, ht.short (by omega) (by omega), rfl, rfl⟩)) ((fold' (.cons (by exact rr2) (.cons (by exact rr2) (.cons (by exact rr2) .nil))) (by exact dd0) (fun w0 h hh => rc_close hh)).trans (sub (.cons (by exact rr0) (.cons (by exact rr0) (.cons (by exact rr0) .nil))) (by exact dd0)))
end Go.Proofs.Ythmgkggpipnalaa

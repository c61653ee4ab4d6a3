/-
  Steps of the proof: walks of functions that the statement reaches; printed by a program of ours.
-/
import Derived.Test.YtmclopghpnndnaaHuffSort
import Derived.Test.YtmclopghpnndnaaM26
import Derived.Test.YtmclopghpnndnaaSl19
namespace Go.Proofs.Ytmclopghpnndnaa
open Go.Sl 
set_option linter.unusedVariables false
set_option linter.unusedSimpArgs false

set_option maxRecDepth 100000 in
theorem c_isNaN (x : Int) : Ctr Try.prog 44 [.int .i64 x] [] (Ret fun v G => v = .bool false ∧ G = []) := by
  refine spec_of [(0, _)] Try.func44 rfl Try.ntmps44 rfl rfl ?_
  intro w0 F
  refine w_seq ?_
  refine w_region ?_
  refine o_val (v_assign rfl) rfl ?_
  refine o_nil ?_
  refine thn_n ?_
  refine w_seq ?_
  refine w_region ?_
  refine o_val (v_move rfl) rfl ?_
  refine o_val (v_move rfl) rfl ?_
  refine o_val (v_neq rfl rfl) rfl ?_
  refine o_val (v_assign rfl) rfl ?_
  refine o_nil ?_
  refine thn_n ?_
  refine w_ret ?_
  exact ret_ok (G := []) (res1 rfl) ⟨by simp, rfl⟩ (sub .nil (by repeat first | exact .refl | apply Drop.skip))

set_option maxRecDepth 100000 in
theorem c_compare (x y : Int) : Ctr Try.prog 31 [.int .i64 x, .int .i64 y] [] (Ret fun v G => v = .int .i64 (cmpI x y) ∧ G = []) := by
  refine spec_of [(0, _), (1, _)] Try.func31 rfl Try.ntmps31 rfl rfl ?_
  intro w0 F
  refine w_seq ?_
  refine w_region ?_
  refine o_val (v_assign rfl) rfl ?_
  refine o_nil ?_
  refine thn_n ?_
  refine w_seq ?_
  refine w_region ?_
  refine o_val (v_move rfl) rfl ?_
  refine o_call (c_isNaN x) V.b44  rfl .nil rfl ?_
  rintro _ _ ⟨rfl, rfl⟩
  refine o_val (v_assign rfl) rfl ?_
  refine o_nil ?_
  refine thn_n ?_
  refine w_seq ?_
  refine w_region ?_
  refine o_val (v_move rfl) rfl ?_
  refine o_call (c_isNaN y) V.b44  rfl .nil rfl ?_
  rintro _ _ ⟨rfl, rfl⟩
  refine o_val (v_assign rfl) rfl ?_
  refine o_nil ?_
  refine thn_n ?_
  refine w_seq ?_
  refine w_seq ?_
  refine w_region ?_
  refine o_val (v_move rfl) rfl ?_
  refine o_nil ?_
  refine thn_n ?_
  refine w_condF rfl ?_
  refine w_skip ?_
  refine thn_n ?_
  refine w_seq ?_
  refine w_seq ?_
  refine w_region ?_
  refine o_val (v_move rfl) rfl ?_
  refine o_nil ?_
  refine thn_n ?_
  refine w_condF rfl ?_
  refine w_skip ?_
  refine thn_n ?_
  refine w_seq ?_
  refine w_seq ?_
  refine w_region ?_
  refine o_val (v_move rfl) rfl ?_
  refine o_val (v_move rfl) rfl ?_
  refine o_val (v_lss rfl rfl) rfl ?_
  refine o_nil ?_
  refine thn_n ?_
  first | refine w_condD rfl (fun h16 => ?_) (fun h16 => ?_) | refine w_cond rfl (fun h16 => ?_) (fun h16 => ?_)
  ·
    refine w_seq ?_
    refine w_region ?_
    refine o_val (v_assign rfl) rfl ?_
    refine o_nil ?_
    refine thn_n ?_
    refine w_ret ?_
    refine (thn_r ?_)
    exact ret_ok (G := []) (res1 rfl) ⟨by rw [cmpI, if_pos (by assumption)], rfl⟩ (sub .nil (by repeat first | exact .refl | apply Drop.skip))
  ·
    refine w_skip ?_
    refine thn_n ?_
    refine w_seq ?_
    refine w_seq ?_
    refine w_region ?_
    refine o_val (v_move rfl) rfl ?_
    refine o_val (v_move rfl) rfl ?_
    refine o_val (v_gtr rfl rfl) rfl ?_
    refine o_nil ?_
    refine thn_n ?_
    first | refine w_condD rfl (fun h19 => ?_) (fun h19 => ?_) | refine w_cond rfl (fun h19 => ?_) (fun h19 => ?_)
    ·
      refine w_seq ?_
      refine w_region ?_
      refine o_val (v_assign rfl) rfl ?_
      refine o_nil ?_
      refine thn_n ?_
      refine w_ret ?_
      refine (thn_r ?_)
      exact ret_ok (G := []) (res1 rfl) ⟨by rw [cmpI, if_neg (by assumption), if_pos (by omega)], rfl⟩ (sub .nil (by repeat first | exact .refl | apply Drop.skip))
    ·
      refine w_skip ?_
      refine thn_n ?_
      refine w_seq ?_
      refine w_region ?_
      refine o_val (v_assign rfl) rfl ?_
      refine o_nil ?_
      refine thn_n ?_
      refine w_ret ?_
      exact ret_ok (G := []) (res1 rfl) ⟨by rw [cmpI, if_neg (by assumption), if_neg (by omega)], rfl⟩ (sub .nil (by repeat first | exact .refl | apply Drop.skip))

set_option maxRecDepth 100000 in
theorem c_less (p : Option Addr) (n cap : Nat) (ls : List Int) (R : HProp) (hR : ∀ w0 h, R w0 h → RdR I3 p n ls w0 h) (bL : Nat) (x y : Int) (hx : 0 ≤ x ∧ x < n) (hy : 0 ≤ y ∧ y < n) : Ctr Try.prog 30 [.int .i64 x, .int .i64 y, .pointer (some ⟨bL, 0, none⟩)] [Cel bL 22 [.slice p n cap], R] (Ret fun v G => v = .int .i64 (cmpI (ls.getD x.toNat 0) (ls.getD y.toNat 0)) ∧ G = [Cel bL 22 [.slice p n cap], R]) := by
  refine spec_of [(0, _), (1, _), (2, _)] Try.func30 rfl Try.ntmps30 rfl rfl ?_
  intro w0 F
  refine w_seq ?_
  refine w_region ?_
  refine o_val (v_assign rfl) rfl ?_
  refine o_nil ?_
  refine thn_n ?_
  refine w_seq ?_
  refine w_net [⟨[], [], [2], 0, 0⟩, ⟨[], [], [0], 0, 0⟩, ⟨[0, 1], [0, 1], [], 0, 0⟩, ⟨[0, 1, 2], [2], [], 0, 0⟩, ⟨[], [], [2], 0, 0⟩, ⟨[], [], [1], 0, 0⟩, ⟨[4, 5], [4, 5], [], 0, 0⟩, ⟨[4, 5, 6], [6], [], 0, 0⟩, ⟨[0, 1, 2, 3, 4, 5, 6, 7], [3, 7], [], 0, 0⟩, ⟨[0, 1, 2, 3, 4, 5, 6, 7, 8], [8], [], 0, 0⟩] [⟨fun y => Cel bL 22 [.slice p n cap], none, none, [0, 4]⟩, ⟨fun y => R, none, none, [2, 3, 6, 7]⟩] F V.mixed (by kernel_rfl) rfl (fun _ => .refl _) (locT_0 _ (locT_0 _ locT_nil)) ?_
  refine net_read (fun y => [Cel bL 22 [.slice p n cap]]) (fun y => [(2, _)]) (fun y => rfl) rfl (fun y => rfl) rfl (fun y FF hA => st_v (v_load V.s22 rfl (by repeat first | exact .head _ | apply List.Mem.tail) rfl) ⟨rfl, rfl⟩) (by intros; rfl) (by intro y y2 h; rfl) ?_
  refine net_pure (fun y => [(0, _)]) (fun y => rfl) rfl rfl rfl (fun y hA L => st_v (v_move rfl) ⟨rfl, rfl⟩) (by intros; rfl) (by intro y y2 h; rfl) ?_
  refine net_read (fun y => [R]) (fun y => [(6, _), (7, _)]) (fun y => rfl) rfl (fun y => rfl) rfl (fun y FF hA => st_v (r_index (c := (I3)) V.sl22 rfl rfl (by first | exact own mm0 | exact own mm1 | exact own mm2 | exact own mm3 | exact own mm4 | exact own mm5 | exact own mm6 | exact own mm7 | exact own mm8 | exact own mm9 | exact own mm10 | exact own mm11 | exact rdH hR mm0 | exact rdH hR mm1 | exact rdH hR mm2 | exact rdH hR mm3 | exact rdH hR mm4 | exact rdH hR mm5 | exact rdH hR mm6 | exact rdH hR mm7 | exact rdH hR mm8 | exact rdH hR mm9 | exact rdH hR mm10 | exact rdH hR mm11) (by omega) (by omega)) ⟨rfl, rfl⟩) (by intros; rfl) (by intro y y2 h; rfl) ?_
  refine net_read (fun y => [R]) (fun y => [(8, _)]) (fun y => rfl) rfl (fun y => rfl) rfl (fun y FF hA => st_v (r_load (c := (I3)) V.s3 rfl (by first | exact own mm0 | exact own mm1 | exact own mm2 | exact own mm3 | exact own mm4 | exact own mm5 | exact own mm6 | exact own mm7 | exact own mm8 | exact own mm9 | exact own mm10 | exact own mm11 | exact rdH hR mm0 | exact rdH hR mm1 | exact rdH hR mm2 | exact rdH hR mm3 | exact rdH hR mm4 | exact rdH hR mm5 | exact rdH hR mm6 | exact rdH hR mm7 | exact rdH hR mm8 | exact rdH hR mm9 | exact rdH hR mm10 | exact rdH hR mm11) (by omega) (by omega) rfl rfl) ⟨rfl, rfl⟩) (by intros; rfl) (by intro y y2 h; rfl) ?_
  refine net_read (fun y => [Cel bL 22 [.slice p n cap]]) (fun y => [(2, _)]) (fun y => rfl) rfl (fun y => rfl) rfl (fun y FF hA => st_v (v_load V.s22 rfl (by repeat first | exact .head _ | apply List.Mem.tail) rfl) ⟨rfl, rfl⟩) (by intros; rfl) (by intro y y2 h; rfl) ?_
  refine net_pure (fun y => [(1, _)]) (fun y => rfl) rfl rfl rfl (fun y hA L => st_v (v_move rfl) ⟨rfl, rfl⟩) (by intros; rfl) (by intro y y2 h; rfl) ?_
  refine net_read (fun y => [R]) (fun y => [(10, _), (11, _)]) (fun y => rfl) rfl (fun y => rfl) rfl (fun y FF hA => st_v (r_index (c := (I3)) V.sl22 rfl rfl (by first | exact own mm0 | exact own mm1 | exact own mm2 | exact own mm3 | exact own mm4 | exact own mm5 | exact own mm6 | exact own mm7 | exact own mm8 | exact own mm9 | exact own mm10 | exact own mm11 | exact rdH hR mm0 | exact rdH hR mm1 | exact rdH hR mm2 | exact rdH hR mm3 | exact rdH hR mm4 | exact rdH hR mm5 | exact rdH hR mm6 | exact rdH hR mm7 | exact rdH hR mm8 | exact rdH hR mm9 | exact rdH hR mm10 | exact rdH hR mm11) (by omega) (by omega)) ⟨rfl, rfl⟩) (by intros; rfl) (by intro y y2 h; rfl) ?_
  refine net_read (fun y => [R]) (fun y => [(12, _)]) (fun y => rfl) rfl (fun y => rfl) rfl (fun y FF hA => st_v (r_load (c := (I3)) V.s3 rfl (by first | exact own mm0 | exact own mm1 | exact own mm2 | exact own mm3 | exact own mm4 | exact own mm5 | exact own mm6 | exact own mm7 | exact own mm8 | exact own mm9 | exact own mm10 | exact own mm11 | exact rdH hR mm0 | exact rdH hR mm1 | exact rdH hR mm2 | exact rdH hR mm3 | exact rdH hR mm4 | exact rdH hR mm5 | exact rdH hR mm6 | exact rdH hR mm7 | exact rdH hR mm8 | exact rdH hR mm9 | exact rdH hR mm10 | exact rdH hR mm11) (by omega) (by omega) rfl rfl) ⟨rfl, rfl⟩) (by intros; rfl) (by intro y y2 h; rfl) ?_
  refine net_eff (fun y => []) (fun y => []) (fun y => []) (fun y => [(9, _), (13, _)]) (fun y => rfl) (fun y => rfl) (fun y => rfl) (fun y => rfl) (fun y FF hA => st_callN (Post := []) (c_compare _ _) V.b31 rfl .nil (fun v G h => by rcases h with ⟨rfl, rfl⟩; exact ⟨rfl, .refl _⟩)) (by intros; rfl) (by intros; rfl) (by intro y y2 h; rfl) ?_
  refine net_pure (fun y => [(14, _)]) (fun y => rfl) rfl rfl rfl (fun y hA L => st_v (v_assign rfl) ⟨rfl, rfl⟩) (by intros; rfl) (by intro y y2 h; rfl) ?_
  refine net_nil ?_
  intro y hA
  clear hA
  refine thn_n ?_
  refine w_keep _ (.cons (d := 5) rfl (.nil _)) ?_
  refine w_sub (M := Cel bL 22 [.slice p n cap] :: R :: F) (fun _ _ h => h) ?_
  refine w_ret ?_
  exact ret_ok (G := [_, _]) (res1 rfl) ⟨rfl, rfl⟩ (sub (.cons (by repeat first | exact .head | apply Rem.tail) (.cons (by repeat first | exact .head | apply Rem.tail) .nil)) (by repeat first | exact .refl | apply Drop.skip))

set_option maxRecDepth 100000 in
theorem c_whole (C : List Int) (all : Int) (hl : C.length = 16) (hC : ∀ i, 0 ≤ C.getD i 0 ∧ C.getD i 0 ≤ 320) : Ctr Try.prog 28 [.agg (ints .i64 C).toArray, .int .i64 all] [] (Ret fun v G => v = .bool (HuffP.wholeB C all) ∧ G = []) := by
  refine spec_of [(0, _), (1, _)] Try.func28 rfl Try.ntmps28 rfl rfl ?_
  intro w0 F
  refine w_seq ?_
  refine w_region ?_
  refine o_box rfl (agg_ints _ _) rfl ?_
  intro b2
  refine o_val (v_assign rfl) rfl ?_
  refine o_nil ?_
  refine thn_n ?_
  refine w_seq ?_
  refine w_region ?_
  refine o_val (v_assign rfl) rfl ?_
  refine o_nil ?_
  refine thn_n ?_
  refine w_seq ?_
  refine w_seq ?_
  refine w_region ?_
  refine o_val (v_assign rfl) rfl ?_
  refine o_nil ?_
  refine thn_n ?_
  refine w_block ?_
  refine w_loop1 (fun (k : Nat) => [(1, .int .i64 all), (2, .pointer (some ⟨b2, 0, none⟩)), (5, .int .i64 (HuffP.left C k)), (6, .int .i64 ((k : Int) + 1))]) (fun (k : Nat) => Cel b2 56 (CA [] .i64 C []) :: F) (fun (k : Nat) => k ≤ 15 ∧ ∀ m, 1 ≤ m → m ≤ k → 0 ≤ HuffP.left C m) (fun (k : Nat) => 15 - k) (i1 (0) ?_ (.cons rfl (.cons rfl (.cons rfl (.cons rfl (.nil _))))) (sub (.cons (by repeat first | exact .head | apply Rem.tail) .nil) (by repeat first | exact .refl | apply Drop.skip))) ?_
  ·
    exact ⟨by omega, fun m h1 h2 => by omega⟩
  intro k
  rintro ⟨hk, hno⟩
  have hcc := hC ((k : Int) + 1).toNat
  have hlb := HuffP.left_bound (fun i => (hC i).1) hk
  have hl0 := HuffP.left_nn hno
  have hlen : C.length = 16 := hl
  refine w_seq ?_
  refine w_seq ?_
  refine w_region ?_
  refine o_val (v_move rfl) rfl ?_
  refine o_val (v_leq rfl rfl) rfl ?_
  refine o_nil ?_
  refine thn_n ?_
  first | refine w_condD rfl (fun h8 => ?_) (fun h8 => ?_) | refine w_cond rfl (fun h8 => ?_) (fun h8 => ?_)
  ·
    refine w_skip ?_
    refine thn_n ?_
    refine w_seq ?_
    refine w_block ?_
    refine w_seq ?_
    refine w_region ?_
    refine o_val (v_move rfl) rfl ?_
    refine o_val (v_mul rfl rfl (wrapI (by omega) (by omega))) rfl ?_
    refine o_val (v_move rfl) rfl ?_
    refine o_val (v_indexA (k + 1) rfl V.ar56 rfl rfl (by omega)) rfl ?_
    refine o_val (a_load ((k : Int) + 1) V.s3 rfl (by repeat first | exact .head _ | apply List.Mem.tail) (by first | (simp only [List.length_cons, List.length_nil]; omega) | omega) (by omega) (by first | omega | (simp only [List.length_set]; omega))) rfl ?_
    refine o_val (v_sub rfl rfl (wrapI (by omega) (by omega))) rfl ?_
    refine o_val (v_assign rfl) rfl ?_
    refine o_nil ?_
    refine thn_n ?_
    refine w_seq ?_
    refine w_region ?_
    refine o_val (v_move rfl) rfl ?_
    refine o_val (v_lss rfl rfl) rfl ?_
    refine o_nil ?_
    refine thn_n ?_
    first | refine w_condD rfl (fun h18 => ?_) (fun h18 => ?_) | refine w_cond rfl (fun h18 => ?_) (fun h18 => ?_)
    ·
      refine w_seq ?_
      refine w_region ?_
      refine o_val (v_assign rfl) rfl ?_
      refine o_nil ?_
      refine thn_n ?_
      refine w_ret ?_
      refine (blk_r (thn_r (thn_r (blk_r (thn_r ?_)))))
      exact ret_ok (G := []) (res1 rfl) ⟨by rw [HuffP.whole_no (n := k + 1) (by omega) (by omega) (by rw [← HuffP.left_next]; exact h18)], rfl⟩ (sub .nil (by repeat first | exact .refl | apply Drop.skip))
    ·
      refine w_skip ?_
      refine blk_n ?_
      refine thn_n ?_
      refine w_region ?_
      refine o_val (v_move rfl) rfl ?_
      refine o_val (v_add rfl rfl (wrapI (by omega) (by omega))) rfl ?_
      refine o_val (v_assign rfl) rfl ?_
      refine o_nil ?_
      have hno2 := HuffP.left_more hno h18
      rw [HuffP.left_next]
      exact j1 (k + 1) ⟨⟨by omega, hno2⟩, by omega⟩ (.cons rfl (.cons rfl (.cons rfl (.cons rfl (.nil _))))) (sub (.cons (by repeat first | exact .head | apply Rem.tail) .nil) (by repeat first | exact .refl | apply Drop.skip))
  ·
    refine w_exit ?_
    refine thn_e ?_
    refine thn_e ?_
    refine blk_x ?_
    refine thn_n ?_
    refine w_seq ?_
    refine w_region ?_
    refine o_val (v_move rfl) rfl ?_
    refine o_val (v_eql rfl rfl) rfl ?_
    refine o_val (v_move rfl) rfl ?_
    first | refine o_boolD 21 rfl (fun h21 => ?_) (fun h21 => ?_) | refine o_bool 21 rfl (fun h21 => ?_) (fun h21 => ?_)
    ·
      refine o_pass rfl rfl rfl ?_
      refine o_pass rfl rfl rfl ?_
      refine o_val (v_pickT rfl rfl) rfl ?_
      refine o_val (v_move rfl) rfl ?_
      refine o_pass rfl rfl rfl ?_
      refine o_pass rfl rfl rfl ?_
      refine o_pass rfl rfl rfl ?_
      refine o_passU rfl rfl rfl rfl ?_
      refine o_passU rfl rfl rfl rfl ?_
      refine o_passU rfl rfl rfl rfl ?_
      refine o_pass rfl rfl rfl ?_
      refine o_val (v_pickT rfl rfl) rfl ?_
      refine o_val (v_assign rfl) rfl ?_
      refine o_nil ?_
      refine thn_n ?_
      refine w_ret ?_
      exact ret_ok (G := []) (res1 rfl) ⟨by rw [HuffP.whole_end hk h8 hno]; first | (simp [h21]; done) | (simp [h21, h25]; done) | (simp [h21, h25, h28]; done), rfl⟩ (sub .nil (by repeat first | exact .refl | apply Drop.skip))
    ·
      refine o_want rfl ?_
      refine o_val (v_move rfl) rfl ?_
      refine o_want rfl ?_
      refine o_val (v_eql rfl rfl) rfl ?_
      refine o_val (v_pickF rfl rfl) rfl ?_
      refine o_val (v_move rfl) rfl ?_
      first | refine o_boolD 25 rfl (fun h25 => ?_) (fun h25 => ?_) | refine o_bool 25 rfl (fun h25 => ?_) (fun h25 => ?_)
      ·
        refine o_pass rfl rfl rfl ?_
        refine o_pass rfl rfl rfl ?_
        refine o_pass rfl rfl rfl ?_
        refine o_passU rfl rfl rfl rfl ?_
        refine o_passU rfl rfl rfl rfl ?_
        refine o_passU rfl rfl rfl rfl ?_
        refine o_pass rfl rfl rfl ?_
        refine o_val (v_pickT rfl rfl) rfl ?_
        refine o_val (v_assign rfl) rfl ?_
        refine o_nil ?_
        refine thn_n ?_
        refine w_ret ?_
        exact ret_ok (G := []) (res1 rfl) ⟨by rw [HuffP.whole_end hk h8 hno]; first | (simp [h21]; done) | (simp [h21, h25]; done) | (simp [h21, h25, h28]; done), rfl⟩ (sub .nil (by repeat first | exact .refl | apply Drop.skip))
      ·
        refine o_want rfl ?_
        refine o_val (v_move rfl) rfl ?_
        refine o_want rfl ?_
        refine o_val (v_eql rfl rfl) rfl ?_
        refine o_want rfl ?_
        refine o_val (v_move rfl) rfl ?_
        first | refine o_boolD 28 rfl (fun h28 => ?_) (fun h28 => ?_) | refine o_bool 28 rfl (fun h28 => ?_) (fun h28 => ?_)
        ·
          refine o_want rfl ?_
          refine o_val (v_indexA 1 rfl V.ar56 rfl rfl (by omega)) rfl ?_
          refine o_want rfl ?_
          refine o_val (a_load (1 : Int) V.s3 rfl (by repeat first | exact .head _ | apply List.Mem.tail) (by first | (simp only [List.length_cons, List.length_nil]; omega) | omega) (by omega) (by first | omega | (simp only [List.length_set]; omega))) rfl ?_
          refine o_want rfl ?_
          refine o_val (v_eql rfl rfl) rfl ?_
          refine o_want rfl ?_
          refine o_val (v_pickT rfl rfl) rfl ?_
          refine o_val (v_pickF rfl rfl) rfl ?_
          refine o_val (v_assign rfl) rfl ?_
          refine o_nil ?_
          refine thn_n ?_
          refine w_ret ?_
          exact ret_ok (G := []) (res1 rfl) ⟨by rw [HuffP.whole_end hk h8 hno]; first | (simp [h21]; done) | (simp [h21, h25]; done) | (simp [h21, h25, h28]; done), rfl⟩ (sub .nil (by repeat first | exact .refl | apply Drop.skip))
        ·
          refine o_pass rfl rfl rfl ?_
          refine o_pass rfl rfl rfl ?_
          refine o_pass rfl rfl rfl ?_
          refine o_want rfl ?_
          refine o_val (v_pickF rfl rfl) rfl ?_
          refine o_val (v_pickF rfl rfl) rfl ?_
          refine o_val (v_assign rfl) rfl ?_
          refine o_nil ?_
          refine thn_n ?_
          refine w_ret ?_
          exact ret_ok (G := []) (res1 rfl) ⟨by rw [HuffP.whole_end hk h8 hno]; first | (simp [h21]; done) | (simp [h21, h25]; done) | (simp [h21, h25, h28]; done), rfl⟩ (sub .nil (by repeat first | exact .refl | apply Drop.skip))
end Go.Proofs.Ytmclopghpnndnaa

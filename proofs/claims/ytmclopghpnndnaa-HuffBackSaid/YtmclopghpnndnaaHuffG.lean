/-
  Steps of the proof: walks of functions that the statement reaches; printed by a program of ours.
-/
import Derived.Test.YtmclopghpnndnaaHuffF
import Derived.Test.YtmclopghpnndnaaHuffPlain3
namespace Go.Proofs.Ytmclopghpnndnaa
open Go.Sl 
set_option linter.unusedVariables false
set_option linter.unusedSimpArgs false

attribute [local irreducible] HuffP.newE HuffP.lkW HuffP.lkN HuffP.lkB HuffP.ord HuffP.words HuffP.cntL HuffP.mostL

set_option maxRecDepth 100000 in
theorem prefix_no (p : Option Addr) (cap : Nat) (ls : List Int) (hE : ¬ HuffP.newE ls = 0) : Ctr Try.prog 4 [.slice p ls.length cap] [RdR I3 p ls.length ls] (Ret fun v G => v = .bool true ∧ G = [RdR I3 p ls.length ls]) := by
  refine spec_of [(0, _)] Try.func4 rfl Try.ntmps4 rfl rfl ?_
  intro w0 F
  refine w_seq ?_
  refine w_region ?_
  refine o_val (v_assign rfl) rfl ?_
  refine o_nil ?_
  refine thn_n ?_
  refine w_seq ?_
  refine w_seq ?_
  refine w_region ?_
  refine o_call (awake) V.b9  rfl .nil rfl ?_
  rintro _ _ ⟨rfl, rfl⟩
  refine o_val (v_to (v := .bool false) (v_not rfl) rfl) rfl ?_
  refine o_nil ?_
  refine thn_n ?_
  refine w_condF rfl ?_
  refine w_skip ?_
  refine thn_n ?_
  refine w_seq ?_
  refine w_seq ?_
  refine w_region ?_
  refine o_val (v_move rfl) rfl ?_
  refine o_val (v_len (ty' := 0) Try.underlying22 rfl) rfl ?_
  refine o_val (v_gtr rfl rfl) rfl ?_
  refine o_nil ?_
  refine thn_n ?_
  first | refine w_condD rfl (fun h19 => ?_) (fun h19 => ?_) | refine w_cond rfl (fun h19 => ?_) (fun h19 => ?_)
  ·
    refine w_seq ?_
    refine w_region ?_
    refine o_val (v_assign rfl) rfl ?_
    refine o_nil ?_
    refine thn_n ?_
    refine w_ret ?_
    refine (thn_r ?_)
    exact ret_ok (G := [_]) (res1 rfl) ⟨rfl, rfl⟩ (sub (.cons (by first | exact rr0 | exact rr1 | exact rr2 | exact rr3 | exact rr4 | exact rr5 | exact rr6 | exact rr7 | exact rr8 | exact rr9 | exact rr10 | exact rr11 | exact rr12 | exact rr13 | exact rr14) .nil) (by first | exact dd0 | exact dd1 | exact dd2 | exact dd3 | exact dd4 | exact dd5 | exact dd6 | exact dd7 | exact dd8 | exact dd9 | exact dd10 | exact dd11 | exact dd12 | exact dd13 | exact dd14))
  ·
    refine w_skip ?_
    refine thn_n ?_
    refine w_seq ?_
    refine w_region ?_
    refine o_val (v_move rfl) rfl ?_
    refine o_call (h_new_no p cap ls (RdR I3 p ls.length ls) (fun _ _ h => h) hE) V.b10  rfl (.cons (by first | exact rr0 | exact rr1 | exact rr2 | exact rr3 | exact rr4 | exact rr5 | exact rr6 | exact rr7 | exact rr8 | exact rr9 | exact rr10 | exact rr11 | exact rr12 | exact rr13 | exact rr14) .nil) rfl ?_
    rintro _ _ ⟨rfl, rfl⟩
    refine o_val (v_move rfl) rfl ?_
    refine o_val (v_extract rfl rfl) rfl ?_
    refine o_val (v_extract rfl rfl) rfl ?_
    refine o_val (v_assign rfl) rfl ?_
    refine o_val (v_assign rfl) rfl ?_
    refine o_nil ?_
    refine thn_n ?_
    refine w_seq ?_
    refine w_seq ?_
    refine w_region ?_
    refine o_val (v_move rfl) rfl ?_
    refine o_val (v_T (v_neq rfl rfl) hE) rfl ?_
    refine o_nil ?_
    refine thn_n ?_
    refine w_condT rfl ?_
    refine w_seq ?_
    refine w_region ?_
    refine o_val (v_assign rfl) rfl ?_
    refine o_nil ?_
    refine thn_n ?_
    refine w_ret ?_
    refine (thn_r ?_)
    exact ret_ok (G := [_]) (res1 rfl) ⟨rfl, rfl⟩ (sub (.cons (by first | exact rr0 | exact rr1 | exact rr2 | exact rr3 | exact rr4 | exact rr5 | exact rr6 | exact rr7 | exact rr8 | exact rr9 | exact rr10 | exact rr11 | exact rr12 | exact rr13 | exact rr14) .nil) (by first | exact dd0 | exact dd1 | exact dd2 | exact dd3 | exact dd4 | exact dd5 | exact dd6 | exact dd7 | exact dd8 | exact dd9 | exact dd10 | exact dd11 | exact dd12 | exact dd13 | exact dd14))

set_option maxHeartbeats 2000000 in
set_option maxRecDepth 100000 in
theorem prefix_yes (p : Option Addr) (cap : Nat) (ls : List Int) (hE : HuffP.newE ls = 0) : Ctr Try.prog 4 [.slice p ls.length cap] [RdR I3 p ls.length ls] (Ret fun v G => v = .bool true ∧ G = [RdR I3 p ls.length ls]) := by
  refine spec_of [(0, _)] Try.func4 rfl Try.ntmps4 rfl rfl ?_
  intro w0 F
  have hV := (HuffP.newE_vl hE).1
  have hVl := hV.1
  refine w_seq ?_
  refine w_region ?_
  refine o_val (v_assign rfl) rfl ?_
  refine o_nil ?_
  refine thn_n ?_
  refine w_seq ?_
  refine w_seq ?_
  refine w_region ?_
  refine o_call (awake) V.b9  rfl .nil rfl ?_
  rintro _ _ ⟨rfl, rfl⟩
  refine o_val (v_to (v := .bool false) (v_not rfl) rfl) rfl ?_
  refine o_nil ?_
  refine thn_n ?_
  refine w_condF rfl ?_
  refine w_skip ?_
  refine thn_n ?_
  refine w_seq ?_
  refine w_seq ?_
  refine w_region ?_
  refine o_val (v_move rfl) rfl ?_
  refine o_val (v_len (ty' := 0) Try.underlying22 rfl) rfl ?_
  refine o_val (v_gtr rfl rfl) rfl ?_
  refine o_nil ?_
  refine thn_n ?_
  first | refine w_condD rfl (fun h19 => ?_) (fun h19 => ?_) | refine w_cond rfl (fun h19 => ?_) (fun h19 => ?_)
  ·
    refine w_seq ?_
    refine w_region ?_
    refine o_val (v_assign rfl) rfl ?_
    refine o_nil ?_
    refine thn_n ?_
    refine w_ret ?_
    refine (thn_r ?_)
    exact ret_ok (G := [_]) (res1 rfl) ⟨rfl, rfl⟩ (sub (.cons (by first | exact rr0 | exact rr1 | exact rr2 | exact rr3 | exact rr4 | exact rr5 | exact rr6 | exact rr7 | exact rr8 | exact rr9 | exact rr10 | exact rr11 | exact rr12 | exact rr13 | exact rr14) .nil) (by first | exact dd0 | exact dd1 | exact dd2 | exact dd3 | exact dd4 | exact dd5 | exact dd6 | exact dd7 | exact dd8 | exact dd9 | exact dd10 | exact dd11 | exact dd12 | exact dd13 | exact dd14))
  ·
    refine w_skip ?_
    refine thn_n ?_
    refine w_seq ?_
    refine w_region ?_
    refine o_val (v_move rfl) rfl ?_
    refine o_call (h_new_yes p cap ls (RdR I3 p ls.length ls) (fun _ _ h => h) hE) V.b10  rfl (.cons (by first | exact rr0 | exact rr1 | exact rr2 | exact rr3 | exact rr4 | exact rr5 | exact rr6 | exact rr7 | exact rr8 | exact rr9 | exact rr10 | exact rr11 | exact rr12 | exact rr13 | exact rr14) .nil) rfl ?_
    rintro _ _ ⟨b3, rfl, rfl⟩
    refine o_val (v_move rfl) rfl ?_
    refine o_val (v_extract rfl rfl) rfl ?_
    refine o_val (v_extract rfl rfl) rfl ?_
    refine o_val (v_assign rfl) rfl ?_
    refine o_val (v_assign rfl) rfl ?_
    refine o_nil ?_
    refine thn_n ?_
    refine w_seq ?_
    refine w_seq ?_
    refine w_region ?_
    refine o_val (v_move rfl) rfl ?_
    refine o_val (v_F (v_neq rfl rfl) (fun h => h rfl)) rfl ?_
    refine o_nil ?_
    refine thn_n ?_
    refine w_condF rfl ?_
    refine w_skip ?_
    refine thn_n ?_
    refine w_seq ?_
    refine w_seq ?_
    refine w_region ?_
    refine o_val (v_move rfl) rfl ?_
    refine o_val (v_to (v := .bool false) (v_eqnil Try.underlying24 rfl rfl) rfl) rfl ?_
    refine o_nil ?_
    refine thn_n ?_
    refine w_condF rfl ?_
    refine w_skip ?_
    refine thn_n ?_
    refine w_seq ?_
    refine w_region ?_
    refine o_val (v_assign rfl) rfl ?_
    refine o_val (v_assign rfl) rfl ?_
    refine o_nil ?_
    refine thn_n ?_
    refine w_seq ?_
    refine w_seq ?_
    refine w_region ?_
    refine o_val (v_assign rfl) rfl ?_
    refine o_nil ?_
    refine thn_n ?_
    refine w_block ?_
    rw [show ((5 : Nat), Value.int .i64 0) = (5, .int .i64 (HuffP.fullK ls 0)) from rfl, show ((6 : Nat), Value.int .i64 0) = (6, .int .i64 ((HuffP.posn (ls.take 0)).length : Int)) from by rw [List.take_zero]; rfl]
    refine w_loop1 (fun (k : Nat) => [(0, .slice p ls.length cap), (3, .pointer (some ⟨b3, 0, none⟩)), (5, .int .i64 (HuffP.fullK ls k)), (6, .int .i64 ((HuffP.posn (ls.take k)).length : Int)), (7, .int .i64 (k : Int))]) (fun (k : Nat) => HC b3 ls :: RdR I3 p ls.length ls :: F) (fun (k : Nat) => k ≤ ls.length) (fun (k : Nat) => ls.length - k) (i1 (0) ?_ (.cons rfl (.cons rfl (.cons rfl (.cons rfl (.cons rfl (.nil _)))))) (sub (.cons (by first | exact rr0 | exact rr1 | exact rr2 | exact rr3 | exact rr4 | exact rr5 | exact rr6 | exact rr7 | exact rr8 | exact rr9 | exact rr10 | exact rr11 | exact rr12 | exact rr13 | exact rr14) (.cons (by first | exact rr0 | exact rr1 | exact rr2 | exact rr3 | exact rr4 | exact rr5 | exact rr6 | exact rr7 | exact rr8 | exact rr9 | exact rr10 | exact rr11 | exact rr12 | exact rr13 | exact rr14) .nil)) (by first | exact dd0 | exact dd1 | exact dd2 | exact dd3 | exact dd4 | exact dd5 | exact dd6 | exact dd7 | exact dd8 | exact dd9 | exact dd10 | exact dd11 | exact dd12 | exact dd13 | exact dd14))) ?_
    ·
      exact Nat.zero_le _
    intro k
    rintro hk
    refine w_seq ?_
    refine w_seq ?_
    refine w_region ?_
    refine o_val (v_move rfl) rfl ?_
    refine o_val (v_move rfl) rfl ?_
    refine o_val (v_len (ty' := 0) Try.underlying22 rfl) rfl ?_
    refine o_val (v_lss rfl rfl) rfl ?_
    refine o_nil ?_
    refine thn_n ?_
    first | refine w_condD rfl (fun h32 => ?_) (fun h32 => ?_) | refine w_cond rfl (fun h32 => ?_) (fun h32 => ?_)
    ·
      refine w_skip ?_
      refine thn_n ?_
      refine w_seq ?_
      refine w_block ?_
      refine w_seq ?_
      have hk2 : k < ls.length := by omega
      obtain ⟨hp1, hp2⟩ := HuffP.pf_ok hV (x := (k : Int)) (by omega) (by omega)
      rw [Int.toNat_natCast] at hp1 hp2
      have hg : I3.g ls (k : Int) = ls.getD k 0 := by simp [Ec.g]
      have hvk : 0 ≤ ls.getD k 0 ∧ ls.getD k 0 ≤ 15 := hV.2 _ (by simp [List.getD_eq_getElem?_getD, hk2])
      have hpl := HuffP.posn_le (ls.take (k + 1))
      have htl : (ls.take (k + 1)).length = k + 1 := by rw [List.length_take]; omega
      have hfb := HuffP.full_bound ls (k + 1)
      refine w_region ?_
      refine o_val (v_move rfl) rfl ?_
      refine o_val (v_move rfl) rfl ?_
      refine o_call (h_word b3 ls (k : Int)) V.b12  rfl (.cons (by first | exact rr0 | exact rr1 | exact rr2 | exact rr3 | exact rr4 | exact rr5 | exact rr6 | exact rr7 | exact rr8 | exact rr9 | exact rr10 | exact rr11 | exact rr12 | exact rr13 | exact rr14) .nil) rfl ?_
      rintro _ _ ⟨rfl, rfl⟩
      refine o_val (v_move rfl) rfl ?_
      refine o_val (v_extract rfl rfl) rfl ?_
      refine o_val (v_extract rfl rfl) rfl ?_
      refine o_val (v_extract rfl rfl) rfl ?_
      refine o_val (v_assign rfl) rfl ?_
      refine o_val (v_assign rfl) rfl ?_
      refine o_val (v_assign rfl) rfl ?_
      refine o_nil ?_
      refine thn_n ?_
      refine w_seq ?_
      refine w_seq ?_
      refine w_region ?_
      refine o_val (v_move rfl) rfl ?_
      refine o_val (v_move rfl) rfl ?_
      refine o_val (v_move rfl) rfl ?_
      refine o_val (r_index (c := (I3)) V.sl22 rfl rfl (by first | exact own mm0 | exact own mm1 | exact own mm2 | exact own mm3 | exact own mm4 | exact own mm5 | exact own mm6 | exact own mm7 | exact own mm8 | exact own mm9 | exact own mm10 | exact own mm11 | exact rdH (fun _ _ h => h) mm0 | exact rdH (fun _ _ h => h) mm1 | exact rdH (fun _ _ h => h) mm2 | exact rdH (fun _ _ h => h) mm3 | exact rdH (fun _ _ h => h) mm4 | exact rdH (fun _ _ h => h) mm5 | exact rdH (fun _ _ h => h) mm6 | exact rdH (fun _ _ h => h) mm7 | exact rdH (fun _ _ h => h) mm8 | exact rdH (fun _ _ h => h) mm9 | exact rdH (fun _ _ h => h) mm10 | exact rdH (fun _ _ h => h) mm11) (by omega) (by omega)) rfl ?_
      refine o_val (r_load (c := (I3)) V.s3 rfl (by first | exact own mm0 | exact own mm1 | exact own mm2 | exact own mm3 | exact own mm4 | exact own mm5 | exact own mm6 | exact own mm7 | exact own mm8 | exact own mm9 | exact own mm10 | exact own mm11 | exact rdH (fun _ _ h => h) mm0 | exact rdH (fun _ _ h => h) mm1 | exact rdH (fun _ _ h => h) mm2 | exact rdH (fun _ _ h => h) mm3 | exact rdH (fun _ _ h => h) mm4 | exact rdH (fun _ _ h => h) mm5 | exact rdH (fun _ _ h => h) mm6 | exact rdH (fun _ _ h => h) mm7 | exact rdH (fun _ _ h => h) mm8 | exact rdH (fun _ _ h => h) mm9 | exact rdH (fun _ _ h => h) mm10 | exact rdH (fun _ _ h => h) mm11) (by omega) (by omega) rfl rfl) rfl ?_
      refine o_val (v_gtr rfl rfl) rfl ?_
      refine o_val (v_to (v := .bool false) (v_neb Try.underlying4 rfl rfl) (by rw [hp1, hg]; simp)) rfl ?_
      refine o_val (v_move rfl) rfl ?_
      refine o_want rfl ?_
      refine o_val (v_move rfl) rfl ?_
      refine o_want rfl ?_
      refine o_val (v_move rfl) rfl ?_
      refine o_want rfl ?_
      refine o_val (v_move rfl) rfl ?_
      refine o_want rfl ?_
      refine o_val (r_index (c := (I3)) V.sl22 rfl rfl (by first | exact own mm0 | exact own mm1 | exact own mm2 | exact own mm3 | exact own mm4 | exact own mm5 | exact own mm6 | exact own mm7 | exact own mm8 | exact own mm9 | exact own mm10 | exact own mm11 | exact rdH (fun _ _ h => h) mm0 | exact rdH (fun _ _ h => h) mm1 | exact rdH (fun _ _ h => h) mm2 | exact rdH (fun _ _ h => h) mm3 | exact rdH (fun _ _ h => h) mm4 | exact rdH (fun _ _ h => h) mm5 | exact rdH (fun _ _ h => h) mm6 | exact rdH (fun _ _ h => h) mm7 | exact rdH (fun _ _ h => h) mm8 | exact rdH (fun _ _ h => h) mm9 | exact rdH (fun _ _ h => h) mm10 | exact rdH (fun _ _ h => h) mm11) (by omega) (by omega)) rfl ?_
      refine o_want rfl ?_
      refine o_val (r_load (c := (I3)) V.s3 rfl (by first | exact own mm0 | exact own mm1 | exact own mm2 | exact own mm3 | exact own mm4 | exact own mm5 | exact own mm6 | exact own mm7 | exact own mm8 | exact own mm9 | exact own mm10 | exact own mm11 | exact rdH (fun _ _ h => h) mm0 | exact rdH (fun _ _ h => h) mm1 | exact rdH (fun _ _ h => h) mm2 | exact rdH (fun _ _ h => h) mm3 | exact rdH (fun _ _ h => h) mm4 | exact rdH (fun _ _ h => h) mm5 | exact rdH (fun _ _ h => h) mm6 | exact rdH (fun _ _ h => h) mm7 | exact rdH (fun _ _ h => h) mm8 | exact rdH (fun _ _ h => h) mm9 | exact rdH (fun _ _ h => h) mm10 | exact rdH (fun _ _ h => h) mm11) (by omega) (by omega) rfl rfl) rfl ?_
      refine o_want rfl ?_
      refine o_val (v_F (v_neq rfl rfl) (fun h => h (by rw [hp2, hg]))) rfl ?_
      refine o_want rfl ?_
      refine o_val (v_move rfl) rfl ?_
      refine o_pass rfl rfl rfl ?_
      refine o_want rfl ?_
      refine o_val (v_pickF rfl rfl) rfl ?_
      refine o_val (v_pickF rfl rfl) rfl ?_
      refine o_nil ?_
      refine thn_n ?_
      refine w_condF rfl ?_
      refine w_skip ?_
      refine thn_n ?_
      refine w_seq ?_
      refine w_seq ?_
      refine w_region ?_
      refine o_val (v_move rfl) rfl ?_
      refine o_val (v_not rfl) rfl ?_
      refine o_nil ?_
      refine thn_n ?_
      first | refine w_condD rfl (fun h61 => ?_) (fun h61 => ?_) | refine w_cond rfl (fun h61 => ?_) (fun h61 => ?_)
      ·
        have hb0 : ¬ 0 < ls.getD k 0 := by rw [hp1] at h61; simpa using h61
        rw [HuffP.full_no hb0, HuffP.many_no hk2 hb0]
        refine w_exit ?_
        refine thn_e ?_
        refine blk_x ?_
        refine thn_n ?_
        refine w_region ?_
        refine o_val (v_move rfl) rfl ?_
        refine o_val (v_add rfl rfl (wrapI (by omega) (by omega))) rfl ?_
        refine o_val (v_assign rfl) rfl ?_
        refine o_nil ?_
        refine j1 (k + 1) ?_ (.cons rfl (.cons rfl (.cons rfl (.cons rfl (.cons rfl (.nil _)))))) (sub (.cons (by first | exact rr0 | exact rr1 | exact rr2 | exact rr3 | exact rr4 | exact rr5 | exact rr6 | exact rr7 | exact rr8 | exact rr9 | exact rr10 | exact rr11 | exact rr12 | exact rr13 | exact rr14) (.cons (by first | exact rr0 | exact rr1 | exact rr2 | exact rr3 | exact rr4 | exact rr5 | exact rr6 | exact rr7 | exact rr8 | exact rr9 | exact rr10 | exact rr11 | exact rr12 | exact rr13 | exact rr14) .nil)) (by first | exact dd0 | exact dd1 | exact dd2 | exact dd3 | exact dd4 | exact dd5 | exact dd6 | exact dd7 | exact dd8 | exact dd9 | exact dd10 | exact dd11 | exact dd12 | exact dd13 | exact dd14))
        exact ⟨by omega, by omega⟩
      ·
        have hb : HuffP.lkB ls (k : Int) = true := by simpa using h61
        have hb0 : 0 < ls.getD k 0 := by rw [hp1] at hb; simpa using hb
        refine w_skip ?_
        refine thn_n ?_
        refine w_seq ?_
        refine w_region ?_
        refine o_val (v_move rfl) rfl ?_
        refine o_val (v_add (r := ((HuffP.posn (ls.take (k + 1))).length : Int)) rfl rfl (by rw [HuffP.many_yes hk2 hb0]; exact wrapI (by omega) (by omega))) rfl ?_
        refine o_val (v_assign rfl) rfl ?_
        refine o_nil ?_
        refine thn_n ?_
        refine w_seq ?_
        refine w_region ?_
        refine o_val (v_move rfl) rfl ?_
        refine o_val (v_move rfl) rfl ?_
        refine o_val (v_sub rfl rfl (wrapI (by omega) (by omega))) rfl ?_
        refine o_val (v_conv V.u3 Try.underlying34 rfl (wrapU (by omega) (by omega))) rfl ?_
        refine o_val (v_shl (r := 2 ^ (15 - HuffP.lenOf ls k)) rfl rfl (by omega) (HuffP.shl_full hp2 (by omega) (by omega))) rfl ?_
        refine o_val (v_add (r := HuffP.fullK ls (k + 1)) rfl rfl (by rw [HuffP.full_yes hb0]; exact wrapI (by omega) (by omega))) rfl ?_
        refine o_val (v_assign rfl) rfl ?_
        refine o_nil ?_
        refine thn_n ?_
        refine w_seq ?_
        refine w_region ?_
        refine o_val (v_assign rfl) rfl ?_
        refine o_nil ?_
        refine thn_n ?_
        refine w_block ?_
        refine w_loop1 (fun (j : Nat) => [(0, .slice p ls.length cap), (3, .pointer (some ⟨b3, 0, none⟩)), (5, .int .i64 (HuffP.fullK ls (k + 1))), (6, .int .i64 ((HuffP.posn (ls.take (k + 1))).length : Int)), (7, .int .i64 (k : Int)), (8, .int .i64 (HuffP.lkW ls (k : Int))), (9, .int .i64 (HuffP.lkN ls (k : Int))), (11, .int .i64 (j : Int))]) (fun (j : Nat) => HC b3 ls :: RdR I3 p ls.length ls :: F) (fun (j : Nat) => j ≤ k) (fun (j : Nat) => k - j) (i1 (0) ?_ (.cons rfl (.cons rfl (.cons rfl (.cons rfl (.cons rfl (.cons rfl (.cons rfl (.cons rfl (.nil _))))))))) (sub (.cons (by first | exact rr0 | exact rr1 | exact rr2 | exact rr3 | exact rr4 | exact rr5 | exact rr6 | exact rr7 | exact rr8 | exact rr9 | exact rr10 | exact rr11 | exact rr12 | exact rr13 | exact rr14) (.cons (by first | exact rr0 | exact rr1 | exact rr2 | exact rr3 | exact rr4 | exact rr5 | exact rr6 | exact rr7 | exact rr8 | exact rr9 | exact rr10 | exact rr11 | exact rr12 | exact rr13 | exact rr14) .nil)) (by first | exact dd0 | exact dd1 | exact dd2 | exact dd3 | exact dd4 | exact dd5 | exact dd6 | exact dd7 | exact dd8 | exact dd9 | exact dd10 | exact dd11 | exact dd12 | exact dd13 | exact dd14))) ?_
        ·
          exact Nat.zero_le _
        intro j
        rintro hj
        refine w_seq ?_
        refine w_seq ?_
        refine w_region ?_
        refine o_val (v_move rfl) rfl ?_
        refine o_val (v_move rfl) rfl ?_
        refine o_val (v_lss rfl rfl) rfl ?_
        refine o_nil ?_
        refine thn_n ?_
        first | refine w_condD rfl (fun h72 => ?_) (fun h72 => ?_) | refine w_cond rfl (fun h72 => ?_) (fun h72 => ?_)
        ·
          refine w_skip ?_
          refine thn_n ?_
          refine w_seq ?_
          refine w_block ?_
          refine w_seq ?_
          refine w_region ?_
          refine o_val (v_move rfl) rfl ?_
          refine o_val (v_move rfl) rfl ?_
          refine o_call (h_word b3 ls (j : Int)) V.b12  rfl (.cons (by first | exact rr0 | exact rr1 | exact rr2 | exact rr3 | exact rr4 | exact rr5 | exact rr6 | exact rr7 | exact rr8 | exact rr9 | exact rr10 | exact rr11 | exact rr12 | exact rr13 | exact rr14) .nil) rfl ?_
          rintro _ _ ⟨rfl, rfl⟩
          refine o_val (v_move rfl) rfl ?_
          refine o_val (v_extract rfl rfl) rfl ?_
          refine o_val (v_extract rfl rfl) rfl ?_
          refine o_val (v_extract rfl rfl) rfl ?_
          refine o_val (v_assign rfl) rfl ?_
          refine o_val (v_assign rfl) rfl ?_
          refine o_val (v_assign rfl) rfl ?_
          refine o_nil ?_
          refine thn_n ?_
          refine w_seq ?_
          refine w_seq ?_
          refine w_region ?_
          refine o_val (v_move rfl) rfl ?_
          refine o_val (v_not rfl) rfl ?_
          refine o_nil ?_
          refine thn_n ?_
          first | refine w_condD rfl (fun h83 => ?_) (fun h83 => ?_) | refine w_cond rfl (fun h83 => ?_) (fun h83 => ?_)
          ·
            refine w_exit ?_
            refine thn_e ?_
            refine blk_x ?_
            refine thn_n ?_
            refine w_region ?_
            refine o_val (v_move rfl) rfl ?_
            refine o_val (v_add rfl rfl (wrapI (by omega) (by omega))) rfl ?_
            refine o_val (v_assign rfl) rfl ?_
            refine o_nil ?_
            refine j1 (j + 1) ?_ (.cons rfl (.cons rfl (.cons rfl (.cons rfl (.cons rfl (.cons rfl (.cons rfl (.cons rfl (.nil _))))))))) (sub (.cons (by first | exact rr0 | exact rr1 | exact rr2 | exact rr3 | exact rr4 | exact rr5 | exact rr6 | exact rr7 | exact rr8 | exact rr9 | exact rr10 | exact rr11 | exact rr12 | exact rr13 | exact rr14) (.cons (by first | exact rr0 | exact rr1 | exact rr2 | exact rr3 | exact rr4 | exact rr5 | exact rr6 | exact rr7 | exact rr8 | exact rr9 | exact rr10 | exact rr11 | exact rr12 | exact rr13 | exact rr14) .nil)) (by first | exact dd0 | exact dd1 | exact dd2 | exact dd3 | exact dd4 | exact dd5 | exact dd6 | exact dd7 | exact dd8 | exact dd9 | exact dd10 | exact dd11 | exact dd12 | exact dd13 | exact dd14))
            exact ⟨by omega, by omega⟩
          ·
            have hbj : HuffP.lkB ls (j : Int) = true := by simpa using h83
            have hp := HuffP.pf_pair hE (i := (k : Int)) (k := (j : Int)) (by omega) (by omega) (by omega) hb hbj
            have q0 := hp.n1
            have q1 := hp.n2
            have q2 := hp.m1
            have q3 := hp.m2
            have q4 := hp.a0
            have q5 := hp.a1
            have q6 := hp.b0
            have q7 := hp.b1
            refine w_skip ?_
            refine thn_n ?_
            rcases (Int.lt_trichotomy (HuffP.lkN ls (k : Int)) (HuffP.lkN ls (j : Int))) with hc | hc | hc
            ·
              refine w_seq ?_
              refine w_seq ?_
              refine w_region ?_
              refine o_val (v_move rfl) rfl ?_
              refine o_val (v_move rfl) rfl ?_
              refine o_val (v_F (v_geq rfl rfl) (by omega)) rfl ?_
              refine o_val (v_move rfl) rfl ?_
              refine o_pass rfl rfl rfl ?_
              refine o_pass rfl rfl rfl ?_
              refine o_pass rfl rfl rfl ?_
              refine o_pass rfl rfl rfl ?_
              refine o_pass rfl rfl rfl ?_
              refine o_pass rfl rfl rfl ?_
              refine o_pass rfl rfl rfl ?_
              refine o_pass rfl rfl rfl ?_
              refine o_val (v_pickF rfl rfl) rfl ?_
              refine o_val (v_move rfl) rfl ?_
              refine o_want rfl ?_
              refine o_val (v_move rfl) rfl ?_
              refine o_want rfl ?_
              refine o_val (v_move rfl) rfl ?_
              refine o_want rfl ?_
              refine o_val (v_T (v_geq rfl rfl) (by omega)) rfl ?_
              refine o_want rfl ?_
              refine o_val (v_move rfl) rfl ?_
              refine o_want rfl ?_
              refine o_val (v_move rfl) rfl ?_
              refine o_want rfl ?_
              refine o_val (v_move rfl) rfl ?_
              refine o_want rfl ?_
              refine o_val (v_move rfl) rfl ?_
              refine o_want rfl ?_
              refine o_val (v_sub rfl rfl (wrapI (by omega) (by omega))) rfl ?_
              refine o_want rfl ?_
              refine o_val (v_conv V.u3 Try.underlying34 rfl (wrapU (by omega) (by omega))) rfl ?_
              refine o_want rfl ?_
              refine o_val (v_shr (r := (HuffP.lkW ls (j : Int)).fdiv (2 ^ ((HuffP.lkN ls (j : Int)) - (HuffP.lkN ls (k : Int))).toNat)) rfl rfl (by omega) (HuffP.shr_d (by omega) (by omega))) rfl ?_
              refine o_want rfl ?_
              refine o_val (v_move rfl) rfl ?_
              refine o_want rfl ?_
              refine o_val (v_F (v_eql rfl rfl) (hp.no2 (by omega))) rfl ?_
              refine o_want rfl ?_
              refine o_val (v_pickT rfl rfl) rfl ?_
              refine o_val (v_pickF rfl rfl) rfl ?_
              refine o_nil ?_
              refine thn_n ?_
              refine w_condF rfl ?_
              refine w_skip ?_
              refine thn_n ?_
              refine w_seq ?_
              refine w_region ?_
              refine o_val (v_move rfl) rfl ?_
              refine o_val (v_move rfl) rfl ?_
              refine o_val (v_F (v_eql rfl rfl) (by omega)) rfl ?_
              refine o_val (v_move rfl) rfl ?_
              refine o_pass rfl rfl rfl ?_
              refine o_pass rfl rfl rfl ?_
              refine o_pass rfl rfl rfl ?_
              refine o_val (v_pickF rfl rfl) rfl ?_
              refine o_val (v_move rfl) rfl ?_
              refine o_want rfl ?_
              refine o_val (v_move rfl) rfl ?_
              refine o_want rfl ?_
              refine o_val (v_move rfl) rfl ?_
              refine o_want rfl ?_
              refine o_val (v_F (v_gtr rfl rfl) (by omega)) rfl ?_
              refine o_want rfl ?_
              refine o_val (v_move rfl) rfl ?_
              refine o_pass rfl rfl rfl ?_
              refine o_pass rfl rfl rfl ?_
              refine o_pass rfl rfl rfl ?_
              refine o_pass rfl rfl rfl ?_
              refine o_pass rfl rfl rfl ?_
              refine o_pass rfl rfl rfl ?_
              refine o_pass rfl rfl rfl ?_
              refine o_pass rfl rfl rfl ?_
              refine o_want rfl ?_
              refine o_val (v_pickF rfl rfl) rfl ?_
              refine o_val (v_pickF rfl rfl) rfl ?_
              refine o_val (v_move rfl) rfl ?_
              refine o_want rfl ?_
              refine o_val (v_move rfl) rfl ?_
              refine o_want rfl ?_
              refine o_val (v_move rfl) rfl ?_
              refine o_want rfl ?_
              refine o_val (v_T (v_gtr rfl rfl) (by omega)) rfl ?_
              refine o_want rfl ?_
              refine o_val (v_move rfl) rfl ?_
              refine o_want rfl ?_
              refine o_val (v_move rfl) rfl ?_
              refine o_want rfl ?_
              refine o_val (v_move rfl) rfl ?_
              refine o_want rfl ?_
              refine o_val (v_move rfl) rfl ?_
              refine o_want rfl ?_
              refine o_val (v_sub rfl rfl (wrapI (by omega) (by omega))) rfl ?_
              refine o_want rfl ?_
              refine o_val (v_conv V.u3 Try.underlying34 rfl (wrapU (by omega) (by omega))) rfl ?_
              refine o_want rfl ?_
              refine o_val (v_shr (r := (HuffP.lkW ls (j : Int)).fdiv (2 ^ ((HuffP.lkN ls (j : Int)) - (HuffP.lkN ls (k : Int))).toNat)) rfl rfl (by omega) (HuffP.shr_d (by omega) (by omega))) rfl ?_
              refine o_want rfl ?_
              refine o_val (v_move rfl) rfl ?_
              refine o_want rfl ?_
              refine o_val (v_F (v_lss rfl rfl) (hp.no5 hc)) rfl ?_
              refine o_want rfl ?_
              refine o_val (v_pickT rfl rfl) rfl ?_
              refine o_val (v_pickF rfl rfl) rfl ?_
              refine o_nil ?_
              refine thn_n ?_
              refine w_condF rfl ?_
              refine w_skip ?_
              refine blk_n ?_
              refine thn_n ?_
              refine w_region ?_
              refine o_val (v_move rfl) rfl ?_
              refine o_val (v_add rfl rfl (wrapI (by omega) (by omega))) rfl ?_
              refine o_val (v_assign rfl) rfl ?_
              refine o_nil ?_
              refine j1 (j + 1) ?_ (.cons rfl (.cons rfl (.cons rfl (.cons rfl (.cons rfl (.cons rfl (.cons rfl (.cons rfl (.nil _))))))))) (sub (.cons (by first | exact rr0 | exact rr1 | exact rr2 | exact rr3 | exact rr4 | exact rr5 | exact rr6 | exact rr7 | exact rr8 | exact rr9 | exact rr10 | exact rr11 | exact rr12 | exact rr13 | exact rr14) (.cons (by first | exact rr0 | exact rr1 | exact rr2 | exact rr3 | exact rr4 | exact rr5 | exact rr6 | exact rr7 | exact rr8 | exact rr9 | exact rr10 | exact rr11 | exact rr12 | exact rr13 | exact rr14) .nil)) (by first | exact dd0 | exact dd1 | exact dd2 | exact dd3 | exact dd4 | exact dd5 | exact dd6 | exact dd7 | exact dd8 | exact dd9 | exact dd10 | exact dd11 | exact dd12 | exact dd13 | exact dd14))
              exact ⟨by omega, by omega⟩
            ·
              refine w_seq ?_
              refine w_seq ?_
              refine w_region ?_
              refine o_val (v_move rfl) rfl ?_
              refine o_val (v_move rfl) rfl ?_
              refine o_val (v_T (v_geq rfl rfl) (by omega)) rfl ?_
              refine o_val (v_move rfl) rfl ?_
              refine o_want rfl ?_
              refine o_val (v_move rfl) rfl ?_
              refine o_want rfl ?_
              refine o_val (v_move rfl) rfl ?_
              refine o_want rfl ?_
              refine o_val (v_move rfl) rfl ?_
              refine o_want rfl ?_
              refine o_val (v_sub rfl rfl (wrapI (by omega) (by omega))) rfl ?_
              refine o_want rfl ?_
              refine o_val (v_conv V.u3 Try.underlying34 rfl (wrapU (by omega) (by omega))) rfl ?_
              refine o_want rfl ?_
              refine o_val (v_shr (r := (HuffP.lkW ls (k : Int)).fdiv (2 ^ ((HuffP.lkN ls (k : Int)) - (HuffP.lkN ls (j : Int))).toNat)) rfl rfl (by omega) (HuffP.shr_d (by omega) (by omega))) rfl ?_
              refine o_want rfl ?_
              refine o_val (v_move rfl) rfl ?_
              refine o_want rfl ?_
              refine o_val (v_F (v_eql rfl rfl) (hp.no1 (by omega))) rfl ?_
              refine o_val (v_pickT rfl rfl) rfl ?_
              refine o_val (v_move rfl) rfl ?_
              refine o_want rfl ?_
              refine o_val (v_move rfl) rfl ?_
              refine o_want rfl ?_
              refine o_val (v_move rfl) rfl ?_
              refine o_want rfl ?_
              refine o_val (v_T (v_geq rfl rfl) (by omega)) rfl ?_
              refine o_want rfl ?_
              refine o_val (v_move rfl) rfl ?_
              refine o_want rfl ?_
              refine o_val (v_move rfl) rfl ?_
              refine o_want rfl ?_
              refine o_val (v_move rfl) rfl ?_
              refine o_want rfl ?_
              refine o_val (v_move rfl) rfl ?_
              refine o_want rfl ?_
              refine o_val (v_sub rfl rfl (wrapI (by omega) (by omega))) rfl ?_
              refine o_want rfl ?_
              refine o_val (v_conv V.u3 Try.underlying34 rfl (wrapU (by omega) (by omega))) rfl ?_
              refine o_want rfl ?_
              refine o_val (v_shr (r := (HuffP.lkW ls (j : Int)).fdiv (2 ^ ((HuffP.lkN ls (j : Int)) - (HuffP.lkN ls (k : Int))).toNat)) rfl rfl (by omega) (HuffP.shr_d (by omega) (by omega))) rfl ?_
              refine o_want rfl ?_
              refine o_val (v_move rfl) rfl ?_
              refine o_want rfl ?_
              refine o_val (v_F (v_eql rfl rfl) (hp.no2 (by omega))) rfl ?_
              refine o_want rfl ?_
              refine o_val (v_pickT rfl rfl) rfl ?_
              refine o_val (v_pickF rfl rfl) rfl ?_
              refine o_nil ?_
              refine thn_n ?_
              refine w_condF rfl ?_
              refine w_skip ?_
              refine thn_n ?_
              refine w_seq ?_
              refine w_region ?_
              refine o_val (v_move rfl) rfl ?_
              refine o_val (v_move rfl) rfl ?_
              refine o_val (v_T (v_eql rfl rfl) (by omega)) rfl ?_
              refine o_val (v_move rfl) rfl ?_
              refine o_want rfl ?_
              refine o_val (v_move rfl) rfl ?_
              refine o_want rfl ?_
              refine o_val (v_move rfl) rfl ?_
              refine o_want rfl ?_
              refine o_val (v_F (v_leq rfl rfl) (hp.no3 hc)) rfl ?_
              refine o_val (v_pickT rfl rfl) rfl ?_
              refine o_val (v_move rfl) rfl ?_
              refine o_want rfl ?_
              refine o_val (v_move rfl) rfl ?_
              refine o_want rfl ?_
              refine o_val (v_move rfl) rfl ?_
              refine o_want rfl ?_
              refine o_val (v_F (v_gtr rfl rfl) (by omega)) rfl ?_
              refine o_want rfl ?_
              refine o_val (v_move rfl) rfl ?_
              refine o_pass rfl rfl rfl ?_
              refine o_pass rfl rfl rfl ?_
              refine o_pass rfl rfl rfl ?_
              refine o_pass rfl rfl rfl ?_
              refine o_pass rfl rfl rfl ?_
              refine o_pass rfl rfl rfl ?_
              refine o_pass rfl rfl rfl ?_
              refine o_pass rfl rfl rfl ?_
              refine o_want rfl ?_
              refine o_val (v_pickF rfl rfl) rfl ?_
              refine o_val (v_pickF rfl rfl) rfl ?_
              refine o_val (v_move rfl) rfl ?_
              refine o_want rfl ?_
              refine o_val (v_move rfl) rfl ?_
              refine o_want rfl ?_
              refine o_val (v_move rfl) rfl ?_
              refine o_want rfl ?_
              refine o_val (v_F (v_gtr rfl rfl) (by omega)) rfl ?_
              refine o_want rfl ?_
              refine o_val (v_move rfl) rfl ?_
              refine o_pass rfl rfl rfl ?_
              refine o_pass rfl rfl rfl ?_
              refine o_pass rfl rfl rfl ?_
              refine o_pass rfl rfl rfl ?_
              refine o_pass rfl rfl rfl ?_
              refine o_pass rfl rfl rfl ?_
              refine o_pass rfl rfl rfl ?_
              refine o_pass rfl rfl rfl ?_
              refine o_want rfl ?_
              refine o_val (v_pickF rfl rfl) rfl ?_
              refine o_val (v_pickF rfl rfl) rfl ?_
              refine o_nil ?_
              refine thn_n ?_
              refine w_condF rfl ?_
              refine w_skip ?_
              refine blk_n ?_
              refine thn_n ?_
              refine w_region ?_
              refine o_val (v_move rfl) rfl ?_
              refine o_val (v_add rfl rfl (wrapI (by omega) (by omega))) rfl ?_
              refine o_val (v_assign rfl) rfl ?_
              refine o_nil ?_
              refine j1 (j + 1) ?_ (.cons rfl (.cons rfl (.cons rfl (.cons rfl (.cons rfl (.cons rfl (.cons rfl (.cons rfl (.nil _))))))))) (sub (.cons (by first | exact rr0 | exact rr1 | exact rr2 | exact rr3 | exact rr4 | exact rr5 | exact rr6 | exact rr7 | exact rr8 | exact rr9 | exact rr10 | exact rr11 | exact rr12 | exact rr13 | exact rr14) (.cons (by first | exact rr0 | exact rr1 | exact rr2 | exact rr3 | exact rr4 | exact rr5 | exact rr6 | exact rr7 | exact rr8 | exact rr9 | exact rr10 | exact rr11 | exact rr12 | exact rr13 | exact rr14) .nil)) (by first | exact dd0 | exact dd1 | exact dd2 | exact dd3 | exact dd4 | exact dd5 | exact dd6 | exact dd7 | exact dd8 | exact dd9 | exact dd10 | exact dd11 | exact dd12 | exact dd13 | exact dd14))
              exact ⟨by omega, by omega⟩
            ·
              refine w_seq ?_
              refine w_seq ?_
              refine w_region ?_
              refine o_val (v_move rfl) rfl ?_
              refine o_val (v_move rfl) rfl ?_
              refine o_val (v_T (v_geq rfl rfl) (by omega)) rfl ?_
              refine o_val (v_move rfl) rfl ?_
              refine o_want rfl ?_
              refine o_val (v_move rfl) rfl ?_
              refine o_want rfl ?_
              refine o_val (v_move rfl) rfl ?_
              refine o_want rfl ?_
              refine o_val (v_move rfl) rfl ?_
              refine o_want rfl ?_
              refine o_val (v_sub rfl rfl (wrapI (by omega) (by omega))) rfl ?_
              refine o_want rfl ?_
              refine o_val (v_conv V.u3 Try.underlying34 rfl (wrapU (by omega) (by omega))) rfl ?_
              refine o_want rfl ?_
              refine o_val (v_shr (r := (HuffP.lkW ls (k : Int)).fdiv (2 ^ ((HuffP.lkN ls (k : Int)) - (HuffP.lkN ls (j : Int))).toNat)) rfl rfl (by omega) (HuffP.shr_d (by omega) (by omega))) rfl ?_
              refine o_want rfl ?_
              refine o_val (v_move rfl) rfl ?_
              refine o_want rfl ?_
              refine o_val (v_F (v_eql rfl rfl) (hp.no1 (by omega))) rfl ?_
              refine o_val (v_pickT rfl rfl) rfl ?_
              refine o_val (v_move rfl) rfl ?_
              refine o_want rfl ?_
              refine o_val (v_move rfl) rfl ?_
              refine o_want rfl ?_
              refine o_val (v_move rfl) rfl ?_
              refine o_want rfl ?_
              refine o_val (v_F (v_geq rfl rfl) (by omega)) rfl ?_
              refine o_want rfl ?_
              refine o_val (v_move rfl) rfl ?_
              refine o_pass rfl rfl rfl ?_
              refine o_pass rfl rfl rfl ?_
              refine o_pass rfl rfl rfl ?_
              refine o_pass rfl rfl rfl ?_
              refine o_pass rfl rfl rfl ?_
              refine o_pass rfl rfl rfl ?_
              refine o_pass rfl rfl rfl ?_
              refine o_pass rfl rfl rfl ?_
              refine o_want rfl ?_
              refine o_val (v_pickF rfl rfl) rfl ?_
              refine o_val (v_pickF rfl rfl) rfl ?_
              refine o_nil ?_
              refine thn_n ?_
              refine w_condF rfl ?_
              refine w_skip ?_
              refine thn_n ?_
              refine w_seq ?_
              refine w_region ?_
              refine o_val (v_move rfl) rfl ?_
              refine o_val (v_move rfl) rfl ?_
              refine o_val (v_F (v_eql rfl rfl) (by omega)) rfl ?_
              refine o_val (v_move rfl) rfl ?_
              refine o_pass rfl rfl rfl ?_
              refine o_pass rfl rfl rfl ?_
              refine o_pass rfl rfl rfl ?_
              refine o_val (v_pickF rfl rfl) rfl ?_
              refine o_val (v_move rfl) rfl ?_
              refine o_want rfl ?_
              refine o_val (v_move rfl) rfl ?_
              refine o_want rfl ?_
              refine o_val (v_move rfl) rfl ?_
              refine o_want rfl ?_
              refine o_val (v_T (v_gtr rfl rfl) (by omega)) rfl ?_
              refine o_want rfl ?_
              refine o_val (v_move rfl) rfl ?_
              refine o_want rfl ?_
              refine o_val (v_move rfl) rfl ?_
              refine o_want rfl ?_
              refine o_val (v_move rfl) rfl ?_
              refine o_want rfl ?_
              refine o_val (v_move rfl) rfl ?_
              refine o_want rfl ?_
              refine o_val (v_sub rfl rfl (wrapI (by omega) (by omega))) rfl ?_
              refine o_want rfl ?_
              refine o_val (v_conv V.u3 Try.underlying34 rfl (wrapU (by omega) (by omega))) rfl ?_
              refine o_want rfl ?_
              refine o_val (v_shr (r := (HuffP.lkW ls (k : Int)).fdiv (2 ^ ((HuffP.lkN ls (k : Int)) - (HuffP.lkN ls (j : Int))).toNat)) rfl rfl (by omega) (HuffP.shr_d (by omega) (by omega))) rfl ?_
              refine o_want rfl ?_
              refine o_val (v_move rfl) rfl ?_
              refine o_want rfl ?_
              refine o_val (v_F (v_lss rfl rfl) (hp.no4 hc)) rfl ?_
              refine o_want rfl ?_
              refine o_val (v_pickT rfl rfl) rfl ?_
              refine o_val (v_pickF rfl rfl) rfl ?_
              refine o_val (v_move rfl) rfl ?_
              refine o_want rfl ?_
              refine o_val (v_move rfl) rfl ?_
              refine o_want rfl ?_
              refine o_val (v_move rfl) rfl ?_
              refine o_want rfl ?_
              refine o_val (v_F (v_gtr rfl rfl) (by omega)) rfl ?_
              refine o_want rfl ?_
              refine o_val (v_move rfl) rfl ?_
              refine o_pass rfl rfl rfl ?_
              refine o_pass rfl rfl rfl ?_
              refine o_pass rfl rfl rfl ?_
              refine o_pass rfl rfl rfl ?_
              refine o_pass rfl rfl rfl ?_
              refine o_pass rfl rfl rfl ?_
              refine o_pass rfl rfl rfl ?_
              refine o_pass rfl rfl rfl ?_
              refine o_want rfl ?_
              refine o_val (v_pickF rfl rfl) rfl ?_
              refine o_val (v_pickF rfl rfl) rfl ?_
              refine o_nil ?_
              refine thn_n ?_
              refine w_condF rfl ?_
              refine w_skip ?_
              refine blk_n ?_
              refine thn_n ?_
              refine w_region ?_
              refine o_val (v_move rfl) rfl ?_
              refine o_val (v_add rfl rfl (wrapI (by omega) (by omega))) rfl ?_
              refine o_val (v_assign rfl) rfl ?_
              refine o_nil ?_
              refine j1 (j + 1) ?_ (.cons rfl (.cons rfl (.cons rfl (.cons rfl (.cons rfl (.cons rfl (.cons rfl (.cons rfl (.nil _))))))))) (sub (.cons (by first | exact rr0 | exact rr1 | exact rr2 | exact rr3 | exact rr4 | exact rr5 | exact rr6 | exact rr7 | exact rr8 | exact rr9 | exact rr10 | exact rr11 | exact rr12 | exact rr13 | exact rr14) (.cons (by first | exact rr0 | exact rr1 | exact rr2 | exact rr3 | exact rr4 | exact rr5 | exact rr6 | exact rr7 | exact rr8 | exact rr9 | exact rr10 | exact rr11 | exact rr12 | exact rr13 | exact rr14) .nil)) (by first | exact dd0 | exact dd1 | exact dd2 | exact dd3 | exact dd4 | exact dd5 | exact dd6 | exact dd7 | exact dd8 | exact dd9 | exact dd10 | exact dd11 | exact dd12 | exact dd13 | exact dd14))
              exact ⟨by omega, by omega⟩
        ·
          refine w_exit ?_
          refine thn_e ?_
          refine thn_e ?_
          refine blk_x ?_
          refine blk_n ?_
          refine thn_n ?_
          refine w_region ?_
          refine o_val (v_move rfl) rfl ?_
          refine o_val (v_add rfl rfl (wrapI (by omega) (by omega))) rfl ?_
          refine o_val (v_assign rfl) rfl ?_
          refine o_nil ?_
          refine j1 (k + 1) ?_ (.cons rfl (.cons rfl (.cons rfl (.cons rfl (.cons rfl (.nil _)))))) (sub (.cons (by first | exact rr0 | exact rr1 | exact rr2 | exact rr3 | exact rr4 | exact rr5 | exact rr6 | exact rr7 | exact rr8 | exact rr9 | exact rr10 | exact rr11 | exact rr12 | exact rr13 | exact rr14) (.cons (by first | exact rr0 | exact rr1 | exact rr2 | exact rr3 | exact rr4 | exact rr5 | exact rr6 | exact rr7 | exact rr8 | exact rr9 | exact rr10 | exact rr11 | exact rr12 | exact rr13 | exact rr14) .nil)) (by first | exact dd0 | exact dd1 | exact dd2 | exact dd3 | exact dd4 | exact dd5 | exact dd6 | exact dd7 | exact dd8 | exact dd9 | exact dd10 | exact dd11 | exact dd12 | exact dd13 | exact dd14))
          exact ⟨by omega, by omega⟩
    ·
      refine w_exit ?_
      refine thn_e ?_
      refine thn_e ?_
      refine blk_x ?_
      refine thn_n ?_
      refine w_seq ?_
      have hkn : k = ls.length := by omega
      subst hkn
      rw [List.take_length]
      have hfe := HuffP.full_end hE
      refine w_region ?_
      refine o_val (v_move rfl) rfl ?_
      refine o_val (v_eql rfl rfl) rfl ?_
      refine o_val (v_move rfl) rfl ?_
      first | refine o_boolD 152 rfl (fun h152 => ?_) (fun h152 => ?_) | refine o_bool 152 rfl (fun h152 => ?_) (fun h152 => ?_)
      ·
        refine o_pass rfl rfl rfl ?_
        refine o_pass rfl rfl rfl ?_
        refine o_val (v_pickT rfl rfl) rfl ?_
        refine o_val (v_move rfl) rfl ?_
        refine o_pass rfl rfl rfl ?_
        refine o_pass rfl rfl rfl ?_
        refine o_pass rfl rfl rfl ?_
        refine o_passU rfl rfl rfl rfl ?_
        refine o_passU rfl rfl rfl rfl ?_
        refine o_pass rfl rfl rfl ?_
        refine o_val (v_pickT rfl rfl) rfl ?_
        refine o_val (v_assign rfl) rfl ?_
        refine o_nil ?_
        refine thn_n ?_
        refine w_ret ?_
        first | exact ret_ok (G := [RdR I3 p ls.length ls]) (res1 rfl) ⟨rfl, rfl⟩ (sub (.cons (by first | exact rr0 | exact rr1 | exact rr2 | exact rr3 | exact rr4 | exact rr5 | exact rr6 | exact rr7 | exact rr8 | exact rr9 | exact rr10 | exact rr11 | exact rr12 | exact rr13 | exact rr14) .nil) (by first | exact dd0 | exact dd1 | exact dd2 | exact dd3 | exact dd4 | exact dd5 | exact dd6 | exact dd7 | exact dd8 | exact dd9 | exact dd10 | exact dd11 | exact dd12 | exact dd13 | exact dd14)) | (exact ret_ok (G := [RdR I3 p ls.length ls]) (res1 rfl) ⟨by rw [decide_eq_true (by omega)], rfl⟩ (sub (.cons (by first | exact rr0 | exact rr1 | exact rr2 | exact rr3 | exact rr4 | exact rr5 | exact rr6 | exact rr7 | exact rr8 | exact rr9 | exact rr10 | exact rr11 | exact rr12 | exact rr13 | exact rr14) .nil) (by first | exact dd0 | exact dd1 | exact dd2 | exact dd3 | exact dd4 | exact dd5 | exact dd6 | exact dd7 | exact dd8 | exact dd9 | exact dd10 | exact dd11 | exact dd12 | exact dd13 | exact dd14))) | (exfalso; omega)
      ·
        refine o_want rfl ?_
        refine o_val (v_move rfl) rfl ?_
        refine o_want rfl ?_
        refine o_val (v_eql rfl rfl) rfl ?_
        refine o_val (v_pickF rfl rfl) rfl ?_
        refine o_val (v_move rfl) rfl ?_
        first | refine o_boolD 156 rfl (fun h156 => ?_) (fun h156 => ?_) | refine o_bool 156 rfl (fun h156 => ?_) (fun h156 => ?_)
        ·
          refine o_pass rfl rfl rfl ?_
          refine o_pass rfl rfl rfl ?_
          refine o_pass rfl rfl rfl ?_
          refine o_passU rfl rfl rfl rfl ?_
          refine o_passU rfl rfl rfl rfl ?_
          refine o_pass rfl rfl rfl ?_
          refine o_val (v_pickT rfl rfl) rfl ?_
          refine o_val (v_assign rfl) rfl ?_
          refine o_nil ?_
          refine thn_n ?_
          refine w_ret ?_
          first | exact ret_ok (G := [RdR I3 p ls.length ls]) (res1 rfl) ⟨rfl, rfl⟩ (sub (.cons (by first | exact rr0 | exact rr1 | exact rr2 | exact rr3 | exact rr4 | exact rr5 | exact rr6 | exact rr7 | exact rr8 | exact rr9 | exact rr10 | exact rr11 | exact rr12 | exact rr13 | exact rr14) .nil) (by first | exact dd0 | exact dd1 | exact dd2 | exact dd3 | exact dd4 | exact dd5 | exact dd6 | exact dd7 | exact dd8 | exact dd9 | exact dd10 | exact dd11 | exact dd12 | exact dd13 | exact dd14)) | (exact ret_ok (G := [RdR I3 p ls.length ls]) (res1 rfl) ⟨by rw [decide_eq_true (by omega)], rfl⟩ (sub (.cons (by first | exact rr0 | exact rr1 | exact rr2 | exact rr3 | exact rr4 | exact rr5 | exact rr6 | exact rr7 | exact rr8 | exact rr9 | exact rr10 | exact rr11 | exact rr12 | exact rr13 | exact rr14) .nil) (by first | exact dd0 | exact dd1 | exact dd2 | exact dd3 | exact dd4 | exact dd5 | exact dd6 | exact dd7 | exact dd8 | exact dd9 | exact dd10 | exact dd11 | exact dd12 | exact dd13 | exact dd14))) | (exfalso; omega)
        ·
          refine o_want rfl ?_
          refine o_val (v_move rfl) rfl ?_
          refine o_want rfl ?_
          refine o_val (v_eql rfl rfl) rfl ?_
          refine o_want rfl ?_
          refine o_val (v_move rfl) rfl ?_
          first | refine o_boolD 159 rfl (fun h159 => ?_) (fun h159 => ?_) | refine o_bool 159 rfl (fun h159 => ?_) (fun h159 => ?_)
          ·
            refine o_want rfl ?_
            refine o_val (v_move rfl) rfl ?_
            refine o_want rfl ?_
            refine o_val (v_eql rfl rfl) rfl ?_
            refine o_want rfl ?_
            refine o_val (v_pickT rfl rfl) rfl ?_
            refine o_val (v_pickF rfl rfl) rfl ?_
            refine o_val (v_assign rfl) rfl ?_
            refine o_nil ?_
            refine thn_n ?_
            refine w_ret ?_
            first | exact ret_ok (G := [RdR I3 p ls.length ls]) (res1 rfl) ⟨rfl, rfl⟩ (sub (.cons (by first | exact rr0 | exact rr1 | exact rr2 | exact rr3 | exact rr4 | exact rr5 | exact rr6 | exact rr7 | exact rr8 | exact rr9 | exact rr10 | exact rr11 | exact rr12 | exact rr13 | exact rr14) .nil) (by first | exact dd0 | exact dd1 | exact dd2 | exact dd3 | exact dd4 | exact dd5 | exact dd6 | exact dd7 | exact dd8 | exact dd9 | exact dd10 | exact dd11 | exact dd12 | exact dd13 | exact dd14)) | (exact ret_ok (G := [RdR I3 p ls.length ls]) (res1 rfl) ⟨by rw [decide_eq_true (by omega)], rfl⟩ (sub (.cons (by first | exact rr0 | exact rr1 | exact rr2 | exact rr3 | exact rr4 | exact rr5 | exact rr6 | exact rr7 | exact rr8 | exact rr9 | exact rr10 | exact rr11 | exact rr12 | exact rr13 | exact rr14) .nil) (by first | exact dd0 | exact dd1 | exact dd2 | exact dd3 | exact dd4 | exact dd5 | exact dd6 | exact dd7 | exact dd8 | exact dd9 | exact dd10 | exact dd11 | exact dd12 | exact dd13 | exact dd14))) | (exfalso; omega)
          ·
            refine o_pass rfl rfl rfl ?_
            refine o_pass rfl rfl rfl ?_
            refine o_want rfl ?_
            refine o_val (v_pickF rfl rfl) rfl ?_
            refine o_val (v_pickF rfl rfl) rfl ?_
            refine o_val (v_assign rfl) rfl ?_
            refine o_nil ?_
            refine thn_n ?_
            refine w_ret ?_
            first | exact ret_ok (G := [RdR I3 p ls.length ls]) (res1 rfl) ⟨rfl, rfl⟩ (sub (.cons (by first | exact rr0 | exact rr1 | exact rr2 | exact rr3 | exact rr4 | exact rr5 | exact rr6 | exact rr7 | exact rr8 | exact rr9 | exact rr10 | exact rr11 | exact rr12 | exact rr13 | exact rr14) .nil) (by first | exact dd0 | exact dd1 | exact dd2 | exact dd3 | exact dd4 | exact dd5 | exact dd6 | exact dd7 | exact dd8 | exact dd9 | exact dd10 | exact dd11 | exact dd12 | exact dd13 | exact dd14)) | (exact ret_ok (G := [RdR I3 p ls.length ls]) (res1 rfl) ⟨by rw [decide_eq_true (by omega)], rfl⟩ (sub (.cons (by first | exact rr0 | exact rr1 | exact rr2 | exact rr3 | exact rr4 | exact rr5 | exact rr6 | exact rr7 | exact rr8 | exact rr9 | exact rr10 | exact rr11 | exact rr12 | exact rr13 | exact rr14) .nil) (by first | exact dd0 | exact dd1 | exact dd2 | exact dd3 | exact dd4 | exact dd5 | exact dd6 | exact dd7 | exact dd8 | exact dd9 | exact dd10 | exact dd11 | exact dd12 | exact dd13 | exact dd14))) | (exfalso; omega)


theorem prefixes (p : Option Addr) (cap : Nat) (ls : List Int) : Ctr Try.prog 4 [.slice p ls.length cap] [RdR I3 p ls.length ls] (Ret fun v G => v = .bool true ∧ G = [RdR I3 p ls.length ls]) := by
  by_cases hE : HuffP.newE ls = 0
  · exact prefix_yes p cap ls hE
  · exact prefix_no p cap ls hE

end Go.Proofs.Ytmclopghpnndnaa

/-
 Steps of the proof: walks of functions that the statement reaches; printed by a program of ours.
-/
import Derived.Test.YtoplcgkafaoafaaInfAG
namespace Go.Proofs.Ytoplcgkafaoafaa
open Go.Sl 
set_option linter.unusedVariables false
set_option linter.unusedSimpArgs false

attribute [local irreducible] HuffP.newE HuffP.tk HuffP.ord HuffP.cntL HuffP.words HuffP.mostL InfP.frs InfP.toldC InfP.toldN InfP.toldA InfP.hL InfP.hD InfP.hC InfP.lnGo InfP.told InfP.fixL InfP.codeE InfP.rep InfP.lenE InfP.awayE InfP.sym InfP.alg BitP.numL InfP.coded InfP.begin_ InfP.one InfP.put_ InfP.lnB InfP.dsB InfP.lnM InfP.dsM InfP.fixD InfP.fxX InfP.fxN HuffP.wb HuffP.bits InfP.rowsB InfP.rowsO InfP.runsB InfP.rowB InfP.cpy BitP.orB BitP.lowB

set_option maxHeartbeats 8000000 in
set_option maxRecDepth 100000 in
theorem l_runs (p : Option Addr) (cap : Nat) (B : List Int) (hB : BitP.Byt B) (bk : Int) (hbk : 0 ≤ bk ∧ bk < 256) (pm : Option Addr) (cm : Nat) (M : List Int) (hM : BitP.Byt M) : Ctr Try.prog 6 [.slice p B.length cap, .int .u8 bk, .slice pm M.length cm] [RdR U5 p B.length B, RdR U5 pm M.length M] (Ret fun v G => v = .bool true ∧ G = [RdR U5 p B.length B, RdR U5 pm M.length M]) := by
 refine spec_of [(0, _), (1, _), (2, _)] Try.func6 rfl Try.ntmps6 rfl rfl ?_
 intro w0 F
 refine w_seq ?_
 refine w_region ?_
 refine o_val (v_assign rfl) rfl ?_
 refine o_nil ?_
 refine thn_n ?_
 refine w_seq ?_
 refine w_seq ?_
 refine w_region ?_
 refine o_call (l_awake) V.b10  rfl .nil rfl ?_
 rintro _ _ ⟨rfl, rfl⟩
 refine o_val (v_to (v := .bool false) (v_not rfl) rfl) rfl ?_
 refine o_nil ?_
 refine thn_n ?_
 refine w_condF rfl ?_
 refine w_skip ?_
 refine thn_n ?_
 rcases (InfP.or3b (1 ≤ B.length) (B.length ≤ 200) (M.length ≤ 20)) with ⟨hl1, hl2, hl3⟩ | ⟨hl1, hl2, hl3⟩ | ⟨hl1, hl2⟩ | hl1
 ·
  refine w_seq ?_
  refine w_seq ?_
  refine w_region ?_
  refine o_val (v_move rfl) rfl ?_
  refine o_val (v_len (ty' := 0) Try.underlying22 rfl) rfl ?_
  refine o_val (v_F (v_lss rfl rfl) (by omega)) rfl ?_
  refine o_val (v_move rfl) rfl ?_
  refine o_want rfl ?_
  refine o_val (v_move rfl) rfl ?_
  refine o_want rfl ?_
  refine o_val (v_len (ty' := 0) Try.underlying22 rfl) rfl ?_
  refine o_want rfl ?_
  refine o_val (v_F (v_gtr rfl rfl) (by omega)) rfl ?_
  refine o_val (v_pickF rfl rfl) rfl ?_
  refine o_val (v_move rfl) rfl ?_
  refine o_want rfl ?_
  refine o_val (v_move rfl) rfl ?_
  refine o_want rfl ?_
  refine o_val (v_len (ty' := 0) Try.underlying22 rfl) rfl ?_
  refine o_want rfl ?_
  refine o_val (v_F (v_gtr rfl rfl) (by omega)) rfl ?_
  refine o_val (v_pickF rfl rfl) rfl ?_
  refine o_nil ?_
  refine thn_n ?_
  refine w_condF rfl ?_
  refine w_skip ?_
  refine thn_n ?_
  refine w_seq ?_
  refine w_region ?_
  refine o_val (v_build V.pl43 V.z43 rfl (cs := [_, _]) rfl) rfl ?_
  refine o_box rfl (cs := [_, _]) rfl rfl ?_
  intro b37
  refine o_val (v_assign rfl) rfl ?_
  refine o_nil ?_
  refine thn_n ?_
  refine w_seq ?_
  refine w_add0 (Row I3 none 0 0 []) (Row.nil _ _ _) ?_
  refine w_sub (fold' (A := PK b37 []) (.cons (by repeat first | exact .head | apply Rem.tail) (.cons (by repeat first | exact .head | apply Rem.tail) .nil)) .refl (fun w0 h hh => pk_close rfl hh)) ?_
  refine w_region ?_
  refine o_val (v_move rfl) rfl ?_
  refine o_call (d_put b37 [] 3 3 (by decide) (by decide) (by decide)) V.b19  rfl (.cons (by repeat first | exact .head | apply Rem.tail) .nil) rfl ?_
  rintro _ _ ⟨rfl, rfl⟩
  refine o_nil ?_
  refine thn_n ?_
  refine w_seq ?_
  refine w_region ?_
  refine r_build (U5) [] V.sl22 V.z5 rfl rfl rfl rfl rfl rfl ?_
  intro b40
  refine o_val (v_move rfl) rfl ?_
  refine r_append (c := (U5)) V.sl22 V.z5 rfl rfl rfl rfl (by repeat first | exact .head | apply Rem.tail) (by first | exact rdH (fun _ _ h => h) mm0 | exact rdH (fun _ _ h => h) mm1 | exact rdH (fun _ _ h => h) mm2 | exact rdH (fun _ _ h => h) mm3 | exact rdH (fun _ _ h => h) mm4 | exact rdH (fun _ _ h => h) mm5 | exact rdH (fun _ _ h => h) mm6 | exact rdH (fun _ _ h => h) mm7) (by omega) rfl ?_
  intro p42 c42
  refine o_val (v_assign rfl) rfl ?_
  refine o_nil ?_
  refine thn_n ?_
  refine w_seq ?_
  refine w_seq ?_
  refine w_region ?_
  refine o_val (v_assign rfl) rfl ?_
  refine o_nil ?_
  refine thn_n ?_
  refine w_block ?_
  rw [show PK b37 ([] ++ BitP.lowB 3 3) = PK b37 (BitP.lowB 3 3 ++ HuffP.bits InfP.fixL (B.take 0)) from by rw [List.take_zero, HuffP.bits_nil, List.append_nil, List.nil_append]]
  refine w_loop1 (fun (k : Nat) => [(0, .slice p B.length cap), (1, .int .u8 bk), (2, .slice pm M.length cm), (7, .pointer (some ⟨b37, 0, none⟩)), (8, .slice p42 (0 + B.length) c42), (9, .int .i64 (k : Int))]) (fun (k : Nat) => PK b37 (BitP.lowB 3 3 ++ HuffP.bits InfP.fixL (B.take k)) :: Row U5 p42 (0 + B.length) c42 ([] ++ B) :: RdR U5 p B.length B :: RdR U5 pm M.length M :: F) (fun (k : Nat) => k ≤ B.length) (fun (k : Nat) => B.length - k) (i1 (0) ?_ (.cons rfl (.cons rfl (.cons rfl (.cons rfl (.cons rfl (.cons rfl (.nil _))))))) (sub (.cons (by repeat first | exact .head | apply Rem.tail) (.cons (by repeat first | exact .head | apply Rem.tail) (.cons (by repeat first | exact .head | apply Rem.tail) (.cons (by repeat first | exact .head | apply Rem.tail) .nil)))) (by repeat first | exact .refl | apply Drop.skip))) ?_
  ·
   exact Nat.zero_le _
  intro k
  rintro hk
  refine w_seq ?_
  refine w_seq ?_
  refine w_region ?_
  refine o_val (v_move rfl) rfl ?_
  refine o_val (v_move rfl) rfl ?_
  refine o_val (v_len (ty' := 0) Try.underlying22 rfl) rfl ?_
  refine o_val (v_lss rfl rfl) rfl ?_
  refine o_nil ?_
  refine thn_n ?_
  first | refine w_condD rfl (fun h46 => ?_) (fun h46 => ?_) | refine w_cond rfl (fun h46 => ?_) (fun h46 => ?_)
  ·
   refine w_skip ?_
   refine thn_n ?_
   refine w_seq ?_
   refine w_block ?_
   have hk2 : k < B.length := by omega
   have hbk2 := hB.get k
   have hgk : U5.g B (k : Int) = B.getD k 0 := gE k (by omega)
   have hkl := HuffP.bits_len (HuffP.newE_vl InfP.fixL_ok).1 (B.take k)
   have hkt : (B.take k).length ≤ 200 := by rw [List.length_take]; omega
   have hk0 : (BitP.lowB 3 3 ++ HuffP.bits InfP.fixL (B.take k)).length ≤ 4000 := by rw [List.length_append, BitP.lowB_len]; omega
   refine w_region ?_
   refine o_val (v_move rfl) rfl ?_
   refine o_val (v_move rfl) rfl ?_
   refine o_val (v_move rfl) rfl ?_
   refine o_val (r_index (c := (U5)) V.sl22 rfl rfl (by first | exact own mm0 | exact own mm1 | exact own mm2 | exact own mm3 | exact own mm4 | exact own mm5 | exact own mm6 | exact own mm7 | exact own mm8 | exact own mm9 | exact own mm10 | exact own mm11 | exact rdH (fun _ _ h => h) mm0 | exact rdH (fun _ _ h => h) mm1 | exact rdH (fun _ _ h => h) mm2 | exact rdH (fun _ _ h => h) mm3 | exact rdH (fun _ _ h => h) mm4 | exact rdH (fun _ _ h => h) mm5 | exact rdH (fun _ _ h => h) mm6 | exact rdH (fun _ _ h => h) mm7 | exact rdH (fun _ _ h => h) mm8 | exact rdH (fun _ _ h => h) mm9 | exact rdH (fun _ _ h => h) mm10 | exact rdH (fun _ _ h => h) mm11) (by omega) (by omega)) rfl ?_
   refine o_val (r_load (c := (U5)) V.s5 rfl (by first | exact own mm0 | exact own mm1 | exact own mm2 | exact own mm3 | exact own mm4 | exact own mm5 | exact own mm6 | exact own mm7 | exact own mm8 | exact own mm9 | exact own mm10 | exact own mm11 | exact rdH (fun _ _ h => h) mm0 | exact rdH (fun _ _ h => h) mm1 | exact rdH (fun _ _ h => h) mm2 | exact rdH (fun _ _ h => h) mm3 | exact rdH (fun _ _ h => h) mm4 | exact rdH (fun _ _ h => h) mm5 | exact rdH (fun _ _ h => h) mm6 | exact rdH (fun _ _ h => h) mm7 | exact rdH (fun _ _ h => h) mm8 | exact rdH (fun _ _ h => h) mm9 | exact rdH (fun _ _ h => h) mm10 | exact rdH (fun _ _ h => h) mm11) (by omega) (by omega) rfl rfl) rfl ?_
   refine o_val (v_conv V.u5 Try.underlying3 rfl (wrapI (by omega) (by omega))) rfl ?_
   refine o_call (l_fixed b37 (BitP.lowB 3 3 ++ HuffP.bits InfP.fixL (B.take k)) (U5.g B (k : Int)) (by omega) (by omega)) V.b20  rfl (.cons (by repeat first | exact .head | apply Rem.tail) .nil) rfl ?_
   rintro _ _ ⟨rfl, rfl⟩
   rw [show U5.g B (k : Int) = B.getD k 0 from gE k (by omega), List.append_assoc, InfP.bits_next (by omega)]
   refine o_nil ?_
   refine blk_n ?_
   refine thn_n ?_
   refine w_region ?_
   refine o_val (v_move rfl) rfl ?_
   refine o_val (v_add rfl rfl (wrapI (by omega) (by omega))) rfl ?_
   refine o_val (v_assign rfl) rfl ?_
   refine o_nil ?_
   refine j1 (k + 1) ?_ (.cons rfl (.cons rfl (.cons rfl (.cons rfl (.cons rfl (.cons rfl (.nil _))))))) (sub (.cons (by repeat first | exact .head | apply Rem.tail) (.cons (by repeat first | exact .head | apply Rem.tail) (.cons (by repeat first | exact .head | apply Rem.tail) (.cons (by repeat first | exact .head | apply Rem.tail) .nil)))) (by repeat first | exact .refl | apply Drop.skip))
   exact ⟨by omega, by omega⟩
  ·
   refine w_exit ?_
   refine thn_e ?_
   refine thn_e ?_
   refine blk_x ?_
   refine thn_n ?_
   refine w_seq ?_
   refine w_seq ?_
   obtain rfl : k = B.length := by omega
   rw [show BitP.lowB 3 3 ++ HuffP.bits InfP.fixL (B.take B.length) = InfP.runsB B (1 + bk % 4) (M.take 0) from by rw [List.take_length]; exact (InfP.runsB_zero _ _ _).symm]
   refine w_region ?_
   refine o_val (v_assign rfl) rfl ?_
   refine o_nil ?_
   refine thn_n ?_
   refine w_block ?_
   rw [show Row U5 p42 (0 + B.length) c42 ([] ++ B) = Row U5 p42 (InfP.rowsO (1 + bk % 4) (M.take 0) B).length c42 (InfP.rowsO (1 + bk % 4) (M.take 0) B) from by rw [InfP.rowsO_zero, Nat.zero_add, List.nil_append], show ((8 : Nat), Value.slice p42 (0 + B.length) c42) = (8, .slice p42 (InfP.rowsO (1 + bk % 4) (M.take 0) B).length c42) from by rw [InfP.rowsO_zero, Nat.zero_add]]
   refine w_loop3 (fun (i : Nat) (pw : Option Addr) (cw : Nat) => [(0, .slice p B.length cap), (1, .int .u8 bk), (2, .slice pm M.length cm), (7, .pointer (some ⟨b37, 0, none⟩)), (8, .slice pw (InfP.rowsO (1 + bk % 4) (M.take i) B).length cw), (10, .int .i64 (i : Int))]) (fun (i : Nat) (pw : Option Addr) (cw : Nat) => PK b37 (InfP.runsB B (1 + bk % 4) (M.take i)) :: Row U5 pw (InfP.rowsO (1 + bk % 4) (M.take i) B).length cw (InfP.rowsO (1 + bk % 4) (M.take i) B) :: RdR U5 p B.length B :: RdR U5 pm M.length M :: F) (fun (i : Nat) (pw : Option Addr) (cw : Nat) => i ≤ M.length ∧ (i = 0 ∨ (1 + bk % 4) ≤ (B.length : Int))) (fun (i : Nat) (pw : Option Addr) (cw : Nat) => M.length - i) (i3 (0) (p42) (c42) ?_ (.cons rfl (.cons rfl (.cons rfl (.cons rfl (.cons rfl (.cons rfl (.nil _))))))) (sub (.cons (by repeat first | exact .head | apply Rem.tail) (.cons (by repeat first | exact .head | apply Rem.tail) (.cons (by repeat first | exact .head | apply Rem.tail) (.cons (by repeat first | exact .head | apply Rem.tail) .nil)))) (by repeat first | exact .refl | apply Drop.skip))) ?_
   ·
    exact ⟨Nat.zero_le _, .inl rfl⟩
   intro i pw cw
   rintro ⟨hi, hdi⟩
   refine w_seq ?_
   refine w_seq ?_
   refine w_region ?_
   refine o_val (v_move rfl) rfl ?_
   refine o_val (v_move rfl) rfl ?_
   refine o_val (v_len (ty' := 0) Try.underlying22 rfl) rfl ?_
   refine o_val (v_lss rfl rfl) rfl ?_
   refine o_nil ?_
   refine thn_n ?_
   first | refine w_condD rfl (fun h59 => ?_) (fun h59 => ?_) | refine w_cond rfl (fun h59 => ?_) (fun h59 => ?_)
   ·
    refine w_skip ?_
    refine thn_n ?_
    refine w_seq ?_
    refine w_block ?_
    refine w_seq ?_
    have hmb := hM.get i
    have hgm : U5.g M (i : Int) = M.getD i 0 := gE i (by omega)
    have hi2 : i < M.length := by omega
    have hbl := InfP.runs_len (B := B) (M := M) (i := i) (d := (1 + bk % 4)) (by omega) hl2 hl3
    have hol0 := InfP.rowsO_len (1 + bk % 4) (M.take i) B
    have hmt : (M.take i).length ≤ 20 := by rw [List.length_take]; omega
    have hw1 := InfP.wbf_len (s := 254 + (3 + (M.getD i 0) % 8)) (by omega)
    have hw2 := InfP.fxN_le (254 + (3 + (M.getD i 0) % 8))
    have hw3 := InfP.wbd_len (s := (1 + bk % 4) - 1) (by omega)
    refine w_region ?_
    refine o_val (v_move rfl) rfl ?_
    refine o_val (v_move rfl) rfl ?_
    refine o_val (r_index (c := (U5)) V.sl22 rfl rfl (by first | exact own mm0 | exact own mm1 | exact own mm2 | exact own mm3 | exact own mm4 | exact own mm5 | exact own mm6 | exact own mm7 | exact own mm8 | exact own mm9 | exact own mm10 | exact own mm11 | exact rdH (fun _ _ h => h) mm0 | exact rdH (fun _ _ h => h) mm1 | exact rdH (fun _ _ h => h) mm2 | exact rdH (fun _ _ h => h) mm3 | exact rdH (fun _ _ h => h) mm4 | exact rdH (fun _ _ h => h) mm5 | exact rdH (fun _ _ h => h) mm6 | exact rdH (fun _ _ h => h) mm7 | exact rdH (fun _ _ h => h) mm8 | exact rdH (fun _ _ h => h) mm9 | exact rdH (fun _ _ h => h) mm10 | exact rdH (fun _ _ h => h) mm11) (by omega) (by omega)) rfl ?_
    refine o_val (r_load (c := (U5)) V.s5 rfl (by first | exact own mm0 | exact own mm1 | exact own mm2 | exact own mm3 | exact own mm4 | exact own mm5 | exact own mm6 | exact own mm7 | exact own mm8 | exact own mm9 | exact own mm10 | exact own mm11 | exact rdH (fun _ _ h => h) mm0 | exact rdH (fun _ _ h => h) mm1 | exact rdH (fun _ _ h => h) mm2 | exact rdH (fun _ _ h => h) mm3 | exact rdH (fun _ _ h => h) mm4 | exact rdH (fun _ _ h => h) mm5 | exact rdH (fun _ _ h => h) mm6 | exact rdH (fun _ _ h => h) mm7 | exact rdH (fun _ _ h => h) mm8 | exact rdH (fun _ _ h => h) mm9 | exact rdH (fun _ _ h => h) mm10 | exact rdH (fun _ _ h => h) mm11) (by omega) (by omega) rfl rfl) rfl ?_
    refine o_val (v_conv V.u5 Try.underlying3 rfl (wrapI (by omega) (by omega))) rfl ?_
    refine o_val (v_rem rfl rfl (by omega) (remI (by omega))) rfl ?_
    refine o_val (v_add rfl rfl (wrapI (by omega) (by omega))) rfl ?_
    refine o_val (v_move rfl) rfl ?_
    refine o_val (v_conv V.u5 Try.underlying3 rfl (wrapI (by omega) (by omega))) rfl ?_
    refine o_val (v_rem rfl rfl (by omega) (remI (by omega))) rfl ?_
    refine o_val (v_add rfl rfl (wrapI (by omega) (by omega))) rfl ?_
    refine o_val (v_assign rfl) rfl ?_
    refine o_val (v_assign rfl) rfl ?_
    refine o_nil ?_
    refine thn_n ?_
    refine w_seq ?_
    rw [hgm]
    refine w_region ?_
    refine o_val (v_move rfl) rfl ?_
    refine o_val (v_move rfl) rfl ?_
    refine o_val (v_add rfl rfl (wrapI (by omega) (by omega))) rfl ?_
    refine o_call (l_fixed b37 (InfP.runsB B (1 + bk % 4) (M.take i)) (254 + (3 + (M.getD i 0) % 8)) (by omega) (by omega)) V.b20  rfl (.cons (by repeat first | exact .head | apply Rem.tail) .nil) rfl ?_
    rintro _ _ ⟨rfl, rfl⟩
    refine o_nil ?_
    refine thn_n ?_
    refine w_seq ?_
    refine w_seq ?_
    refine w_region ?_
    refine o_val (v_assign rfl) rfl ?_
    refine o_nil ?_
    refine thn_n ?_
    refine w_block ?_
    rw [show PK b37 ((InfP.runsB B (1 + bk % 4) (M.take i)) ++ HuffP.wb InfP.fixL (254 + (3 + (M.getD i 0) % 8))) = PK b37 (((InfP.runsB B (1 + bk % 4) (M.take i)) ++ HuffP.wb InfP.fixL (254 + (3 + (M.getD i 0) % 8))) ++ (HuffP.wb InfP.fixD ((1 + bk % 4) - 1)).take 0) from by rw [List.take_zero, List.append_nil]]
    rw [show ((13 : Nat), Value.int .i64 4) = (13, .int .i64 (4 - ((0 : Nat) : Int))) from by simp]
    refine w_loop1 (fun (j : Nat) => [(0, .slice p B.length cap), (1, .int .u8 bk), (2, .slice pm M.length cm), (7, .pointer (some ⟨b37, 0, none⟩)), (8, .slice pw (InfP.rowsO (1 + bk % 4) (M.take i) B).length cw), (10, .int .i64 (i : Int)), (11, .int .i64 (3 + (M.getD i 0) % 8)), (12, .int .i64 (1 + bk % 4)), (13, .int .i64 (4 - (j : Int)))]) (fun (j : Nat) => PK b37 (((InfP.runsB B (1 + bk % 4) (M.take i)) ++ HuffP.wb InfP.fixL (254 + (3 + (M.getD i 0) % 8))) ++ (HuffP.wb InfP.fixD ((1 + bk % 4) - 1)).take j) :: Row U5 pw (InfP.rowsO (1 + bk % 4) (M.take i) B).length cw (InfP.rowsO (1 + bk % 4) (M.take i) B) :: RdR U5 p B.length B :: RdR U5 pm M.length M :: F) (fun (j : Nat) => j ≤ 5) (fun (j : Nat) => 5 - j) (i1 (0) ?_ (.cons rfl (.cons rfl (.cons rfl (.cons rfl (.cons rfl (.cons rfl (.cons rfl (.cons rfl (.cons rfl (.nil _)))))))))) (sub (.cons (by repeat first | exact .head | apply Rem.tail) (.cons (by repeat first | exact .head | apply Rem.tail) (.cons (by repeat first | exact .head | apply Rem.tail) (.cons (by repeat first | exact .head | apply Rem.tail) .nil)))) (by repeat first | exact .refl | apply Drop.skip))) ?_
    ·
     exact Nat.zero_le _
    intro j
    rintro hj
    refine w_seq ?_
    refine w_seq ?_
    refine w_region ?_
    refine o_val (v_move rfl) rfl ?_
    refine o_val (v_geq rfl rfl) rfl ?_
    refine o_nil ?_
    refine thn_n ?_
    first | refine w_condD rfl (fun h78 => ?_) (fun h78 => ?_) | refine w_cond rfl (fun h78 => ?_) (fun h78 => ?_)
    ·
     refine w_skip ?_
     refine thn_n ?_
     refine w_seq ?_
     refine w_block ?_
     have hdn := BitP.div_nn (x := (1 + bk % 4) - 1) (by omega) (4 - j)
     have hbl2 : (((InfP.runsB B (1 + bk % 4) (M.take i)) ++ HuffP.wb InfP.fixL (254 + (3 + (M.getD i 0) % 8))) ++ (HuffP.wb InfP.fixD ((1 + bk % 4) - 1)).take j).length ≤ 4100 := by rw [List.length_append, List.length_append, List.length_take]; omega
     refine w_region ?_
     refine o_val (v_move rfl) rfl ?_
     refine o_val (v_move rfl) rfl ?_
     refine o_val (v_sub rfl rfl (wrapI (by omega) (by omega))) rfl ?_
     refine o_val (v_move rfl) rfl ?_
     refine o_val (v_conv V.u3 Try.underlying39 rfl (wrapU (by omega) (by omega))) rfl ?_
     refine o_val (v_shr (r := (((1 + bk % 4) - 1) / 2 ^ (4 - j))) rfl rfl (by omega) (BitP.shrI (k := 4 - j) (by omega) (by omega))) rfl ?_
     refine o_val (v_and (r := (((1 + bk % 4) - 1) / 2 ^ (4 - j)) % 2) rfl rfl (BitP.and_one64 hdn.1 (by omega))) rfl ?_
     refine o_call (d_put b37 (((InfP.runsB B (1 + bk % 4) (M.take i)) ++ HuffP.wb InfP.fixL (254 + (3 + (M.getD i 0) % 8))) ++ (HuffP.wb InfP.fixD ((1 + bk % 4) - 1)).take j) ((((1 + bk % 4) - 1) / 2 ^ (4 - j)) % 2) 1 (by omega) (by decide) (by omega)) V.b19  rfl (.cons (by repeat first | exact .head | apply Rem.tail) .nil) rfl ?_
     rintro _ _ ⟨rfl, rfl⟩
     rw [show BitP.lowB ((((1 + bk % 4) - 1) / 2 ^ (4 - j)) % 2) 1 = [(((1 + bk % 4) - 1) / 2 ^ (4 - j)) % 2 % 2] from BitP.lowB_one _, show (((1 + bk % 4) - 1) / 2 ^ (4 - j)) % 2 % 2 = (((1 + bk % 4) - 1) / 2 ^ (4 - j)) % 2 from by omega, List.append_assoc, InfP.wbd_take (by omega) (by omega)]
     refine o_nil ?_
     refine blk_n ?_
     refine thn_n ?_
     refine w_region ?_
     refine o_val (v_move rfl) rfl ?_
     refine o_val (v_sub rfl rfl (wrapI (by omega) (by omega))) rfl ?_
     refine o_val (v_assign rfl) rfl ?_
     refine o_nil ?_
     rw [show (4 - (j : Int)) - 1 = 4 - ((j + 1 : Nat) : Int) from by omega]
     refine j1 (j + 1) ?_ (.cons rfl (.cons rfl (.cons rfl (.cons rfl (.cons rfl (.cons rfl (.cons rfl (.cons rfl (.cons rfl (.nil _)))))))))) (sub (.cons (by repeat first | exact .head | apply Rem.tail) (.cons (by repeat first | exact .head | apply Rem.tail) (.cons (by repeat first | exact .head | apply Rem.tail) (.cons (by repeat first | exact .head | apply Rem.tail) .nil)))) (by repeat first | exact .refl | apply Drop.skip))
     exact ⟨by omega, by omega⟩
    ·
     refine w_exit ?_
     refine thn_e ?_
     refine thn_e ?_
     refine blk_x ?_
     refine thn_n ?_
     refine w_seq ?_
     refine w_seq ?_
     obtain rfl : j = 5 := by omega
     rw [show (HuffP.wb InfP.fixD ((1 + bk % 4) - 1)).take 5 = HuffP.wb InfP.fixD ((1 + bk % 4) - 1) from List.take_of_length_le (by omega)]
     refine w_region ?_
     refine o_val (v_assign rfl) rfl ?_
     refine o_nil ?_
     refine thn_n ?_
     refine w_block ?_
     rw [show Row U5 pw (InfP.rowsO (1 + bk % 4) (M.take i) B).length cw (InfP.rowsO (1 + bk % 4) (M.take i) B) = Row U5 pw (InfP.cpy (1 + bk % 4).toNat 0 (InfP.rowsO (1 + bk % 4) (M.take i) B)).length cw (InfP.cpy (1 + bk % 4).toNat 0 (InfP.rowsO (1 + bk % 4) (M.take i) B)) from by rw [InfP.cpy_zero], show ((8 : Nat), Value.slice pw (InfP.rowsO (1 + bk % 4) (M.take i) B).length cw) = (8, .slice pw (InfP.cpy (1 + bk % 4).toNat 0 (InfP.rowsO (1 + bk % 4) (M.take i) B)).length cw) from by rw [InfP.cpy_zero]]
     refine w_loop3 (fun (kk : Nat) (px : Option Addr) (cx : Nat) => [(0, .slice p B.length cap), (1, .int .u8 bk), (2, .slice pm M.length cm), (7, .pointer (some ⟨b37, 0, none⟩)), (8, .slice px (InfP.cpy (1 + bk % 4).toNat kk (InfP.rowsO (1 + bk % 4) (M.take i) B)).length cx), (10, .int .i64 (i : Int)), (11, .int .i64 (3 + (M.getD i 0) % 8)), (12, .int .i64 (1 + bk % 4)), (14, .int .i64 (kk : Int))]) (fun (kk : Nat) (px : Option Addr) (cx : Nat) => PK b37 (((InfP.runsB B (1 + bk % 4) (M.take i)) ++ HuffP.wb InfP.fixL (254 + (3 + (M.getD i 0) % 8))) ++ HuffP.wb InfP.fixD ((1 + bk % 4) - 1)) :: Row U5 px (InfP.cpy (1 + bk % 4).toNat kk (InfP.rowsO (1 + bk % 4) (M.take i) B)).length cx (InfP.cpy (1 + bk % 4).toNat kk (InfP.rowsO (1 + bk % 4) (M.take i) B)) :: RdR U5 p B.length B :: RdR U5 pm M.length M :: F) (fun (kk : Nat) (px : Option Addr) (cx : Nat) => kk ≤ (3 + (M.getD i 0) % 8).toNat ∧ (¬ (1 + bk % 4).toNat ≤ (InfP.rowsO (1 + bk % 4) (M.take i) B).length → kk = 0)) (fun (kk : Nat) (px : Option Addr) (cx : Nat) => (3 + (M.getD i 0) % 8).toNat - kk) (i3 (0) (pw) (cw) ?_ (.cons rfl (.cons rfl (.cons rfl (.cons rfl (.cons rfl (.cons rfl (.cons rfl (.cons rfl (.cons rfl (.nil _)))))))))) (sub (.cons (by repeat first | exact .head | apply Rem.tail) (.cons (by repeat first | exact .head | apply Rem.tail) (.cons (by repeat first | exact .head | apply Rem.tail) (.cons (by repeat first | exact .head | apply Rem.tail) .nil)))) (by repeat first | exact .refl | apply Drop.skip))) ?_
     ·
      exact ⟨Nat.zero_le _, fun _ => rfl⟩
     intro kk px cx
     rintro ⟨hkk, hkd⟩
     rcases (InfP.kl_or kk (3 + (M.getD i 0) % 8).toNat ((1 + bk % 4).toNat ≤ (InfP.rowsO (1 + bk % 4) (M.take i) B).length)) with ⟨hk1, hk2⟩ | ⟨hk1, hk2⟩ | hk1
     ·
      refine w_seq ?_
      refine w_seq ?_
      refine w_region ?_
      refine o_val (v_move rfl) rfl ?_
      refine o_val (v_move rfl) rfl ?_
      refine o_val (v_T (v_lss rfl rfl) (by omega)) rfl ?_
      refine o_val (v_move rfl) rfl ?_
      refine o_want rfl ?_
      refine o_val (v_move rfl) rfl ?_
      refine o_want rfl ?_
      refine o_val (v_move rfl) rfl ?_
      refine o_want rfl ?_
      refine o_val (v_len (ty' := 0) Try.underlying22 rfl) rfl ?_
      refine o_want rfl ?_
      refine o_val (v_T (v_leq rfl rfl) (by rw [InfP.cpy_len]; omega)) rfl ?_
      refine o_val (v_pickT rfl rfl) rfl ?_
      refine o_nil ?_
      refine thn_n ?_
      refine w_condT rfl ?_
      refine w_skip ?_
      refine thn_n ?_
      refine w_seq ?_
      refine w_block ?_
      have hcl := InfP.cpy_len (1 + bk % 4).toNat kk (InfP.rowsO (1 + bk % 4) (M.take i) B)
      have hge : (U5.g (InfP.cpy (1 + bk % 4).toNat kk (InfP.rowsO (1 + bk % 4) (M.take i) B)) (((InfP.cpy (1 + bk % 4).toNat kk (InfP.rowsO (1 + bk % 4) (M.take i) B)).length : Int) - (1 + bk % 4))) = (InfP.cpy (1 + bk % 4).toNat kk (InfP.rowsO (1 + bk % 4) (M.take i) B)).getD ((InfP.cpy (1 + bk % 4).toNat kk (InfP.rowsO (1 + bk % 4) (M.take i) B)).length - (1 + bk % 4).toNat) 0 := gE _ (by omega)
      refine w_region ?_
      refine o_val (v_move rfl) rfl ?_
      refine o_val (v_move rfl) rfl ?_
      refine o_val (v_move rfl) rfl ?_
      refine o_val (v_len (ty' := 0) Try.underlying22 rfl) rfl ?_
      refine o_val (v_move rfl) rfl ?_
      refine o_val (v_sub rfl rfl (wrapI (by omega) (by omega))) rfl ?_
      refine o_val (r_index (c := (U5)) V.sl22 rfl rfl (by first | exact own mm0 | exact own mm1 | exact own mm2 | exact own mm3 | exact own mm4 | exact own mm5 | exact own mm6 | exact own mm7 | exact own mm8 | exact own mm9 | exact own mm10 | exact own mm11 | exact rdH (fun _ _ h => h) mm0 | exact rdH (fun _ _ h => h) mm1 | exact rdH (fun _ _ h => h) mm2 | exact rdH (fun _ _ h => h) mm3 | exact rdH (fun _ _ h => h) mm4 | exact rdH (fun _ _ h => h) mm5 | exact rdH (fun _ _ h => h) mm6 | exact rdH (fun _ _ h => h) mm7 | exact rdH (fun _ _ h => h) mm8 | exact rdH (fun _ _ h => h) mm9 | exact rdH (fun _ _ h => h) mm10 | exact rdH (fun _ _ h => h) mm11) (by omega) (by omega)) rfl ?_
      refine o_val (r_load (c := (U5)) V.s5 rfl (by first | exact own mm0 | exact own mm1 | exact own mm2 | exact own mm3 | exact own mm4 | exact own mm5 | exact own mm6 | exact own mm7 | exact own mm8 | exact own mm9 | exact own mm10 | exact own mm11 | exact rdH (fun _ _ h => h) mm0 | exact rdH (fun _ _ h => h) mm1 | exact rdH (fun _ _ h => h) mm2 | exact rdH (fun _ _ h => h) mm3 | exact rdH (fun _ _ h => h) mm4 | exact rdH (fun _ _ h => h) mm5 | exact rdH (fun _ _ h => h) mm6 | exact rdH (fun _ _ h => h) mm7 | exact rdH (fun _ _ h => h) mm8 | exact rdH (fun _ _ h => h) mm9 | exact rdH (fun _ _ h => h) mm10 | exact rdH (fun _ _ h => h) mm11) (by omega) (by omega) rfl rfl) rfl ?_
      refine r_build (U5) [(U5.g (InfP.cpy (1 + bk % 4).toNat kk (InfP.rowsO (1 + bk % 4) (M.take i) B)) (((InfP.cpy (1 + bk % 4).toNat kk (InfP.rowsO (1 + bk % 4) (M.take i) B)).length : Int) - (1 + bk % 4)))] V.sl22 V.z5 rfl rfl rfl rfl rfl rfl ?_
      intro b108
      refine r_append (c := (U5)) V.sl22 V.z5 rfl rfl rfl rfl (by repeat first | exact .head | apply Rem.tail) (by first | exact own mm0 | exact own mm1 | exact own mm2 | exact own mm3 | exact own mm4 | exact own mm5 | exact own mm6 | exact own mm7 | exact own mm8 | exact own mm9 | exact own mm10 | exact own mm11 | exact rdH (fun _ _ h => h) mm0 | exact rdH (fun _ _ h => h) mm1 | exact rdH (fun _ _ h => h) mm2 | exact rdH (fun _ _ h => h) mm3 | exact rdH (fun _ _ h => h) mm4 | exact rdH (fun _ _ h => h) mm5 | exact rdH (fun _ _ h => h) mm6 | exact rdH (fun _ _ h => h) mm7 | exact rdH (fun _ _ h => h) mm8 | exact rdH (fun _ _ h => h) mm9 | exact rdH (fun _ _ h => h) mm10 | exact rdH (fun _ _ h => h) mm11) (by omega) rfl ?_
      intro p109 c109
      refine o_val (v_assign rfl) rfl ?_
      refine o_nil ?_
      refine blk_n ?_
      refine thn_n ?_
      refine w_region ?_
      refine o_val (v_move rfl) rfl ?_
      refine o_val (v_add rfl rfl (wrapI (by omega) (by omega))) rfl ?_
      refine o_val (v_assign rfl) rfl ?_
      refine o_nil ?_
      rw [hge, show (InfP.cpy (1 + bk % 4).toNat kk (InfP.rowsO (1 + bk % 4) (M.take i) B)).length + 1 = (InfP.cpy (1 + bk % 4).toNat (kk + 1) (InfP.rowsO (1 + bk % 4) (M.take i) B)).length from by rw [InfP.cpy_len, InfP.cpy_len]; rfl, ← InfP.cpy_succ]
      refine j3 (kk + 1) (_) (_) ?_ (.cons rfl (.cons rfl (.cons rfl (.cons rfl (.cons rfl (.cons rfl (.cons rfl (.cons rfl (.cons rfl (.nil _)))))))))) (sub (.cons (by repeat first | exact .head | apply Rem.tail) (.cons (by repeat first | exact .head | apply Rem.tail) (.cons (by repeat first | exact .head | apply Rem.tail) (.cons (by repeat first | exact .head | apply Rem.tail) .nil)))) (by repeat first | exact .refl | apply Drop.skip))
      exact ⟨⟨by omega, fun h => absurd hk2 h⟩, by omega⟩
     ·
      refine w_seq ?_
      refine w_seq ?_
      refine w_region ?_
      refine o_val (v_move rfl) rfl ?_
      refine o_val (v_move rfl) rfl ?_
      refine o_val (v_T (v_lss rfl rfl) (by omega)) rfl ?_
      refine o_val (v_move rfl) rfl ?_
      refine o_want rfl ?_
      refine o_val (v_move rfl) rfl ?_
      refine o_want rfl ?_
      refine o_val (v_move rfl) rfl ?_
      refine o_want rfl ?_
      refine o_val (v_len (ty' := 0) Try.underlying22 rfl) rfl ?_
      refine o_want rfl ?_
      refine o_val (v_F (v_leq rfl rfl) (by rw [hkd hk2]; show ¬ (1 + bk % 4 ≤ ((InfP.cpy _ 0 _).length : Int)); rw [InfP.cpy_len]; omega)) rfl ?_
      refine o_val (v_pickT rfl rfl) rfl ?_
      refine o_nil ?_
      refine thn_n ?_
      refine w_condF rfl ?_
      refine w_exit ?_
      refine thn_e ?_
      refine thn_e ?_
      refine blk_x ?_
      refine thn_n ?_
      rcases (Nat.lt_or_ge B.length (1 + bk % 4).toNat) with hdl | hdl
      ·
       refine w_seq ?_
       have hk1e : kk = (3 + (M.getD i 0) % 8).toNat ∨ ¬ (1 + bk % 4).toNat ≤ (InfP.rowsO (1 + bk % 4) (M.take i) B).length := by first | exact .inl (by omega) | exact .inr hk2
       refine w_region ?_
       refine o_val (v_move rfl) rfl ?_
       refine o_val (v_move rfl) rfl ?_
       refine o_val (v_len (ty' := 0) Try.underlying22 rfl) rfl ?_
       refine o_val (v_T (v_gtr rfl rfl) (by omega)) rfl ?_
       refine o_nil ?_
       refine thn_n ?_
       refine w_condT rfl ?_
       refine w_seq ?_
       have hi0 : i = 0 := by omega
       have hbad : (((InfP.runsB B (1 + bk % 4) (M.take i)) ++ HuffP.wb InfP.fixL (254 + (3 + (M.getD i 0) % 8))) ++ HuffP.wb InfP.fixD ((1 + bk % 4) - 1)) = InfP.runsB B (1 + bk % 4) [M.getD 0 0] := by rw [InfP.runsB_next hi2, hi0, InfP.take_next (show 0 < M.length by omega)]; rfl
       have hw01 : InfP.B01 (((InfP.runsB B (1 + bk % 4) (M.take i)) ++ HuffP.wb InfP.fixL (254 + (3 + (M.getD i 0) % 8))) ++ HuffP.wb InfP.fixD ((1 + bk % 4) - 1)) := by rw [hbad]; exact InfP.runs_01 _ _ _
       have hwl : (((InfP.runsB B (1 + bk % 4) (M.take i)) ++ HuffP.wb InfP.fixL (254 + (3 + (M.getD i 0) % 8))) ++ HuffP.wb InfP.fixD ((1 + bk % 4) - 1)).length ≤ 4100 := by rw [List.length_append, List.length_append]; omega
       refine w_region ?_
       refine o_val (v_move rfl) rfl ?_
       refine o_call (d_pout b37 (((InfP.runsB B (1 + bk % 4) (M.take i)) ++ HuffP.wb InfP.fixL (254 + (3 + (M.getD i 0) % 8))) ++ HuffP.wb InfP.fixD ((1 + bk % 4) - 1)) hw01 (by omega)) V.b21  rfl (.cons (by repeat first | exact .head | apply Rem.tail) .nil) rfl ?_
       rintro _ _ ⟨o9, q9, c9, hpq, hol, rfl, rfl⟩
       refine o_call (c_all q9 c9 o9 (Row U5 q9 o9.length c9 o9) (fun _ _ hh => hh.rd) (by omega) hpq.byt 65536 (by decide) (([] : List Int), (0 : Int), (4 : Int)) (InfP.runs_bad (d := (1 + bk % 4)) (m := M.getD 0 0) hB (by omega) (by omega) (by omega) (by rw [← hbad]; exact hpq))) V.b11  rfl (.cons (by repeat first | exact .head | apply Rem.tail) .nil) rfl ?_
       rintro _ _ ⟨q8, c8, rfl, rfl⟩
       refine o_val (v_move rfl) rfl ?_
       refine o_val (v_extract rfl rfl) rfl ?_
       refine o_val (v_extract rfl rfl) rfl ?_
       refine o_val (v_extract rfl rfl) rfl ?_
       refine o_val (v_assign rfl) rfl ?_
       refine o_val (v_assign rfl) rfl ?_
       refine o_val (v_assign rfl) rfl ?_
       refine o_nil ?_
       refine thn_n ?_
       refine w_seq ?_
       refine w_region ?_
       refine o_val (v_move rfl) rfl ?_
       refine o_val (v_T (v_eql rfl rfl) rfl) rfl ?_
       refine o_val (v_move rfl) rfl ?_
       refine o_want rfl ?_
       refine o_val (v_move rfl) rfl ?_
       refine o_want rfl ?_
       refine o_val (v_len (ty' := 0) Try.underlying22 rfl) rfl ?_
       refine o_want rfl ?_
       refine o_val (v_T (v_eql rfl rfl) rfl) rfl ?_
       refine o_val (v_pickT rfl rfl) rfl ?_
       refine o_val (v_assign rfl) rfl ?_
       refine o_nil ?_
       refine thn_n ?_
       refine w_ret ?_
       refine (blk_r (thn_r (thn_r (blk_r (thn_r ?_)))))
       exact ret_ok (G := [RdR U5 p B.length B, RdR U5 pm M.length M]) (res1 rfl) ⟨rfl, rfl⟩ (sub (.cons (by repeat first | exact .head | apply Rem.tail) (.cons (by repeat first | exact .head | apply Rem.tail) .nil)) (by repeat first | exact .refl | apply Drop.skip))
      ·
       refine w_seq ?_
       have hk1e : kk = (3 + (M.getD i 0) % 8).toNat ∨ ¬ (1 + bk % 4).toNat ≤ (InfP.rowsO (1 + bk % 4) (M.take i) B).length := by first | exact .inl (by omega) | exact .inr hk2
       refine w_region ?_
       refine o_val (v_move rfl) rfl ?_
       refine o_val (v_move rfl) rfl ?_
       refine o_val (v_len (ty' := 0) Try.underlying22 rfl) rfl ?_
       refine o_val (v_F (v_gtr rfl rfl) (by omega)) rfl ?_
       refine o_nil ?_
       refine thn_n ?_
       refine w_condF rfl ?_
       refine w_skip ?_
       refine blk_n ?_
       refine thn_n ?_
       refine w_region ?_
       refine o_val (v_move rfl) rfl ?_
       refine o_val (v_add rfl rfl (wrapI (by omega) (by omega))) rfl ?_
       refine o_val (v_assign rfl) rfl ?_
       refine o_nil ?_
       have hkn : kk = (3 + (M.getD i 0) % 8).toNat := by rcases hk1e with h | h; exact h; exfalso; omega
       have hco : (InfP.cpy (1 + bk % 4).toNat kk (InfP.rowsO (1 + bk % 4) (M.take i) B)) = InfP.rowsO (1 + bk % 4) (M.take (i + 1)) B := by rw [hkn]; exact InfP.rowsO_next hi2
       rw [InfP.runsB_next hi2, hco]
       refine j3 (i + 1) _ _ ?_ (.cons rfl (.cons rfl (.cons rfl (.cons rfl (.cons rfl (.cons rfl (.nil _))))))) (sub (.cons (by repeat first | exact .head | apply Rem.tail) (.cons (by repeat first | exact .head | apply Rem.tail) (.cons (by repeat first | exact .head | apply Rem.tail) (.cons (by repeat first | exact .head | apply Rem.tail) .nil)))) (by repeat first | exact .refl | apply Drop.skip))
       exact ⟨⟨by omega, .inr (by omega)⟩, by omega⟩
     ·
      refine w_seq ?_
      refine w_seq ?_
      refine w_region ?_
      refine o_val (v_move rfl) rfl ?_
      refine o_val (v_move rfl) rfl ?_
      refine o_val (v_F (v_lss rfl rfl) (by omega)) rfl ?_
      refine o_val (v_move rfl) rfl ?_
      refine o_pass rfl rfl rfl ?_
      refine o_pass rfl rfl rfl ?_
      refine o_pass rfl rfl rfl ?_
      refine o_pass rfl rfl rfl ?_
      refine o_val (v_pickF rfl rfl) rfl ?_
      refine o_nil ?_
      refine thn_n ?_
      refine w_condF rfl ?_
      refine w_exit ?_
      refine thn_e ?_
      refine thn_e ?_
      refine blk_x ?_
      refine thn_n ?_
      rcases (Nat.lt_or_ge B.length (1 + bk % 4).toNat) with hdl | hdl
      ·
       refine w_seq ?_
       have hk1e : kk = (3 + (M.getD i 0) % 8).toNat ∨ ¬ (1 + bk % 4).toNat ≤ (InfP.rowsO (1 + bk % 4) (M.take i) B).length := by first | exact .inl (by omega) | exact .inr hk2
       refine w_region ?_
       refine o_val (v_move rfl) rfl ?_
       refine o_val (v_move rfl) rfl ?_
       refine o_val (v_len (ty' := 0) Try.underlying22 rfl) rfl ?_
       refine o_val (v_T (v_gtr rfl rfl) (by omega)) rfl ?_
       refine o_nil ?_
       refine thn_n ?_
       refine w_condT rfl ?_
       refine w_seq ?_
       have hi0 : i = 0 := by omega
       have hbad : (((InfP.runsB B (1 + bk % 4) (M.take i)) ++ HuffP.wb InfP.fixL (254 + (3 + (M.getD i 0) % 8))) ++ HuffP.wb InfP.fixD ((1 + bk % 4) - 1)) = InfP.runsB B (1 + bk % 4) [M.getD 0 0] := by rw [InfP.runsB_next hi2, hi0, InfP.take_next (show 0 < M.length by omega)]; rfl
       have hw01 : InfP.B01 (((InfP.runsB B (1 + bk % 4) (M.take i)) ++ HuffP.wb InfP.fixL (254 + (3 + (M.getD i 0) % 8))) ++ HuffP.wb InfP.fixD ((1 + bk % 4) - 1)) := by rw [hbad]; exact InfP.runs_01 _ _ _
       have hwl : (((InfP.runsB B (1 + bk % 4) (M.take i)) ++ HuffP.wb InfP.fixL (254 + (3 + (M.getD i 0) % 8))) ++ HuffP.wb InfP.fixD ((1 + bk % 4) - 1)).length ≤ 4100 := by rw [List.length_append, List.length_append]; omega
       refine w_region ?_
       refine o_val (v_move rfl) rfl ?_
       refine o_call (d_pout b37 (((InfP.runsB B (1 + bk % 4) (M.take i)) ++ HuffP.wb InfP.fixL (254 + (3 + (M.getD i 0) % 8))) ++ HuffP.wb InfP.fixD ((1 + bk % 4) - 1)) hw01 (by omega)) V.b21  rfl (.cons (by repeat first | exact .head | apply Rem.tail) .nil) rfl ?_
       rintro _ _ ⟨o9, q9, c9, hpq, hol, rfl, rfl⟩
       refine o_call (c_all q9 c9 o9 (Row U5 q9 o9.length c9 o9) (fun _ _ hh => hh.rd) (by omega) hpq.byt 65536 (by decide) (([] : List Int), (0 : Int), (4 : Int)) (InfP.runs_bad (d := (1 + bk % 4)) (m := M.getD 0 0) hB (by omega) (by omega) (by omega) (by rw [← hbad]; exact hpq))) V.b11  rfl (.cons (by repeat first | exact .head | apply Rem.tail) .nil) rfl ?_
       rintro _ _ ⟨q8, c8, rfl, rfl⟩
       refine o_val (v_move rfl) rfl ?_
       refine o_val (v_extract rfl rfl) rfl ?_
       refine o_val (v_extract rfl rfl) rfl ?_
       refine o_val (v_extract rfl rfl) rfl ?_
       refine o_val (v_assign rfl) rfl ?_
       refine o_val (v_assign rfl) rfl ?_
       refine o_val (v_assign rfl) rfl ?_
       refine o_nil ?_
       refine thn_n ?_
       refine w_seq ?_
       refine w_region ?_
       refine o_val (v_move rfl) rfl ?_
       refine o_val (v_T (v_eql rfl rfl) rfl) rfl ?_
       refine o_val (v_move rfl) rfl ?_
       refine o_want rfl ?_
       refine o_val (v_move rfl) rfl ?_
       refine o_want rfl ?_
       refine o_val (v_len (ty' := 0) Try.underlying22 rfl) rfl ?_
       refine o_want rfl ?_
       refine o_val (v_T (v_eql rfl rfl) rfl) rfl ?_
       refine o_val (v_pickT rfl rfl) rfl ?_
       refine o_val (v_assign rfl) rfl ?_
       refine o_nil ?_
       refine thn_n ?_
       refine w_ret ?_
       refine (blk_r (thn_r (thn_r (blk_r (thn_r ?_)))))
       exact ret_ok (G := [RdR U5 p B.length B, RdR U5 pm M.length M]) (res1 rfl) ⟨rfl, rfl⟩ (sub (.cons (by repeat first | exact .head | apply Rem.tail) (.cons (by repeat first | exact .head | apply Rem.tail) .nil)) (by repeat first | exact .refl | apply Drop.skip))
      ·
       refine w_seq ?_
       have hk1e : kk = (3 + (M.getD i 0) % 8).toNat ∨ ¬ (1 + bk % 4).toNat ≤ (InfP.rowsO (1 + bk % 4) (M.take i) B).length := by first | exact .inl (by omega) | exact .inr hk2
       refine w_region ?_
       refine o_val (v_move rfl) rfl ?_
       refine o_val (v_move rfl) rfl ?_
       refine o_val (v_len (ty' := 0) Try.underlying22 rfl) rfl ?_
       refine o_val (v_F (v_gtr rfl rfl) (by omega)) rfl ?_
       refine o_nil ?_
       refine thn_n ?_
       refine w_condF rfl ?_
       refine w_skip ?_
       refine blk_n ?_
       refine thn_n ?_
       refine w_region ?_
       refine o_val (v_move rfl) rfl ?_
       refine o_val (v_add rfl rfl (wrapI (by omega) (by omega))) rfl ?_
       refine o_val (v_assign rfl) rfl ?_
       refine o_nil ?_
       have hkn : kk = (3 + (M.getD i 0) % 8).toNat := by rcases hk1e with h | h; exact h; exfalso; omega
       have hco : (InfP.cpy (1 + bk % 4).toNat kk (InfP.rowsO (1 + bk % 4) (M.take i) B)) = InfP.rowsO (1 + bk % 4) (M.take (i + 1)) B := by rw [hkn]; exact InfP.rowsO_next hi2
       rw [InfP.runsB_next hi2, hco]
       refine j3 (i + 1) _ _ ?_ (.cons rfl (.cons rfl (.cons rfl (.cons rfl (.cons rfl (.cons rfl (.nil _))))))) (sub (.cons (by repeat first | exact .head | apply Rem.tail) (.cons (by repeat first | exact .head | apply Rem.tail) (.cons (by repeat first | exact .head | apply Rem.tail) (.cons (by repeat first | exact .head | apply Rem.tail) .nil)))) (by repeat first | exact .refl | apply Drop.skip))
       exact ⟨⟨by omega, .inr (by omega)⟩, by omega⟩
   ·
    refine w_exit ?_
    refine thn_e ?_
    refine thn_e ?_
    refine blk_x ?_
    refine thn_n ?_
    refine w_seq ?_
    obtain rfl : i = M.length := by omega
    rw [List.take_length]
    have hbl := InfP.runs_len (B := B) (M := M) (i := M.length) (d := (1 + bk % 4)) (by omega) hl2 hl3
    rw [List.take_length] at hbl
    have hw4 := InfP.wbf_len (s := 256) (by decide)
    have hw5 := InfP.fxN_le 256
    have hdm : M = [] ∨ (1 + bk % 4) ≤ (B.length : Int) := by rcases hdi with h | h; exact .inl (List.length_eq_zero_iff.1 h); exact .inr h
    refine w_region ?_
    refine o_val (v_move rfl) rfl ?_
    refine o_call (l_fixed b37 (InfP.runsB B (1 + bk % 4) M) 256 (by decide) (by omega)) V.b20  rfl (.cons (by repeat first | exact .head | apply Rem.tail) .nil) rfl ?_
    rintro _ _ ⟨rfl, rfl⟩
    refine o_nil ?_
    refine thn_n ?_
    refine w_seq ?_
    refine w_region ?_
    refine o_val (v_move rfl) rfl ?_
    refine o_call (d_pout b37 ((InfP.runsB B (1 + bk % 4) M) ++ HuffP.wb InfP.fixL 256) ((InfP.runs_01 _ _ _).app (fun x hx => HuffP.wb_01 x hx)) (by rw [List.length_append]; omega)) V.b21  rfl (.cons (by repeat first | exact .head | apply Rem.tail) .nil) rfl ?_
    rintro _ _ ⟨o9, q9, c9, hpq, hol, rfl, rfl⟩
    obtain ⟨n9, hr9⟩ := InfP.runs_good hB (by omega) (by omega) (by omega) hdm hpq
    rw [List.length_append] at hol
    refine o_call (c_all q9 c9 o9 (Row U5 q9 o9.length c9 o9) (fun _ _ hh => hh.rd) (by omega) hpq.byt 65536 (by decide) ((InfP.rowsO (1 + bk % 4) M B), n9, (0 : Int)) hr9) V.b11  rfl (.cons (by repeat first | exact .head | apply Rem.tail) .nil) rfl ?_
    rintro _ _ ⟨q8, c8, rfl, rfl⟩
    refine o_val (v_move rfl) rfl ?_
    refine o_val (v_extract rfl rfl) rfl ?_
    refine o_val (v_extract rfl rfl) rfl ?_
    refine o_val (v_extract rfl rfl) rfl ?_
    refine o_val (v_assign rfl) rfl ?_
    refine o_val (v_assign rfl) rfl ?_
    refine o_val (v_assign rfl) rfl ?_
    refine o_nil ?_
    refine thn_n ?_
    refine w_seq ?_
    refine w_region ?_
    refine o_val (v_move rfl) rfl ?_
    refine o_val (v_T (v_eql rfl rfl) rfl) rfl ?_
    refine o_val (v_move rfl) rfl ?_
    refine o_want rfl ?_
    refine o_val (v_move rfl) rfl ?_
    refine o_want rfl ?_
    refine o_val (v_str (T := 5) Try.underlying22 Try.underlying5 Try.underlying9 rfl (own (by repeat first | exact .head _ | apply List.Mem.tail))) rfl ?_
    refine o_want rfl ?_
    refine o_val (v_move rfl) rfl ?_
    refine o_want rfl ?_
    refine o_val (v_str (T := 5) Try.underlying22 Try.underlying5 Try.underlying9 rfl (own (by repeat first | exact .head _ | apply List.Mem.tail))) rfl ?_
    refine o_want rfl ?_
    refine o_val (v_sself rfl rfl) rfl ?_
    refine o_val (v_pickT rfl rfl) rfl ?_
    refine o_val (v_assign rfl) rfl ?_
    refine o_nil ?_
    refine thn_n ?_
    refine w_ret ?_
    exact ret_ok (G := [RdR U5 p B.length B, RdR U5 pm M.length M]) (res1 rfl) ⟨rfl, rfl⟩ (sub (.cons (by repeat first | exact .head | apply Rem.tail) (.cons (by repeat first | exact .head | apply Rem.tail) .nil)) (by repeat first | exact .refl | apply Drop.skip))
 ·
  refine w_seq ?_
  refine w_seq ?_
  refine w_region ?_
  refine o_val (v_move rfl) rfl ?_
  refine o_val (v_len (ty' := 0) Try.underlying22 rfl) rfl ?_
  refine o_val (v_F (v_lss rfl rfl) (by omega)) rfl ?_
  refine o_val (v_move rfl) rfl ?_
  refine o_want rfl ?_
  refine o_val (v_move rfl) rfl ?_
  refine o_want rfl ?_
  refine o_val (v_len (ty' := 0) Try.underlying22 rfl) rfl ?_
  refine o_want rfl ?_
  refine o_val (v_F (v_gtr rfl rfl) (by omega)) rfl ?_
  refine o_val (v_pickF rfl rfl) rfl ?_
  refine o_val (v_move rfl) rfl ?_
  refine o_want rfl ?_
  refine o_val (v_move rfl) rfl ?_
  refine o_want rfl ?_
  refine o_val (v_len (ty' := 0) Try.underlying22 rfl) rfl ?_
  refine o_want rfl ?_
  refine o_val (v_T (v_gtr rfl rfl) (by omega)) rfl ?_
  refine o_val (v_pickF rfl rfl) rfl ?_
  refine o_nil ?_
  refine thn_n ?_
  refine w_condT rfl ?_
  refine w_seq ?_
  refine w_region ?_
  refine o_val (v_assign rfl) rfl ?_
  refine o_nil ?_
  refine thn_n ?_
  refine w_ret ?_
  refine (thn_r ?_)
  exact ret_ok (G := [RdR U5 p B.length B, RdR U5 pm M.length M]) (res1 rfl) ⟨rfl, rfl⟩ (sub (.cons (by repeat first | exact .head | apply Rem.tail) (.cons (by repeat first | exact .head | apply Rem.tail) .nil)) (by repeat first | exact .refl | apply Drop.skip))
 ·
  refine w_seq ?_
  refine w_seq ?_
  refine w_region ?_
  refine o_val (v_move rfl) rfl ?_
  refine o_val (v_len (ty' := 0) Try.underlying22 rfl) rfl ?_
  refine o_val (v_F (v_lss rfl rfl) (by omega)) rfl ?_
  refine o_val (v_move rfl) rfl ?_
  refine o_want rfl ?_
  refine o_val (v_move rfl) rfl ?_
  refine o_want rfl ?_
  refine o_val (v_len (ty' := 0) Try.underlying22 rfl) rfl ?_
  refine o_want rfl ?_
  refine o_val (v_T (v_gtr rfl rfl) (by omega)) rfl ?_
  refine o_val (v_pickF rfl rfl) rfl ?_
  refine o_val (v_move rfl) rfl ?_
  refine o_pass rfl rfl rfl ?_
  refine o_pass rfl rfl rfl ?_
  refine o_pass rfl rfl rfl ?_
  refine o_val (v_pickT rfl rfl) rfl ?_
  refine o_nil ?_
  refine thn_n ?_
  refine w_condT rfl ?_
  refine w_seq ?_
  refine w_region ?_
  refine o_val (v_assign rfl) rfl ?_
  refine o_nil ?_
  refine thn_n ?_
  refine w_ret ?_
  refine (thn_r ?_)
  exact ret_ok (G := [RdR U5 p B.length B, RdR U5 pm M.length M]) (res1 rfl) ⟨rfl, rfl⟩ (sub (.cons (by repeat first | exact .head | apply Rem.tail) (.cons (by repeat first | exact .head | apply Rem.tail) .nil)) (by repeat first | exact .refl | apply Drop.skip))
 ·
  refine w_seq ?_
  refine w_seq ?_
  refine w_region ?_
  refine o_val (v_move rfl) rfl ?_
  refine o_val (v_len (ty' := 0) Try.underlying22 rfl) rfl ?_
  refine o_val (v_T (v_lss rfl rfl) (by omega)) rfl ?_
  refine o_val (v_move rfl) rfl ?_
  refine o_pass rfl rfl rfl ?_
  refine o_pass rfl rfl rfl ?_
  refine o_pass rfl rfl rfl ?_
  refine o_val (v_pickT rfl rfl) rfl ?_
  refine o_val (v_move rfl) rfl ?_
  refine o_pass rfl rfl rfl ?_
  refine o_pass rfl rfl rfl ?_
  refine o_pass rfl rfl rfl ?_
  refine o_val (v_pickT rfl rfl) rfl ?_
  refine o_nil ?_
  refine thn_n ?_
  refine w_condT rfl ?_
  refine w_seq ?_
  refine w_region ?_
  refine o_val (v_assign rfl) rfl ?_
  refine o_nil ?_
  refine thn_n ?_
  refine w_ret ?_
  refine (thn_r ?_)
  exact ret_ok (G := [RdR U5 p B.length B, RdR U5 pm M.length M]) (res1 rfl) ⟨rfl, rfl⟩ (sub (.cons (by repeat first | exact .head | apply Rem.tail) (.cons (by repeat first | exact .head | apply Rem.tail) .nil)) (by repeat first | exact .refl | apply Drop.skip))
end Go.Proofs.Ytoplcgkafaoafaa

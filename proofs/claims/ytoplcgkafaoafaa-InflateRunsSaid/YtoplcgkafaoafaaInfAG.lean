/-
 Steps of the proof: walks of functions that the statement reaches; printed by a program of ours.
-/
import Derived.Test.YtoplcgkafaoafaaM48
import Derived.Test.YtoplcgkafaoafaaInfPlainD
import Derived.Test.YtoplcgkafaoafaaInfBase6
namespace Go.Proofs.Ytoplcgkafaoafaa
open Go.Sl 
set_option linter.unusedVariables false
set_option linter.unusedSimpArgs false


structure Pkv where
 p : Option Addr
 c : Nat
/-- Bits that were put. -/
def PK (b : Nat) (bs : List Int) : HProp := fun w0 h => ∃ i : Pkv, True ∧ sats w0 [Cel b 43 [.slice i.p bs.length i.c, .bool false], Row I3 i.p bs.length i.c bs] h
theorem pk_open {b : Nat} {bs : List Int} {w0 : World} {h : Hp} (hh : PK b bs w0 h) : ∃ i : Pkv, True ∧ sats w0 [Cel b 43 [.slice i.p bs.length i.c, .bool false], Row I3 i.p bs.length i.c bs] h := hh
theorem pk_close {b n c : Nat} {p : Option Addr} {bs : List Int} {w0 : World} {h : Hp} (hn : n = bs.length) (hh : sats w0 [Cel b 43 [.slice p n c, .bool false], Row I3 p n c bs] h) : PK b bs w0 h := by
 subst hn; exact ⟨⟨p, c⟩, trivial, hh⟩


attribute [local irreducible] HuffP.newE HuffP.tk HuffP.ord HuffP.cntL HuffP.words HuffP.mostL InfP.frs InfP.toldC InfP.toldN InfP.toldA InfP.hL InfP.hD InfP.hC InfP.lnGo InfP.told InfP.fixL InfP.codeE InfP.rep InfP.lenE InfP.awayE InfP.sym InfP.alg BitP.numL InfP.coded InfP.begin_ InfP.one InfP.put_ InfP.lnB InfP.dsB InfP.lnM InfP.dsM InfP.fixD InfP.fxX InfP.fxN HuffP.wb HuffP.bits InfP.rowsB InfP.rowsO InfP.runsB InfP.rowB InfP.cpy BitP.orB

set_option maxHeartbeats 2000000 in
set_option maxRecDepth 100000 in
theorem d_put (b : Nat) (bs : List Int) (x : Int) (n : Nat) (hx : 0 ≤ x ∧ x < 2 ^ 40) (hn : n ≤ 24) (hl : bs.length < 400000000) : Ctr Try.prog 19 [.pointer (some ⟨b, 0, none⟩), .int .i64 x, .int .i64 (n : Int)] [PK b bs] (Ret fun v G => v = .tuple #[] ∧ G = [PK b (bs ++ BitP.lowB x n)]) := by
 refine spec_of [(0, _), (1, _), (2, _)] Try.func19 rfl Try.ntmps19 rfl rfl ?_
 intro w0 F
 refine w_seq ?_
 refine w_region ?_
 refine o_val (v_assign rfl) rfl ?_
 refine o_nil ?_
 refine thn_n ?_
 refine w_block ?_
 refine w_loop1 (fun (k : Nat) => [(0, .pointer (some ⟨b, 0, none⟩)), (1, .int .i64 x), (2, .int .i64 (n : Int)), (6, .int .i64 (k : Int))]) (fun (k : Nat) => PK b (bs ++ BitP.lowB x k) :: F) (fun (k : Nat) => k ≤ n) (fun (k : Nat) => n - k) (i1 (0) ?_ (.cons rfl (.cons rfl (.cons rfl (.cons rfl (.nil _))))) (by show Sub _ (PK b (bs ++ BitP.lowB x 0) :: F); rw [BitP.lowB_zero, List.append_nil]; exact (sub (.cons (by repeat first | exact .head | apply Rem.tail) .nil) (by repeat first | exact .refl | apply Drop.skip)))) ?_
 ·
  exact Nat.zero_le _
 intro k
 rintro hk
 refine w_seq ?_
 refine w_seq ?_
 refine w_region ?_
 refine o_val (v_move rfl) rfl ?_
 refine o_val (v_move rfl) rfl ?_
 refine o_val (v_lss rfl rfl) rfl ?_
 refine o_nil ?_
 refine thn_n ?_
 first | refine w_condD rfl (fun h10 => ?_) (fun h10 => ?_) | refine w_cond rfl (fun h10 => ?_) (fun h10 => ?_)
 ·
  refine w_skip ?_
  refine thn_n ?_
  refine w_seq ?_
  refine w_block ?_
  refine w_seq ?_
  refine w_region ?_
  refine o_val (v_move rfl) rfl ?_
  refine o_val (v_assign rfl) rfl ?_
  refine o_nil ?_
  refine thn_n ?_
  refine w_seq ?_
  refine w_seq ?_
  refine w_opnR (by repeat first | exact .head | apply Rem.tail) (fun h hh => pk_open hh) ?_
  rintro ⟨pb, cb⟩ _
  dsimp only
  simp only [List.cons_append, List.nil_append]
  have hdn := BitP.div_nn hx.1 k
  have hbl : (bs ++ BitP.lowB x k).length = bs.length + k := by rw [List.length_append, BitP.lowB_len]
  refine w_region ?_
  refine o_val (v_move rfl) rfl ?_
  refine o_val (v_nil rfl) rfl ?_
  refine o_val (v_fieldAddr V.f43_1 rfl) rfl ?_
  refine o_val (v_load V.s4 rfl (by repeat first | exact .head _ | apply List.Mem.tail) rfl) rfl ?_
  refine o_nil ?_
  refine thn_n ?_
  refine w_condF rfl ?_
  refine w_skip ?_
  refine thn_n ?_
  refine w_region ?_
  refine o_val (v_move rfl) rfl ?_
  refine o_val (v_move rfl) rfl ?_
  refine o_val (v_nil rfl) rfl ?_
  refine o_val (v_fieldAddr V.f43_0 rfl) rfl ?_
  refine o_val (v_load V.s30 rfl (by repeat first | exact .head _ | apply List.Mem.tail) rfl) rfl ?_
  refine o_val (v_move rfl) rfl ?_
  refine o_val (v_move rfl) rfl ?_
  refine o_val (v_conv V.u3 Try.underlying39 rfl (wrapU (by omega) (by omega))) rfl ?_
  refine o_val (v_shr (r := x / 2 ^ k) rfl rfl (by omega) (BitP.shrI (by omega) rfl)) rfl ?_
  refine o_val (v_and (r := x / 2 ^ k % 2) rfl rfl (BitP.and_one64 hdn.1 (by omega))) rfl ?_
  refine r_build (I3) [x / 2 ^ k % 2] V.sl30 V.z3 rfl rfl rfl rfl rfl rfl ?_
  intro b32
  refine r_append (c := (I3)) V.sl30 V.z3 rfl rfl rfl rfl (by repeat first | exact .head | apply Rem.tail) (own (by repeat first | exact .head _ | apply List.Mem.tail)) (by omega) rfl ?_
  intro p33 c33
  refine o_val (v_nil rfl) rfl ?_
  refine o_val (v_fieldAddr V.f43_0 rfl) rfl ?_
  refine o_eff (v_store V.s30 rfl rfl rfl (by repeat first | exact .head | apply Rep.tail) (by exact Nat.le_of_ble_eq_true rfl) rfl) ?_
  refine o_nil ?_
  refine blk_n ?_
  refine thn_n ?_
  refine w_region ?_
  refine o_val (v_move rfl) rfl ?_
  refine o_val (v_add rfl rfl (wrapI (by omega) (by omega))) rfl ?_
  refine o_val (v_assign rfl) rfl ?_
  refine o_nil ?_
  rw [List.append_assoc, BitP.lowB_snoc]
  refine j1 (k + 1) ?_ (.cons rfl (.cons rfl (.cons rfl (.cons rfl (.nil _))))) (fold' (.cons (by repeat first | exact .head | apply Rem.tail) (.cons (by repeat first | exact .head | apply Rem.tail) .nil)) (by repeat first | exact .refl | apply Drop.skip) (fun w0 h hh => pk_close (by rw [hbl, List.length_append, BitP.lowB_len]; omega) hh))
  exact ⟨by omega, by omega⟩
 ·
  refine w_exit ?_
  refine thn_e ?_
  refine thn_e ?_
  refine blk_x ?_
  obtain rfl : k = n := by omega
  exact end_ok (G := [PK b (bs ++ BitP.lowB x k)]) res0 ⟨rfl, rfl⟩ (sub (.cons (by repeat first | exact .head | apply Rem.tail) .nil) (by repeat first | exact .refl | apply Drop.skip))

set_option maxHeartbeats 4000000 in
set_option maxRecDepth 100000 in
theorem l_fixed (b : Nat) (bs : List Int) (s : Int) (hs : 0 ≤ s ∧ s < 288) (hl : bs.length < 100000000) : Ctr Try.prog 20 [.pointer (some ⟨b, 0, none⟩), .int .i64 s] [PK b bs] (Ret fun v G => v = .tuple #[] ∧ G = [PK b (bs ++ HuffP.wb InfP.fixL s)]) := by
 refine spec_of [(0, _), (1, _)] Try.func20 rfl Try.ntmps20 rfl rfl ?_
 intro w0 F
 refine w_seq ?_
 refine w_region ?_
 refine o_val (v_move rfl) rfl ?_
 refine o_val (v_add rfl rfl (wrapI (by omega) (by omega))) rfl ?_
 refine o_val (v_assign rfl) rfl ?_
 refine o_val (v_assign rfl) rfl ?_
 refine o_nil ?_
 refine thn_n ?_
 refine w_seq ?_
 refine w_block ?_
 refine w_seq ?_
 refine w_region ?_
 refine o_val (v_move rfl) rfl ?_
 refine o_val (v_geq rfl rfl) rfl ?_
 refine o_val (v_assign rfl) rfl ?_
 refine o_nil ?_
 refine thn_n ?_
 first | refine w_condD rfl (fun h9 => ?_) (fun h9 => ?_) | refine w_cond rfl (fun h9 => ?_) (fun h9 => ?_)
 ·
  refine w_region ?_
  refine o_val (v_move rfl) rfl ?_
  refine o_val (v_add rfl rfl (wrapI (by omega) (by omega))) rfl ?_
  refine o_val (v_sub rfl rfl (wrapI (by omega) (by omega))) rfl ?_
  refine o_val (v_assign rfl) rfl ?_
  refine o_nil ?_
  refine blk_n ?_
  refine thn_n ?_
  refine w_seq ?_
  first | (rw [show ((4 : Nat), Value.int .i64 (192 + s - 280)) = (4, .int .i64 (InfP.fxX s)) from by rw [InfP.fxX_1 (by omega)]]) | (rw [show ((4 : Nat), Value.int .i64 (s - 256)) = (4, .int .i64 (InfP.fxX s)) from by rw [InfP.fxX_2 (by omega)]]) | (rw [show ((4 : Nat), Value.int .i64 (400 + s - 144)) = (4, .int .i64 (InfP.fxX s)) from by rw [InfP.fxX_3 (by omega)]]) | (rw [show ((4 : Nat), Value.int .i64 (48 + s)) = (4, .int .i64 (InfP.fxX s)) from by rw [InfP.fxX_4 (by omega)]])
  first | (rw [show ((5 : Nat), Value.int .i64 9) = (5, .int .i64 (InfP.fxN s : Int)) from by rw [InfP.fxN_9 (by omega)]; rfl]) | (rw [show ((5 : Nat), Value.int .i64 7) = (5, .int .i64 (InfP.fxN s : Int)) from by rw [InfP.fxN_7 (by omega)]; rfl]) | (rw [show ((5 : Nat), Value.int .i64 8) = (5, .int .i64 (InfP.fxN s : Int)) from by rw [InfP.fxN_8 (by omega)]; rfl])
  have hfn := InfP.fxN_le s
  have hfx := InfP.fxX_le hs
  have hwl := InfP.wbf_len hs
  refine w_region ?_
  refine o_val (v_move rfl) rfl ?_
  refine o_val (v_sub rfl rfl (wrapI (by omega) (by omega))) rfl ?_
  refine o_val (v_assign rfl) rfl ?_
  refine o_nil ?_
  refine thn_n ?_
  refine w_block ?_
  rw [show ((6 : Nat), Value.int .i64 ((InfP.fxN s : Int) - 1)) = (6, .int .i64 ((InfP.fxN s : Int) - 1 - ((0 : Nat) : Int))) from by simp]
  refine w_loop1 (fun (j : Nat) => [(0, .pointer (some ⟨b, 0, none⟩)), (4, .int .i64 (InfP.fxX s)), (6, .int .i64 ((InfP.fxN s : Int) - 1 - (j : Int)))]) (fun (j : Nat) => PK b (bs ++ (HuffP.wb InfP.fixL s).take j) :: F) (fun (j : Nat) => j ≤ InfP.fxN s) (fun (j : Nat) => InfP.fxN s - j) (i1 (0) ?_ (.cons rfl (.cons rfl (.cons rfl (.nil _)))) (by show Sub _ (PK b (bs ++ (HuffP.wb InfP.fixL s).take 0) :: F); rw [List.take_zero, List.append_nil]; exact (sub (.cons (by repeat first | exact .head | apply Rem.tail) .nil) (by repeat first | exact .refl | apply Drop.skip)))) ?_
  ·
   exact Nat.zero_le _
  intro j
  rintro hj
  refine w_seq ?_
  refine w_seq ?_
  refine w_region ?_
  refine o_val (v_move rfl) rfl ?_
  refine o_val (v_geq rfl rfl) rfl ?_
  refine o_nil ?_
  refine thn_n ?_
  first | refine w_condD rfl (fun h29 => ?_) (fun h29 => ?_) | refine w_cond rfl (fun h29 => ?_) (fun h29 => ?_)
  ·
   refine w_skip ?_
   refine thn_n ?_
   refine w_seq ?_
   refine w_block ?_
   have hdn := BitP.div_nn hfx.1 (InfP.fxN s - 1 - j)
   have hbl : (bs ++ (HuffP.wb InfP.fixL s).take j).length ≤ bs.length + 9 := by rw [List.length_append, List.length_take]; omega
   refine w_region ?_
   refine o_val (v_move rfl) rfl ?_
   refine o_val (v_move rfl) rfl ?_
   refine o_val (v_move rfl) rfl ?_
   refine o_val (v_conv V.u3 Try.underlying39 rfl (wrapU (by omega) (by omega))) rfl ?_
   refine o_val (v_shr (r := (InfP.fxX s / 2 ^ (InfP.fxN s - 1 - j))) rfl rfl (by omega) (BitP.shrI (k := InfP.fxN s - 1 - j) (by omega) (by omega))) rfl ?_
   refine o_val (v_and (r := (InfP.fxX s / 2 ^ (InfP.fxN s - 1 - j)) % 2) rfl rfl (BitP.and_one64 hdn.1 (by omega))) rfl ?_
   refine o_call (d_put b (bs ++ (HuffP.wb InfP.fixL s).take j) ((InfP.fxX s / 2 ^ (InfP.fxN s - 1 - j)) % 2) 1 (by omega) (by decide) (by omega)) V.b19  rfl (.cons (by repeat first | exact .head | apply Rem.tail) .nil) rfl ?_
   rintro _ _ ⟨rfl, rfl⟩
   rw [BitP.lowB_one, show (InfP.fxX s / 2 ^ (InfP.fxN s - 1 - j)) % 2 % 2 = (InfP.fxX s / 2 ^ (InfP.fxN s - 1 - j)) % 2 from by omega, List.append_assoc, InfP.wbf_take hs (by omega)]
   refine o_nil ?_
   refine blk_n ?_
   refine thn_n ?_
   refine w_region ?_
   refine o_val (v_move rfl) rfl ?_
   refine o_val (v_sub rfl rfl (wrapI (by omega) (by omega))) rfl ?_
   refine o_val (v_assign rfl) rfl ?_
   refine o_nil ?_
   rw [show (InfP.fxN s : Int) - 1 - (j : Int) - 1 = (InfP.fxN s : Int) - 1 - ((j + 1 : Nat) : Int) from by omega]
   refine j1 (j + 1) ?_ (.cons rfl (.cons rfl (.cons rfl (.nil _)))) (sub (.cons (by repeat first | exact .head | apply Rem.tail) .nil) (by repeat first | exact .refl | apply Drop.skip))
   exact ⟨by omega, by omega⟩
  ·
   refine w_exit ?_
   refine thn_e ?_
   refine thn_e ?_
   refine blk_x ?_
   obtain rfl : j = InfP.fxN s := by omega
   rw [List.take_of_length_le (by omega)]
   exact end_ok (G := [PK b (bs ++ HuffP.wb InfP.fixL s)]) res0 ⟨rfl, rfl⟩ (sub (.cons (by repeat first | exact .head | apply Rem.tail) .nil) (by repeat first | exact .refl | apply Drop.skip))
 ·
  refine w_seq ?_
  refine w_region ?_
  refine o_val (v_move rfl) rfl ?_
  refine o_val (v_geq rfl rfl) rfl ?_
  refine o_val (v_assign rfl) rfl ?_
  refine o_nil ?_
  refine thn_n ?_
  first | refine w_condD rfl (fun h15 => ?_) (fun h15 => ?_) | refine w_cond rfl (fun h15 => ?_) (fun h15 => ?_)
  ·
   refine w_region ?_
   refine o_val (v_move rfl) rfl ?_
   refine o_val (v_sub rfl rfl (wrapI (by omega) (by omega))) rfl ?_
   refine o_val (v_assign rfl) rfl ?_
   refine o_val (v_assign rfl) rfl ?_
   refine o_nil ?_
   refine blk_n ?_
   refine thn_n ?_
   refine w_seq ?_
   first | (rw [show ((4 : Nat), Value.int .i64 (192 + s - 280)) = (4, .int .i64 (InfP.fxX s)) from by rw [InfP.fxX_1 (by omega)]]) | (rw [show ((4 : Nat), Value.int .i64 (s - 256)) = (4, .int .i64 (InfP.fxX s)) from by rw [InfP.fxX_2 (by omega)]]) | (rw [show ((4 : Nat), Value.int .i64 (400 + s - 144)) = (4, .int .i64 (InfP.fxX s)) from by rw [InfP.fxX_3 (by omega)]]) | (rw [show ((4 : Nat), Value.int .i64 (48 + s)) = (4, .int .i64 (InfP.fxX s)) from by rw [InfP.fxX_4 (by omega)]])
   first | (rw [show ((5 : Nat), Value.int .i64 9) = (5, .int .i64 (InfP.fxN s : Int)) from by rw [InfP.fxN_9 (by omega)]; rfl]) | (rw [show ((5 : Nat), Value.int .i64 7) = (5, .int .i64 (InfP.fxN s : Int)) from by rw [InfP.fxN_7 (by omega)]; rfl]) | (rw [show ((5 : Nat), Value.int .i64 8) = (5, .int .i64 (InfP.fxN s : Int)) from by rw [InfP.fxN_8 (by omega)]; rfl])
   have hfn := InfP.fxN_le s
   have hfx := InfP.fxX_le hs
   have hwl := InfP.wbf_len hs
   refine w_region ?_
   refine o_val (v_move rfl) rfl ?_
   refine o_val (v_sub rfl rfl (wrapI (by omega) (by omega))) rfl ?_
   refine o_val (v_assign rfl) rfl ?_
   refine o_nil ?_
   refine thn_n ?_
   refine w_block ?_
   rw [show ((6 : Nat), Value.int .i64 ((InfP.fxN s : Int) - 1)) = (6, .int .i64 ((InfP.fxN s : Int) - 1 - ((0 : Nat) : Int))) from by simp]
   refine w_loop1 (fun (j : Nat) => [(0, .pointer (some ⟨b, 0, none⟩)), (4, .int .i64 (InfP.fxX s)), (6, .int .i64 ((InfP.fxN s : Int) - 1 - (j : Int)))]) (fun (j : Nat) => PK b (bs ++ (HuffP.wb InfP.fixL s).take j) :: F) (fun (j : Nat) => j ≤ InfP.fxN s) (fun (j : Nat) => InfP.fxN s - j) (i1 (0) ?_ (.cons rfl (.cons rfl (.cons rfl (.nil _)))) (by show Sub _ (PK b (bs ++ (HuffP.wb InfP.fixL s).take 0) :: F); rw [List.take_zero, List.append_nil]; exact (sub (.cons (by repeat first | exact .head | apply Rem.tail) .nil) (by repeat first | exact .refl | apply Drop.skip)))) ?_
   ·
    exact Nat.zero_le _
   intro j
   rintro hj
   refine w_seq ?_
   refine w_seq ?_
   refine w_region ?_
   refine o_val (v_move rfl) rfl ?_
   refine o_val (v_geq rfl rfl) rfl ?_
   refine o_nil ?_
   refine thn_n ?_
   first | refine w_condD rfl (fun h29 => ?_) (fun h29 => ?_) | refine w_cond rfl (fun h29 => ?_) (fun h29 => ?_)
   ·
    refine w_skip ?_
    refine thn_n ?_
    refine w_seq ?_
    refine w_block ?_
    have hdn := BitP.div_nn hfx.1 (InfP.fxN s - 1 - j)
    have hbl : (bs ++ (HuffP.wb InfP.fixL s).take j).length ≤ bs.length + 9 := by rw [List.length_append, List.length_take]; omega
    refine w_region ?_
    refine o_val (v_move rfl) rfl ?_
    refine o_val (v_move rfl) rfl ?_
    refine o_val (v_move rfl) rfl ?_
    refine o_val (v_conv V.u3 Try.underlying39 rfl (wrapU (by omega) (by omega))) rfl ?_
    refine o_val (v_shr (r := (InfP.fxX s / 2 ^ (InfP.fxN s - 1 - j))) rfl rfl (by omega) (BitP.shrI (k := InfP.fxN s - 1 - j) (by omega) (by omega))) rfl ?_
    refine o_val (v_and (r := (InfP.fxX s / 2 ^ (InfP.fxN s - 1 - j)) % 2) rfl rfl (BitP.and_one64 hdn.1 (by omega))) rfl ?_
    refine o_call (d_put b (bs ++ (HuffP.wb InfP.fixL s).take j) ((InfP.fxX s / 2 ^ (InfP.fxN s - 1 - j)) % 2) 1 (by omega) (by decide) (by omega)) V.b19  rfl (.cons (by repeat first | exact .head | apply Rem.tail) .nil) rfl ?_
    rintro _ _ ⟨rfl, rfl⟩
    rw [BitP.lowB_one, show (InfP.fxX s / 2 ^ (InfP.fxN s - 1 - j)) % 2 % 2 = (InfP.fxX s / 2 ^ (InfP.fxN s - 1 - j)) % 2 from by omega, List.append_assoc, InfP.wbf_take hs (by omega)]
    refine o_nil ?_
    refine blk_n ?_
    refine thn_n ?_
    refine w_region ?_
    refine o_val (v_move rfl) rfl ?_
    refine o_val (v_sub rfl rfl (wrapI (by omega) (by omega))) rfl ?_
    refine o_val (v_assign rfl) rfl ?_
    refine o_nil ?_
    rw [show (InfP.fxN s : Int) - 1 - (j : Int) - 1 = (InfP.fxN s : Int) - 1 - ((j + 1 : Nat) : Int) from by omega]
    refine j1 (j + 1) ?_ (.cons rfl (.cons rfl (.cons rfl (.nil _)))) (sub (.cons (by repeat first | exact .head | apply Rem.tail) .nil) (by repeat first | exact .refl | apply Drop.skip))
    exact ⟨by omega, by omega⟩
   ·
    refine w_exit ?_
    refine thn_e ?_
    refine thn_e ?_
    refine blk_x ?_
    obtain rfl : j = InfP.fxN s := by omega
    rw [List.take_of_length_le (by omega)]
    exact end_ok (G := [PK b (bs ++ HuffP.wb InfP.fixL s)]) res0 ⟨rfl, rfl⟩ (sub (.cons (by repeat first | exact .head | apply Rem.tail) .nil) (by repeat first | exact .refl | apply Drop.skip))
  ·
   refine w_seq ?_
   refine w_region ?_
   refine o_val (v_move rfl) rfl ?_
   refine o_val (v_geq rfl rfl) rfl ?_
   refine o_val (v_assign rfl) rfl ?_
   refine o_nil ?_
   refine thn_n ?_
   first | refine w_condD rfl (fun h20 => ?_) (fun h20 => ?_) | refine w_cond rfl (fun h20 => ?_) (fun h20 => ?_)
   ·
    refine w_region ?_
    refine o_val (v_move rfl) rfl ?_
    refine o_val (v_add rfl rfl (wrapI (by omega) (by omega))) rfl ?_
    refine o_val (v_sub rfl rfl (wrapI (by omega) (by omega))) rfl ?_
    refine o_val (v_assign rfl) rfl ?_
    refine o_val (v_assign rfl) rfl ?_
    refine o_nil ?_
    refine blk_n ?_
    refine thn_n ?_
    refine w_seq ?_
    first | (rw [show ((4 : Nat), Value.int .i64 (192 + s - 280)) = (4, .int .i64 (InfP.fxX s)) from by rw [InfP.fxX_1 (by omega)]]) | (rw [show ((4 : Nat), Value.int .i64 (s - 256)) = (4, .int .i64 (InfP.fxX s)) from by rw [InfP.fxX_2 (by omega)]]) | (rw [show ((4 : Nat), Value.int .i64 (400 + s - 144)) = (4, .int .i64 (InfP.fxX s)) from by rw [InfP.fxX_3 (by omega)]]) | (rw [show ((4 : Nat), Value.int .i64 (48 + s)) = (4, .int .i64 (InfP.fxX s)) from by rw [InfP.fxX_4 (by omega)]])
    first | (rw [show ((5 : Nat), Value.int .i64 9) = (5, .int .i64 (InfP.fxN s : Int)) from by rw [InfP.fxN_9 (by omega)]; rfl]) | (rw [show ((5 : Nat), Value.int .i64 7) = (5, .int .i64 (InfP.fxN s : Int)) from by rw [InfP.fxN_7 (by omega)]; rfl]) | (rw [show ((5 : Nat), Value.int .i64 8) = (5, .int .i64 (InfP.fxN s : Int)) from by rw [InfP.fxN_8 (by omega)]; rfl])
    have hfn := InfP.fxN_le s
    have hfx := InfP.fxX_le hs
    have hwl := InfP.wbf_len hs
    refine w_region ?_
    refine o_val (v_move rfl) rfl ?_
    refine o_val (v_sub rfl rfl (wrapI (by omega) (by omega))) rfl ?_
    refine o_val (v_assign rfl) rfl ?_
    refine o_nil ?_
    refine thn_n ?_
    refine w_block ?_
    rw [show ((6 : Nat), Value.int .i64 ((InfP.fxN s : Int) - 1)) = (6, .int .i64 ((InfP.fxN s : Int) - 1 - ((0 : Nat) : Int))) from by simp]
    refine w_loop1 (fun (j : Nat) => [(0, .pointer (some ⟨b, 0, none⟩)), (4, .int .i64 (InfP.fxX s)), (6, .int .i64 ((InfP.fxN s : Int) - 1 - (j : Int)))]) (fun (j : Nat) => PK b (bs ++ (HuffP.wb InfP.fixL s).take j) :: F) (fun (j : Nat) => j ≤ InfP.fxN s) (fun (j : Nat) => InfP.fxN s - j) (i1 (0) ?_ (.cons rfl (.cons rfl (.cons rfl (.nil _)))) (by show Sub _ (PK b (bs ++ (HuffP.wb InfP.fixL s).take 0) :: F); rw [List.take_zero, List.append_nil]; exact (sub (.cons (by repeat first | exact .head | apply Rem.tail) .nil) (by repeat first | exact .refl | apply Drop.skip)))) ?_
    ·
     exact Nat.zero_le _
    intro j
    rintro hj
    refine w_seq ?_
    refine w_seq ?_
    refine w_region ?_
    refine o_val (v_move rfl) rfl ?_
    refine o_val (v_geq rfl rfl) rfl ?_
    refine o_nil ?_
    refine thn_n ?_
    first | refine w_condD rfl (fun h29 => ?_) (fun h29 => ?_) | refine w_cond rfl (fun h29 => ?_) (fun h29 => ?_)
    ·
     refine w_skip ?_
     refine thn_n ?_
     refine w_seq ?_
     refine w_block ?_
     have hdn := BitP.div_nn hfx.1 (InfP.fxN s - 1 - j)
     have hbl : (bs ++ (HuffP.wb InfP.fixL s).take j).length ≤ bs.length + 9 := by rw [List.length_append, List.length_take]; omega
     refine w_region ?_
     refine o_val (v_move rfl) rfl ?_
     refine o_val (v_move rfl) rfl ?_
     refine o_val (v_move rfl) rfl ?_
     refine o_val (v_conv V.u3 Try.underlying39 rfl (wrapU (by omega) (by omega))) rfl ?_
     refine o_val (v_shr (r := (InfP.fxX s / 2 ^ (InfP.fxN s - 1 - j))) rfl rfl (by omega) (BitP.shrI (k := InfP.fxN s - 1 - j) (by omega) (by omega))) rfl ?_
     refine o_val (v_and (r := (InfP.fxX s / 2 ^ (InfP.fxN s - 1 - j)) % 2) rfl rfl (BitP.and_one64 hdn.1 (by omega))) rfl ?_
     refine o_call (d_put b (bs ++ (HuffP.wb InfP.fixL s).take j) ((InfP.fxX s / 2 ^ (InfP.fxN s - 1 - j)) % 2) 1 (by omega) (by decide) (by omega)) V.b19  rfl (.cons (by repeat first | exact .head | apply Rem.tail) .nil) rfl ?_
     rintro _ _ ⟨rfl, rfl⟩
     rw [BitP.lowB_one, show (InfP.fxX s / 2 ^ (InfP.fxN s - 1 - j)) % 2 % 2 = (InfP.fxX s / 2 ^ (InfP.fxN s - 1 - j)) % 2 from by omega, List.append_assoc, InfP.wbf_take hs (by omega)]
     refine o_nil ?_
     refine blk_n ?_
     refine thn_n ?_
     refine w_region ?_
     refine o_val (v_move rfl) rfl ?_
     refine o_val (v_sub rfl rfl (wrapI (by omega) (by omega))) rfl ?_
     refine o_val (v_assign rfl) rfl ?_
     refine o_nil ?_
     rw [show (InfP.fxN s : Int) - 1 - (j : Int) - 1 = (InfP.fxN s : Int) - 1 - ((j + 1 : Nat) : Int) from by omega]
     refine j1 (j + 1) ?_ (.cons rfl (.cons rfl (.cons rfl (.nil _)))) (sub (.cons (by repeat first | exact .head | apply Rem.tail) .nil) (by repeat first | exact .refl | apply Drop.skip))
     exact ⟨by omega, by omega⟩
    ·
     refine w_exit ?_
     refine thn_e ?_
     refine thn_e ?_
     refine blk_x ?_
     obtain rfl : j = InfP.fxN s := by omega
     rw [List.take_of_length_le (by omega)]
     exact end_ok (G := [PK b (bs ++ HuffP.wb InfP.fixL s)]) res0 ⟨rfl, rfl⟩ (sub (.cons (by repeat first | exact .head | apply Rem.tail) .nil) (by repeat first | exact .refl | apply Drop.skip))
   ·
    refine w_skip ?_
    refine blk_n ?_
    refine thn_n ?_
    refine w_seq ?_
    first | (rw [show ((4 : Nat), Value.int .i64 (192 + s - 280)) = (4, .int .i64 (InfP.fxX s)) from by rw [InfP.fxX_1 (by omega)]]) | (rw [show ((4 : Nat), Value.int .i64 (s - 256)) = (4, .int .i64 (InfP.fxX s)) from by rw [InfP.fxX_2 (by omega)]]) | (rw [show ((4 : Nat), Value.int .i64 (400 + s - 144)) = (4, .int .i64 (InfP.fxX s)) from by rw [InfP.fxX_3 (by omega)]]) | (rw [show ((4 : Nat), Value.int .i64 (48 + s)) = (4, .int .i64 (InfP.fxX s)) from by rw [InfP.fxX_4 (by omega)]])
    first | (rw [show ((5 : Nat), Value.int .i64 9) = (5, .int .i64 (InfP.fxN s : Int)) from by rw [InfP.fxN_9 (by omega)]; rfl]) | (rw [show ((5 : Nat), Value.int .i64 7) = (5, .int .i64 (InfP.fxN s : Int)) from by rw [InfP.fxN_7 (by omega)]; rfl]) | (rw [show ((5 : Nat), Value.int .i64 8) = (5, .int .i64 (InfP.fxN s : Int)) from by rw [InfP.fxN_8 (by omega)]; rfl])
    have hfn := InfP.fxN_le s
    have hfx := InfP.fxX_le hs
    have hwl := InfP.wbf_len hs
    refine w_region ?_
    refine o_val (v_move rfl) rfl ?_
    refine o_val (v_sub rfl rfl (wrapI (by omega) (by omega))) rfl ?_
    refine o_val (v_assign rfl) rfl ?_
    refine o_nil ?_
    refine thn_n ?_
    refine w_block ?_
    rw [show ((6 : Nat), Value.int .i64 ((InfP.fxN s : Int) - 1)) = (6, .int .i64 ((InfP.fxN s : Int) - 1 - ((0 : Nat) : Int))) from by simp]
    refine w_loop1 (fun (j : Nat) => [(0, .pointer (some ⟨b, 0, none⟩)), (4, .int .i64 (InfP.fxX s)), (6, .int .i64 ((InfP.fxN s : Int) - 1 - (j : Int)))]) (fun (j : Nat) => PK b (bs ++ (HuffP.wb InfP.fixL s).take j) :: F) (fun (j : Nat) => j ≤ InfP.fxN s) (fun (j : Nat) => InfP.fxN s - j) (i1 (0) ?_ (.cons rfl (.cons rfl (.cons rfl (.nil _)))) (by show Sub _ (PK b (bs ++ (HuffP.wb InfP.fixL s).take 0) :: F); rw [List.take_zero, List.append_nil]; exact (sub (.cons (by repeat first | exact .head | apply Rem.tail) .nil) (by repeat first | exact .refl | apply Drop.skip)))) ?_
    ·
     exact Nat.zero_le _
    intro j
    rintro hj
    refine w_seq ?_
    refine w_seq ?_
    refine w_region ?_
    refine o_val (v_move rfl) rfl ?_
    refine o_val (v_geq rfl rfl) rfl ?_
    refine o_nil ?_
    refine thn_n ?_
    first | refine w_condD rfl (fun h29 => ?_) (fun h29 => ?_) | refine w_cond rfl (fun h29 => ?_) (fun h29 => ?_)
    ·
     refine w_skip ?_
     refine thn_n ?_
     refine w_seq ?_
     refine w_block ?_
     have hdn := BitP.div_nn hfx.1 (InfP.fxN s - 1 - j)
     have hbl : (bs ++ (HuffP.wb InfP.fixL s).take j).length ≤ bs.length + 9 := by rw [List.length_append, List.length_take]; omega
     refine w_region ?_
     refine o_val (v_move rfl) rfl ?_
     refine o_val (v_move rfl) rfl ?_
     refine o_val (v_move rfl) rfl ?_
     refine o_val (v_conv V.u3 Try.underlying39 rfl (wrapU (by omega) (by omega))) rfl ?_
     refine o_val (v_shr (r := (InfP.fxX s / 2 ^ (InfP.fxN s - 1 - j))) rfl rfl (by omega) (BitP.shrI (k := InfP.fxN s - 1 - j) (by omega) (by omega))) rfl ?_
     refine o_val (v_and (r := (InfP.fxX s / 2 ^ (InfP.fxN s - 1 - j)) % 2) rfl rfl (BitP.and_one64 hdn.1 (by omega))) rfl ?_
     refine o_call (d_put b (bs ++ (HuffP.wb InfP.fixL s).take j) ((InfP.fxX s / 2 ^ (InfP.fxN s - 1 - j)) % 2) 1 (by omega) (by decide) (by omega)) V.b19  rfl (.cons (by repeat first | exact .head | apply Rem.tail) .nil) rfl ?_
     rintro _ _ ⟨rfl, rfl⟩
     rw [BitP.lowB_one, show (InfP.fxX s / 2 ^ (InfP.fxN s - 1 - j)) % 2 % 2 = (InfP.fxX s / 2 ^ (InfP.fxN s - 1 - j)) % 2 from by omega, List.append_assoc, InfP.wbf_take hs (by omega)]
     refine o_nil ?_
     refine blk_n ?_
     refine thn_n ?_
     refine w_region ?_
     refine o_val (v_move rfl) rfl ?_
     refine o_val (v_sub rfl rfl (wrapI (by omega) (by omega))) rfl ?_
     refine o_val (v_assign rfl) rfl ?_
     refine o_nil ?_
     rw [show (InfP.fxN s : Int) - 1 - (j : Int) - 1 = (InfP.fxN s : Int) - 1 - ((j + 1 : Nat) : Int) from by omega]
     refine j1 (j + 1) ?_ (.cons rfl (.cons rfl (.cons rfl (.nil _)))) (sub (.cons (by repeat first | exact .head | apply Rem.tail) .nil) (by repeat first | exact .refl | apply Drop.skip))
     exact ⟨by omega, by omega⟩
    ·
     refine w_exit ?_
     refine thn_e ?_
     refine thn_e ?_
     refine blk_x ?_
     obtain rfl : j = InfP.fxN s := by omega
     rw [List.take_of_length_le (by omega)]
     exact end_ok (G := [PK b (bs ++ HuffP.wb InfP.fixL s)]) res0 ⟨rfl, rfl⟩ (sub (.cons (by repeat first | exact .head | apply Rem.tail) .nil) (by repeat first | exact .refl | apply Drop.skip))

set_option maxHeartbeats 4000000 in
set_option maxRecDepth 100000 in
theorem d_pout (b : Nat) (bs : List Int) (h01 : InfP.B01 bs) (hl : bs.length < 100000000) : Ctr Try.prog 21 [.pointer (some ⟨b, 0, none⟩)] [PK b bs] (Ret fun v G => ∃ o q c, InfP.Pq bs o ∧ o.length = ((bs.length + 7) / 8) ∧ v = .slice q o.length c ∧ G = [Row U5 q o.length c o, PK b bs]) := by
 refine spec_of [(0, _)] Try.func21 rfl Try.ntmps21 rfl rfl ?_
 intro w0 F
 refine w_opnR (by repeat first | exact .head | apply Rem.tail) (fun h hh => pk_open hh) ?_
 rintro ⟨pb, cb⟩ _
 dsimp only
 simp only [List.cons_append, List.nil_append]
 refine w_seq ?_
 refine w_region ?_
 refine o_val (v_assign rfl) rfl ?_
 refine o_nil ?_
 refine thn_n ?_
 refine w_seq ?_
 refine w_region ?_
 refine o_val (v_move rfl) rfl ?_
 refine o_val (v_nil rfl) rfl ?_
 refine o_val (v_fieldAddr V.f43_0 rfl) rfl ?_
 refine o_val (v_load V.s30 rfl (by repeat first | exact .head _ | apply List.Mem.tail) rfl) rfl ?_
 refine o_val (v_len (ty' := 0) Try.underlying30 rfl) rfl ?_
 refine o_val (v_add rfl rfl (wrapI (by omega) (by omega))) rfl ?_
 refine o_val (v_quo rfl rfl (by omega) (quoI (by omega) (by omega) (by omega))) rfl ?_
 rw [show ((bs.length : Int) + 7) / 8 = ((((bs.length + 7) / 8) : Nat) : Int) from by omega]
 refine r_makeN (((bs.length + 7) / 8) : Nat) (((bs.length + 7) / 8) : Nat) (U5) rfl rfl V.sl22 V.z5 rfl rfl rfl rfl (by omega) (by omega) rfl rfl ?_
 intro b13
 refine o_val (v_assign rfl) rfl ?_
 refine o_nil ?_
 refine thn_n ?_
 refine w_seq ?_
 refine w_seq ?_
 refine w_region ?_
 refine o_val (v_assign rfl) rfl ?_
 refine o_nil ?_
 refine thn_n ?_
 refine w_block ?_
 refine w_loop2 (fun (i : Nat) (o : List Int) => [(0, .pointer (some ⟨b, 0, none⟩)), (3, .slice (some ⟨b13, 0, none⟩) ((bs.length + 7) / 8) ((bs.length + 7) / 8)), (4, .int .i64 (i : Int))]) (fun (i : Nat) (o : List Int) => Row U5 (some ⟨b13, 0, none⟩) ((bs.length + 7) / 8) ((bs.length + 7) / 8) o :: Cel b 43 [.slice pb bs.length cb, .bool false] :: Row I3 pb bs.length cb bs :: F) (fun (i : Nat) (o : List Int) => BitP.Po bs i o ∧ i ≤ bs.length) (fun (i : Nat) (o : List Int) => bs.length - i) (i2 (0) (List.replicate ((bs.length + 7) / 8) 0) ?_ (.cons rfl (.cons rfl (.cons rfl (.nil _)))) (sub (.cons (by repeat first | exact .head | apply Rem.tail) (.cons (by repeat first | exact .head | apply Rem.tail) (.cons (by repeat first | exact .head | apply Rem.tail) .nil))) (by repeat first | exact .refl | apply Drop.skip))) ?_
 ·
  exact ⟨BitP.Po.zero_ bs, Nat.zero_le _⟩
 intro i o
 rintro ⟨hpo, hi⟩
 refine w_seq ?_
 refine w_seq ?_
 refine w_region ?_
 refine o_val (v_move rfl) rfl ?_
 refine o_val (v_move rfl) rfl ?_
 refine o_val (v_nil rfl) rfl ?_
 refine o_val (v_fieldAddr V.f43_0 rfl) rfl ?_
 refine o_val (v_load V.s30 rfl (by repeat first | exact .head _ | apply List.Mem.tail) rfl) rfl ?_
 refine o_val (v_len (ty' := 0) Try.underlying30 rfl) rfl ?_
 refine o_val (v_lss rfl rfl) rfl ?_
 refine o_nil ?_
 refine thn_n ?_
 first | refine w_condD rfl (fun h20 => ?_) (fun h20 => ?_) | refine w_cond rfl (fun h20 => ?_) (fun h20 => ?_)
 ·
  refine w_skip ?_
  refine thn_n ?_
  refine w_seq ?_
  refine w_block ?_
  refine w_seq ?_
  refine w_region ?_
  refine o_val (v_move rfl) rfl ?_
  refine o_val (v_rem rfl rfl (by omega) (remI (by omega))) rfl ?_
  refine o_val (v_conv V.u3 Try.underlying39 rfl (wrapU (by omega) (by omega))) rfl ?_
  refine o_val (v_assign rfl) rfl ?_
  refine o_nil ?_
  refine thn_n ?_
  refine w_seq ?_
  refine w_seq ?_
  refine w_region ?_
  refine o_val (v_move rfl) rfl ?_
  refine o_val (v_nil rfl) rfl ?_
  refine o_val (v_fieldAddr V.f43_1 rfl) rfl ?_
  refine o_val (v_load V.s4 rfl (by repeat first | exact .head _ | apply List.Mem.tail) rfl) rfl ?_
  refine o_nil ?_
  refine thn_n ?_
  refine w_condF rfl ?_
  refine w_skip ?_
  refine thn_n ?_
  have hb01 := h01.get i
  have hgb : (I3.g bs (i : Int)) = bs.getD i 0 := gE i (by omega)
  have hgo : U5.g o ((i : Int) / 8) = o.getD (i / 8) 0 := gE (i / 8) (by omega)
  have hol := hpo.len
  refine w_net [⟨[], [], [3], 0, 0⟩, ⟨[], [], [4], 0, 0⟩, ⟨[1], [1], [], 0, 0⟩, ⟨[], [], [3], 0, 0⟩, ⟨[], [], [4], 0, 0⟩, ⟨[4], [4], [], 0, 0⟩, ⟨[3, 4, 5], [3, 5], [], 0, 0⟩, ⟨[3, 4, 5, 6], [6], [], 0, 0⟩, ⟨[], [], [0], 0, 0⟩, ⟨[8], [8], [], 0, 0⟩, ⟨[8, 9], [9], [], 0, 0⟩, ⟨[8, 9, 10], [10], [], 0, 0⟩, ⟨[], [], [4], 0, 0⟩, ⟨[8, 9, 10, 11, 12], [11, 12], [], 0, 0⟩, ⟨[8, 9, 10, 11, 12, 13], [13], [], 0, 0⟩, ⟨[8, 9, 10, 11, 12, 13, 14], [14], [], 0, 0⟩, ⟨[], [], [5], 0, 0⟩, ⟨[8, 9, 10, 11, 12, 13, 14, 15, 16], [15, 16], [], 0, 0⟩, ⟨[3, 4, 5, 6, 7, 8, 9, 10, 11, 12, 13, 14, 15, 16, 17], [7, 17], [], 0, 0⟩, ⟨[0, 1, 2, 3, 4, 5, 6, 7, 8, 9, 10, 11, 12, 13, 14, 15, 16, 17, 18], [0, 2], [], 0, 0⟩, ⟨[0, 1, 2, 3, 4, 5, 6, 7, 8, 9, 10, 11, 12, 13, 14, 15, 16, 17, 18, 19], [19, 18], [], 0, 0⟩] [⟨fun y => Row U5 (some ⟨b13, 0, none⟩) ((bs.length + 7) / 8) ((bs.length + 7) / 8) o, none, some 20, [6, 7, 19]⟩, ⟨fun y => Cel b 43 [.slice pb bs.length cb, .bool false], none, none, [11]⟩, ⟨fun y => Row I3 pb bs.length cb bs, none, none, [13, 14]⟩, ⟨fun y => Row U5 (some ⟨b13, 0, none⟩) ((bs.length + 7) / 8) ((bs.length + 7) / 8) (o.set ((i : Int) / 8).toNat (BitP.orB (o.getD (i / 8) 0) (bs.getD i 0) (i % 8))), some 20, none, []⟩] F V.mixed (by kernel_rfl) rfl (fun _ => .refl _) (locT_0 _ (locT_0 _ (locT_0 _ (locT_1 [0, 1, 2, 3, 4, 5, 6, 7, 8, 9, 10, 11, 12, 13, 14, 15, 16, 17, 18, 19] rfl (by intro y y2 h; rfl) locT_nil)))) ?_
  refine net_pure (fun y => [(3, _)]) (fun y => rfl) rfl rfl rfl (fun y hA L => st_v (v_move rfl) ⟨rfl, rfl⟩) (by intros; rfl) (by intro y y2 h; rfl) ?_
  refine net_pure (fun y => [(4, _)]) (fun y => rfl) rfl rfl rfl (fun y hA L => st_v (v_move rfl) ⟨rfl, rfl⟩) (by intros; rfl) (by intro y y2 h; rfl) ?_
  refine net_pure (fun y => [(33, _)]) (fun y => rfl) rfl rfl rfl (fun y hA L => st_v (v_quo rfl rfl (by omega) (quoI (by omega) (by omega) (by omega))) ⟨rfl, rfl⟩) (by intros; rfl) (by intro y y2 h; rfl) ?_
  refine net_pure (fun y => [(3, _)]) (fun y => rfl) rfl rfl rfl (fun y hA L => st_v (v_move rfl) ⟨rfl, rfl⟩) (by intros; rfl) (by intro y y2 h; rfl) ?_
  refine net_pure (fun y => [(4, _)]) (fun y => rfl) rfl rfl rfl (fun y hA L => st_v (v_move rfl) ⟨rfl, rfl⟩) (by intros; rfl) (by intro y y2 h; rfl) ?_
  refine net_pure (fun y => [(36, _)]) (fun y => rfl) rfl rfl rfl (fun y hA L => st_v (v_quo rfl rfl (by omega) (quoI (by omega) (by omega) (by omega))) ⟨rfl, rfl⟩) (by intros; rfl) (by intro y y2 h; rfl) ?_
  refine net_read (fun y => [Row U5 (some ⟨b13, 0, none⟩) ((bs.length + 7) / 8) ((bs.length + 7) / 8) o]) (fun y => [(35, _), (37, _)]) (fun y => rfl) rfl (fun y => rfl) rfl (fun y FF hA => st_v (r_index (c := (U5)) V.sl22 rfl rfl (own (by repeat first | exact .head _ | apply List.Mem.tail)) (by omega) (by omega)) ⟨rfl, rfl⟩) (by intros; rfl) (by intro y y2 h; rfl) ?_
  refine net_read (fun y => [Row U5 (some ⟨b13, 0, none⟩) ((bs.length + 7) / 8) ((bs.length + 7) / 8) o]) (fun y => [(38, _)]) (fun y => rfl) rfl (fun y => rfl) rfl (fun y FF hA => st_v (r_load (c := (U5)) V.s5 rfl (own (by repeat first | exact .head _ | apply List.Mem.tail)) (by omega) (by omega) rfl rfl) ⟨rfl, rfl⟩) (by intros; rfl) (by intro y y2 h; rfl) ?_
  refine net_pure (fun y => [(0, _)]) (fun y => rfl) rfl rfl rfl (fun y hA L => st_v (v_move rfl) ⟨rfl, rfl⟩) (by intros; rfl) (by intro y y2 h; rfl) ?_
  refine net_pure (fun y => [(40, _)]) (fun y => rfl) rfl rfl rfl (fun y hA L => st_v (v_nil rfl) ⟨rfl, rfl⟩) (by intros; rfl) (by intro y y2 h; rfl) ?_
  refine net_pure (fun y => [(41, _)]) (fun y => rfl) rfl rfl rfl (fun y hA L => st_v (v_fieldAddr V.f43_0 rfl) ⟨rfl, rfl⟩) (by intros; rfl) (by intro y y2 h; rfl) ?_
  refine net_read (fun y => [Cel b 43 [.slice pb bs.length cb, .bool false]]) (fun y => [(42, _)]) (fun y => rfl) rfl (fun y => rfl) rfl (fun y FF hA => st_v (v_load V.s30 rfl (by repeat first | exact .head _ | apply List.Mem.tail) rfl) ⟨rfl, rfl⟩) (by intros; rfl) (by intro y y2 h; rfl) ?_
  refine net_pure (fun y => [(4, _)]) (fun y => rfl) rfl rfl rfl (fun y hA L => st_v (v_move rfl) ⟨rfl, rfl⟩) (by intros; rfl) (by intro y y2 h; rfl) ?_
  refine net_read (fun y => [Row I3 pb bs.length cb bs]) (fun y => [(43, _), (44, _)]) (fun y => rfl) rfl (fun y => rfl) rfl (fun y FF hA => st_v (r_index (c := (I3)) V.sl30 rfl rfl (own (by repeat first | exact .head _ | apply List.Mem.tail)) (by omega) (by omega)) ⟨rfl, rfl⟩) (by intros; rfl) (by intro y y2 h; rfl) ?_
  refine net_read (fun y => [Row I3 pb bs.length cb bs]) (fun y => [(45, _)]) (fun y => rfl) rfl (fun y => rfl) rfl (fun y FF hA => st_v (r_load (c := (I3)) V.s3 rfl (own (by repeat first | exact .head _ | apply List.Mem.tail)) (by omega) (by omega) rfl rfl) ⟨rfl, rfl⟩) (by intros; rfl) (by intro y y2 h; rfl) ?_
  refine net_pure (fun y => [(46, _)]) (fun y => rfl) rfl rfl rfl (fun y hA L => st_v (v_conv (r := bs.getD i 0) V.u3 Try.underlying5 rfl (by rw [hgb]; exact wrap8 (by omega) (by omega))) ⟨rfl, rfl⟩) (by intros; rfl) (by intro y y2 h; rfl) ?_
  refine net_pure (fun y => [(5, _)]) (fun y => rfl) rfl rfl rfl (fun y hA L => st_v (v_move rfl) ⟨rfl, rfl⟩) (by intros; rfl) (by intro y y2 h; rfl) ?_
  refine net_pure (fun y => [(47, _), (48, _)]) (fun y => rfl) rfl rfl rfl (fun y hA L => st_v (v_shl (r := bs.getD i 0 * 2 ^ (i % 8)) rfl rfl (by omega) (BitP.shl8 (p := i % 8) (by omega) (by omega) (by omega))) ⟨rfl, rfl⟩) (by intros; rfl) (by intro y y2 h; rfl) ?_
  refine net_pure (fun y => [(39, _), (49, _)]) (fun y => rfl) rfl rfl rfl (fun y hA L => st_v (v_or (r := (BitP.orB (o.getD (i / 8) 0) (bs.getD i 0) (i % 8))) rfl rfl (by rw [hgo]; exact BitP.or_put (hpo.byt.get _) (by omega) (by omega))) ⟨rfl, rfl⟩) (by intros; rfl) (by intro y y2 h; rfl) ?_
  refine net_read (fun y => [Row U5 (some ⟨b13, 0, none⟩) ((bs.length + 7) / 8) ((bs.length + 7) / 8) o]) (fun y => [(32, _), (34, _)]) (fun y => rfl) rfl (fun y => rfl) rfl (fun y FF hA => st_v (r_index (c := (U5)) V.sl22 rfl rfl (own (by repeat first | exact .head _ | apply List.Mem.tail)) (by omega) (by omega)) ⟨rfl, rfl⟩) (by intros; rfl) (by intro y y2 h; rfl) ?_
  refine net_eff (fun y => [Row U5 (some ⟨b13, 0, none⟩) ((bs.length + 7) / 8) ((bs.length + 7) / 8) o]) (fun y => []) (fun y => [Row U5 (some ⟨b13, 0, none⟩) ((bs.length + 7) / 8) ((bs.length + 7) / 8) (o.set ((i : Int) / 8).toNat (BitP.orB (o.getD (i / 8) 0) (bs.getD i 0) (i % 8)))]) (fun y => [(51, _), (50, _)]) (fun y => rfl) (fun y => rfl) (fun y => rfl) (fun y => rfl) (fun y FF hA => st_v (r_store (c := (U5)) (_) V.s5 rfl rfl rfl (by repeat first | exact .head | apply Rep.tail) (by omega) (by omega) rfl rfl) ⟨rfl, .refl _⟩) (by intros; rfl) (by intros; rfl) (by intro y y2 h; rfl) ?_
  refine net_nil ?_
  intro y hA
  clear hA
  show blk _ _ _ _ (Cel b 43 [.slice pb bs.length cb, .bool false] :: Row I3 pb bs.length cb bs :: Row U5 (some ⟨b13, 0, none⟩) ((bs.length + 7) / 8) ((bs.length + 7) / 8) (o.set ((i : Int) / 8).toNat (BitP.orB (o.getD (i / 8) 0) (bs.getD i 0) (i % 8))) :: F)
  refine blk_n ?_
  refine thn_n ?_
  refine w_region ?_
  refine o_val (v_move rfl) rfl ?_
  refine o_val (v_add rfl rfl (wrapI (by omega) (by omega))) rfl ?_
  refine o_val (v_assign rfl) rfl ?_
  refine o_nil ?_
  rw [show (((i : Int) / 8)).toNat = i / 8 from by omega]
  refine j2 (i + 1) (o.set (i / 8) (BitP.orB (o.getD (i / 8) 0) (bs.getD i 0) (i % 8))) ?_ (.cons rfl (.cons rfl (.cons rfl (.nil _)))) (sub (.cons (by repeat first | exact .head | apply Rem.tail) (.cons (by repeat first | exact .head | apply Rem.tail) (.cons (by repeat first | exact .head | apply Rem.tail) .nil))) (by repeat first | exact .refl | apply Drop.skip))
  exact ⟨⟨hpo.step (by omega) (h01.get i), by omega⟩, by omega⟩
 ·
  refine w_exit ?_
  refine thn_e ?_
  refine thn_e ?_
  refine blk_x ?_
  refine thn_n ?_
  refine w_seq ?_
  refine w_region ?_
  refine o_val (v_move rfl) rfl ?_
  refine o_val (v_assign rfl) rfl ?_
  refine o_nil ?_
  refine thn_n ?_
  refine w_ret ?_
  obtain rfl : i = bs.length := by omega
  have hol := hpo.len
  rw [← hol]
  exact ret_ok (G := [Row U5 (some ⟨b13, 0, none⟩) o.length o.length o, PK b bs]) (res1 rfl) ⟨o, _, _, InfP.Po.pq hpo, rfl, rfl, rfl⟩ (Sl.Sub.trans (fold' (A := PK b bs) (.cons (by repeat first | exact .head | apply Rem.tail) (.cons (by repeat first | exact .head | apply Rem.tail) .nil)) .refl (fun w0 h hh => pk_close rfl hh)) (sub (.cons (by repeat first | exact .head | apply Rem.tail) (.cons (by repeat first | exact .head | apply Rem.tail) .nil)) (by repeat first | exact .refl | apply Drop.skip)))
end Go.Proofs.Ytoplcgkafaoafaa

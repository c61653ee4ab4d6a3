/-
  Steps of the proof: walks of functions that the statement reaches; printed by a program of ours.
-/
import Derived.Test.YtgpfhkbolhpoiaaStoreE
namespace Go.Proofs.Ytgpfhkbolhpoiaa
open Go.Sl Go.StoreP
set_option linter.unusedVariables false
set_option linter.unusedSimpArgs false

theorem of_rd {P : Program} {f : FuncId} {args : List Value} {A : HProp} {R : Value → Prop} (h : Ctr P f args [A] (Ret fun v G => R v ∧ G = [A])) : Ctr P f args [A] (Ret fun v G => R v ∧ G = [A]) := h

def lw : Nat → Int | 0 => 0 | _ + 1 => 1
theorem lw_step : ∀ k : Nat, k < 4 → IntKind.i64.wrap ((BitVec.ofInt IntKind.i64.bits (lw k) ||| BitVec.ofInt IntKind.i64.bits (IntKind.i64.wrap ((IntKind.i64.wrap (([1, 0, 0, 0] : List Int).getD k 0)) * 2 ^ (min (8 * k) IntKind.i64.bits)))).toNat : Int) = lw (k + 1) := by decide

set_option maxRecDepth 100000 in
theorem n_low (p : Option Addr) (c : Nat) (A : HProp) (hA : ∀ w0 h, A w0 h → RdR U5 p 4 [1, 0, 0, 0] w0 h) : Ctr Try.prog 80 [.slice p 4 c] [A] (Ret fun v G => v = .int .i64 1 ∧ G = [A]) := by
  refine spec_of [(0, _)] Try.func80 rfl Try.ntmps80 rfl rfl ?_
  intro w0 F
  refine w_seq ?_
  refine w_region ?_
  refine o_val (v_assign rfl) rfl ?_
  refine o_nil ?_
  refine thn_n ?_
  refine w_seq ?_
  refine w_region ?_
  refine o_val (v_assign rfl) rfl ?_
  refine o_nil ?_
  refine thn_n ?_
  refine w_seq ?_
  refine w_seq ?_
  refine w_region ?_
  refine o_val (v_move rfl) rfl ?_
  refine o_val (v_len (ty' := 0) Try.underlying29 rfl) rfl ?_
  refine o_val (v_move rfl) rfl ?_
  refine o_nil ?_
  refine thn_n ?_
  refine w_block ?_
  refine w_loop1 (fun (k : Nat) => [(3, .int .i64 (lw k)), (6, .slice p 4 c), (7, .int .i64 4), (8, .int .i64 (k : Int))]) (fun (k : Nat) => A :: F) (fun (k : Nat) => k ≤ 4) (fun (k : Nat) => 4 - k) (i1 (0) ?_ (.cons rfl (.cons rfl (.cons rfl (.cons rfl (.nil _))))) (sub (.cons (by first | exact rr0 | exact rr1 | exact rr2 | exact rr3 | exact rr4 | exact rr5 | exact rr6 | exact rr7 | exact rr8 | exact rr9 | exact rr10 | exact rr11 | exact rr12 | exact rr13 | exact rr14) .nil) (by first | exact dd0 | exact dd1 | exact dd2 | exact dd3 | exact dd4 | exact dd5 | exact dd6 | exact dd7 | exact dd8 | exact dd9 | exact dd10 | exact dd11 | exact dd12 | exact dd13 | exact dd14))) ?_
  ·
    exact Nat.zero_le _
  intro k
  rintro hk
  refine w_seq ?_
  refine w_region ?_
  refine o_val (v_lss rfl rfl) rfl ?_
  refine o_nil ?_
  refine thn_n ?_
  refine w_seq ?_
  first | refine w_condD rfl (fun h9 => ?_) (fun h9 => ?_) | refine w_cond rfl (fun h9 => ?_) (fun h9 => ?_)
  ·
    refine w_skip ?_
    refine thn_n ?_
    refine w_seq ?_
    refine w_block ?_
    refine w_seq ?_
    have hk2 : k < 4 := by omega
    refine w_region ?_
    refine o_val (v_move rfl) rfl ?_
    refine o_val (r_index (c := (U5)) V.sl29 rfl rfl (by first | exact own mm0 | exact own mm1 | exact own mm2 | exact own mm3 | exact own mm4 | exact own mm5 | exact own mm6 | exact own mm7 | exact own mm8 | exact own mm9 | exact own mm10 | exact own mm11 | exact rdH hA mm0 | exact rdH hA mm1 | exact rdH hA mm2 | exact rdH hA mm3 | exact rdH hA mm4 | exact rdH hA mm5 | exact rdH hA mm6 | exact rdH hA mm7 | exact rdH hA mm8 | exact rdH hA mm9 | exact rdH hA mm10 | exact rdH hA mm11) (by omega) (by omega)) rfl ?_
    refine o_val (r_load (c := (U5)) V.s5 rfl (by first | exact own mm0 | exact own mm1 | exact own mm2 | exact own mm3 | exact own mm4 | exact own mm5 | exact own mm6 | exact own mm7 | exact own mm8 | exact own mm9 | exact own mm10 | exact own mm11 | exact rdH hA mm0 | exact rdH hA mm1 | exact rdH hA mm2 | exact rdH hA mm3 | exact rdH hA mm4 | exact rdH hA mm5 | exact rdH hA mm6 | exact rdH hA mm7 | exact rdH hA mm8 | exact rdH hA mm9 | exact rdH hA mm10 | exact rdH hA mm11) (by omega) (by omega) rfl rfl) rfl ?_
    refine o_val (v_assign rfl) rfl ?_
    refine o_val (v_assign rfl) rfl ?_
    refine o_nil ?_
    refine thn_n ?_
    have e8 : (8 * (k : Int)).toNat = 8 * k := by omega
    refine w_region ?_
    refine o_val (v_move rfl) rfl ?_
    refine o_val (v_move rfl) rfl ?_
    refine o_val (v_conv V.u5 Try.underlying3 rfl rfl) rfl ?_
    refine o_val (v_move rfl) rfl ?_
    refine o_val (v_mul rfl rfl (wrapI (by omega) (by omega))) rfl ?_
    refine o_val (v_shl rfl rfl (by omega) rfl) rfl ?_
    refine o_val (v_to (v := .int .i64 (lw (k + 1))) (v_or rfl rfl rfl) (congrArg (Value.int .i64) (by rw [e8]; exact lw_step k hk2))) rfl ?_
    refine o_val (v_assign rfl) rfl ?_
    refine o_nil ?_
    refine blk_n ?_
    refine thn_n ?_
    refine w_region ?_
    refine o_val (v_add rfl rfl (wrapI (by omega) (by omega))) rfl ?_
    refine o_val (v_move rfl) rfl ?_
    refine o_nil ?_
    refine j1 (k + 1) ?_ (.cons rfl (.cons rfl (.cons rfl (.cons rfl (.nil _))))) (sub (.cons (by first | exact rr0 | exact rr1 | exact rr2 | exact rr3 | exact rr4 | exact rr5 | exact rr6 | exact rr7 | exact rr8 | exact rr9 | exact rr10 | exact rr11 | exact rr12 | exact rr13 | exact rr14) .nil) (by first | exact dd0 | exact dd1 | exact dd2 | exact dd3 | exact dd4 | exact dd5 | exact dd6 | exact dd7 | exact dd8 | exact dd9 | exact dd10 | exact dd11 | exact dd12 | exact dd13 | exact dd14))
    exact ⟨by omega, by omega⟩
  ·
    refine w_exit ?_
    refine thn_e ?_
    refine thn_e ?_
    refine blk_x ?_
    refine thn_n ?_
    refine w_seq ?_
    refine w_region ?_
    refine o_val (v_move rfl) rfl ?_
    refine o_val (v_assign rfl) rfl ?_
    refine o_nil ?_
    refine thn_n ?_
    refine w_ret ?_
    obtain rfl : k = 4 := by omega
    exact end_ok (G := [A]) (res1 rfl) ⟨rfl, rfl⟩ (sub (.cons (by first | exact rr0 | exact rr1 | exact rr2 | exact rr3 | exact rr4 | exact rr5 | exact rr6 | exact rr7 | exact rr8 | exact rr9 | exact rr10 | exact rr11 | exact rr12 | exact rr13 | exact rr14) .nil) (by first | exact dd0 | exact dd1 | exact dd2 | exact dd3 | exact dd4 | exact dd5 | exact dd6 | exact dd7 | exact dd8 | exact dd9 | exact dd10 | exact dd11 | exact dd12 | exact dd13 | exact dd14))

set_option maxRecDepth 100000 in
theorem n_signed  : Ctr Try.prog 86 [.int .i64 1] [] (Ret fun v G => v = .int .i64 1 ∧ G = []) := by
  refine spec_of [(0, _)] Try.func86 rfl Try.ntmps86 rfl rfl ?_
  intro w0 F
  refine w_seq ?_
  refine w_region ?_
  refine o_val (v_assign rfl) rfl ?_
  refine o_nil ?_
  refine thn_n ?_
  refine w_seq ?_
  refine w_region ?_
  refine o_val (v_move rfl) rfl ?_
  refine o_val (v_conv (r := 1) V.u3 Try.underlying21 rfl rfl) rfl ?_
  refine o_val (v_conv (r := 1) V.u21 Try.underlying3 rfl rfl) rfl ?_
  refine o_val (v_assign rfl) rfl ?_
  refine o_nil ?_
  refine thn_n ?_
  refine w_ret ?_
  exact ret_ok (G := []) (res1 rfl) ⟨rfl, rfl⟩ (sub .nil (by first | exact dd0 | exact dd1 | exact dd2 | exact dd3 | exact dd4 | exact dd5 | exact dd6 | exact dd7 | exact dd8 | exact dd9 | exact dd10 | exact dd11 | exact dd12 | exact dd13 | exact dd14))

theorem row_part {p : Option Addr} {c a b : Nat} (h1 : a ≤ b) (h2 : b ≤ 126) (hc : 126 ≤ c) (w0 : World) (h : Hp) (hh : Row U5 p 126 c bmp1 w0 h) : RdR U5 (subP p a c 1) (b - a) ((bmp1.drop a).take (b - a)) w0 h := by
  exact hh.rd.sub a b c h1 h2 (by omega)
theorem part_w : (bmp1.drop 18).take (22 - 18) = [1, 0, 0, 0] := by kernel_rfl
theorem part_h : (bmp1.drop 22).take (26 - 22) = [1, 0, 0, 0] := by kernel_rfl

set_option maxRecDepth 100000 in
theorem n_sides (p : Option Addr) (c : Nat) (hc : 126 ≤ c) : Ctr Try.prog 85 [.agg #[], .slice p 126 c] [Row U5 p 126 c bmp1] (Ret fun v G => v = .tuple #[.int .i64 1, .int .i64 1] ∧ G = [Row U5 p 126 c bmp1]) := by
  refine spec_of [(0, _), (1, _)] Try.func85 rfl Try.ntmps85 rfl rfl ?_
  intro w0 F
  refine w_seq ?_
  refine w_region ?_
  refine o_box rfl (cs := []) rfl rfl ?_
  intro b2
  refine o_val (v_assign rfl) rfl ?_
  refine o_val (v_assign rfl) rfl ?_
  refine o_nil ?_
  refine thn_n ?_
  refine w_seq ?_
  refine w_region ?_
  refine o_val (v_move rfl) rfl ?_
  refine o_val (v_slice 22 26 c V.sl29 rfl ⟨_, rfl⟩ ⟨_, rfl⟩ rfl (by omega) (by omega) (by omega)) rfl ?_
  refine o_call (n_low (subP p 22 c 1) (c - 22) (Row U5 p 126 c bmp1) (fun w0 h hh => by have := row_part (a := 22) (b := 26) (by decide) (by decide) hc w0 h hh; rw [part_h] at this; exact this)) V.b80  rfl (.cons (by first | exact rr0 | exact rr1 | exact rr2 | exact rr3 | exact rr4 | exact rr5 | exact rr6 | exact rr7 | exact rr8 | exact rr9 | exact rr10 | exact rr11 | exact rr12 | exact rr13 | exact rr14) .nil) rfl ?_
  rintro _ _ ⟨rfl, rfl⟩
  refine o_call (n_signed) V.b86  rfl .nil rfl ?_
  rintro _ _ ⟨rfl, rfl⟩
  refine o_val (v_assign rfl) rfl ?_
  refine o_nil ?_
  refine thn_n ?_
  refine w_seq ?_
  refine w_region ?_
  refine o_val (v_move rfl) rfl ?_
  refine o_val (v_slice 18 22 c V.sl29 rfl ⟨_, rfl⟩ ⟨_, rfl⟩ rfl (by omega) (by omega) (by omega)) rfl ?_
  refine o_call (n_low (subP p 18 c 1) (c - 18) (Row U5 p 126 c bmp1) (fun w0 h hh => by have := row_part (a := 18) (b := 22) (by decide) (by decide) hc w0 h hh; rw [part_w] at this; exact this)) V.b80  rfl (.cons (by first | exact rr0 | exact rr1 | exact rr2 | exact rr3 | exact rr4 | exact rr5 | exact rr6 | exact rr7 | exact rr8 | exact rr9 | exact rr10 | exact rr11 | exact rr12 | exact rr13 | exact rr14) .nil) rfl ?_
  rintro _ _ ⟨rfl, rfl⟩
  refine o_call (n_signed) V.b86  rfl .nil rfl ?_
  rintro _ _ ⟨rfl, rfl⟩
  refine o_val (v_move rfl) rfl ?_
  refine o_val (v_move rfl) rfl ?_
  refine o_val (v_to (v := .int .i64 (-1)) (v_neg rfl rfl) rfl) rfl ?_
  refine o_val (v_to (v := .int .i64 1) (v_max rfl rfl) rfl) rfl ?_
  refine o_val (v_assign rfl) rfl ?_
  refine o_val (v_assign rfl) rfl ?_
  refine o_nil ?_
  refine thn_n ?_
  refine w_ret ?_
  exact ret_ok (G := [_]) (res2 rfl rfl) ⟨rfl, rfl⟩ (sub (.cons (by first | exact rr0 | exact rr1 | exact rr2 | exact rr3 | exact rr4 | exact rr5 | exact rr6 | exact rr7 | exact rr8 | exact rr9 | exact rr10 | exact rr11 | exact rr12 | exact rr13 | exact rr14) .nil) (by first | exact dd0 | exact dd1 | exact dd2 | exact dd3 | exact dd4 | exact dd5 | exact dd6 | exact dd7 | exact dd8 | exact dd9 | exact dd10 | exact dd11 | exact dd12 | exact dd13 | exact dd14))

set_option maxRecDepth 100000 in
theorem n_leastB  : Ctr Try.prog 84 [.agg #[]] [] (Ret fun v G => v = .int .i64 26 ∧ G = []) := by
  refine spec_of [(0, _)] Try.func84 rfl Try.ntmps84 rfl rfl ?_
  intro w0 F
  refine w_seq ?_
  refine w_region ?_
  refine o_box rfl (cs := []) rfl rfl ?_
  intro b1
  refine o_val (v_assign rfl) rfl ?_
  refine o_nil ?_
  refine thn_n ?_
  refine w_seq ?_
  refine w_region ?_
  refine o_val (v_assign rfl) rfl ?_
  refine o_nil ?_
  refine thn_n ?_
  refine w_ret ?_
  exact ret_ok (G := []) (res1 rfl) ⟨rfl, rfl⟩ (sub .nil (by first | exact dd0 | exact dd1 | exact dd2 | exact dd3 | exact dd4 | exact dd5 | exact dd6 | exact dd7 | exact dd8 | exact dd9 | exact dd10 | exact dd11 | exact dd12 | exact dd13 | exact dd14))

set_option maxRecDepth 100000 in
theorem n_leastP  : Ctr Try.prog 70 [.agg #[]] [] (Ret fun v G => v = .int .i64 26 ∧ G = []) := by
  refine spec_of [(0, _)] Try.func70 rfl Try.ntmps70 rfl rfl ?_
  intro w0 F
  refine w_seq ?_
  refine w_region ?_
  refine o_box rfl (cs := []) rfl rfl ?_
  intro b1
  refine o_val (v_assign rfl) rfl ?_
  refine o_nil ?_
  refine thn_n ?_
  refine w_seq ?_
  refine w_region ?_
  refine o_val (v_assign rfl) rfl ?_
  refine o_nil ?_
  refine thn_n ?_
  refine w_ret ?_
  exact ret_ok (G := []) (res1 rfl) ⟨rfl, rfl⟩ (sub .nil (by first | exact dd0 | exact dd1 | exact dd2 | exact dd3 | exact dd4 | exact dd5 | exact dd6 | exact dd7 | exact dd8 | exact dd9 | exact dd10 | exact dd11 | exact dd12 | exact dd13 | exact dd14))

set_option maxRecDepth 100000 in
theorem n_leastG  : Ctr Try.prog 78 [.agg #[]] [] (Ret fun v G => v = .int .i64 10 ∧ G = []) := by
  refine spec_of [(0, _)] Try.func78 rfl Try.ntmps78 rfl rfl ?_
  intro w0 F
  refine w_seq ?_
  refine w_region ?_
  refine o_box rfl (cs := []) rfl rfl ?_
  intro b1
  refine o_val (v_assign rfl) rfl ?_
  refine o_nil ?_
  refine thn_n ?_
  refine w_seq ?_
  refine w_region ?_
  refine o_val (v_assign rfl) rfl ?_
  refine o_nil ?_
  refine thn_n ?_
  refine w_ret ?_
  exact ret_ok (G := []) (res1 rfl) ⟨rfl, rfl⟩ (sub .nil (by first | exact dd0 | exact dd1 | exact dd2 | exact dd3 | exact dd4 | exact dd5 | exact dd6 | exact dd7 | exact dd8 | exact dd9 | exact dd10 | exact dd11 | exact dd12 | exact dd13 | exact dd14))

set_option maxRecDepth 100000 in
theorem n_beginsB (p : Option Addr) (c : Nat) : Ctr Try.prog 81 [.agg #[], .slice p 126 c] [Row U5 p 126 c bmp1] (Ret fun v G => v = .bool true ∧ G = [Row U5 p 126 c bmp1]) := by
  refine spec_of [(0, _), (1, _)] Try.func81 rfl Try.ntmps81 rfl rfl ?_
  intro w0 F
  refine w_seq ?_
  refine w_region ?_
  refine o_box rfl (cs := []) rfl rfl ?_
  intro b2
  refine o_val (v_assign rfl) rfl ?_
  refine o_nil ?_
  refine thn_n ?_
  refine w_seq ?_
  refine w_region ?_
  refine o_val (v_move rfl) rfl ?_
  refine o_val (v_len (ty' := 0) Try.underlying29 rfl) rfl ?_
  refine o_val (v_T (v_gtr rfl rfl) (by decide)) rfl ?_
  refine o_val (v_move rfl) rfl ?_
  refine o_want rfl ?_
  refine o_val (v_move rfl) rfl ?_
  refine o_want rfl ?_
  refine o_val (r_index (c := (U5)) V.sl29 rfl rfl (by first | exact own mm0 | exact own mm1 | exact own mm2 | exact own mm3 | exact own mm4 | exact own mm5 | exact own mm6 | exact own mm7 | exact own mm8 | exact own mm9 | exact own mm10 | exact own mm11) (by omega) (by omega)) rfl ?_
  refine o_want rfl ?_
  refine o_val (r_load (c := (U5)) V.s5 rfl (by first | exact own mm0 | exact own mm1 | exact own mm2 | exact own mm3 | exact own mm4 | exact own mm5 | exact own mm6 | exact own mm7 | exact own mm8 | exact own mm9 | exact own mm10 | exact own mm11) (by omega) (by omega) rfl rfl) rfl ?_
  refine o_want rfl ?_
  refine o_val (v_T (v_eql rfl rfl) (by kernel_rfl)) rfl ?_
  refine o_val (v_pickT rfl rfl) rfl ?_
  refine o_val (v_move rfl) rfl ?_
  refine o_want rfl ?_
  refine o_val (v_move rfl) rfl ?_
  refine o_want rfl ?_
  refine o_val (r_index (c := (U5)) V.sl29 rfl rfl (by first | exact own mm0 | exact own mm1 | exact own mm2 | exact own mm3 | exact own mm4 | exact own mm5 | exact own mm6 | exact own mm7 | exact own mm8 | exact own mm9 | exact own mm10 | exact own mm11) (by omega) (by omega)) rfl ?_
  refine o_want rfl ?_
  refine o_val (r_load (c := (U5)) V.s5 rfl (by first | exact own mm0 | exact own mm1 | exact own mm2 | exact own mm3 | exact own mm4 | exact own mm5 | exact own mm6 | exact own mm7 | exact own mm8 | exact own mm9 | exact own mm10 | exact own mm11) (by omega) (by omega) rfl rfl) rfl ?_
  refine o_want rfl ?_
  refine o_val (v_T (v_eql rfl rfl) (by kernel_rfl)) rfl ?_
  refine o_val (v_pickT rfl rfl) rfl ?_
  refine o_val (v_assign rfl) rfl ?_
  refine o_nil ?_
  refine thn_n ?_
  refine w_ret ?_
  exact ret_ok (G := [_]) (res1 rfl) ⟨rfl, rfl⟩ (sub (.cons (by first | exact rr0 | exact rr1 | exact rr2 | exact rr3 | exact rr4 | exact rr5 | exact rr6 | exact rr7 | exact rr8 | exact rr9 | exact rr10 | exact rr11 | exact rr12 | exact rr13 | exact rr14) .nil) (by first | exact dd0 | exact dd1 | exact dd2 | exact dd3 | exact dd4 | exact dd5 | exact dd6 | exact dd7 | exact dd8 | exact dd9 | exact dd10 | exact dd11 | exact dd12 | exact dd13 | exact dd14))

theorem gif_no : ((strOfNums (bmp1.take 6)).toList == (ByteArray.mk #[71, 73, 70, 56, 55, 97]).toList) = false := by
  rw [ByteArray.toList_eq, ByteArray.toList_eq]; kernel_rfl
theorem gif_no2 : ((strOfNums (bmp1.take 6)).toList == (ByteArray.mk #[71, 73, 70, 56, 57, 97]).toList) = false := by
  rw [ByteArray.toList_eq, ByteArray.toList_eq]; kernel_rfl
theorem png_no : (((strOfNums (bmp1.take 8)).extract 0 8).toList == (ByteArray.mk #[137, 80, 78, 71, 13, 10, 26, 10]).toList) = false := by
  rw [ByteArray.toList_eq, ByteArray.toList_eq, ByteArray.data_extract]; kernel_rfl
theorem min_126 (n : Int) (h : n < 126) : Value.int .i64 (if n < ((126 : Nat) : Int) then n else ((126 : Nat) : Int)) = .int .i64 n := by
  rw [if_pos (by omega)]

set_option maxRecDepth 100000 in
theorem n_beginsG (p : Option Addr) (c : Nat) : Ctr Try.prog 75 [.agg #[], .slice p 126 c] [Row U5 p 126 c bmp1] (Ret fun v G => v = .bool false ∧ G = [Row U5 p 126 c bmp1]) := by
  refine spec_of [(0, _), (1, _)] Try.func75 rfl Try.ntmps75 rfl rfl ?_
  intro w0 F
  refine w_cap mm0 (fun hc => ?_)
  refine w_seq ?_
  refine w_region ?_
  refine o_box rfl (cs := []) rfl rfl ?_
  intro b2
  refine o_val (v_assign rfl) rfl ?_
  refine o_nil ?_
  refine thn_n ?_
  refine w_seq ?_
  refine w_region ?_
  refine o_val (v_move rfl) rfl ?_
  refine o_val (v_move rfl) rfl ?_
  refine o_val (v_len (ty' := 0) Try.underlying29 rfl) rfl ?_
  refine o_val (v_to (v := .int .i64 6) (v_min rfl rfl) (min_126 _ (by decide))) rfl ?_
  refine o_val (v_slice0 6 c V.sl29 rfl ⟨_, rfl⟩ rfl (by omega) (by omega)) rfl ?_
  refine o_val (s_str (l := bmp1.take 6) Try.underlying29 Try.underlying5 Try.underlying9 rfl (Has.take (own (by first | exact mm0 | exact mm1 | exact mm2 | exact mm3)) 6 (by decide))) rfl ?_
  refine o_val (v_assign rfl) rfl ?_
  refine o_nil ?_
  refine thn_n ?_
  refine w_seq ?_
  refine w_region ?_
  refine o_val (v_move rfl) rfl ?_
  refine o_val (s_eq (r := false) rfl rfl gif_no) rfl ?_
  refine o_val (v_move rfl) rfl ?_
  refine o_want rfl ?_
  refine o_val (v_move rfl) rfl ?_
  refine o_want rfl ?_
  refine o_val (s_eq (r := false) rfl rfl gif_no2) rfl ?_
  refine o_val (v_pickF rfl rfl) rfl ?_
  refine o_val (v_assign rfl) rfl ?_
  refine o_nil ?_
  refine thn_n ?_
  refine w_ret ?_
  exact ret_ok (G := [_]) (res1 rfl) ⟨rfl, rfl⟩ (sub (.cons (by first | exact rr0 | exact rr1 | exact rr2 | exact rr3 | exact rr4 | exact rr5 | exact rr6 | exact rr7 | exact rr8 | exact rr9 | exact rr10 | exact rr11 | exact rr12 | exact rr13 | exact rr14) .nil) (by first | exact dd0 | exact dd1 | exact dd2 | exact dd3 | exact dd4 | exact dd5 | exact dd6 | exact dd7 | exact dd8 | exact dd9 | exact dd10 | exact dd11 | exact dd12 | exact dd13 | exact dd14))

set_option maxRecDepth 100000 in
theorem x_prefix (s u : ByteArray) (h1 : s.size = 8) (h2 : u.size = 8) (hne : ((s.extract 0 8).toList == u.toList) = false) : Ctr Try.prog 74 [.string s, .string u] [] (Ret fun v G => v = .bool false ∧ G = []) := by
  refine spec_of [(0, _), (1, _)] Try.func74 rfl Try.ntmps74 rfl rfl ?_
  intro w0 F
  refine w_seq ?_
  refine w_region ?_
  refine o_val (v_assign rfl) rfl ?_
  refine o_nil ?_
  refine thn_n ?_
  refine w_seq ?_
  refine w_region ?_
  refine o_val (v_move rfl) rfl ?_
  refine o_val (v_lenS Try.underlying9 rfl h1) rfl ?_
  refine o_val (v_move rfl) rfl ?_
  refine o_val (v_lenS Try.underlying9 rfl h2) rfl ?_
  refine o_val (v_T (v_geq rfl rfl) (by decide)) rfl ?_
  refine o_val (v_move rfl) rfl ?_
  refine o_want rfl ?_
  refine o_val (v_move rfl) rfl ?_
  refine o_want rfl ?_
  refine o_val (v_move rfl) rfl ?_
  refine o_want rfl ?_
  refine o_val (v_lenS Try.underlying9 rfl h2) rfl ?_
  refine o_want rfl ?_
  refine o_val (v_prefS (u := s.extract 0 8) Try.underlying9 rfl rfl (by decide) (by rw [h1]; decide) rfl) rfl ?_
  refine o_want rfl ?_
  refine o_val (v_move rfl) rfl ?_
  refine o_want rfl ?_
  refine o_val (s_eq (r := false) rfl rfl hne) rfl ?_
  refine o_val (v_pickT rfl rfl) rfl ?_
  refine o_val (v_assign rfl) rfl ?_
  refine o_nil ?_
  refine thn_n ?_
  refine w_ret ?_
  exact ret_ok (G := []) (res1 rfl) ⟨rfl, rfl⟩ (sub .nil (by first | exact dd0 | exact dd1 | exact dd2 | exact dd3 | exact dd4 | exact dd5 | exact dd6 | exact dd7 | exact dd8 | exact dd9 | exact dd10 | exact dd11 | exact dd12 | exact dd13 | exact dd14))

set_option maxRecDepth 100000 in
theorem s_prefix (s u : ByteArray) (h1 : s.size = 8) (h2 : u.size = 8) (hne : ((s.extract 0 8).toList == u.toList) = false) : Ctr Try.prog 72 [.string s, .string u] [] (Ret fun v G => v = .bool false ∧ G = []) := by
  refine spec_of [(0, _), (1, _)] Try.func72 rfl Try.ntmps72 rfl rfl ?_
  intro w0 F
  refine w_seq ?_
  refine w_region ?_
  refine o_val (v_assign rfl) rfl ?_
  refine o_nil ?_
  refine thn_n ?_
  refine w_seq ?_
  refine w_region ?_
  refine o_val (v_move rfl) rfl ?_
  refine o_val (v_move rfl) rfl ?_
  refine o_call (x_prefix s u h1 h2 hne) V.b74  rfl .nil rfl ?_
  rintro _ _ ⟨rfl, rfl⟩
  refine o_val (v_assign rfl) rfl ?_
  refine o_nil ?_
  refine thn_n ?_
  refine w_ret ?_
  exact ret_ok (G := []) (res1 rfl) ⟨rfl, rfl⟩ (sub .nil (by first | exact dd0 | exact dd1 | exact dd2 | exact dd3 | exact dd4 | exact dd5 | exact dd6 | exact dd7 | exact dd8 | exact dd9 | exact dd10 | exact dd11 | exact dd12 | exact dd13 | exact dd14))

set_option maxRecDepth 100000 in
theorem n_beginsP (p : Option Addr) (c : Nat) : Ctr Try.prog 67 [.agg #[], .slice p 126 c] [Row U5 p 126 c bmp1] (Ret fun v G => v = .bool false ∧ G = [Row U5 p 126 c bmp1]) := by
  refine spec_of [(0, _), (1, _)] Try.func67 rfl Try.ntmps67 rfl rfl ?_
  intro w0 F
  refine w_cap mm0 (fun hc => ?_)
  refine w_seq ?_
  refine w_region ?_
  refine o_box rfl (cs := []) rfl rfl ?_
  intro b2
  refine o_val (v_assign rfl) rfl ?_
  refine o_nil ?_
  refine thn_n ?_
  refine w_seq ?_
  refine w_region ?_
  refine o_val (v_move rfl) rfl ?_
  refine o_val (v_move rfl) rfl ?_
  refine o_val (v_len (ty' := 0) Try.underlying29 rfl) rfl ?_
  refine o_val (v_to (v := .int .i64 8) (v_min rfl rfl) (min_126 _ (by decide))) rfl ?_
  refine o_val (v_slice0 8 c V.sl29 rfl ⟨_, rfl⟩ rfl (by omega) (by omega)) rfl ?_
  refine o_val (s_str (l := bmp1.take 8) Try.underlying29 Try.underlying5 Try.underlying9 rfl (Has.take (own (by first | exact mm0 | exact mm1 | exact mm2 | exact mm3)) 8 (by decide))) rfl ?_
  refine o_call (s_prefix (strOfNums (bmp1.take 8)) (ByteArray.mk #[137, 80, 78, 71, 13, 10, 26, 10]) (by rw [strOfNums_size]; kernel_rfl) (by kernel_rfl) png_no) V.b72  rfl .nil rfl ?_
  rintro _ _ ⟨rfl, rfl⟩
  refine o_val (v_assign rfl) rfl ?_
  refine o_nil ?_
  refine thn_n ?_
  refine w_ret ?_
  exact ret_ok (G := [_]) (res1 rfl) ⟨rfl, rfl⟩ (sub (.cons (by first | exact rr0 | exact rr1 | exact rr2 | exact rr3 | exact rr4 | exact rr5 | exact rr6 | exact rr7 | exact rr8 | exact rr9 | exact rr10 | exact rr11 | exact rr12 | exact rr13 | exact rr14) .nil) (by first | exact dd0 | exact dd1 | exact dd2 | exact dd3 | exact dd4 | exact dd5 | exact dd6 | exact dd7 | exact dd8 | exact dd9 | exact dd10 | exact dd11 | exact dd12 | exact dd13 | exact dd14))

set_option maxRecDepth 100000 in
theorem n_of1 (n : Int) (h : n = 1) : Ctr Try.prog 22 [.int .i64 n] [] (Ret fun v G => v = .tuple #[.iface 72 (.agg #[]), .bool true] ∧ G = []) := by
  refine spec_of [(0, _)] Try.func22 rfl Try.ntmps22 rfl rfl ?_
  intro w0 F
  refine w_seq ?_
  refine w_region ?_
  refine o_val (v_assign rfl) rfl ?_
  refine o_val (v_assign rfl) rfl ?_
  refine o_nil ?_
  refine thn_n ?_
  refine w_seq ?_
  refine w_seq ?_
  refine w_region ?_
  refine o_val (v_move rfl) rfl ?_
  refine o_nil ?_
  refine thn_n ?_
  refine w_block ?_
  refine w_seq ?_
  refine w_region ?_
  refine o_val (v_T (v_eql rfl rfl) h) rfl ?_
  refine o_val (v_assign rfl) rfl ?_
  refine o_nil ?_
  refine thn_n ?_
  refine w_condT rfl ?_
  refine w_seq ?_
  refine w_region ?_
  refine o_val (v_build V.pl72 V.z72 rfl (cs := []) rfl) rfl ?_
  refine o_val (v_iface V.c72 rfl) rfl ?_
  refine o_val (v_assign rfl) rfl ?_
  refine o_val (v_assign rfl) rfl ?_
  refine o_nil ?_
  refine thn_n ?_
  refine w_ret ?_
  refine (blk_r (thn_r ?_))
  exact ret_ok (G := []) (res2 rfl rfl) ⟨rfl, rfl⟩ (sub .nil (by first | exact dd0 | exact dd1 | exact dd2 | exact dd3 | exact dd4 | exact dd5 | exact dd6 | exact dd7 | exact dd8 | exact dd9 | exact dd10 | exact dd11 | exact dd12 | exact dd13 | exact dd14))

set_option maxRecDepth 100000 in
theorem n_of2 (n : Int) (h : n = 2) : Ctr Try.prog 22 [.int .i64 n] [] (Ret fun v G => v = .tuple #[.iface 73 (.agg #[]), .bool true] ∧ G = []) := by
  refine spec_of [(0, _)] Try.func22 rfl Try.ntmps22 rfl rfl ?_
  intro w0 F
  refine w_seq ?_
  refine w_region ?_
  refine o_val (v_assign rfl) rfl ?_
  refine o_val (v_assign rfl) rfl ?_
  refine o_nil ?_
  refine thn_n ?_
  refine w_seq ?_
  refine w_seq ?_
  refine w_region ?_
  refine o_val (v_move rfl) rfl ?_
  refine o_nil ?_
  refine thn_n ?_
  refine w_block ?_
  refine w_seq ?_
  refine w_region ?_
  refine o_val (v_F (v_eql rfl rfl) (by omega)) rfl ?_
  refine o_val (v_assign rfl) rfl ?_
  refine o_nil ?_
  refine thn_n ?_
  refine w_condF rfl ?_
  refine w_seq ?_
  refine w_region ?_
  refine o_val (v_T (v_eql rfl rfl) h) rfl ?_
  refine o_val (v_assign rfl) rfl ?_
  refine o_nil ?_
  refine thn_n ?_
  refine w_condT rfl ?_
  refine w_seq ?_
  refine w_region ?_
  refine o_val (v_build V.pl73 V.z73 rfl (cs := []) rfl) rfl ?_
  refine o_val (v_iface V.c73 rfl) rfl ?_
  refine o_val (v_assign rfl) rfl ?_
  refine o_val (v_assign rfl) rfl ?_
  refine o_nil ?_
  refine thn_n ?_
  refine w_ret ?_
  refine (blk_r (thn_r ?_))
  exact ret_ok (G := []) (res2 rfl rfl) ⟨rfl, rfl⟩ (sub .nil (by first | exact dd0 | exact dd1 | exact dd2 | exact dd3 | exact dd4 | exact dd5 | exact dd6 | exact dd7 | exact dd8 | exact dd9 | exact dd10 | exact dd11 | exact dd12 | exact dd13 | exact dd14))

set_option maxRecDepth 100000 in
theorem n_of3 (n : Int) (h : n = 3) : Ctr Try.prog 22 [.int .i64 n] [] (Ret fun v G => v = .tuple #[.iface 74 (.agg #[]), .bool true] ∧ G = []) := by
  refine spec_of [(0, _)] Try.func22 rfl Try.ntmps22 rfl rfl ?_
  intro w0 F
  refine w_seq ?_
  refine w_region ?_
  refine o_val (v_assign rfl) rfl ?_
  refine o_val (v_assign rfl) rfl ?_
  refine o_nil ?_
  refine thn_n ?_
  refine w_seq ?_
  refine w_seq ?_
  refine w_region ?_
  refine o_val (v_move rfl) rfl ?_
  refine o_nil ?_
  refine thn_n ?_
  refine w_block ?_
  refine w_seq ?_
  refine w_region ?_
  refine o_val (v_F (v_eql rfl rfl) (by omega)) rfl ?_
  refine o_val (v_assign rfl) rfl ?_
  refine o_nil ?_
  refine thn_n ?_
  refine w_condF rfl ?_
  refine w_seq ?_
  refine w_region ?_
  refine o_val (v_F (v_eql rfl rfl) (by omega)) rfl ?_
  refine o_val (v_assign rfl) rfl ?_
  refine o_nil ?_
  refine thn_n ?_
  refine w_condF rfl ?_
  refine w_seq ?_
  refine w_region ?_
  refine o_val (v_T (v_eql rfl rfl) h) rfl ?_
  refine o_val (v_assign rfl) rfl ?_
  refine o_nil ?_
  refine thn_n ?_
  refine w_condT rfl ?_
  refine w_seq ?_
  refine w_region ?_
  refine o_val (v_build V.pl74 V.z74 rfl (cs := []) rfl) rfl ?_
  refine o_val (v_iface V.c74 rfl) rfl ?_
  refine o_val (v_assign rfl) rfl ?_
  refine o_val (v_assign rfl) rfl ?_
  refine o_nil ?_
  refine thn_n ?_
  refine w_ret ?_
  refine (blk_r (thn_r ?_))
  exact ret_ok (G := []) (res2 rfl rfl) ⟨rfl, rfl⟩ (sub .nil (by first | exact dd0 | exact dd1 | exact dd2 | exact dd3 | exact dd4 | exact dd5 | exact dd6 | exact dd7 | exact dd8 | exact dd9 | exact dd10 | exact dd11 | exact dd12 | exact dd13 | exact dd14))

set_option maxRecDepth 100000 in
theorem n_kind (p : Option Addr) (c : Nat) : Ctr Try.prog 23 [.slice p 126 c] [Row U5 p 126 c bmp1] (Ret fun v G => v = .int .i64 3 ∧ G = [Row U5 p 126 c bmp1]) := by
  refine spec_of [(0, _)] Try.func23 rfl Try.ntmps23 rfl rfl ?_
  intro w0 F
  refine w_seq ?_
  refine w_region ?_
  refine o_val (v_assign rfl) rfl ?_
  refine o_nil ?_
  refine thn_n ?_
  refine w_seq ?_
  refine w_seq ?_
  refine w_region ?_
  refine o_val (v_assign rfl) rfl ?_
  refine o_nil ?_
  refine thn_n ?_
  refine w_block ?_
  refine w_loop1 (fun (k : Nat) => [(0, .slice p 126 c), (3, .int .i64 (k : Int))]) (fun (k : Nat) => Row U5 p 126 c bmp1 :: F) (fun (k : Nat) => 1 ≤ k ∧ k ≤ 3) (fun (k : Nat) => 4 - k) (i1 (1) ?_ (.cons rfl (.cons rfl (.nil _))) (sub (.cons (by first | exact rr0 | exact rr1 | exact rr2 | exact rr3 | exact rr4 | exact rr5 | exact rr6 | exact rr7 | exact rr8 | exact rr9 | exact rr10 | exact rr11 | exact rr12 | exact rr13 | exact rr14) .nil) (by first | exact dd0 | exact dd1 | exact dd2 | exact dd3 | exact dd4 | exact dd5 | exact dd6 | exact dd7 | exact dd8 | exact dd9 | exact dd10 | exact dd11 | exact dd12 | exact dd13 | exact dd14))) ?_
  ·
    exact ⟨by omega, by omega⟩
  intro k
  rintro ⟨hk1, hk3⟩
  refine w_seq ?_
  refine w_seq ?_
  refine w_region ?_
  refine o_val (v_move rfl) rfl ?_
  refine o_val (v_leq rfl rfl) rfl ?_
  refine o_nil ?_
  refine thn_n ?_
  first | refine w_condD rfl (fun h7 => ?_) (fun h7 => ?_) | refine w_cond rfl (fun h7 => ?_) (fun h7 => ?_)
  ·
    refine w_skip ?_
    refine thn_n ?_
    refine w_seq ?_
    refine w_block ?_
    rcases ((by omega : k = 1 ∨ k = 2 ∨ k = 3)) with hk | hk | hk
    ·
      refine w_seq ?_
      refine w_region ?_
      refine o_val (v_move rfl) rfl ?_
      refine o_call (n_of1 (k : Int) (by omega)) V.b22  rfl .nil rfl ?_
      rintro _ _ ⟨rfl, rfl⟩
      refine o_val (v_move rfl) rfl ?_
      refine o_val (v_extract rfl rfl) rfl ?_
      refine o_val (v_extract rfl rfl) rfl ?_
      refine o_val (v_assign rfl) rfl ?_
      refine o_val (v_assign rfl) rfl ?_
      refine o_nil ?_
      refine thn_n ?_
      refine w_seq ?_
      refine w_region ?_
      refine o_val (v_move rfl) rfl ?_
      refine o_val (v_move rfl) rfl ?_
      refine o_callI (n_beginsP p c) V.b67 V.me72_67 rfl rfl (.cons (by first | exact rr0 | exact rr1 | exact rr2 | exact rr3 | exact rr4 | exact rr5 | exact rr6 | exact rr7 | exact rr8 | exact rr9 | exact rr10 | exact rr11 | exact rr12 | exact rr13 | exact rr14) .nil) rfl ?_
      rintro _ _ ⟨rfl, rfl⟩
      refine o_nil ?_
      refine thn_n ?_
      refine w_condF rfl ?_
      refine w_skip ?_
      refine blk_n ?_
      refine thn_n ?_
      refine w_region ?_
      refine o_val (v_move rfl) rfl ?_
      refine o_val (v_add rfl rfl (wrapI (by omega) (by omega))) rfl ?_
      refine o_val (v_assign rfl) rfl ?_
      refine o_nil ?_
      refine j1 (k + 1) ?_ (.cons rfl (.cons rfl (.nil _))) (sub (.cons (by first | exact rr0 | exact rr1 | exact rr2 | exact rr3 | exact rr4 | exact rr5 | exact rr6 | exact rr7 | exact rr8 | exact rr9 | exact rr10 | exact rr11 | exact rr12 | exact rr13 | exact rr14) .nil) (by first | exact dd0 | exact dd1 | exact dd2 | exact dd3 | exact dd4 | exact dd5 | exact dd6 | exact dd7 | exact dd8 | exact dd9 | exact dd10 | exact dd11 | exact dd12 | exact dd13 | exact dd14))
      exact ⟨⟨by omega, by omega⟩, by omega⟩
    ·
      refine w_seq ?_
      refine w_region ?_
      refine o_val (v_move rfl) rfl ?_
      refine o_call (n_of2 (k : Int) (by omega)) V.b22  rfl .nil rfl ?_
      rintro _ _ ⟨rfl, rfl⟩
      refine o_val (v_move rfl) rfl ?_
      refine o_val (v_extract rfl rfl) rfl ?_
      refine o_val (v_extract rfl rfl) rfl ?_
      refine o_val (v_assign rfl) rfl ?_
      refine o_val (v_assign rfl) rfl ?_
      refine o_nil ?_
      refine thn_n ?_
      refine w_seq ?_
      refine w_region ?_
      refine o_val (v_move rfl) rfl ?_
      refine o_val (v_move rfl) rfl ?_
      refine o_callI (n_beginsG p c) V.b75 V.me73_75 rfl rfl (.cons (by first | exact rr0 | exact rr1 | exact rr2 | exact rr3 | exact rr4 | exact rr5 | exact rr6 | exact rr7 | exact rr8 | exact rr9 | exact rr10 | exact rr11 | exact rr12 | exact rr13 | exact rr14) .nil) rfl ?_
      rintro _ _ ⟨rfl, rfl⟩
      refine o_nil ?_
      refine thn_n ?_
      refine w_condF rfl ?_
      refine w_skip ?_
      refine blk_n ?_
      refine thn_n ?_
      refine w_region ?_
      refine o_val (v_move rfl) rfl ?_
      refine o_val (v_add rfl rfl (wrapI (by omega) (by omega))) rfl ?_
      refine o_val (v_assign rfl) rfl ?_
      refine o_nil ?_
      refine j1 (k + 1) ?_ (.cons rfl (.cons rfl (.nil _))) (sub (.cons (by first | exact rr0 | exact rr1 | exact rr2 | exact rr3 | exact rr4 | exact rr5 | exact rr6 | exact rr7 | exact rr8 | exact rr9 | exact rr10 | exact rr11 | exact rr12 | exact rr13 | exact rr14) .nil) (by first | exact dd0 | exact dd1 | exact dd2 | exact dd3 | exact dd4 | exact dd5 | exact dd6 | exact dd7 | exact dd8 | exact dd9 | exact dd10 | exact dd11 | exact dd12 | exact dd13 | exact dd14))
      exact ⟨⟨by omega, by omega⟩, by omega⟩
    ·
      refine w_seq ?_
      refine w_region ?_
      refine o_val (v_move rfl) rfl ?_
      refine o_call (n_of3 (k : Int) (by omega)) V.b22  rfl .nil rfl ?_
      rintro _ _ ⟨rfl, rfl⟩
      refine o_val (v_move rfl) rfl ?_
      refine o_val (v_extract rfl rfl) rfl ?_
      refine o_val (v_extract rfl rfl) rfl ?_
      refine o_val (v_assign rfl) rfl ?_
      refine o_val (v_assign rfl) rfl ?_
      refine o_nil ?_
      refine thn_n ?_
      refine w_seq ?_
      refine w_region ?_
      refine o_val (v_move rfl) rfl ?_
      refine o_val (v_move rfl) rfl ?_
      refine o_callI (n_beginsB p c) V.b81 V.me74_81 rfl rfl (.cons (by first | exact rr0 | exact rr1 | exact rr2 | exact rr3 | exact rr4 | exact rr5 | exact rr6 | exact rr7 | exact rr8 | exact rr9 | exact rr10 | exact rr11 | exact rr12 | exact rr13 | exact rr14) .nil) rfl ?_
      rintro _ _ ⟨rfl, rfl⟩
      refine o_nil ?_
      refine thn_n ?_
      refine w_condT rfl ?_
      refine w_seq ?_
      refine w_region ?_
      refine o_val (v_move rfl) rfl ?_
      refine o_val (v_assign rfl) rfl ?_
      refine o_nil ?_
      refine thn_n ?_
      refine w_ret ?_
      refine (blk_r (thn_r (thn_r (blk_r (thn_r ?_)))))
      exact ret_ok (G := [Row U5 p 126 c bmp1]) (res1 rfl) ⟨by rw [hk]; rfl, rfl⟩ (sub (.cons (by first | exact rr0 | exact rr1 | exact rr2 | exact rr3 | exact rr4 | exact rr5 | exact rr6 | exact rr7 | exact rr8 | exact rr9 | exact rr10 | exact rr11 | exact rr12 | exact rr13 | exact rr14) .nil) (by first | exact dd0 | exact dd1 | exact dd2 | exact dd3 | exact dd4 | exact dd5 | exact dd6 | exact dd7 | exact dd8 | exact dd9 | exact dd10 | exact dd11 | exact dd12 | exact dd13 | exact dd14))
  ·
    refine w_exit ?_
    refine thn_e ?_
    refine thn_e ?_
    refine blk_x ?_
    refine thn_n ?_
    refine w_seq ?_
    refine w_region ?_
    refine o_val (v_assign rfl) rfl ?_
    refine o_nil ?_
    refine thn_n ?_
    refine w_ret ?_
    exfalso; omega

set_option maxRecDepth 100000 in
theorem n_peek (p : Option Addr) (c : Nat) : Ctr Try.prog 14 [.slice p 126 c] [Row U5 p 126 c bmp1] (Ret fun v G => v = .tuple #[.int .i64 1, .int .i64 1, .int .i64 0] ∧ G = [Row U5 p 126 c bmp1]) := by
  refine spec_of [(0, _)] Try.func14 rfl Try.ntmps14 rfl rfl ?_
  intro w0 F
  refine w_cap mm0 (fun hc => ?_)
  refine w_seq ?_
  refine w_region ?_
  refine o_val (v_assign rfl) rfl ?_
  refine o_val (v_assign rfl) rfl ?_
  refine o_val (v_assign rfl) rfl ?_
  refine o_nil ?_
  refine thn_n ?_
  refine w_seq ?_
  refine w_region ?_
  refine o_val (v_move rfl) rfl ?_
  refine o_call (n_kind p c) V.b23  rfl (.cons (by first | exact rr0 | exact rr1 | exact rr2 | exact rr3 | exact rr4 | exact rr5 | exact rr6 | exact rr7 | exact rr8 | exact rr9 | exact rr10 | exact rr11 | exact rr12 | exact rr13 | exact rr14) .nil) rfl ?_
  rintro _ _ ⟨rfl, rfl⟩
  refine o_call (n_of3 3 rfl) V.b22  rfl .nil rfl ?_
  rintro _ _ ⟨rfl, rfl⟩
  refine o_val (v_move rfl) rfl ?_
  refine o_val (v_extract rfl rfl) rfl ?_
  refine o_val (v_extract rfl rfl) rfl ?_
  refine o_val (v_assign rfl) rfl ?_
  refine o_val (v_assign rfl) rfl ?_
  refine o_nil ?_
  refine thn_n ?_
  refine w_seq ?_
  refine w_block ?_
  refine w_seq ?_
  refine w_region ?_
  refine o_val (v_move rfl) rfl ?_
  refine o_val (v_to (v := .bool false) (v_not rfl) rfl) rfl ?_
  refine o_val (v_assign rfl) rfl ?_
  refine o_nil ?_
  refine thn_n ?_
  refine w_condF rfl ?_
  refine w_seq ?_
  refine w_region ?_
  refine o_val (v_move rfl) rfl ?_
  refine o_val (v_len (ty' := 0) Try.underlying29 rfl) rfl ?_
  refine o_val (v_move rfl) rfl ?_
  refine o_callI (n_leastB) V.b84 V.me74_84 rfl rfl .nil rfl ?_
  rintro _ _ ⟨rfl, rfl⟩
  refine o_val (v_F (v_lss rfl rfl) (by decide)) rfl ?_
  refine o_val (v_assign rfl) rfl ?_
  refine o_nil ?_
  refine thn_n ?_
  refine w_condF rfl ?_
  refine w_skip ?_
  refine blk_n ?_
  refine thn_n ?_
  refine w_seq ?_
  refine w_region ?_
  refine o_val (v_move rfl) rfl ?_
  refine o_val (v_move rfl) rfl ?_
  refine o_callI (n_sides p c hc) V.b85 V.me74_85 rfl rfl (.cons (by first | exact rr0 | exact rr1 | exact rr2 | exact rr3 | exact rr4 | exact rr5 | exact rr6 | exact rr7 | exact rr8 | exact rr9 | exact rr10 | exact rr11 | exact rr12 | exact rr13 | exact rr14) .nil) rfl ?_
  rintro _ _ ⟨rfl, rfl⟩
  refine o_val (v_move rfl) rfl ?_
  refine o_val (v_extract rfl rfl) rfl ?_
  refine o_val (v_extract rfl rfl) rfl ?_
  refine o_val (v_assign rfl) rfl ?_
  refine o_val (v_assign rfl) rfl ?_
  refine o_nil ?_
  refine thn_n ?_
  refine w_seq ?_
  refine w_seq ?_
  refine w_region ?_
  refine o_val (v_move rfl) rfl ?_
  refine o_val (v_move rfl) rfl ?_
  refine o_call (r_size) V.b24  rfl .nil rfl ?_
  rintro _ _ ⟨rfl, rfl⟩
  refine o_val (v_assign rfl) rfl ?_
  refine o_nil ?_
  refine thn_n ?_
  refine w_seq ?_
  refine w_region ?_
  refine o_val (v_move rfl) rfl ?_
  refine o_val (v_F (v_neq rfl rfl) (by decide)) rfl ?_
  refine o_nil ?_
  refine thn_n ?_
  refine w_condF rfl ?_
  refine w_skip ?_
  refine thn_n ?_
  refine w_seq ?_
  refine w_region ?_
  refine o_val (v_move rfl) rfl ?_
  refine o_val (v_move rfl) rfl ?_
  refine o_val (v_assign rfl) rfl ?_
  refine o_val (v_assign rfl) rfl ?_
  refine o_val (v_assign rfl) rfl ?_
  refine o_nil ?_
  refine thn_n ?_
  refine w_ret ?_
  exact ret_ok (G := [_]) (res3 rfl rfl rfl) ⟨rfl, rfl⟩ (sub (.cons (by first | exact rr0 | exact rr1 | exact rr2 | exact rr3 | exact rr4 | exact rr5 | exact rr6 | exact rr7 | exact rr8 | exact rr9 | exact rr10 | exact rr11 | exact rr12 | exact rr13 | exact rr14) .nil) (by first | exact dd0 | exact dd1 | exact dd2 | exact dd3 | exact dd4 | exact dd5 | exact dd6 | exact dd7 | exact dd8 | exact dd9 | exact dd10 | exact dd11 | exact dd12 | exact dd13 | exact dd14))

set_option maxRecDepth 100000 in
theorem n_pixels (p : Option Addr) (c : Nat) : Ctr Try.prog 25 [.slice p 126 c] [Row U5 p 126 c bmp1] (Ret fun v G => v = .tuple #[.int .i64 1, .bool true] ∧ G = [Row U5 p 126 c bmp1]) := by
  refine spec_of [(0, _)] Try.func25 rfl Try.ntmps25 rfl rfl ?_
  intro w0 F
  refine w_seq ?_
  refine w_region ?_
  refine o_val (v_assign rfl) rfl ?_
  refine o_val (v_assign rfl) rfl ?_
  refine o_nil ?_
  refine thn_n ?_
  refine w_seq ?_
  refine w_region ?_
  refine o_val (v_move rfl) rfl ?_
  refine o_call (n_peek p c) V.b14  rfl (.cons (by first | exact rr0 | exact rr1 | exact rr2 | exact rr3 | exact rr4 | exact rr5 | exact rr6 | exact rr7 | exact rr8 | exact rr9 | exact rr10 | exact rr11 | exact rr12 | exact rr13 | exact rr14) .nil) rfl ?_
  rintro _ _ ⟨rfl, rfl⟩
  refine o_val (v_move rfl) rfl ?_
  refine o_val (v_extract rfl rfl) rfl ?_
  refine o_val (v_extract rfl rfl) rfl ?_
  refine o_val (v_extract rfl rfl) rfl ?_
  refine o_val (v_assign rfl) rfl ?_
  refine o_val (v_assign rfl) rfl ?_
  refine o_val (v_assign rfl) rfl ?_
  refine o_nil ?_
  refine thn_n ?_
  refine w_seq ?_
  refine w_region ?_
  refine o_val (v_move rfl) rfl ?_
  refine o_val (v_move rfl) rfl ?_
  refine o_val (v_mul (r := 1) rfl rfl rfl) rfl ?_
  refine o_val (v_move rfl) rfl ?_
  refine o_val (v_T (v_eql rfl rfl) (by decide)) rfl ?_
  refine o_val (v_assign rfl) rfl ?_
  refine o_val (v_assign rfl) rfl ?_
  refine o_nil ?_
  refine thn_n ?_
  refine w_ret ?_
  exact ret_ok (G := [_]) (res2 rfl rfl) ⟨rfl, rfl⟩ (sub (.cons (by first | exact rr0 | exact rr1 | exact rr2 | exact rr3 | exact rr4 | exact rr5 | exact rr6 | exact rr7 | exact rr8 | exact rr9 | exact rr10 | exact rr11 | exact rr12 | exact rr13 | exact rr14) .nil) (by first | exact dd0 | exact dd1 | exact dd2 | exact dd3 | exact dd4 | exact dd5 | exact dd6 | exact dd7 | exact dd8 | exact dd9 | exact dd10 | exact dd11 | exact dd12 | exact dd13 | exact dd14))

set_option maxRecDepth 100000 in
theorem n_cost (p : Option Addr) (c : Nat) : Ctr Try.prog 16 [.slice p 126 c] [Row U5 p 126 c bmp1] (Ret fun v G => v = .int .i64 198 ∧ G = [Row U5 p 126 c bmp1]) := by
  refine spec_of [(0, _)] Try.func16 rfl Try.ntmps16 rfl rfl ?_
  intro w0 F
  refine w_seq ?_
  refine w_region ?_
  refine o_val (v_assign rfl) rfl ?_
  refine o_nil ?_
  refine thn_n ?_
  refine w_seq ?_
  refine w_region ?_
  refine o_val (v_move rfl) rfl ?_
  refine o_call (n_pixels p c) V.b25  rfl (.cons (by first | exact rr0 | exact rr1 | exact rr2 | exact rr3 | exact rr4 | exact rr5 | exact rr6 | exact rr7 | exact rr8 | exact rr9 | exact rr10 | exact rr11 | exact rr12 | exact rr13 | exact rr14) .nil) rfl ?_
  rintro _ _ ⟨rfl, rfl⟩
  refine o_val (v_move rfl) rfl ?_
  refine o_val (v_extract rfl rfl) rfl ?_
  refine o_val (v_extract rfl rfl) rfl ?_
  refine o_val (v_assign rfl) rfl ?_
  refine o_val (v_assign rfl) rfl ?_
  refine o_nil ?_
  refine thn_n ?_
  refine w_seq ?_
  refine w_region ?_
  refine o_val (v_move rfl) rfl ?_
  refine o_val (v_len (ty' := 0) Try.underlying29 rfl) rfl ?_
  refine o_val (v_add (r := 190) rfl rfl rfl) rfl ?_
  refine o_val (v_move rfl) rfl ?_
  refine o_val (v_mul (r := 8) rfl rfl rfl) rfl ?_
  refine o_val (v_add (r := 198) rfl rfl rfl) rfl ?_
  refine o_val (v_assign rfl) rfl ?_
  refine o_nil ?_
  refine thn_n ?_
  refine w_ret ?_
  exact ret_ok (G := [_]) (res1 rfl) ⟨rfl, rfl⟩ (sub (.cons (by first | exact rr0 | exact rr1 | exact rr2 | exact rr3 | exact rr4 | exact rr5 | exact rr6 | exact rr7 | exact rr8 | exact rr9 | exact rr10 | exact rr11 | exact rr12 | exact rr13 | exact rr14) .nil) (by first | exact dd0 | exact dd1 | exact dd2 | exact dd3 | exact dd4 | exact dd5 | exact dd6 | exact dd7 | exact dd8 | exact dd9 | exact dd10 | exact dd11 | exact dd12 | exact dd13 | exact dd14))
end Go.Proofs.Ytgpfhkbolhpoiaa

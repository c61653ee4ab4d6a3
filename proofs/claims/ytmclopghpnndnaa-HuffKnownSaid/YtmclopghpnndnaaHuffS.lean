/-
  Steps of the proof: walks of functions that the statement reaches; printed by a program of ours.
-/
import Derived.Test.YtmclopghpnndnaaHuffR
namespace Go.Proofs.Ytmclopghpnndnaa
open Go.Sl 
set_option linter.unusedVariables false
set_option linter.unusedSimpArgs false

set_option maxRecDepth 100000 in
theorem k_growP (n : Nat) (hn : n ≤ 1000000) : Ctr Try.prog 50 [.slice none 0 0, .int .i64 (n : Int)] [] (Ret fun v G => ∃ p c, v = .slice p 0 c ∧ G = [Row PC p 0 c []]) := by
  refine spec_of [(0, _), (1, _)] Try.func50 rfl Try.ntmps50 rfl rfl ?_
  intro w0 F
  refine w_seq ?_
  refine w_region ?_
  refine o_val (v_assign rfl) rfl ?_
  refine o_nil ?_
  refine thn_n ?_
  refine w_seq ?_
  refine w_seq ?_
  refine w_region ?_
  refine o_val (v_move rfl) rfl ?_
  refine o_val (v_lss rfl rfl) rfl ?_
  refine o_nil ?_
  refine thn_n ?_
  first | refine w_condD rfl (fun h6 => ?_) (fun h6 => ?_) | refine w_cond rfl (fun h6 => ?_) (fun h6 => ?_)
  ·
    exact absurd h6 (by omega)
  ·
    refine w_skip ?_
    refine thn_n ?_
    refine w_seq ?_
    refine w_seq ?_
    refine w_region ?_
    refine o_val (v_move rfl) rfl ?_
    refine o_val (v_move rfl) rfl ?_
    refine o_val (v_cap (ty' := 0) Try.underlying77 rfl) rfl ?_
    refine o_val (v_move rfl) rfl ?_
    refine o_val (v_len (ty' := 0) Try.underlying77 rfl) rfl ?_
    refine o_val (v_sub rfl rfl (wrapI (by omega) (by omega))) rfl ?_
    refine o_val (v_to (v := .int .i64 (n : Int)) (v_sub rfl rfl (wrapI (by omega) (by omega))) (by simp)) rfl ?_
    refine o_val (v_assign rfl) rfl ?_
    refine o_nil ?_
    refine thn_n ?_
    refine w_seq ?_
    refine w_region ?_
    refine o_val (v_move rfl) rfl ?_
    refine o_val (v_gtr rfl rfl) rfl ?_
    refine o_nil ?_
    refine thn_n ?_
    first | refine w_condD rfl (fun h16 => ?_) (fun h16 => ?_) | refine w_cond rfl (fun h16 => ?_) (fun h16 => ?_)
    ·
      refine w_region ?_
      refine o_val (v_move rfl) rfl ?_
      refine o_val (v_move rfl) rfl ?_
      refine o_val (v_cap (ty' := 0) Try.underlying77 rfl) rfl ?_
      refine o_val (v_slice0 0 0 V.sl77 rfl ⟨_, rfl⟩ rfl (by omega) (by omega)) rfl ?_
      refine o_val (v_move rfl) rfl ?_
      refine o_add0 (Row PC none 0 0 []) (Row.nil _ _ _) ?_
      refine r_appendZ (c := (PC)) n V.sl77 Try.underlying3 V.z79 rfl rfl rfl rfl rfl (own (by repeat first | exact .head _ | apply List.Mem.tail)) (by omega) (by omega) rfl ?_
      intro p22 c22
      refine o_val (v_move rfl) rfl ?_
      refine o_val (v_len (ty' := 0) Try.underlying77 rfl) rfl ?_
      refine o_val (v_slice0 0 _ V.sl77 rfl ⟨_, rfl⟩ rfl (by omega) (by omega)) rfl ?_
      refine o_val (v_assign rfl) rfl ?_
      refine o_nil ?_
      refine thn_n ?_
      refine w_seq ?_
      refine w_region ?_
      refine o_val (v_move rfl) rfl ?_
      refine o_val (v_assign rfl) rfl ?_
      refine o_nil ?_
      refine thn_n ?_
      refine w_ret ?_
      first
      | exact ret_ok (G := [Row PC p22 0 c22 []]) (res1 rfl) ⟨p22, c22, rfl, rfl⟩ (fun w0 w hi => ((sub (G := [Row PC p22 (0 + n) c22 ([] ++ List.replicate n PC.d)]) (.cons (by repeat first | exact .head | apply Rem.tail) .nil) (by repeat first | exact .refl | apply Drop.skip) : Sub _ (_ ++ F)) w0 w hi).imp (fun h hh => Row.cut 0 (Nat.zero_le _) hh))
      | exact ret_ok (G := [Row PC none 0 0 []]) (res1 rfl) ⟨none, 0, rfl, rfl⟩ (sub_add0 (fun w0 => Row.nil _ _ _))
    ·
      refine w_skip ?_
      refine thn_n ?_
      refine w_seq ?_
      refine w_region ?_
      refine o_val (v_move rfl) rfl ?_
      refine o_val (v_assign rfl) rfl ?_
      refine o_nil ?_
      refine thn_n ?_
      refine w_ret ?_
      first
      | exact ret_ok (G := [Row PC p22 0 c22 []]) (res1 rfl) ⟨p22, c22, rfl, rfl⟩ (fun w0 w hi => ((sub (G := [Row PC p22 (0 + n) c22 ([] ++ List.replicate n PC.d)]) (.cons (by repeat first | exact .head | apply Rem.tail) .nil) (by repeat first | exact .refl | apply Drop.skip) : Sub _ (_ ++ F)) w0 w hi).imp (fun h hh => Row.cut 0 (Nat.zero_le _) hh))
      | exact ret_ok (G := [Row PC none 0 0 []]) (res1 rfl) ⟨none, 0, rfl, rfl⟩ (sub_add0 (fun w0 => Row.nil _ _ _))

set_option maxRecDepth 100000 in
theorem k_growI (n : Nat) (hn : n ≤ 1000000) : Ctr Try.prog 58 [.slice none 0 0, .int .i64 (n : Int)] [] (Ret fun v G => ∃ p c, v = .slice p 0 c ∧ G = [Row I3 p 0 c []]) := by
  refine spec_of [(0, _), (1, _)] Try.func58 rfl Try.ntmps58 rfl rfl ?_
  intro w0 F
  refine w_seq ?_
  refine w_region ?_
  refine o_val (v_assign rfl) rfl ?_
  refine o_nil ?_
  refine thn_n ?_
  refine w_seq ?_
  refine w_seq ?_
  refine w_region ?_
  refine o_val (v_move rfl) rfl ?_
  refine o_val (v_lss rfl rfl) rfl ?_
  refine o_nil ?_
  refine thn_n ?_
  first | refine w_condD rfl (fun h6 => ?_) (fun h6 => ?_) | refine w_cond rfl (fun h6 => ?_) (fun h6 => ?_)
  ·
    exact absurd h6 (by omega)
  ·
    refine w_skip ?_
    refine thn_n ?_
    refine w_seq ?_
    refine w_seq ?_
    refine w_region ?_
    refine o_val (v_move rfl) rfl ?_
    refine o_val (v_move rfl) rfl ?_
    refine o_val (v_cap (ty' := 0) Try.underlying22 rfl) rfl ?_
    refine o_val (v_move rfl) rfl ?_
    refine o_val (v_len (ty' := 0) Try.underlying22 rfl) rfl ?_
    refine o_val (v_sub rfl rfl (wrapI (by omega) (by omega))) rfl ?_
    refine o_val (v_to (v := .int .i64 (n : Int)) (v_sub rfl rfl (wrapI (by omega) (by omega))) (by simp)) rfl ?_
    refine o_val (v_assign rfl) rfl ?_
    refine o_nil ?_
    refine thn_n ?_
    refine w_seq ?_
    refine w_region ?_
    refine o_val (v_move rfl) rfl ?_
    refine o_val (v_gtr rfl rfl) rfl ?_
    refine o_nil ?_
    refine thn_n ?_
    first | refine w_condD rfl (fun h16 => ?_) (fun h16 => ?_) | refine w_cond rfl (fun h16 => ?_) (fun h16 => ?_)
    ·
      refine w_region ?_
      refine o_val (v_move rfl) rfl ?_
      refine o_val (v_move rfl) rfl ?_
      refine o_val (v_cap (ty' := 0) Try.underlying22 rfl) rfl ?_
      refine o_val (v_slice0 0 0 V.sl22 rfl ⟨_, rfl⟩ rfl (by omega) (by omega)) rfl ?_
      refine o_val (v_move rfl) rfl ?_
      refine o_add0 (Row I3 none 0 0 []) (Row.nil _ _ _) ?_
      refine r_appendZ (c := (I3)) n V.sl22 Try.underlying3 V.z3 rfl rfl rfl rfl rfl (own (by repeat first | exact .head _ | apply List.Mem.tail)) (by omega) (by omega) rfl ?_
      intro p22 c22
      refine o_val (v_move rfl) rfl ?_
      refine o_val (v_len (ty' := 0) Try.underlying22 rfl) rfl ?_
      refine o_val (v_slice0 0 _ V.sl22 rfl ⟨_, rfl⟩ rfl (by omega) (by omega)) rfl ?_
      refine o_val (v_assign rfl) rfl ?_
      refine o_nil ?_
      refine thn_n ?_
      refine w_seq ?_
      refine w_region ?_
      refine o_val (v_move rfl) rfl ?_
      refine o_val (v_assign rfl) rfl ?_
      refine o_nil ?_
      refine thn_n ?_
      refine w_ret ?_
      first
      | exact ret_ok (G := [Row I3 p22 0 c22 []]) (res1 rfl) ⟨p22, c22, rfl, rfl⟩ (fun w0 w hi => ((sub (G := [Row I3 p22 (0 + n) c22 ([] ++ List.replicate n I3.d)]) (.cons (by repeat first | exact .head | apply Rem.tail) .nil) (by repeat first | exact .refl | apply Drop.skip) : Sub _ (_ ++ F)) w0 w hi).imp (fun h hh => Row.cut 0 (Nat.zero_le _) hh))
      | exact ret_ok (G := [Row I3 none 0 0 []]) (res1 rfl) ⟨none, 0, rfl, rfl⟩ (sub_add0 (fun w0 => Row.nil _ _ _))
    ·
      refine w_skip ?_
      refine thn_n ?_
      refine w_seq ?_
      refine w_region ?_
      refine o_val (v_move rfl) rfl ?_
      refine o_val (v_assign rfl) rfl ?_
      refine o_nil ?_
      refine thn_n ?_
      refine w_ret ?_
      first
      | exact ret_ok (G := [Row I3 p22 0 c22 []]) (res1 rfl) ⟨p22, c22, rfl, rfl⟩ (fun w0 w hi => ((sub (G := [Row I3 p22 (0 + n) c22 ([] ++ List.replicate n I3.d)]) (.cons (by repeat first | exact .head | apply Rem.tail) .nil) (by repeat first | exact .refl | apply Drop.skip) : Sub _ (_ ++ F)) w0 w hi).imp (fun h hh => Row.cut 0 (Nat.zero_le _) hh))
      | exact ret_ok (G := [Row I3 none 0 0 []]) (res1 rfl) ⟨none, 0, rfl, rfl⟩ (sub_add0 (fun w0 => Row.nil _ _ _))

set_option maxRecDepth 100000 in
theorem k_concatP (q : Option Addr) (cq : Nat) (xs : List Sx) (ls : List (List Pc)) (A : HProp) (hl : ls.length = xs.length) (hA : ∀ k (hk : k < xs.length), ∀ w0 h, A w0 h → RdR PC xs[k].p xs[k].n (ls.getD k []) w0 h) (hx : xs.length ≤ 100) (htot : szs xs xs.length ≤ 1000000) : Ctr Try.prog 40 [.slice q xs.length cq] [Row PS q xs.length cq xs, A] (Ret fun v G => ∃ p c, v = .slice p (szs xs xs.length) c ∧ G = [Row PC p (szs xs xs.length) c ls.flatten, A]) := by
  refine spec_of [(0, _)] Try.func40 rfl Try.ntmps40 rfl rfl ?_
  intro w0 F
  refine w_seq ?_
  refine w_region ?_
  refine o_val (v_assign rfl) rfl ?_
  refine o_nil ?_
  refine thn_n ?_
  refine w_seq ?_
  refine w_region ?_
  refine o_val (v_assign rfl) rfl ?_
  refine o_nil ?_
  refine thn_n ?_
  refine w_seq ?_
  refine w_seq ?_
  refine w_region ?_
  refine o_val (v_move rfl) rfl ?_
  refine o_val (v_len (ty' := 0) Try.underlying91 rfl) rfl ?_
  refine o_val (v_move rfl) rfl ?_
  refine o_nil ?_
  refine thn_n ?_
  refine w_block ?_
  refine w_loop1 (fun (k : Nat) => [(0, .slice q xs.length cq), (3, .int .i64 (szs xs k : Int)), (9, .slice q xs.length cq), (10, .int .i64 (xs.length : Int)), (11, .int .i64 (k : Int))]) (fun (k : Nat) => Row PS q xs.length cq xs :: A :: F) (fun (k : Nat) => k ≤ xs.length) (fun (k : Nat) => xs.length - k) (i1 (0) ?_ (.cons rfl (.cons rfl (.cons rfl (.cons rfl (.cons rfl (.nil _)))))) (sub (.cons (by repeat first | exact .head | apply Rem.tail) (.cons (by repeat first | exact .head | apply Rem.tail) .nil)) (by repeat first | exact .refl | apply Drop.skip))) ?_
  ·
    exact Nat.zero_le _
  intro k
  rintro hk
  refine w_seq ?_
  refine w_region ?_
  refine o_val (v_lss rfl rfl) rfl ?_
  refine o_nil ?_
  refine thn_n ?_
  refine w_seq ?_
  first | refine w_condD rfl (fun h12 => ?_) (fun h12 => ?_) | refine w_cond rfl (fun h12 => ?_) (fun h12 => ?_)
  ·
    refine w_skip ?_
    refine thn_n ?_
    refine w_seq ?_
    refine w_block ?_
    refine w_seq ?_
    have hk2 : k < xs.length := by omega
    have hgk := PS.g_nat hk2
    have hsz := szs_succ hk2
    have hsl := szs_le (xs := xs) (show k + 1 ≤ xs.length by omega) (Nat.le_refl _)
    refine w_region ?_
    refine o_val (r_index (c := (PS)) V.sl91 rfl rfl (by first | exact own mm0 | exact own mm1 | exact own mm2 | exact own mm3 | exact own mm4 | exact own mm5 | exact own mm6 | exact own mm7 | exact own mm8 | exact own mm9 | exact own mm10 | exact own mm11 | exact rdH (hA k hk2) mm0 | exact rdH (hA k hk2) mm1 | exact rdH (hA k hk2) mm2 | exact rdH (hA k hk2) mm3 | exact rdH (hA k hk2) mm4 | exact rdH (hA k hk2) mm5 | exact rdH (hA k hk2) mm6 | exact rdH (hA k hk2) mm7 | exact rdH (hA k hk2) mm8 | exact rdH (hA k hk2) mm9 | exact rdH (hA k hk2) mm10 | exact rdH (hA k hk2) mm11) (by omega) (by omega)) rfl ?_
    refine o_val (r_load (c := (PS)) V.s77 rfl (by first | exact own mm0 | exact own mm1 | exact own mm2 | exact own mm3 | exact own mm4 | exact own mm5 | exact own mm6 | exact own mm7 | exact own mm8 | exact own mm9 | exact own mm10 | exact own mm11 | exact rdH (hA k hk2) mm0 | exact rdH (hA k hk2) mm1 | exact rdH (hA k hk2) mm2 | exact rdH (hA k hk2) mm3 | exact rdH (hA k hk2) mm4 | exact rdH (hA k hk2) mm5 | exact rdH (hA k hk2) mm6 | exact rdH (hA k hk2) mm7 | exact rdH (hA k hk2) mm8 | exact rdH (hA k hk2) mm9 | exact rdH (hA k hk2) mm10 | exact rdH (hA k hk2) mm11) (by omega) (by omega) rfl rfl) rfl ?_
    refine o_val (v_assign rfl) rfl ?_
    refine o_nil ?_
    refine thn_n ?_
    refine w_seq ?_
    rw [hgk]
    refine w_region ?_
    refine o_val (v_move rfl) rfl ?_
    refine o_val (v_move rfl) rfl ?_
    refine o_val (v_len (ty' := 0) Try.underlying77 rfl) rfl ?_
    refine o_val (v_add rfl rfl (wrapI (by omega) (by omega))) rfl ?_
    refine o_val (v_assign rfl) rfl ?_
    refine o_nil ?_
    refine thn_n ?_
    refine w_seq ?_
    refine w_region ?_
    refine o_val (v_move rfl) rfl ?_
    refine o_val (v_lss rfl rfl) rfl ?_
    refine o_nil ?_
    refine thn_n ?_
    first | refine w_condD rfl (fun h20 => ?_) (fun h20 => ?_) | refine w_cond rfl (fun h20 => ?_) (fun h20 => ?_)
    ·
      exact absurd h20 (by omega)
    ·
      refine w_skip ?_
      refine blk_n ?_
      refine thn_n ?_
      refine w_region ?_
      refine o_val (v_add rfl rfl (wrapI (by omega) (by omega))) rfl ?_
      refine o_val (v_move rfl) rfl ?_
      refine o_nil ?_
      rw [show (szs xs k : Int) + (xs[k].n : Int) = ((szs xs (k + 1) : Nat) : Int) by omega]
      refine j1 (k + 1) ?_ (.cons rfl (.cons rfl (.cons rfl (.cons rfl (.cons rfl (.nil _)))))) (sub (.cons (by repeat first | exact .head | apply Rem.tail) (.cons (by repeat first | exact .head | apply Rem.tail) .nil)) (by repeat first | exact .refl | apply Drop.skip))
      exact ⟨by omega, by omega⟩
  ·
    refine w_exit ?_
    refine thn_e ?_
    refine thn_e ?_
    refine blk_x ?_
    refine thn_n ?_
    refine w_seq ?_
    obtain rfl : k = xs.length := by omega
    refine w_region ?_
    refine o_val (v_move rfl) rfl ?_
    refine o_call (k_growP (szs xs xs.length) (by omega)) V.b50  rfl .nil rfl ?_
    rintro _ _ ⟨p24, c24, rfl, rfl⟩
    refine o_val (v_assign rfl) rfl ?_
    refine o_nil ?_
    refine thn_n ?_
    refine w_seq ?_
    refine w_seq ?_
    refine w_region ?_
    refine o_val (v_move rfl) rfl ?_
    refine o_val (v_len (ty' := 0) Try.underlying91 rfl) rfl ?_
    refine o_val (v_move rfl) rfl ?_
    refine o_nil ?_
    refine thn_n ?_
    refine w_block ?_
    rw [show Row PC p24 0 c24 [] = Row PC p24 (szs xs 0) c24 (ls.take 0).flatten from by rw [szs_zero]; simp, show Value.slice p24 0 c24 = Value.slice p24 (szs xs 0) c24 from by rw [szs_zero]]
    refine w_loop3 (fun (k : Nat) (pn : Option Addr) (cn : Nat) => [(6, .slice pn (szs xs k) cn), (25, .slice q xs.length cq), (26, .int .i64 (xs.length : Int)), (27, .int .i64 (k : Int))]) (fun (k : Nat) (pn : Option Addr) (cn : Nat) => Row PC pn (szs xs k) cn (ls.take k).flatten :: Row PS q xs.length cq xs :: A :: F) (fun (k : Nat) (pn : Option Addr) (cn : Nat) => k ≤ xs.length) (fun (k : Nat) (pn : Option Addr) (cn : Nat) => xs.length - k) (i3 (0) (_) (_) ?_ (.cons rfl (.cons rfl (.cons rfl (.cons rfl (.nil _))))) (sub (.cons (by repeat first | exact .head | apply Rem.tail) (.cons (by repeat first | exact .head | apply Rem.tail) (.cons (by repeat first | exact .head | apply Rem.tail) .nil))) (by repeat first | exact .refl | apply Drop.skip))) ?_
    ·
      exact Nat.zero_le _
    intro k pn cn
    rintro hk
    refine w_seq ?_
    refine w_region ?_
    refine o_val (v_lss rfl rfl) rfl ?_
    refine o_nil ?_
    refine thn_n ?_
    refine w_seq ?_
    first | refine w_condD rfl (fun h28 => ?_) (fun h28 => ?_) | refine w_cond rfl (fun h28 => ?_) (fun h28 => ?_)
    ·
      refine w_skip ?_
      refine thn_n ?_
      refine w_seq ?_
      refine w_block ?_
      refine w_seq ?_
      have hk2 : k < xs.length := by omega
      have hgk := PS.g_nat hk2
      have hsz := szs_succ hk2
      have hsl := szs_le (xs := xs) (show k + 1 ≤ xs.length by omega) (Nat.le_refl _)
      refine w_region ?_
      refine o_val (r_index (c := (PS)) V.sl91 rfl rfl (by first | exact own mm0 | exact own mm1 | exact own mm2 | exact own mm3 | exact own mm4 | exact own mm5 | exact own mm6 | exact own mm7 | exact own mm8 | exact own mm9 | exact own mm10 | exact own mm11 | exact rdH (hA k hk2) mm0 | exact rdH (hA k hk2) mm1 | exact rdH (hA k hk2) mm2 | exact rdH (hA k hk2) mm3 | exact rdH (hA k hk2) mm4 | exact rdH (hA k hk2) mm5 | exact rdH (hA k hk2) mm6 | exact rdH (hA k hk2) mm7 | exact rdH (hA k hk2) mm8 | exact rdH (hA k hk2) mm9 | exact rdH (hA k hk2) mm10 | exact rdH (hA k hk2) mm11) (by omega) (by omega)) rfl ?_
      refine o_val (r_load (c := (PS)) V.s77 rfl (by first | exact own mm0 | exact own mm1 | exact own mm2 | exact own mm3 | exact own mm4 | exact own mm5 | exact own mm6 | exact own mm7 | exact own mm8 | exact own mm9 | exact own mm10 | exact own mm11 | exact rdH (hA k hk2) mm0 | exact rdH (hA k hk2) mm1 | exact rdH (hA k hk2) mm2 | exact rdH (hA k hk2) mm3 | exact rdH (hA k hk2) mm4 | exact rdH (hA k hk2) mm5 | exact rdH (hA k hk2) mm6 | exact rdH (hA k hk2) mm7 | exact rdH (hA k hk2) mm8 | exact rdH (hA k hk2) mm9 | exact rdH (hA k hk2) mm10 | exact rdH (hA k hk2) mm11) (by omega) (by omega) rfl rfl) rfl ?_
      refine o_val (v_assign rfl) rfl ?_
      refine o_nil ?_
      refine thn_n ?_
      rw [hgk]
      refine w_region ?_
      refine o_val (v_move rfl) rfl ?_
      refine o_val (v_move rfl) rfl ?_
      refine r_append (c := (PC)) V.sl77 V.z79 rfl rfl rfl rfl (by repeat first | exact .head | apply Rem.tail) (by first | exact own mm0 | exact own mm1 | exact own mm2 | exact own mm3 | exact own mm4 | exact own mm5 | exact own mm6 | exact own mm7 | exact own mm8 | exact own mm9 | exact own mm10 | exact own mm11 | exact rdH (hA k hk2) mm0 | exact rdH (hA k hk2) mm1 | exact rdH (hA k hk2) mm2 | exact rdH (hA k hk2) mm3 | exact rdH (hA k hk2) mm4 | exact rdH (hA k hk2) mm5 | exact rdH (hA k hk2) mm6 | exact rdH (hA k hk2) mm7 | exact rdH (hA k hk2) mm8 | exact rdH (hA k hk2) mm9 | exact rdH (hA k hk2) mm10 | exact rdH (hA k hk2) mm11) (by omega) rfl ?_
      intro p33 c33
      refine o_val (v_assign rfl) rfl ?_
      refine o_nil ?_
      refine blk_n ?_
      refine thn_n ?_
      refine w_region ?_
      refine o_val (v_add rfl rfl (wrapI (by omega) (by omega))) rfl ?_
      refine o_val (v_move rfl) rfl ?_
      refine o_nil ?_
      rw [← hsz, flat_succ (by omega)]
      refine j3 (k + 1) (_) (_) ?_ (.cons rfl (.cons rfl (.cons rfl (.cons rfl (.nil _))))) (sub (.cons (by repeat first | exact .head | apply Rem.tail) (.cons (by repeat first | exact .head | apply Rem.tail) (.cons (by repeat first | exact .head | apply Rem.tail) .nil))) (by repeat first | exact .refl | apply Drop.skip))
      exact ⟨by omega, by omega⟩
    ·
      refine w_exit ?_
      refine thn_e ?_
      refine thn_e ?_
      refine blk_x ?_
      refine thn_n ?_
      refine w_seq ?_
      refine w_region ?_
      refine o_val (v_move rfl) rfl ?_
      refine o_val (v_assign rfl) rfl ?_
      refine o_nil ?_
      refine thn_n ?_
      refine w_ret ?_
      obtain rfl : k = xs.length := by omega
      rw [show ls.take xs.length = ls from by rw [← hl, List.take_length]]
      exact end_ok (G := [Row PC pn (szs xs xs.length) cn ls.flatten, A]) (res1 rfl) ⟨pn, cn, rfl, rfl⟩ (sub (.cons (by repeat first | exact .head | apply Rem.tail) (.cons (by repeat first | exact .head | apply Rem.tail) .nil)) (by repeat first | exact .refl | apply Drop.skip))

set_option maxRecDepth 100000 in
theorem k_concatI (q : Option Addr) (cq : Nat) (xs : List Sx) (ls : List (List Int)) (A : HProp) (hl : ls.length = xs.length) (hA : ∀ k (hk : k < xs.length), ∀ w0 h, A w0 h → RdR I3 xs[k].p xs[k].n (ls.getD k []) w0 h) (hx : xs.length ≤ 100) (htot : szs xs xs.length ≤ 1000000) : Ctr Try.prog 51 [.slice q xs.length cq] [Row QS q xs.length cq xs, A] (Ret fun v G => ∃ p c, v = .slice p (szs xs xs.length) c ∧ G = [Row I3 p (szs xs xs.length) c ls.flatten, A]) := by
  refine spec_of [(0, _)] Try.func51 rfl Try.ntmps51 rfl rfl ?_
  intro w0 F
  refine w_seq ?_
  refine w_region ?_
  refine o_val (v_assign rfl) rfl ?_
  refine o_nil ?_
  refine thn_n ?_
  refine w_seq ?_
  refine w_region ?_
  refine o_val (v_assign rfl) rfl ?_
  refine o_nil ?_
  refine thn_n ?_
  refine w_seq ?_
  refine w_seq ?_
  refine w_region ?_
  refine o_val (v_move rfl) rfl ?_
  refine o_val (v_len (ty' := 0) Try.underlying100 rfl) rfl ?_
  refine o_val (v_move rfl) rfl ?_
  refine o_nil ?_
  refine thn_n ?_
  refine w_block ?_
  refine w_loop1 (fun (k : Nat) => [(0, .slice q xs.length cq), (3, .int .i64 (szs xs k : Int)), (9, .slice q xs.length cq), (10, .int .i64 (xs.length : Int)), (11, .int .i64 (k : Int))]) (fun (k : Nat) => Row QS q xs.length cq xs :: A :: F) (fun (k : Nat) => k ≤ xs.length) (fun (k : Nat) => xs.length - k) (i1 (0) ?_ (.cons rfl (.cons rfl (.cons rfl (.cons rfl (.cons rfl (.nil _)))))) (sub (.cons (by repeat first | exact .head | apply Rem.tail) (.cons (by repeat first | exact .head | apply Rem.tail) .nil)) (by repeat first | exact .refl | apply Drop.skip))) ?_
  ·
    exact Nat.zero_le _
  intro k
  rintro hk
  refine w_seq ?_
  refine w_region ?_
  refine o_val (v_lss rfl rfl) rfl ?_
  refine o_nil ?_
  refine thn_n ?_
  refine w_seq ?_
  first | refine w_condD rfl (fun h12 => ?_) (fun h12 => ?_) | refine w_cond rfl (fun h12 => ?_) (fun h12 => ?_)
  ·
    refine w_skip ?_
    refine thn_n ?_
    refine w_seq ?_
    refine w_block ?_
    refine w_seq ?_
    have hk2 : k < xs.length := by omega
    have hgk := QS.g_nat hk2
    have hsz := szs_succ hk2
    have hsl := szs_le (xs := xs) (show k + 1 ≤ xs.length by omega) (Nat.le_refl _)
    refine w_region ?_
    refine o_val (r_index (c := (QS)) V.sl100 rfl rfl (by first | exact own mm0 | exact own mm1 | exact own mm2 | exact own mm3 | exact own mm4 | exact own mm5 | exact own mm6 | exact own mm7 | exact own mm8 | exact own mm9 | exact own mm10 | exact own mm11 | exact rdH (hA k hk2) mm0 | exact rdH (hA k hk2) mm1 | exact rdH (hA k hk2) mm2 | exact rdH (hA k hk2) mm3 | exact rdH (hA k hk2) mm4 | exact rdH (hA k hk2) mm5 | exact rdH (hA k hk2) mm6 | exact rdH (hA k hk2) mm7 | exact rdH (hA k hk2) mm8 | exact rdH (hA k hk2) mm9 | exact rdH (hA k hk2) mm10 | exact rdH (hA k hk2) mm11) (by omega) (by omega)) rfl ?_
    refine o_val (r_load (c := (QS)) V.s22 rfl (by first | exact own mm0 | exact own mm1 | exact own mm2 | exact own mm3 | exact own mm4 | exact own mm5 | exact own mm6 | exact own mm7 | exact own mm8 | exact own mm9 | exact own mm10 | exact own mm11 | exact rdH (hA k hk2) mm0 | exact rdH (hA k hk2) mm1 | exact rdH (hA k hk2) mm2 | exact rdH (hA k hk2) mm3 | exact rdH (hA k hk2) mm4 | exact rdH (hA k hk2) mm5 | exact rdH (hA k hk2) mm6 | exact rdH (hA k hk2) mm7 | exact rdH (hA k hk2) mm8 | exact rdH (hA k hk2) mm9 | exact rdH (hA k hk2) mm10 | exact rdH (hA k hk2) mm11) (by omega) (by omega) rfl rfl) rfl ?_
    refine o_val (v_assign rfl) rfl ?_
    refine o_nil ?_
    refine thn_n ?_
    refine w_seq ?_
    rw [hgk]
    refine w_region ?_
    refine o_val (v_move rfl) rfl ?_
    refine o_val (v_move rfl) rfl ?_
    refine o_val (v_len (ty' := 0) Try.underlying22 rfl) rfl ?_
    refine o_val (v_add rfl rfl (wrapI (by omega) (by omega))) rfl ?_
    refine o_val (v_assign rfl) rfl ?_
    refine o_nil ?_
    refine thn_n ?_
    refine w_seq ?_
    refine w_region ?_
    refine o_val (v_move rfl) rfl ?_
    refine o_val (v_lss rfl rfl) rfl ?_
    refine o_nil ?_
    refine thn_n ?_
    first | refine w_condD rfl (fun h20 => ?_) (fun h20 => ?_) | refine w_cond rfl (fun h20 => ?_) (fun h20 => ?_)
    ·
      exact absurd h20 (by omega)
    ·
      refine w_skip ?_
      refine blk_n ?_
      refine thn_n ?_
      refine w_region ?_
      refine o_val (v_add rfl rfl (wrapI (by omega) (by omega))) rfl ?_
      refine o_val (v_move rfl) rfl ?_
      refine o_nil ?_
      rw [show (szs xs k : Int) + (xs[k].n : Int) = ((szs xs (k + 1) : Nat) : Int) by omega]
      refine j1 (k + 1) ?_ (.cons rfl (.cons rfl (.cons rfl (.cons rfl (.cons rfl (.nil _)))))) (sub (.cons (by repeat first | exact .head | apply Rem.tail) (.cons (by repeat first | exact .head | apply Rem.tail) .nil)) (by repeat first | exact .refl | apply Drop.skip))
      exact ⟨by omega, by omega⟩
  ·
    refine w_exit ?_
    refine thn_e ?_
    refine thn_e ?_
    refine blk_x ?_
    refine thn_n ?_
    refine w_seq ?_
    obtain rfl : k = xs.length := by omega
    refine w_region ?_
    refine o_val (v_move rfl) rfl ?_
    refine o_call (k_growI (szs xs xs.length) (by omega)) V.b58  rfl .nil rfl ?_
    rintro _ _ ⟨p24, c24, rfl, rfl⟩
    refine o_val (v_assign rfl) rfl ?_
    refine o_nil ?_
    refine thn_n ?_
    refine w_seq ?_
    refine w_seq ?_
    refine w_region ?_
    refine o_val (v_move rfl) rfl ?_
    refine o_val (v_len (ty' := 0) Try.underlying100 rfl) rfl ?_
    refine o_val (v_move rfl) rfl ?_
    refine o_nil ?_
    refine thn_n ?_
    refine w_block ?_
    rw [show Row I3 p24 0 c24 [] = Row I3 p24 (szs xs 0) c24 (ls.take 0).flatten from by rw [szs_zero]; simp, show Value.slice p24 0 c24 = Value.slice p24 (szs xs 0) c24 from by rw [szs_zero]]
    refine w_loop3 (fun (k : Nat) (pn : Option Addr) (cn : Nat) => [(6, .slice pn (szs xs k) cn), (25, .slice q xs.length cq), (26, .int .i64 (xs.length : Int)), (27, .int .i64 (k : Int))]) (fun (k : Nat) (pn : Option Addr) (cn : Nat) => Row I3 pn (szs xs k) cn (ls.take k).flatten :: Row QS q xs.length cq xs :: A :: F) (fun (k : Nat) (pn : Option Addr) (cn : Nat) => k ≤ xs.length) (fun (k : Nat) (pn : Option Addr) (cn : Nat) => xs.length - k) (i3 (0) (_) (_) ?_ (.cons rfl (.cons rfl (.cons rfl (.cons rfl (.nil _))))) (sub (.cons (by repeat first | exact .head | apply Rem.tail) (.cons (by repeat first | exact .head | apply Rem.tail) (.cons (by repeat first | exact .head | apply Rem.tail) .nil))) (by repeat first | exact .refl | apply Drop.skip))) ?_
    ·
      exact Nat.zero_le _
    intro k pn cn
    rintro hk
    refine w_seq ?_
    refine w_region ?_
    refine o_val (v_lss rfl rfl) rfl ?_
    refine o_nil ?_
    refine thn_n ?_
    refine w_seq ?_
    first | refine w_condD rfl (fun h28 => ?_) (fun h28 => ?_) | refine w_cond rfl (fun h28 => ?_) (fun h28 => ?_)
    ·
      refine w_skip ?_
      refine thn_n ?_
      refine w_seq ?_
      refine w_block ?_
      refine w_seq ?_
      have hk2 : k < xs.length := by omega
      have hgk := QS.g_nat hk2
      have hsz := szs_succ hk2
      have hsl := szs_le (xs := xs) (show k + 1 ≤ xs.length by omega) (Nat.le_refl _)
      refine w_region ?_
      refine o_val (r_index (c := (QS)) V.sl100 rfl rfl (by first | exact own mm0 | exact own mm1 | exact own mm2 | exact own mm3 | exact own mm4 | exact own mm5 | exact own mm6 | exact own mm7 | exact own mm8 | exact own mm9 | exact own mm10 | exact own mm11 | exact rdH (hA k hk2) mm0 | exact rdH (hA k hk2) mm1 | exact rdH (hA k hk2) mm2 | exact rdH (hA k hk2) mm3 | exact rdH (hA k hk2) mm4 | exact rdH (hA k hk2) mm5 | exact rdH (hA k hk2) mm6 | exact rdH (hA k hk2) mm7 | exact rdH (hA k hk2) mm8 | exact rdH (hA k hk2) mm9 | exact rdH (hA k hk2) mm10 | exact rdH (hA k hk2) mm11) (by omega) (by omega)) rfl ?_
      refine o_val (r_load (c := (QS)) V.s22 rfl (by first | exact own mm0 | exact own mm1 | exact own mm2 | exact own mm3 | exact own mm4 | exact own mm5 | exact own mm6 | exact own mm7 | exact own mm8 | exact own mm9 | exact own mm10 | exact own mm11 | exact rdH (hA k hk2) mm0 | exact rdH (hA k hk2) mm1 | exact rdH (hA k hk2) mm2 | exact rdH (hA k hk2) mm3 | exact rdH (hA k hk2) mm4 | exact rdH (hA k hk2) mm5 | exact rdH (hA k hk2) mm6 | exact rdH (hA k hk2) mm7 | exact rdH (hA k hk2) mm8 | exact rdH (hA k hk2) mm9 | exact rdH (hA k hk2) mm10 | exact rdH (hA k hk2) mm11) (by omega) (by omega) rfl rfl) rfl ?_
      refine o_val (v_assign rfl) rfl ?_
      refine o_nil ?_
      refine thn_n ?_
      rw [hgk]
      refine w_region ?_
      refine o_val (v_move rfl) rfl ?_
      refine o_val (v_move rfl) rfl ?_
      refine r_append (c := (I3)) V.sl22 V.z3 rfl rfl rfl rfl (by repeat first | exact .head | apply Rem.tail) (by first | exact own mm0 | exact own mm1 | exact own mm2 | exact own mm3 | exact own mm4 | exact own mm5 | exact own mm6 | exact own mm7 | exact own mm8 | exact own mm9 | exact own mm10 | exact own mm11 | exact rdH (hA k hk2) mm0 | exact rdH (hA k hk2) mm1 | exact rdH (hA k hk2) mm2 | exact rdH (hA k hk2) mm3 | exact rdH (hA k hk2) mm4 | exact rdH (hA k hk2) mm5 | exact rdH (hA k hk2) mm6 | exact rdH (hA k hk2) mm7 | exact rdH (hA k hk2) mm8 | exact rdH (hA k hk2) mm9 | exact rdH (hA k hk2) mm10 | exact rdH (hA k hk2) mm11) (by omega) rfl ?_
      intro p33 c33
      refine o_val (v_assign rfl) rfl ?_
      refine o_nil ?_
      refine blk_n ?_
      refine thn_n ?_
      refine w_region ?_
      refine o_val (v_add rfl rfl (wrapI (by omega) (by omega))) rfl ?_
      refine o_val (v_move rfl) rfl ?_
      refine o_nil ?_
      rw [← hsz, flat_succ (by omega)]
      refine j3 (k + 1) (_) (_) ?_ (.cons rfl (.cons rfl (.cons rfl (.cons rfl (.nil _))))) (sub (.cons (by repeat first | exact .head | apply Rem.tail) (.cons (by repeat first | exact .head | apply Rem.tail) (.cons (by repeat first | exact .head | apply Rem.tail) .nil))) (by repeat first | exact .refl | apply Drop.skip))
      exact ⟨by omega, by omega⟩
    ·
      refine w_exit ?_
      refine thn_e ?_
      refine thn_e ?_
      refine blk_x ?_
      refine thn_n ?_
      refine w_seq ?_
      refine w_region ?_
      refine o_val (v_move rfl) rfl ?_
      refine o_val (v_assign rfl) rfl ?_
      refine o_nil ?_
      refine thn_n ?_
      refine w_ret ?_
      obtain rfl : k = xs.length := by omega
      rw [show ls.take xs.length = ls from by rw [← hl, List.take_length]]
      exact end_ok (G := [Row I3 pn (szs xs xs.length) cn ls.flatten, A]) (res1 rfl) ⟨pn, cn, rfl, rfl⟩ (sub (.cons (by repeat first | exact .head | apply Rem.tail) (.cons (by repeat first | exact .head | apply Rem.tail) .nil)) (by repeat first | exact .refl | apply Drop.skip))
end Go.Proofs.Ytmclopghpnndnaa

/-
  Steps of the proof: walks of functions that the statement reaches; printed by a program of ours.
-/
import Derived.Test.YtmclopghpnndnaaHuffU
import Derived.Test.YtmclopghpnndnaaHuffF
import Derived.Test.YtmclopghpnndnaaHuffFacts4
namespace Go.Proofs.Ytmclopghpnndnaa
open Go.Sl 
set_option linter.unusedVariables false
set_option linter.unusedSimpArgs false

attribute [local irreducible] HuffP.newE PkM.lvs


theorem h_len_yes (p : Option Addr) (c : Nat) (fr : List Int) (most : Int) (R : HProp) (hR : ∀ w0 h, R w0 h → RdR I3 p fr.length fr w0 h) (hOk : OkL fr most) : Ctr Try.prog 24 [.slice p fr.length c, .int .i64 most] [R] (Ret fun v G => ∃ b o, v = .tuple #[.slice (some ⟨b, 0, none⟩) fr.length fr.length, .bool true] ∧ PkM.GoodL fr most.toNat o ∧ G = [Row I3 (some ⟨b, 0, none⟩) fr.length fr.length o, R]) := by
  refine (h_lengths p c fr most R hR).mono ?_
  rintro e G ⟨v, rfl, h⟩
  rcases h with ⟨h, _⟩ | ⟨_, h⟩
  · exact absurd hOk h
  · exact ⟨v, rfl, h⟩
theorem h_len_no (p : Option Addr) (c : Nat) (fr : List Int) (most : Int) (R : HProp) (hR : ∀ w0 h, R w0 h → RdR I3 p fr.length fr w0 h) (hNo : ¬ OkL fr most) : Ctr Try.prog 24 [.slice p fr.length c, .int .i64 most] [R] (Ret fun v G => v = .tuple #[.slice none 0 0, .bool false] ∧ G = [R]) := by
  refine (h_lengths p c fr most R hR).mono ?_
  rintro e G ⟨v, rfl, h⟩
  rcases h with ⟨_, h1, h2⟩ | ⟨h, _⟩
  · exact ⟨v, rfl, h1, h2⟩
  · exact absurd h hNo
theorem and15n : ∀ n : Nat, n < 16 → IntKind.i64.wrap ((BitVec.ofInt IntKind.i64.bits n &&& BitVec.ofInt IntKind.i64.bits 15).toNat : Int) = n := by decide
theorem and15 {m : Int} (h : 1 ≤ m ∧ m ≤ 15) : IntKind.i64.wrap ((BitVec.ofInt IntKind.i64.bits m &&& BitVec.ofInt IntKind.i64.bits 15).toNat : Int) = m := by
  obtain ⟨n, rfl⟩ : ∃ n : Nat, m = (n : Int) := ⟨m.toNat, by omega⟩
  exact and15n n (by omega)
theorem neb_iff {p q : Prop} [Decidable p] [Decidable q] (h : p ↔ q) : Value.bool (decide p != decide q) = .bool false := by simp [h]
theorem five (a b : Int) : (b < a ∧ 0 < b) ∨ (b < a ∧ ¬ 0 < b) ∨ (a < b ∧ 0 < a) ∨ (a < b ∧ ¬ 0 < a) ∨ a = b := by omega
theorem lvs_cast_yes {fr : List Int} {k : Nat} (h : 0 < fr.getD k 0) : ((PkM.lvs fr k).length : Int) + 1 = ((PkM.lvs fr (k + 1)).length : Int) := by rw [PkM.lvs_yes h]; simp


set_option maxHeartbeats 4000000 in
set_option maxRecDepth 100000 in
theorem lens_yes (p : Option Addr) (c : Nat) (fr : List Int) (most : Int) (hOk : OkL fr most) : Ctr Try.prog 7 [.slice p fr.length c, .int .i64 most] [RdR I3 p fr.length fr] (Ret fun v G => v = .bool true ∧ G = [RdR I3 p fr.length fr]) := by
  refine spec_of [(0, _), (1, _)] Try.func7 rfl Try.ntmps7 rfl rfl ?_
  intro w0 F
  have h1 := hOk.m1
  have h2 := hOk.m2
  have h3 := hOk.len
  have h4 := hOk.few
  refine w_seq ?_
  refine w_region ?_
  refine o_val (v_assign rfl) rfl ?_
  refine o_nil ?_
  refine thn_n ?_
  refine w_seq ?_
  refine w_seq ?_
  refine w_region ?_
  refine o_call (awake) V.b9  rfl .nil rfl ?_
  rintro _ _ ⟨rfl, rfl⟩
  refine o_val (v_to (v := .bool false) (v_not rfl) rfl) rfl ?_
  refine o_nil ?_
  refine thn_n ?_
  refine w_condF rfl ?_
  refine w_skip ?_
  refine thn_n ?_
  refine w_seq ?_
  refine w_seq ?_
  refine w_region ?_
  refine o_val (v_move rfl) rfl ?_
  refine o_val (v_len (ty' := 0) Try.underlying22 rfl) rfl ?_
  refine o_val (v_gtr rfl rfl) rfl ?_
  refine o_nil ?_
  refine thn_n ?_
  first | refine w_condD rfl (fun h18 => ?_) (fun h18 => ?_) | refine w_cond rfl (fun h18 => ?_) (fun h18 => ?_)
  ·
    refine w_seq ?_
    refine w_region ?_
    refine o_val (v_assign rfl) rfl ?_
    refine o_nil ?_
    refine thn_n ?_
    refine w_ret ?_
    refine (thn_r ?_)
    exact ret_ok (G := [RdR I3 p fr.length fr]) (res1 rfl) ⟨rfl, rfl⟩ (sub (.cons (by repeat first | exact .head | apply Rem.tail) .nil) (by repeat first | exact .refl | apply Drop.skip))
  ·
    refine w_skip ?_
    refine thn_n ?_
    refine w_seq ?_
    refine w_region ?_
    refine o_val (v_move rfl) rfl ?_
    refine o_val (v_move rfl) rfl ?_
    refine o_call (h_len_yes p c fr most (RdR I3 p fr.length fr) (fun _ _ h => h) hOk) V.b24  rfl (.cons (by repeat first | exact .head | apply Rem.tail) .nil) rfl ?_
    rintro _ _ ⟨bo, o, rfl, hg, rfl⟩
    have hgl := hg.len
    have hnew := r_new_yes (some ⟨bo, 0, none⟩) fr.length o (Row I3 (some ⟨bo, 0, none⟩) fr.length fr.length o) (fun w0 h hh => by rw [hgl]; exact hh.rd) hg.code
    rw [hgl] at hnew
    refine o_val (v_move rfl) rfl ?_
    refine o_val (v_extract rfl rfl) rfl ?_
    refine o_val (v_extract rfl rfl) rfl ?_
    refine o_val (v_assign rfl) rfl ?_
    refine o_val (v_assign rfl) rfl ?_
    refine o_nil ?_
    refine thn_n ?_
    refine w_seq ?_
    refine w_region ?_
    refine o_val (v_move rfl) rfl ?_
    refine o_val (v_len (ty' := 0) Try.underlying22 rfl) rfl ?_
    refine o_val (v_T (v_leq rfl rfl) (by omega)) rfl ?_
    refine o_val (v_move rfl) rfl ?_
    refine o_want rfl ?_
    refine o_val (v_move rfl) rfl ?_
    refine o_want rfl ?_
    refine o_val (v_T (v_geq rfl rfl) (by omega)) rfl ?_
    refine o_val (v_pickT rfl rfl) rfl ?_
    refine o_val (v_move rfl) rfl ?_
    refine o_want rfl ?_
    refine o_val (v_move rfl) rfl ?_
    refine o_want rfl ?_
    refine o_val (v_T (v_leq rfl rfl) (by omega)) rfl ?_
    refine o_val (v_pickT rfl rfl) rfl ?_
    refine o_val (v_assign rfl) rfl ?_
    refine o_val (v_assign rfl) rfl ?_
    refine o_nil ?_
    refine thn_n ?_
    refine w_seq ?_
    refine w_seq ?_
    refine w_region ?_
    refine o_val (v_assign rfl) rfl ?_
    refine o_nil ?_
    refine thn_n ?_
    refine w_block ?_
    rw [show ((7 : Nat), Value.int .i64 0) = (7, .int .i64 ((PkM.lvs fr 0).length : Int)) from by rw [PkM.lvs_zero]; rfl]
    refine w_loop1 (fun (k : Nat) => [(0, .slice p fr.length c), (1, .int .i64 most), (5, .slice (some ⟨bo, 0, none⟩) fr.length fr.length), (6, .bool true), (7, .int .i64 ((PkM.lvs fr k).length : Int)), (8, .bool true), (9, .int .i64 (k : Int))]) (fun (k : Nat) => Row I3 (some ⟨bo, 0, none⟩) fr.length fr.length o :: RdR I3 p fr.length fr :: F) (fun (k : Nat) => k ≤ fr.length) (fun (k : Nat) => fr.length - k) (i1 (0) ?_ (.cons rfl (.cons rfl (.cons rfl (.cons rfl (.cons rfl (.cons rfl (.cons rfl (.nil _)))))))) (sub (.cons (by repeat first | exact .head | apply Rem.tail) (.cons (by repeat first | exact .head | apply Rem.tail) .nil)) (by repeat first | exact .refl | apply Drop.skip))) ?_
    ·
      exact Nat.zero_le _
    intro k
    rintro hk
    refine w_seq ?_
    refine w_seq ?_
    refine w_region ?_
    refine o_val (v_move rfl) rfl ?_
    refine o_val (v_move rfl) rfl ?_
    refine o_val (v_len (ty' := 0) Try.underlying22 rfl) rfl ?_
    refine o_val (v_lss rfl rfl) rfl ?_
    refine o_nil ?_
    refine thn_n ?_
    first | refine w_condD rfl (fun h39 => ?_) (fun h39 => ?_) | refine w_cond rfl (fun h39 => ?_) (fun h39 => ?_)
    ·
      refine w_skip ?_
      refine thn_n ?_
      refine w_seq ?_
      refine w_block ?_
      refine w_seq ?_
      have hk2 : k < fr.length := by omega
      have hll := PkM.lvs_len fr k
      have hg2 : I3.g fr (k : Int) = fr.getD k 0 := by simp [Ec.g]
      have hfk := hOk.fre k hk2
      refine w_region ?_
      refine o_val (v_move rfl) rfl ?_
      refine o_val (v_move rfl) rfl ?_
      refine o_want rfl ?_
      refine o_val (v_move rfl) rfl ?_
      refine o_want rfl ?_
      refine o_val (v_move rfl) rfl ?_
      refine o_want rfl ?_
      refine o_val (r_index (c := (I3)) V.sl22 rfl rfl (by first | exact own mm0 | exact own mm1 | exact own mm2 | exact own mm3 | exact own mm4 | exact own mm5 | exact own mm6 | exact own mm7 | exact own mm8 | exact own mm9 | exact own mm10 | exact own mm11 | exact rdH (fun _ _ h => h) mm0 | exact rdH (fun _ _ h => h) mm1 | exact rdH (fun _ _ h => h) mm2 | exact rdH (fun _ _ h => h) mm3 | exact rdH (fun _ _ h => h) mm4 | exact rdH (fun _ _ h => h) mm5 | exact rdH (fun _ _ h => h) mm6 | exact rdH (fun _ _ h => h) mm7 | exact rdH (fun _ _ h => h) mm8 | exact rdH (fun _ _ h => h) mm9 | exact rdH (fun _ _ h => h) mm10 | exact rdH (fun _ _ h => h) mm11) (by omega) (by omega)) rfl ?_
      refine o_want rfl ?_
      refine o_val (r_load (c := (I3)) V.s3 rfl (by first | exact own mm0 | exact own mm1 | exact own mm2 | exact own mm3 | exact own mm4 | exact own mm5 | exact own mm6 | exact own mm7 | exact own mm8 | exact own mm9 | exact own mm10 | exact own mm11 | exact rdH (fun _ _ h => h) mm0 | exact rdH (fun _ _ h => h) mm1 | exact rdH (fun _ _ h => h) mm2 | exact rdH (fun _ _ h => h) mm3 | exact rdH (fun _ _ h => h) mm4 | exact rdH (fun _ _ h => h) mm5 | exact rdH (fun _ _ h => h) mm6 | exact rdH (fun _ _ h => h) mm7 | exact rdH (fun _ _ h => h) mm8 | exact rdH (fun _ _ h => h) mm9 | exact rdH (fun _ _ h => h) mm10 | exact rdH (fun _ _ h => h) mm11) (by omega) (by omega) rfl rfl) rfl ?_
      refine o_want rfl ?_
      refine o_val (v_T (v_geq rfl rfl) (by rw [hg2]; exact hfk.1)) rfl ?_
      refine o_val (v_pickT rfl rfl) rfl ?_
      refine o_val (v_move rfl) rfl ?_
      refine o_want rfl ?_
      refine o_val (v_move rfl) rfl ?_
      refine o_want rfl ?_
      refine o_val (v_move rfl) rfl ?_
      refine o_want rfl ?_
      refine o_val (r_index (c := (I3)) V.sl22 rfl rfl (by first | exact own mm0 | exact own mm1 | exact own mm2 | exact own mm3 | exact own mm4 | exact own mm5 | exact own mm6 | exact own mm7 | exact own mm8 | exact own mm9 | exact own mm10 | exact own mm11 | exact rdH (fun _ _ h => h) mm0 | exact rdH (fun _ _ h => h) mm1 | exact rdH (fun _ _ h => h) mm2 | exact rdH (fun _ _ h => h) mm3 | exact rdH (fun _ _ h => h) mm4 | exact rdH (fun _ _ h => h) mm5 | exact rdH (fun _ _ h => h) mm6 | exact rdH (fun _ _ h => h) mm7 | exact rdH (fun _ _ h => h) mm8 | exact rdH (fun _ _ h => h) mm9 | exact rdH (fun _ _ h => h) mm10 | exact rdH (fun _ _ h => h) mm11) (by omega) (by omega)) rfl ?_
      refine o_want rfl ?_
      refine o_val (r_load (c := (I3)) V.s3 rfl (by first | exact own mm0 | exact own mm1 | exact own mm2 | exact own mm3 | exact own mm4 | exact own mm5 | exact own mm6 | exact own mm7 | exact own mm8 | exact own mm9 | exact own mm10 | exact own mm11 | exact rdH (fun _ _ h => h) mm0 | exact rdH (fun _ _ h => h) mm1 | exact rdH (fun _ _ h => h) mm2 | exact rdH (fun _ _ h => h) mm3 | exact rdH (fun _ _ h => h) mm4 | exact rdH (fun _ _ h => h) mm5 | exact rdH (fun _ _ h => h) mm6 | exact rdH (fun _ _ h => h) mm7 | exact rdH (fun _ _ h => h) mm8 | exact rdH (fun _ _ h => h) mm9 | exact rdH (fun _ _ h => h) mm10 | exact rdH (fun _ _ h => h) mm11) (by omega) (by omega) rfl rfl) rfl ?_
      refine o_want rfl ?_
      refine o_val (v_T (v_leq rfl rfl) (by rw [hg2]; exact hfk.2)) rfl ?_
      refine o_val (v_pickT rfl rfl) rfl ?_
      refine o_val (v_assign rfl) rfl ?_
      refine o_nil ?_
      refine thn_n ?_
      refine w_seq ?_
      refine w_region ?_
      refine o_val (v_move rfl) rfl ?_
      refine o_val (v_move rfl) rfl ?_
      refine o_val (r_index (c := (I3)) V.sl22 rfl rfl (by first | exact own mm0 | exact own mm1 | exact own mm2 | exact own mm3 | exact own mm4 | exact own mm5 | exact own mm6 | exact own mm7 | exact own mm8 | exact own mm9 | exact own mm10 | exact own mm11 | exact rdH (fun _ _ h => h) mm0 | exact rdH (fun _ _ h => h) mm1 | exact rdH (fun _ _ h => h) mm2 | exact rdH (fun _ _ h => h) mm3 | exact rdH (fun _ _ h => h) mm4 | exact rdH (fun _ _ h => h) mm5 | exact rdH (fun _ _ h => h) mm6 | exact rdH (fun _ _ h => h) mm7 | exact rdH (fun _ _ h => h) mm8 | exact rdH (fun _ _ h => h) mm9 | exact rdH (fun _ _ h => h) mm10 | exact rdH (fun _ _ h => h) mm11) (by omega) (by omega)) rfl ?_
      refine o_val (r_load (c := (I3)) V.s3 rfl (by first | exact own mm0 | exact own mm1 | exact own mm2 | exact own mm3 | exact own mm4 | exact own mm5 | exact own mm6 | exact own mm7 | exact own mm8 | exact own mm9 | exact own mm10 | exact own mm11 | exact rdH (fun _ _ h => h) mm0 | exact rdH (fun _ _ h => h) mm1 | exact rdH (fun _ _ h => h) mm2 | exact rdH (fun _ _ h => h) mm3 | exact rdH (fun _ _ h => h) mm4 | exact rdH (fun _ _ h => h) mm5 | exact rdH (fun _ _ h => h) mm6 | exact rdH (fun _ _ h => h) mm7 | exact rdH (fun _ _ h => h) mm8 | exact rdH (fun _ _ h => h) mm9 | exact rdH (fun _ _ h => h) mm10 | exact rdH (fun _ _ h => h) mm11) (by omega) (by omega) rfl rfl) rfl ?_
      refine o_val (v_gtr rfl rfl) rfl ?_
      refine o_nil ?_
      refine thn_n ?_
      first | refine w_condD rfl (fun h61 => ?_) (fun h61 => ?_) | refine w_cond rfl (fun h61 => ?_) (fun h61 => ?_)
      ·
        refine w_region ?_
        refine o_val (v_move rfl) rfl ?_
        refine o_val (v_add rfl rfl (wrapI (by omega) (by omega))) rfl ?_
        refine o_val (v_assign rfl) rfl ?_
        refine o_nil ?_
        refine blk_n ?_
        refine thn_n ?_
        refine w_region ?_
        refine o_val (v_move rfl) rfl ?_
        refine o_val (v_add rfl rfl (wrapI (by omega) (by omega))) rfl ?_
        refine o_val (v_assign rfl) rfl ?_
        refine o_nil ?_
        first
        | (rw [lvs_cast_yes (by omega)]; exact j1 (k + 1) ⟨by omega, by omega⟩ (.cons rfl (.cons rfl (.cons rfl (.cons rfl (.cons rfl (.cons rfl (.cons rfl (.nil _)))))))) (sub (.cons (by repeat first | exact .head | apply Rem.tail) (.cons (by repeat first | exact .head | apply Rem.tail) .nil)) (by repeat first | exact .refl | apply Drop.skip)))
        | (rw [← PkM.lvs_no (by omega)]; exact j1 (k + 1) ⟨by omega, by omega⟩ (.cons rfl (.cons rfl (.cons rfl (.cons rfl (.cons rfl (.cons rfl (.cons rfl (.nil _)))))))) (sub (.cons (by repeat first | exact .head | apply Rem.tail) (.cons (by repeat first | exact .head | apply Rem.tail) .nil)) (by repeat first | exact .refl | apply Drop.skip)))
      ·
        refine w_skip ?_
        refine blk_n ?_
        refine thn_n ?_
        refine w_region ?_
        refine o_val (v_move rfl) rfl ?_
        refine o_val (v_add rfl rfl (wrapI (by omega) (by omega))) rfl ?_
        refine o_val (v_assign rfl) rfl ?_
        refine o_nil ?_
        first
        | (rw [lvs_cast_yes (by omega)]; exact j1 (k + 1) ⟨by omega, by omega⟩ (.cons rfl (.cons rfl (.cons rfl (.cons rfl (.cons rfl (.cons rfl (.cons rfl (.nil _)))))))) (sub (.cons (by repeat first | exact .head | apply Rem.tail) (.cons (by repeat first | exact .head | apply Rem.tail) .nil)) (by repeat first | exact .refl | apply Drop.skip)))
        | (rw [← PkM.lvs_no (by omega)]; exact j1 (k + 1) ⟨by omega, by omega⟩ (.cons rfl (.cons rfl (.cons rfl (.cons rfl (.cons rfl (.cons rfl (.cons rfl (.nil _)))))))) (sub (.cons (by repeat first | exact .head | apply Rem.tail) (.cons (by repeat first | exact .head | apply Rem.tail) .nil)) (by repeat first | exact .refl | apply Drop.skip)))
    ·
      refine w_exit ?_
      refine thn_e ?_
      refine thn_e ?_
      refine blk_x ?_
      refine thn_n ?_
      refine w_seq ?_
      obtain rfl : k = fr.length := by omega
      refine w_region ?_
      refine o_val (v_move rfl) rfl ?_
      refine o_val (v_move rfl) rfl ?_
      refine o_want rfl ?_
      refine o_val (v_move rfl) rfl ?_
      refine o_want rfl ?_
      refine o_val (v_move rfl) rfl ?_
      refine o_want rfl ?_
      refine o_val (v_and (r := most) rfl rfl (and15 (by omega))) rfl ?_
      refine o_want rfl ?_
      refine o_val (v_conv V.u3 Try.underlying34 rfl (wrapU (by omega) (by omega))) rfl ?_
      refine o_want rfl ?_
      refine o_val (v_shl (r := ((2 ^ most.toNat : Nat) : Int)) rfl rfl (by omega) (shl_most (by omega))) rfl ?_
      refine o_want rfl ?_
      refine o_val (v_T (v_leq rfl rfl) (by omega)) rfl ?_
      refine o_val (v_pickT rfl rfl) rfl ?_
      refine o_val (v_assign rfl) rfl ?_
      refine o_nil ?_
      refine thn_n ?_
      refine w_seq ?_
      refine w_seq ?_
      refine w_region ?_
      refine o_val (v_move rfl) rfl ?_
      refine o_val (v_to (v := .bool false) (v_not rfl) rfl) rfl ?_
      refine o_nil ?_
      refine thn_n ?_
      refine w_condF rfl ?_
      refine w_skip ?_
      refine thn_n ?_
      refine w_seq ?_
      refine w_seq ?_
      refine w_region ?_
      refine o_val (v_move rfl) rfl ?_
      refine o_val (v_to (v := .bool false) (v_not rfl) rfl) rfl ?_
      refine o_val (v_move rfl) rfl ?_
      refine o_want rfl ?_
      refine o_val (v_move rfl) rfl ?_
      refine o_want rfl ?_
      refine o_val (v_len (ty' := 0) Try.underlying22 rfl) rfl ?_
      refine o_want rfl ?_
      refine o_val (v_move rfl) rfl ?_
      refine o_want rfl ?_
      refine o_val (v_len (ty' := 0) Try.underlying22 rfl) rfl ?_
      refine o_want rfl ?_
      refine o_val (v_F (v_neq rfl rfl) (fun h => h rfl)) rfl ?_
      refine o_val (v_pickF rfl rfl) rfl ?_
      refine o_nil ?_
      refine thn_n ?_
      refine w_condF rfl ?_
      refine w_skip ?_
      refine thn_n ?_
      refine w_seq ?_
      refine w_region ?_
      refine o_val (v_move rfl) rfl ?_
      refine o_call (hnew) V.b11  rfl (.cons (by repeat first | exact .head | apply Rem.tail) .nil) rfl ?_
      rintro _ _ ⟨br, rfl, rfl⟩
      refine o_val (v_move rfl) rfl ?_
      refine o_val (v_extract rfl rfl) rfl ?_
      refine o_val (v_extract rfl rfl) rfl ?_
      refine o_val (v_assign rfl) rfl ?_
      refine o_val (v_assign rfl) rfl ?_
      refine o_nil ?_
      refine thn_n ?_
      refine w_seq ?_
      refine w_seq ?_
      refine w_region ?_
      refine o_val (v_move rfl) rfl ?_
      refine o_val (v_F (v_neq rfl rfl) (fun h => h rfl)) rfl ?_
      refine o_nil ?_
      refine thn_n ?_
      refine w_condF rfl ?_
      refine w_skip ?_
      refine thn_n ?_
      refine w_seq ?_
      refine w_seq ?_
      refine w_region ?_
      refine o_val (v_assign rfl) rfl ?_
      refine o_nil ?_
      refine thn_n ?_
      refine w_block ?_
      refine w_loop1 (fun (i : Nat) => [(0, .slice p fr.length c), (1, .int .i64 most), (5, .slice (some ⟨bo, 0, none⟩) fr.length fr.length), (7, .int .i64 ((PkM.lvs fr fr.length).length : Int)), (12, .int .i64 (i : Int))]) (fun (i : Nat) => RC br o :: Row I3 (some ⟨bo, 0, none⟩) fr.length fr.length o :: RdR I3 p fr.length fr :: F) (fun (i : Nat) => i ≤ fr.length) (fun (i : Nat) => fr.length - i) (i1 (0) ?_ (.cons rfl (.cons rfl (.cons rfl (.cons rfl (.cons rfl (.nil _)))))) (sub (.cons (by repeat first | exact .head | apply Rem.tail) (.cons (by repeat first | exact .head | apply Rem.tail) (.cons (by repeat first | exact .head | apply Rem.tail) .nil))) (by repeat first | exact .refl | apply Drop.skip))) ?_
      ·
        exact Nat.zero_le _
      intro i
      rintro hi
      refine w_seq ?_
      refine w_seq ?_
      refine w_region ?_
      refine o_val (v_move rfl) rfl ?_
      refine o_val (v_move rfl) rfl ?_
      refine o_val (v_len (ty' := 0) Try.underlying22 rfl) rfl ?_
      refine o_val (v_lss rfl rfl) rfl ?_
      refine o_nil ?_
      refine thn_n ?_
      first | refine w_condD rfl (fun h101 => ?_) (fun h101 => ?_) | refine w_cond rfl (fun h101 => ?_) (fun h101 => ?_)
      ·
        refine w_skip ?_
        refine thn_n ?_
        refine w_seq ?_
        refine w_block ?_
        refine w_join1 (fun (u : Unit) => [(0, .slice p fr.length c), (1, .int .i64 most), (5, .slice (some ⟨bo, 0, none⟩) fr.length fr.length), (7, .int .i64 ((PkM.lvs fr fr.length).length : Int)), (12, .int .i64 (i : Int))]) (fun (u : Unit) => RC br o :: Row I3 (some ⟨bo, 0, none⟩) fr.length fr.length o :: RdR I3 p fr.length fr :: F) (fun (u : Unit) => True) ?_ ?_
        ·
          refine w_seq ?_
          have hi2 : i < fr.length := by omega
          have eo : I3.g o (i : Int) = o.getD i 0 := by simp [Ec.g]
          have ef : I3.g fr (i : Int) = fr.getD i 0 := by simp [Ec.g]
          have hv : 0 ≤ o.getD i 0 ∧ o.getD i 0 ≤ most := by
            by_cases hc : 0 < fr.getD i 0
            · have := hg.pos i hi2 hc
              omega
            · have := hg.zero i hi2 hc
              omega
          have hsame : 0 < o.getD i 0 ↔ 0 < fr.getD i 0 := by
            by_cases hc : 0 < fr.getD i 0
            · have := hg.pos i hi2 hc
              omega
            · have := hg.zero i hi2 hc
              omega
          by_cases h132 : ((PkM.lvs fr fr.length).length : Int) = 1
          ·
            refine w_net [⟨[], [], [5], 0, 0⟩, ⟨[], [], [12], 0, 0⟩, ⟨[0, 1], [0, 1], [], 0, 0⟩, ⟨[0, 1, 2], [2], [], 0, 0⟩, ⟨[0, 1, 2, 3], [3], [], 0, 0⟩, ⟨[], [], [0], 0, 0⟩, ⟨[], [], [12], 0, 0⟩, ⟨[5, 6], [5, 6], [], 0, 0⟩, ⟨[5, 6, 7], [7], [], 0, 0⟩, ⟨[5, 6, 7, 8], [8], [], 0, 0⟩, ⟨[0, 1, 2, 3, 4, 5, 6, 7, 8, 9], [4, 9], [], 0, 0⟩, ⟨[0, 1, 2, 3, 4, 5, 6, 7, 8, 9, 10], [10], [], 0, 0⟩, ⟨[0, 1, 2, 3, 4, 5, 6, 7, 8, 9, 10, 11], [11], [5], 0, 0⟩, ⟨[0, 1, 2, 3, 4, 5, 6, 7, 8, 9, 10, 11], [11], [12], 0, 0⟩, ⟨[0, 1, 2, 3, 4, 5, 6, 7, 8, 9, 10, 11, 12, 13], [12, 13, 11], [], 0, 0⟩, ⟨[0, 1, 2, 3, 4, 5, 6, 7, 8, 9, 10, 11, 12, 13, 14], [14, 11], [], 0, 0⟩, ⟨[0, 1, 2, 3, 4, 5, 6, 7, 8, 9, 10, 11], [11], [1], 0, 0⟩, ⟨[0, 1, 2, 3, 4, 5, 6, 7, 8, 9, 10, 11, 12, 13, 14, 15, 16], [15, 16, 11], [], 0, 0⟩, ⟨[0, 1, 2, 3, 4, 5, 6, 7, 8, 9, 10, 11, 12, 13, 14, 15, 16, 17], [11, 17], [], 0, 0⟩, ⟨[0, 1, 2, 3, 4, 5, 6, 7, 8, 9, 10, 11, 12, 13, 14, 15, 16, 17, 18], [18], [], 0, 0⟩, ⟨[0, 1, 2, 3, 4, 5, 6, 7, 8, 9, 10, 11, 12, 13, 14, 15, 16, 17, 18, 19], [19], [5], 0, 0⟩, ⟨[0, 1, 2, 3, 4, 5, 6, 7, 8, 9, 10, 11, 12, 13, 14, 15, 16, 17, 18, 19], [19], [12], 0, 0⟩, ⟨[0, 1, 2, 3, 4, 5, 6, 7, 8, 9, 10, 11, 12, 13, 14, 15, 16, 17, 18, 19, 20, 21], [20, 21, 19], [], 0, 0⟩, ⟨[0, 1, 2, 3, 4, 5, 6, 7, 8, 9, 10, 11, 12, 13, 14, 15, 16, 17, 18, 19, 20, 21, 22], [22, 19], [], 0, 0⟩, ⟨[0, 1, 2, 3, 4, 5, 6, 7, 8, 9, 10, 11, 12, 13, 14, 15, 16, 17, 18, 19, 20, 21, 22, 23], [23, 19], [], 0, 0⟩, ⟨[0, 1, 2, 3, 4, 5, 6, 7, 8, 9, 10, 11, 12, 13, 14, 15, 16, 17, 18, 19, 20, 21, 22, 23, 24], [19, 24], [], 0, 0⟩, ⟨[0, 1, 2, 3, 4, 5, 6, 7, 8, 9, 10, 11, 12, 13, 14, 15, 16, 17, 18, 19, 20, 21, 22, 23, 24, 25], [25], [], 0, 0⟩, ⟨[0, 1, 2, 3, 4, 5, 6, 7, 8, 9, 10, 11, 12, 13, 14, 15, 16, 17, 18, 19, 20, 21, 22, 23, 24, 25, 26], [26], [7], 0, 0⟩, ⟨[0, 1, 2, 3, 4, 5, 6, 7, 8, 9, 10, 11, 12, 13, 14, 15, 16, 17, 18, 19, 20, 21, 22, 23, 24, 25, 26, 27], [27, 26], [], 0, 0⟩, ⟨[0, 1, 2, 3, 4, 5, 6, 7, 8, 9, 10, 11, 12, 13, 14, 15, 16, 17, 18, 19, 20, 21, 22, 23, 24, 25, 26, 27, 28], [28, 26], [], 0, 0⟩, ⟨[0, 1, 2, 3, 4, 5, 6, 7, 8, 9, 10, 11, 12, 13, 14, 15, 16, 17, 18, 19, 20, 21, 22, 23, 24, 25, 26, 27, 28, 29], [29], [5], 0, 0⟩, ⟨[0, 1, 2, 3, 4, 5, 6, 7, 8, 9, 10, 11, 12, 13, 14, 15, 16, 17, 18, 19, 20, 21, 22, 23, 24, 25, 26, 27, 28, 29], [29], [12], 0, 0⟩, ⟨[0, 1, 2, 3, 4, 5, 6, 7, 8, 9, 10, 11, 12, 13, 14, 15, 16, 17, 18, 19, 20, 21, 22, 23, 24, 25, 26, 27, 28, 29, 30, 31], [30, 31, 29], [], 0, 0⟩, ⟨[0, 1, 2, 3, 4, 5, 6, 7, 8, 9, 10, 11, 12, 13, 14, 15, 16, 17, 18, 19, 20, 21, 22, 23, 24, 25, 26, 27, 28, 29, 30, 31, 32], [32, 29], [], 0, 0⟩, ⟨[0, 1, 2, 3, 4, 5, 6, 7, 8, 9, 10, 11, 12, 13, 14, 15, 16, 17, 18, 19, 20, 21, 22, 23, 24, 25, 26, 27, 28, 29, 30, 31, 32, 33], [33, 29], [], 0, 0⟩, ⟨[0, 1, 2, 3, 4, 5, 6, 7, 8, 9, 10, 11, 12, 13, 14, 15, 16, 17, 18, 19, 20, 21, 22, 23, 24, 25, 26, 27, 28, 29, 30, 31, 32, 33, 34], [29, 34, 26], [], 0, 0⟩, ⟨[0, 1, 2, 3, 4, 5, 6, 7, 8, 9, 10, 11, 12, 13, 14, 15, 16, 17, 18, 19, 20, 21, 22, 23, 24, 25, 26, 27, 28, 29, 30, 31, 32, 33, 34, 35], [26, 35], [], 0, 0⟩] [⟨fun y => RC br o, none, none, []⟩, ⟨fun y => Row I3 (some ⟨bo, 0, none⟩) fr.length fr.length o, none, none, [2, 3, 14, 15, 22, 23, 32, 33]⟩, ⟨fun y => RdR I3 p fr.length fr, none, none, [7, 8]⟩] F V.mixed (by kernel_rfl) rfl (fun _ => .refl _) (locT_0 _ (locT_0 _ (locT_0 _ locT_nil))) ?_
            refine net_pure (fun y => [(5, _)]) (fun y => rfl) rfl rfl rfl (fun y hA L => st_v (v_move rfl) ⟨rfl, rfl⟩) (by intros; rfl) (by intro y y2 h; rfl) ?_
            refine net_pure (fun y => [(12, _)]) (fun y => rfl) rfl rfl rfl (fun y hA L => st_v (v_move rfl) ⟨rfl, rfl⟩) (by intros; rfl) (by intro y y2 h; rfl) ?_
            refine net_read (fun y => [Row I3 (some ⟨bo, 0, none⟩) fr.length fr.length o]) (fun y => [(104, _), (105, _)]) (fun y => rfl) rfl (fun y => rfl) rfl (fun y FF hA => st_v (r_index (c := (I3)) V.sl22 rfl rfl (by first | exact own mm0 | exact own mm1 | exact own mm2 | exact own mm3 | exact own mm4 | exact own mm5 | exact own mm6 | exact own mm7 | exact own mm8 | exact own mm9 | exact own mm10 | exact own mm11 | exact rdH (fun _ _ h => h) mm0 | exact rdH (fun _ _ h => h) mm1 | exact rdH (fun _ _ h => h) mm2 | exact rdH (fun _ _ h => h) mm3 | exact rdH (fun _ _ h => h) mm4 | exact rdH (fun _ _ h => h) mm5 | exact rdH (fun _ _ h => h) mm6 | exact rdH (fun _ _ h => h) mm7 | exact rdH (fun _ _ h => h) mm8 | exact rdH (fun _ _ h => h) mm9 | exact rdH (fun _ _ h => h) mm10 | exact rdH (fun _ _ h => h) mm11) (by omega) (by omega)) ⟨rfl, rfl⟩) (by intros; rfl) (by intro y y2 h; rfl) ?_
            refine net_read (fun y => [Row I3 (some ⟨bo, 0, none⟩) fr.length fr.length o]) (fun y => [(106, _)]) (fun y => rfl) rfl (fun y => rfl) rfl (fun y FF hA => st_v (r_load (c := (I3)) V.s3 rfl (by first | exact own mm0 | exact own mm1 | exact own mm2 | exact own mm3 | exact own mm4 | exact own mm5 | exact own mm6 | exact own mm7 | exact own mm8 | exact own mm9 | exact own mm10 | exact own mm11 | exact rdH (fun _ _ h => h) mm0 | exact rdH (fun _ _ h => h) mm1 | exact rdH (fun _ _ h => h) mm2 | exact rdH (fun _ _ h => h) mm3 | exact rdH (fun _ _ h => h) mm4 | exact rdH (fun _ _ h => h) mm5 | exact rdH (fun _ _ h => h) mm6 | exact rdH (fun _ _ h => h) mm7 | exact rdH (fun _ _ h => h) mm8 | exact rdH (fun _ _ h => h) mm9 | exact rdH (fun _ _ h => h) mm10 | exact rdH (fun _ _ h => h) mm11) (by omega) (by omega) rfl rfl) ⟨rfl, rfl⟩) (by intros; rfl) (by intro y y2 h; rfl) ?_
            refine net_pure (fun y => [(107, _)]) (fun y => rfl) rfl rfl rfl (fun y hA L => st_v (v_gtr rfl rfl) ⟨rfl, rfl⟩) (by intros; rfl) (by intro y y2 h; rfl) ?_
            refine net_pure (fun y => [(0, _)]) (fun y => rfl) rfl rfl rfl (fun y hA L => st_v (v_move rfl) ⟨rfl, rfl⟩) (by intros; rfl) (by intro y y2 h; rfl) ?_
            refine net_pure (fun y => [(12, _)]) (fun y => rfl) rfl rfl rfl (fun y hA L => st_v (v_move rfl) ⟨rfl, rfl⟩) (by intros; rfl) (by intro y y2 h; rfl) ?_
            refine net_read (fun y => [RdR I3 p fr.length fr]) (fun y => [(109, _), (110, _)]) (fun y => rfl) rfl (fun y => rfl) rfl (fun y FF hA => st_v (r_index (c := (I3)) V.sl22 rfl rfl (by first | exact own mm0 | exact own mm1 | exact own mm2 | exact own mm3 | exact own mm4 | exact own mm5 | exact own mm6 | exact own mm7 | exact own mm8 | exact own mm9 | exact own mm10 | exact own mm11 | exact rdH (fun _ _ h => h) mm0 | exact rdH (fun _ _ h => h) mm1 | exact rdH (fun _ _ h => h) mm2 | exact rdH (fun _ _ h => h) mm3 | exact rdH (fun _ _ h => h) mm4 | exact rdH (fun _ _ h => h) mm5 | exact rdH (fun _ _ h => h) mm6 | exact rdH (fun _ _ h => h) mm7 | exact rdH (fun _ _ h => h) mm8 | exact rdH (fun _ _ h => h) mm9 | exact rdH (fun _ _ h => h) mm10 | exact rdH (fun _ _ h => h) mm11) (by omega) (by omega)) ⟨rfl, rfl⟩) (by intros; rfl) (by intro y y2 h; rfl) ?_
            refine net_read (fun y => [RdR I3 p fr.length fr]) (fun y => [(111, _)]) (fun y => rfl) rfl (fun y => rfl) rfl (fun y FF hA => st_v (r_load (c := (I3)) V.s3 rfl (by first | exact own mm0 | exact own mm1 | exact own mm2 | exact own mm3 | exact own mm4 | exact own mm5 | exact own mm6 | exact own mm7 | exact own mm8 | exact own mm9 | exact own mm10 | exact own mm11 | exact rdH (fun _ _ h => h) mm0 | exact rdH (fun _ _ h => h) mm1 | exact rdH (fun _ _ h => h) mm2 | exact rdH (fun _ _ h => h) mm3 | exact rdH (fun _ _ h => h) mm4 | exact rdH (fun _ _ h => h) mm5 | exact rdH (fun _ _ h => h) mm6 | exact rdH (fun _ _ h => h) mm7 | exact rdH (fun _ _ h => h) mm8 | exact rdH (fun _ _ h => h) mm9 | exact rdH (fun _ _ h => h) mm10 | exact rdH (fun _ _ h => h) mm11) (by omega) (by omega) rfl rfl) ⟨rfl, rfl⟩) (by intros; rfl) (by intro y y2 h; rfl) ?_
            refine net_pure (fun y => [(112, _)]) (fun y => rfl) rfl rfl rfl (fun y hA L => st_v (v_gtr rfl rfl) ⟨rfl, rfl⟩) (by intros; rfl) (by intro y y2 h; rfl) ?_
            refine net_pure (fun y => [(108, _), (113, _)]) (fun y => rfl) rfl rfl rfl (fun y hA L => st_v (v_to (v := .bool false) (v_neb Try.underlying4 rfl rfl) (neb_iff (by omega))) ⟨rfl, rfl⟩) (by intros; rfl) (by intro y y2 h; rfl) ?_
            refine net_pure (fun y => [(114, _)]) (fun y => rfl) rfl rfl rfl (fun y hA L => st_v (v_move rfl) ⟨rfl, rfl⟩) (by intros; rfl) (by intro y y2 h; rfl) ?_
            refine net_pure (fun y => [(115, _), (5, _)]) (fun y => rfl) rfl rfl rfl (fun y hA L => st_want rfl (st_v (v_move rfl) ⟨rfl, rfl⟩)) (by intros; rfl) (by intro y y2 h; rfl) ?_
            refine net_pure (fun y => [(115, _), (12, _)]) (fun y => rfl) rfl rfl rfl (fun y hA L => st_want rfl (st_v (v_move rfl) ⟨rfl, rfl⟩)) (by intros; rfl) (by intro y y2 h; rfl) ?_
            refine net_read (fun y => [Row I3 (some ⟨bo, 0, none⟩) fr.length fr.length o]) (fun y => [(116, _), (117, _), (115, _)]) (fun y => rfl) rfl (fun y => rfl) rfl (fun y FF hA => st_want rfl (st_v (r_index (c := (I3)) V.sl22 rfl rfl (by first | exact own mm0 | exact own mm1 | exact own mm2 | exact own mm3 | exact own mm4 | exact own mm5 | exact own mm6 | exact own mm7 | exact own mm8 | exact own mm9 | exact own mm10 | exact own mm11 | exact rdH (fun _ _ h => h) mm0 | exact rdH (fun _ _ h => h) mm1 | exact rdH (fun _ _ h => h) mm2 | exact rdH (fun _ _ h => h) mm3 | exact rdH (fun _ _ h => h) mm4 | exact rdH (fun _ _ h => h) mm5 | exact rdH (fun _ _ h => h) mm6 | exact rdH (fun _ _ h => h) mm7 | exact rdH (fun _ _ h => h) mm8 | exact rdH (fun _ _ h => h) mm9 | exact rdH (fun _ _ h => h) mm10 | exact rdH (fun _ _ h => h) mm11) (by omega) (by omega)) ⟨rfl, rfl⟩)) (by intros; rfl) (by intro y y2 h; rfl) ?_
            refine net_read (fun y => [Row I3 (some ⟨bo, 0, none⟩) fr.length fr.length o]) (fun y => [(118, _), (115, _)]) (fun y => rfl) rfl (fun y => rfl) rfl (fun y FF hA => st_want rfl (st_v (r_load (c := (I3)) V.s3 rfl (by first | exact own mm0 | exact own mm1 | exact own mm2 | exact own mm3 | exact own mm4 | exact own mm5 | exact own mm6 | exact own mm7 | exact own mm8 | exact own mm9 | exact own mm10 | exact own mm11 | exact rdH (fun _ _ h => h) mm0 | exact rdH (fun _ _ h => h) mm1 | exact rdH (fun _ _ h => h) mm2 | exact rdH (fun _ _ h => h) mm3 | exact rdH (fun _ _ h => h) mm4 | exact rdH (fun _ _ h => h) mm5 | exact rdH (fun _ _ h => h) mm6 | exact rdH (fun _ _ h => h) mm7 | exact rdH (fun _ _ h => h) mm8 | exact rdH (fun _ _ h => h) mm9 | exact rdH (fun _ _ h => h) mm10 | exact rdH (fun _ _ h => h) mm11) (by omega) (by omega) rfl rfl) ⟨rfl, rfl⟩)) (by intros; rfl) (by intro y y2 h; rfl) ?_
            refine net_pure (fun y => [(115, _), (1, _)]) (fun y => rfl) rfl rfl rfl (fun y hA L => st_want rfl (st_v (v_move rfl) ⟨rfl, rfl⟩)) (by intros; rfl) (by intro y y2 h; rfl) ?_
            refine net_pure (fun y => [(119, _), (120, _), (115, _)]) (fun y => rfl) rfl rfl rfl (fun y hA L => st_want rfl (st_v (v_F (v_gtr rfl rfl) (by omega)) ⟨rfl, rfl⟩)) (by intros; rfl) (by intro y y2 h; rfl) ?_
            refine net_pure (fun y => [(115, _), (121, _)]) (fun y => rfl) rfl rfl rfl (fun y hA L => st_v (v_pickF rfl rfl) ⟨rfl, rfl⟩) (by intros; rfl) (by intro y y2 h; rfl) ?_
            refine net_pure (fun y => [(122, _)]) (fun y => rfl) rfl rfl rfl (fun y hA L => st_v (v_move rfl) ⟨rfl, rfl⟩) (by intros; rfl) (by intro y y2 h; rfl) ?_
            refine net_pure (fun y => [(123, _), (5, _)]) (fun y => rfl) rfl rfl rfl (fun y hA L => st_want rfl (st_v (v_move rfl) ⟨rfl, rfl⟩)) (by intros; rfl) (by intro y y2 h; rfl) ?_
            refine net_pure (fun y => [(123, _), (12, _)]) (fun y => rfl) rfl rfl rfl (fun y hA L => st_want rfl (st_v (v_move rfl) ⟨rfl, rfl⟩)) (by intros; rfl) (by intro y y2 h; rfl) ?_
            refine net_read (fun y => [Row I3 (some ⟨bo, 0, none⟩) fr.length fr.length o]) (fun y => [(124, _), (125, _), (123, _)]) (fun y => rfl) rfl (fun y => rfl) rfl (fun y FF hA => st_want rfl (st_v (r_index (c := (I3)) V.sl22 rfl rfl (by first | exact own mm0 | exact own mm1 | exact own mm2 | exact own mm3 | exact own mm4 | exact own mm5 | exact own mm6 | exact own mm7 | exact own mm8 | exact own mm9 | exact own mm10 | exact own mm11 | exact rdH (fun _ _ h => h) mm0 | exact rdH (fun _ _ h => h) mm1 | exact rdH (fun _ _ h => h) mm2 | exact rdH (fun _ _ h => h) mm3 | exact rdH (fun _ _ h => h) mm4 | exact rdH (fun _ _ h => h) mm5 | exact rdH (fun _ _ h => h) mm6 | exact rdH (fun _ _ h => h) mm7 | exact rdH (fun _ _ h => h) mm8 | exact rdH (fun _ _ h => h) mm9 | exact rdH (fun _ _ h => h) mm10 | exact rdH (fun _ _ h => h) mm11) (by omega) (by omega)) ⟨rfl, rfl⟩)) (by intros; rfl) (by intro y y2 h; rfl) ?_
            refine net_read (fun y => [Row I3 (some ⟨bo, 0, none⟩) fr.length fr.length o]) (fun y => [(126, _), (123, _)]) (fun y => rfl) rfl (fun y => rfl) rfl (fun y FF hA => st_want rfl (st_v (r_load (c := (I3)) V.s3 rfl (by first | exact own mm0 | exact own mm1 | exact own mm2 | exact own mm3 | exact own mm4 | exact own mm5 | exact own mm6 | exact own mm7 | exact own mm8 | exact own mm9 | exact own mm10 | exact own mm11 | exact rdH (fun _ _ h => h) mm0 | exact rdH (fun _ _ h => h) mm1 | exact rdH (fun _ _ h => h) mm2 | exact rdH (fun _ _ h => h) mm3 | exact rdH (fun _ _ h => h) mm4 | exact rdH (fun _ _ h => h) mm5 | exact rdH (fun _ _ h => h) mm6 | exact rdH (fun _ _ h => h) mm7 | exact rdH (fun _ _ h => h) mm8 | exact rdH (fun _ _ h => h) mm9 | exact rdH (fun _ _ h => h) mm10 | exact rdH (fun _ _ h => h) mm11) (by omega) (by omega) rfl rfl) ⟨rfl, rfl⟩)) (by intros; rfl) (by intro y y2 h; rfl) ?_
            refine net_pure (fun y => [(127, _), (123, _)]) (fun y => rfl) rfl rfl rfl (fun y hA L => st_want rfl (st_v (v_F (v_lss rfl rfl) (by omega)) ⟨rfl, rfl⟩)) (by intros; rfl) (by intro y y2 h; rfl) ?_
            refine net_pure (fun y => [(123, _), (128, _)]) (fun y => rfl) rfl rfl rfl (fun y hA L => st_v (v_pickF rfl rfl) ⟨rfl, rfl⟩) (by intros; rfl) (by intro y y2 h; rfl) ?_
            refine net_pure (fun y => [(129, _)]) (fun y => rfl) rfl rfl rfl (fun y hA L => st_v (v_move rfl) ⟨rfl, rfl⟩) (by intros; rfl) (by intro y y2 h; rfl) ?_
            refine net_pure (fun y => [(130, _), (7, _)]) (fun y => rfl) rfl rfl rfl (fun y hA L => st_want rfl (st_v (v_move rfl) ⟨rfl, rfl⟩)) (by intros; rfl) (by intro y y2 h; rfl) ?_
            refine net_pure (fun y => [(131, _), (130, _)]) (fun y => rfl) rfl rfl rfl (fun y hA L => st_want rfl (st_v (v_T (v_eql rfl rfl) h132) ⟨rfl, rfl⟩)) (by intros; rfl) (by intro y y2 h; rfl) ?_
            refine net_pure (fun y => [(132, _), (130, _)]) (fun y => rfl) rfl rfl rfl (fun y hA L => st_want rfl (st_v (v_move rfl) ⟨rfl, rfl⟩)) (by intros; rfl) (by intro y y2 h; rfl) ?_
            refine net_pure (fun y => [(133, _), (5, _)]) (fun y => rfl) rfl rfl rfl (fun y hA L => st_want rfl (st_v (v_move rfl) ⟨rfl, rfl⟩)) (by intros; rfl) (by intro y y2 h; rfl) ?_
            refine net_pure (fun y => [(133, _), (12, _)]) (fun y => rfl) rfl rfl rfl (fun y hA L => st_want rfl (st_v (v_move rfl) ⟨rfl, rfl⟩)) (by intros; rfl) (by intro y y2 h; rfl) ?_
            refine net_read (fun y => [Row I3 (some ⟨bo, 0, none⟩) fr.length fr.length o]) (fun y => [(134, _), (135, _), (133, _)]) (fun y => rfl) rfl (fun y => rfl) rfl (fun y FF hA => st_want rfl (st_v (r_index (c := (I3)) V.sl22 rfl rfl (by first | exact own mm0 | exact own mm1 | exact own mm2 | exact own mm3 | exact own mm4 | exact own mm5 | exact own mm6 | exact own mm7 | exact own mm8 | exact own mm9 | exact own mm10 | exact own mm11 | exact rdH (fun _ _ h => h) mm0 | exact rdH (fun _ _ h => h) mm1 | exact rdH (fun _ _ h => h) mm2 | exact rdH (fun _ _ h => h) mm3 | exact rdH (fun _ _ h => h) mm4 | exact rdH (fun _ _ h => h) mm5 | exact rdH (fun _ _ h => h) mm6 | exact rdH (fun _ _ h => h) mm7 | exact rdH (fun _ _ h => h) mm8 | exact rdH (fun _ _ h => h) mm9 | exact rdH (fun _ _ h => h) mm10 | exact rdH (fun _ _ h => h) mm11) (by omega) (by omega)) ⟨rfl, rfl⟩)) (by intros; rfl) (by intro y y2 h; rfl) ?_
            refine net_read (fun y => [Row I3 (some ⟨bo, 0, none⟩) fr.length fr.length o]) (fun y => [(136, _), (133, _)]) (fun y => rfl) rfl (fun y => rfl) rfl (fun y FF hA => st_want rfl (st_v (r_load (c := (I3)) V.s3 rfl (by first | exact own mm0 | exact own mm1 | exact own mm2 | exact own mm3 | exact own mm4 | exact own mm5 | exact own mm6 | exact own mm7 | exact own mm8 | exact own mm9 | exact own mm10 | exact own mm11 | exact rdH (fun _ _ h => h) mm0 | exact rdH (fun _ _ h => h) mm1 | exact rdH (fun _ _ h => h) mm2 | exact rdH (fun _ _ h => h) mm3 | exact rdH (fun _ _ h => h) mm4 | exact rdH (fun _ _ h => h) mm5 | exact rdH (fun _ _ h => h) mm6 | exact rdH (fun _ _ h => h) mm7 | exact rdH (fun _ _ h => h) mm8 | exact rdH (fun _ _ h => h) mm9 | exact rdH (fun _ _ h => h) mm10 | exact rdH (fun _ _ h => h) mm11) (by omega) (by omega) rfl rfl) ⟨rfl, rfl⟩)) (by intros; rfl) (by intro y y2 h; rfl) ?_
            refine net_pure (fun y => [(137, _), (133, _)]) (fun y => rfl) rfl rfl rfl (fun y hA L => st_want rfl (st_v (v_F (v_gtr rfl rfl) (by have := hg.one (by omega) i; omega)) ⟨rfl, rfl⟩)) (by intros; rfl) (by intro y y2 h; rfl) ?_
            refine net_pure (fun y => [(133, _), (138, _), (130, _)]) (fun y => rfl) rfl rfl rfl (fun y hA L => st_want rfl (st_v (v_pickT rfl rfl) ⟨rfl, rfl⟩)) (by intros; rfl) (by intro y y2 h; rfl) ?_
            refine net_pure (fun y => [(130, _), (139, _)]) (fun y => rfl) rfl rfl rfl (fun y hA L => st_v (v_pickF rfl rfl) ⟨rfl, rfl⟩) (by intros; rfl) (by intro y y2 h; rfl) ?_
            refine net_nil ?_
            intro y hA
            clear hA
            refine thn_n ?_
            refine w_keep _ (.cons (d := 0) rfl (.cons (d := 1) rfl (.cons (d := 5) rfl (.cons (d := 7) rfl (.cons (d := 12) rfl (.cons (d := 140) rfl (.nil _))))))) ?_
            refine w_sub (M := RC br o :: Row I3 (some ⟨bo, 0, none⟩) fr.length fr.length o :: RdR I3 p fr.length fr :: F) (fun _ _ h => h) ?_
            refine w_condF rfl ?_
            refine w_skip ?_
            refine j1 (()) ?_ (.cons rfl (.cons rfl (.cons rfl (.cons rfl (.cons rfl (.nil _)))))) (sub (.cons (by repeat first | exact .head | apply Rem.tail) (.cons (by repeat first | exact .head | apply Rem.tail) (.cons (by repeat first | exact .head | apply Rem.tail) .nil))) (by repeat first | exact .refl | apply Drop.skip))
            exact trivial
          ·
            refine w_net [⟨[], [], [5], 0, 0⟩, ⟨[], [], [12], 0, 0⟩, ⟨[0, 1], [0, 1], [], 0, 0⟩, ⟨[0, 1, 2], [2], [], 0, 0⟩, ⟨[0, 1, 2, 3], [3], [], 0, 0⟩, ⟨[], [], [0], 0, 0⟩, ⟨[], [], [12], 0, 0⟩, ⟨[5, 6], [5, 6], [], 0, 0⟩, ⟨[5, 6, 7], [7], [], 0, 0⟩, ⟨[5, 6, 7, 8], [8], [], 0, 0⟩, ⟨[0, 1, 2, 3, 4, 5, 6, 7, 8, 9], [4, 9], [], 0, 0⟩, ⟨[0, 1, 2, 3, 4, 5, 6, 7, 8, 9, 10], [10], [], 0, 0⟩, ⟨[0, 1, 2, 3, 4, 5, 6, 7, 8, 9, 10, 11], [11], [5], 0, 0⟩, ⟨[0, 1, 2, 3, 4, 5, 6, 7, 8, 9, 10, 11], [11], [12], 0, 0⟩, ⟨[0, 1, 2, 3, 4, 5, 6, 7, 8, 9, 10, 11, 12, 13], [12, 13, 11], [], 0, 0⟩, ⟨[0, 1, 2, 3, 4, 5, 6, 7, 8, 9, 10, 11, 12, 13, 14], [14, 11], [], 0, 0⟩, ⟨[0, 1, 2, 3, 4, 5, 6, 7, 8, 9, 10, 11], [11], [1], 0, 0⟩, ⟨[0, 1, 2, 3, 4, 5, 6, 7, 8, 9, 10, 11, 12, 13, 14, 15, 16], [15, 16, 11], [], 0, 0⟩, ⟨[0, 1, 2, 3, 4, 5, 6, 7, 8, 9, 10, 11, 12, 13, 14, 15, 16, 17], [11, 17], [], 0, 0⟩, ⟨[0, 1, 2, 3, 4, 5, 6, 7, 8, 9, 10, 11, 12, 13, 14, 15, 16, 17, 18], [18], [], 0, 0⟩, ⟨[0, 1, 2, 3, 4, 5, 6, 7, 8, 9, 10, 11, 12, 13, 14, 15, 16, 17, 18, 19], [19], [5], 0, 0⟩, ⟨[0, 1, 2, 3, 4, 5, 6, 7, 8, 9, 10, 11, 12, 13, 14, 15, 16, 17, 18, 19], [19], [12], 0, 0⟩, ⟨[0, 1, 2, 3, 4, 5, 6, 7, 8, 9, 10, 11, 12, 13, 14, 15, 16, 17, 18, 19, 20, 21], [20, 21, 19], [], 0, 0⟩, ⟨[0, 1, 2, 3, 4, 5, 6, 7, 8, 9, 10, 11, 12, 13, 14, 15, 16, 17, 18, 19, 20, 21, 22], [22, 19], [], 0, 0⟩, ⟨[0, 1, 2, 3, 4, 5, 6, 7, 8, 9, 10, 11, 12, 13, 14, 15, 16, 17, 18, 19, 20, 21, 22, 23], [23, 19], [], 0, 0⟩, ⟨[0, 1, 2, 3, 4, 5, 6, 7, 8, 9, 10, 11, 12, 13, 14, 15, 16, 17, 18, 19, 20, 21, 22, 23, 24], [19, 24], [], 0, 0⟩, ⟨[0, 1, 2, 3, 4, 5, 6, 7, 8, 9, 10, 11, 12, 13, 14, 15, 16, 17, 18, 19, 20, 21, 22, 23, 24, 25], [25], [], 0, 0⟩, ⟨[0, 1, 2, 3, 4, 5, 6, 7, 8, 9, 10, 11, 12, 13, 14, 15, 16, 17, 18, 19, 20, 21, 22, 23, 24, 25, 26], [26], [7], 0, 0⟩, ⟨[0, 1, 2, 3, 4, 5, 6, 7, 8, 9, 10, 11, 12, 13, 14, 15, 16, 17, 18, 19, 20, 21, 22, 23, 24, 25, 26, 27], [27, 26], [], 0, 0⟩, ⟨[0, 1, 2, 3, 4, 5, 6, 7, 8, 9, 10, 11, 12, 13, 14, 15, 16, 17, 18, 19, 20, 21, 22, 23, 24, 25, 26, 27, 28], [28, 26], [], 0, 0⟩, ⟨[0, 1, 2, 3, 4, 5, 6, 7, 8, 9, 10, 11, 12, 13, 14, 15, 16, 17, 18, 19, 20, 21, 22, 23, 24, 25, 26, 27, 28, 29], [29], [5], 0, 0⟩, ⟨[0, 1, 2, 3, 4, 5, 6, 7, 8, 9, 10, 11, 12, 13, 14, 15, 16, 17, 18, 19, 20, 21, 22, 23, 24, 25, 26, 27, 28, 29], [29], [12], 0, 0⟩, ⟨[0, 1, 2, 3, 4, 5, 6, 7, 8, 9, 10, 11, 12, 13, 14, 15, 16, 17, 18, 19, 20, 21, 22, 23, 24, 25, 26, 27, 28, 29, 30, 31], [30, 31, 29], [], 0, 0⟩, ⟨[0, 1, 2, 3, 4, 5, 6, 7, 8, 9, 10, 11, 12, 13, 14, 15, 16, 17, 18, 19, 20, 21, 22, 23, 24, 25, 26, 27, 28, 29, 30, 31, 32], [32, 29], [], 0, 0⟩, ⟨[0, 1, 2, 3, 4, 5, 6, 7, 8, 9, 10, 11, 12, 13, 14, 15, 16, 17, 18, 19, 20, 21, 22, 23, 24, 25, 26, 27, 28, 29, 30, 31, 32, 33], [33, 29], [], 0, 0⟩, ⟨[0, 1, 2, 3, 4, 5, 6, 7, 8, 9, 10, 11, 12, 13, 14, 15, 16, 17, 18, 19, 20, 21, 22, 23, 24, 25, 26, 27, 28, 29, 30, 31, 32, 33, 34], [29, 34, 26], [], 0, 0⟩, ⟨[0, 1, 2, 3, 4, 5, 6, 7, 8, 9, 10, 11, 12, 13, 14, 15, 16, 17, 18, 19, 20, 21, 22, 23, 24, 25, 26, 27, 28, 29, 30, 31, 32, 33, 34, 35], [26, 35], [], 0, 0⟩] [⟨fun y => RC br o, none, none, []⟩, ⟨fun y => Row I3 (some ⟨bo, 0, none⟩) fr.length fr.length o, none, none, [2, 3, 14, 15, 22, 23]⟩, ⟨fun y => RdR I3 p fr.length fr, none, none, [7, 8]⟩] F V.mixed (by kernel_rfl) rfl (fun _ => .refl _) (locT_0 _ (locT_0 _ (locT_0 _ locT_nil))) ?_
            refine net_pure (fun y => [(5, _)]) (fun y => rfl) rfl rfl rfl (fun y hA L => st_v (v_move rfl) ⟨rfl, rfl⟩) (by intros; rfl) (by intro y y2 h; rfl) ?_
            refine net_pure (fun y => [(12, _)]) (fun y => rfl) rfl rfl rfl (fun y hA L => st_v (v_move rfl) ⟨rfl, rfl⟩) (by intros; rfl) (by intro y y2 h; rfl) ?_
            refine net_read (fun y => [Row I3 (some ⟨bo, 0, none⟩) fr.length fr.length o]) (fun y => [(104, _), (105, _)]) (fun y => rfl) rfl (fun y => rfl) rfl (fun y FF hA => st_v (r_index (c := (I3)) V.sl22 rfl rfl (by first | exact own mm0 | exact own mm1 | exact own mm2 | exact own mm3 | exact own mm4 | exact own mm5 | exact own mm6 | exact own mm7 | exact own mm8 | exact own mm9 | exact own mm10 | exact own mm11 | exact rdH (fun _ _ h => h) mm0 | exact rdH (fun _ _ h => h) mm1 | exact rdH (fun _ _ h => h) mm2 | exact rdH (fun _ _ h => h) mm3 | exact rdH (fun _ _ h => h) mm4 | exact rdH (fun _ _ h => h) mm5 | exact rdH (fun _ _ h => h) mm6 | exact rdH (fun _ _ h => h) mm7 | exact rdH (fun _ _ h => h) mm8 | exact rdH (fun _ _ h => h) mm9 | exact rdH (fun _ _ h => h) mm10 | exact rdH (fun _ _ h => h) mm11) (by omega) (by omega)) ⟨rfl, rfl⟩) (by intros; rfl) (by intro y y2 h; rfl) ?_
            refine net_read (fun y => [Row I3 (some ⟨bo, 0, none⟩) fr.length fr.length o]) (fun y => [(106, _)]) (fun y => rfl) rfl (fun y => rfl) rfl (fun y FF hA => st_v (r_load (c := (I3)) V.s3 rfl (by first | exact own mm0 | exact own mm1 | exact own mm2 | exact own mm3 | exact own mm4 | exact own mm5 | exact own mm6 | exact own mm7 | exact own mm8 | exact own mm9 | exact own mm10 | exact own mm11 | exact rdH (fun _ _ h => h) mm0 | exact rdH (fun _ _ h => h) mm1 | exact rdH (fun _ _ h => h) mm2 | exact rdH (fun _ _ h => h) mm3 | exact rdH (fun _ _ h => h) mm4 | exact rdH (fun _ _ h => h) mm5 | exact rdH (fun _ _ h => h) mm6 | exact rdH (fun _ _ h => h) mm7 | exact rdH (fun _ _ h => h) mm8 | exact rdH (fun _ _ h => h) mm9 | exact rdH (fun _ _ h => h) mm10 | exact rdH (fun _ _ h => h) mm11) (by omega) (by omega) rfl rfl) ⟨rfl, rfl⟩) (by intros; rfl) (by intro y y2 h; rfl) ?_
            refine net_pure (fun y => [(107, _)]) (fun y => rfl) rfl rfl rfl (fun y hA L => st_v (v_gtr rfl rfl) ⟨rfl, rfl⟩) (by intros; rfl) (by intro y y2 h; rfl) ?_
            refine net_pure (fun y => [(0, _)]) (fun y => rfl) rfl rfl rfl (fun y hA L => st_v (v_move rfl) ⟨rfl, rfl⟩) (by intros; rfl) (by intro y y2 h; rfl) ?_
            refine net_pure (fun y => [(12, _)]) (fun y => rfl) rfl rfl rfl (fun y hA L => st_v (v_move rfl) ⟨rfl, rfl⟩) (by intros; rfl) (by intro y y2 h; rfl) ?_
            refine net_read (fun y => [RdR I3 p fr.length fr]) (fun y => [(109, _), (110, _)]) (fun y => rfl) rfl (fun y => rfl) rfl (fun y FF hA => st_v (r_index (c := (I3)) V.sl22 rfl rfl (by first | exact own mm0 | exact own mm1 | exact own mm2 | exact own mm3 | exact own mm4 | exact own mm5 | exact own mm6 | exact own mm7 | exact own mm8 | exact own mm9 | exact own mm10 | exact own mm11 | exact rdH (fun _ _ h => h) mm0 | exact rdH (fun _ _ h => h) mm1 | exact rdH (fun _ _ h => h) mm2 | exact rdH (fun _ _ h => h) mm3 | exact rdH (fun _ _ h => h) mm4 | exact rdH (fun _ _ h => h) mm5 | exact rdH (fun _ _ h => h) mm6 | exact rdH (fun _ _ h => h) mm7 | exact rdH (fun _ _ h => h) mm8 | exact rdH (fun _ _ h => h) mm9 | exact rdH (fun _ _ h => h) mm10 | exact rdH (fun _ _ h => h) mm11) (by omega) (by omega)) ⟨rfl, rfl⟩) (by intros; rfl) (by intro y y2 h; rfl) ?_
            refine net_read (fun y => [RdR I3 p fr.length fr]) (fun y => [(111, _)]) (fun y => rfl) rfl (fun y => rfl) rfl (fun y FF hA => st_v (r_load (c := (I3)) V.s3 rfl (by first | exact own mm0 | exact own mm1 | exact own mm2 | exact own mm3 | exact own mm4 | exact own mm5 | exact own mm6 | exact own mm7 | exact own mm8 | exact own mm9 | exact own mm10 | exact own mm11 | exact rdH (fun _ _ h => h) mm0 | exact rdH (fun _ _ h => h) mm1 | exact rdH (fun _ _ h => h) mm2 | exact rdH (fun _ _ h => h) mm3 | exact rdH (fun _ _ h => h) mm4 | exact rdH (fun _ _ h => h) mm5 | exact rdH (fun _ _ h => h) mm6 | exact rdH (fun _ _ h => h) mm7 | exact rdH (fun _ _ h => h) mm8 | exact rdH (fun _ _ h => h) mm9 | exact rdH (fun _ _ h => h) mm10 | exact rdH (fun _ _ h => h) mm11) (by omega) (by omega) rfl rfl) ⟨rfl, rfl⟩) (by intros; rfl) (by intro y y2 h; rfl) ?_
            refine net_pure (fun y => [(112, _)]) (fun y => rfl) rfl rfl rfl (fun y hA L => st_v (v_gtr rfl rfl) ⟨rfl, rfl⟩) (by intros; rfl) (by intro y y2 h; rfl) ?_
            refine net_pure (fun y => [(108, _), (113, _)]) (fun y => rfl) rfl rfl rfl (fun y hA L => st_v (v_to (v := .bool false) (v_neb Try.underlying4 rfl rfl) (neb_iff (by omega))) ⟨rfl, rfl⟩) (by intros; rfl) (by intro y y2 h; rfl) ?_
            refine net_pure (fun y => [(114, _)]) (fun y => rfl) rfl rfl rfl (fun y hA L => st_v (v_move rfl) ⟨rfl, rfl⟩) (by intros; rfl) (by intro y y2 h; rfl) ?_
            refine net_pure (fun y => [(115, _), (5, _)]) (fun y => rfl) rfl rfl rfl (fun y hA L => st_want rfl (st_v (v_move rfl) ⟨rfl, rfl⟩)) (by intros; rfl) (by intro y y2 h; rfl) ?_
            refine net_pure (fun y => [(115, _), (12, _)]) (fun y => rfl) rfl rfl rfl (fun y hA L => st_want rfl (st_v (v_move rfl) ⟨rfl, rfl⟩)) (by intros; rfl) (by intro y y2 h; rfl) ?_
            refine net_read (fun y => [Row I3 (some ⟨bo, 0, none⟩) fr.length fr.length o]) (fun y => [(116, _), (117, _), (115, _)]) (fun y => rfl) rfl (fun y => rfl) rfl (fun y FF hA => st_want rfl (st_v (r_index (c := (I3)) V.sl22 rfl rfl (by first | exact own mm0 | exact own mm1 | exact own mm2 | exact own mm3 | exact own mm4 | exact own mm5 | exact own mm6 | exact own mm7 | exact own mm8 | exact own mm9 | exact own mm10 | exact own mm11 | exact rdH (fun _ _ h => h) mm0 | exact rdH (fun _ _ h => h) mm1 | exact rdH (fun _ _ h => h) mm2 | exact rdH (fun _ _ h => h) mm3 | exact rdH (fun _ _ h => h) mm4 | exact rdH (fun _ _ h => h) mm5 | exact rdH (fun _ _ h => h) mm6 | exact rdH (fun _ _ h => h) mm7 | exact rdH (fun _ _ h => h) mm8 | exact rdH (fun _ _ h => h) mm9 | exact rdH (fun _ _ h => h) mm10 | exact rdH (fun _ _ h => h) mm11) (by omega) (by omega)) ⟨rfl, rfl⟩)) (by intros; rfl) (by intro y y2 h; rfl) ?_
            refine net_read (fun y => [Row I3 (some ⟨bo, 0, none⟩) fr.length fr.length o]) (fun y => [(118, _), (115, _)]) (fun y => rfl) rfl (fun y => rfl) rfl (fun y FF hA => st_want rfl (st_v (r_load (c := (I3)) V.s3 rfl (by first | exact own mm0 | exact own mm1 | exact own mm2 | exact own mm3 | exact own mm4 | exact own mm5 | exact own mm6 | exact own mm7 | exact own mm8 | exact own mm9 | exact own mm10 | exact own mm11 | exact rdH (fun _ _ h => h) mm0 | exact rdH (fun _ _ h => h) mm1 | exact rdH (fun _ _ h => h) mm2 | exact rdH (fun _ _ h => h) mm3 | exact rdH (fun _ _ h => h) mm4 | exact rdH (fun _ _ h => h) mm5 | exact rdH (fun _ _ h => h) mm6 | exact rdH (fun _ _ h => h) mm7 | exact rdH (fun _ _ h => h) mm8 | exact rdH (fun _ _ h => h) mm9 | exact rdH (fun _ _ h => h) mm10 | exact rdH (fun _ _ h => h) mm11) (by omega) (by omega) rfl rfl) ⟨rfl, rfl⟩)) (by intros; rfl) (by intro y y2 h; rfl) ?_
            refine net_pure (fun y => [(115, _), (1, _)]) (fun y => rfl) rfl rfl rfl (fun y hA L => st_want rfl (st_v (v_move rfl) ⟨rfl, rfl⟩)) (by intros; rfl) (by intro y y2 h; rfl) ?_
            refine net_pure (fun y => [(119, _), (120, _), (115, _)]) (fun y => rfl) rfl rfl rfl (fun y hA L => st_want rfl (st_v (v_F (v_gtr rfl rfl) (by omega)) ⟨rfl, rfl⟩)) (by intros; rfl) (by intro y y2 h; rfl) ?_
            refine net_pure (fun y => [(115, _), (121, _)]) (fun y => rfl) rfl rfl rfl (fun y hA L => st_v (v_pickF rfl rfl) ⟨rfl, rfl⟩) (by intros; rfl) (by intro y y2 h; rfl) ?_
            refine net_pure (fun y => [(122, _)]) (fun y => rfl) rfl rfl rfl (fun y hA L => st_v (v_move rfl) ⟨rfl, rfl⟩) (by intros; rfl) (by intro y y2 h; rfl) ?_
            refine net_pure (fun y => [(123, _), (5, _)]) (fun y => rfl) rfl rfl rfl (fun y hA L => st_want rfl (st_v (v_move rfl) ⟨rfl, rfl⟩)) (by intros; rfl) (by intro y y2 h; rfl) ?_
            refine net_pure (fun y => [(123, _), (12, _)]) (fun y => rfl) rfl rfl rfl (fun y hA L => st_want rfl (st_v (v_move rfl) ⟨rfl, rfl⟩)) (by intros; rfl) (by intro y y2 h; rfl) ?_
            refine net_read (fun y => [Row I3 (some ⟨bo, 0, none⟩) fr.length fr.length o]) (fun y => [(124, _), (125, _), (123, _)]) (fun y => rfl) rfl (fun y => rfl) rfl (fun y FF hA => st_want rfl (st_v (r_index (c := (I3)) V.sl22 rfl rfl (by first | exact own mm0 | exact own mm1 | exact own mm2 | exact own mm3 | exact own mm4 | exact own mm5 | exact own mm6 | exact own mm7 | exact own mm8 | exact own mm9 | exact own mm10 | exact own mm11 | exact rdH (fun _ _ h => h) mm0 | exact rdH (fun _ _ h => h) mm1 | exact rdH (fun _ _ h => h) mm2 | exact rdH (fun _ _ h => h) mm3 | exact rdH (fun _ _ h => h) mm4 | exact rdH (fun _ _ h => h) mm5 | exact rdH (fun _ _ h => h) mm6 | exact rdH (fun _ _ h => h) mm7 | exact rdH (fun _ _ h => h) mm8 | exact rdH (fun _ _ h => h) mm9 | exact rdH (fun _ _ h => h) mm10 | exact rdH (fun _ _ h => h) mm11) (by omega) (by omega)) ⟨rfl, rfl⟩)) (by intros; rfl) (by intro y y2 h; rfl) ?_
            refine net_read (fun y => [Row I3 (some ⟨bo, 0, none⟩) fr.length fr.length o]) (fun y => [(126, _), (123, _)]) (fun y => rfl) rfl (fun y => rfl) rfl (fun y FF hA => st_want rfl (st_v (r_load (c := (I3)) V.s3 rfl (by first | exact own mm0 | exact own mm1 | exact own mm2 | exact own mm3 | exact own mm4 | exact own mm5 | exact own mm6 | exact own mm7 | exact own mm8 | exact own mm9 | exact own mm10 | exact own mm11 | exact rdH (fun _ _ h => h) mm0 | exact rdH (fun _ _ h => h) mm1 | exact rdH (fun _ _ h => h) mm2 | exact rdH (fun _ _ h => h) mm3 | exact rdH (fun _ _ h => h) mm4 | exact rdH (fun _ _ h => h) mm5 | exact rdH (fun _ _ h => h) mm6 | exact rdH (fun _ _ h => h) mm7 | exact rdH (fun _ _ h => h) mm8 | exact rdH (fun _ _ h => h) mm9 | exact rdH (fun _ _ h => h) mm10 | exact rdH (fun _ _ h => h) mm11) (by omega) (by omega) rfl rfl) ⟨rfl, rfl⟩)) (by intros; rfl) (by intro y y2 h; rfl) ?_
            refine net_pure (fun y => [(127, _), (123, _)]) (fun y => rfl) rfl rfl rfl (fun y hA L => st_want rfl (st_v (v_F (v_lss rfl rfl) (by omega)) ⟨rfl, rfl⟩)) (by intros; rfl) (by intro y y2 h; rfl) ?_
            refine net_pure (fun y => [(123, _), (128, _)]) (fun y => rfl) rfl rfl rfl (fun y hA L => st_v (v_pickF rfl rfl) ⟨rfl, rfl⟩) (by intros; rfl) (by intro y y2 h; rfl) ?_
            refine net_pure (fun y => [(129, _)]) (fun y => rfl) rfl rfl rfl (fun y hA L => st_v (v_move rfl) ⟨rfl, rfl⟩) (by intros; rfl) (by intro y y2 h; rfl) ?_
            refine net_pure (fun y => [(130, _), (7, _)]) (fun y => rfl) rfl rfl rfl (fun y hA L => st_want rfl (st_v (v_move rfl) ⟨rfl, rfl⟩)) (by intros; rfl) (by intro y y2 h; rfl) ?_
            refine net_pure (fun y => [(131, _), (130, _)]) (fun y => rfl) rfl rfl rfl (fun y hA L => st_want rfl (st_v (v_F (v_eql rfl rfl) h132) ⟨rfl, rfl⟩)) (by intros; rfl) (by intro y y2 h; rfl) ?_
            refine net_pure (fun y => [(132, _), (130, _)]) (fun y => rfl) rfl rfl rfl (fun y hA L => st_want rfl (st_v (v_move rfl) ⟨rfl, rfl⟩)) (by intros; rfl) (by intro y y2 h; rfl) ?_
            refine net_pure (fun y => [(133, _), (5, _)]) (fun y => rfl) rfl rfl rfl (fun y hA L => st_pass rfl rfl ⟨rfl, rfl⟩) (by intros; rfl) (by intro y y2 h; rfl) ?_
            refine net_pure (fun y => [(133, _), (12, _)]) (fun y => rfl) rfl rfl rfl (fun y hA L => st_pass rfl rfl ⟨rfl, rfl⟩) (by intros; rfl) (by intro y y2 h; rfl) ?_
            refine net_pure (fun y => [(134, _), (135, _), (133, _)]) (fun y => rfl) rfl rfl rfl (fun y hA L => st_pass rfl rfl ⟨rfl, rfl⟩) (by intros; rfl) (by intro y y2 h; rfl) ?_
            refine net_pure (fun y => [(136, _), (133, _)]) (fun y => rfl) rfl rfl rfl (fun y hA L => st_pass rfl rfl ⟨rfl, rfl⟩) (by intros; rfl) (by intro y y2 h; rfl) ?_
            refine net_pure (fun y => [(137, _), (133, _)]) (fun y => rfl) rfl rfl rfl (fun y hA L => st_pass rfl rfl ⟨rfl, rfl⟩) (by intros; rfl) (by intro y y2 h; rfl) ?_
            refine net_pure (fun y => [(133, _), (138, _), (130, _)]) (fun y => rfl) rfl rfl rfl (fun y hA L => st_want rfl (st_v (v_pickF rfl rfl) ⟨rfl, rfl⟩)) (by intros; rfl) (by intro y y2 h; rfl) ?_
            refine net_pure (fun y => [(130, _), (139, _)]) (fun y => rfl) rfl rfl rfl (fun y hA L => st_v (v_pickF rfl rfl) ⟨rfl, rfl⟩) (by intros; rfl) (by intro y y2 h; rfl) ?_
            refine net_nil ?_
            intro y hA
            clear hA
            refine thn_n ?_
            refine w_keep _ (.cons (d := 0) rfl (.cons (d := 1) rfl (.cons (d := 5) rfl (.cons (d := 7) rfl (.cons (d := 12) rfl (.cons (d := 140) rfl (.nil _))))))) ?_
            refine w_sub (M := RC br o :: Row I3 (some ⟨bo, 0, none⟩) fr.length fr.length o :: RdR I3 p fr.length fr :: F) (fun _ _ h => h) ?_
            refine w_condF rfl ?_
            refine w_skip ?_
            refine j1 (()) ?_ (.cons rfl (.cons rfl (.cons rfl (.cons rfl (.cons rfl (.nil _)))))) (sub (.cons (by repeat first | exact .head | apply Rem.tail) (.cons (by repeat first | exact .head | apply Rem.tail) (.cons (by repeat first | exact .head | apply Rem.tail) .nil))) (by repeat first | exact .refl | apply Drop.skip))
            exact trivial
        ·
          intro u
          rintro -
          refine w_seq ?_
          refine w_region ?_
          refine o_val (v_assign rfl) rfl ?_
          refine o_nil ?_
          refine thn_n ?_
          refine w_block ?_
          refine w_loop1 (fun (j : Nat) => [(0, .slice p fr.length c), (1, .int .i64 most), (5, .slice (some ⟨bo, 0, none⟩) fr.length fr.length), (7, .int .i64 ((PkM.lvs fr fr.length).length : Int)), (12, .int .i64 (i : Int)), (13, .int .i64 (j : Int))]) (fun (j : Nat) => RC br o :: Row I3 (some ⟨bo, 0, none⟩) fr.length fr.length o :: RdR I3 p fr.length fr :: F) (fun (j : Nat) => j ≤ i) (fun (j : Nat) => i - j) (i1 (0) ?_ (.cons rfl (.cons rfl (.cons rfl (.cons rfl (.cons rfl (.cons rfl (.nil _))))))) (sub (.cons (by repeat first | exact .head | apply Rem.tail) (.cons (by repeat first | exact .head | apply Rem.tail) (.cons (by repeat first | exact .head | apply Rem.tail) .nil))) (by repeat first | exact .refl | apply Drop.skip))) ?_
          ·
            exact Nat.zero_le _
          intro j
          rintro hj
          refine w_seq ?_
          refine w_seq ?_
          refine w_region ?_
          refine o_val (v_move rfl) rfl ?_
          refine o_val (v_move rfl) rfl ?_
          refine o_val (v_lss rfl rfl) rfl ?_
          refine o_nil ?_
          refine thn_n ?_
          first | refine w_condD rfl (fun h143 => ?_) (fun h143 => ?_) | refine w_cond rfl (fun h143 => ?_) (fun h143 => ?_)
          ·
            refine w_skip ?_
            refine thn_n ?_
            refine w_seq ?_
            refine w_block ?_
            rcases (five (fr.getD i 0) (fr.getD j 0)) with ⟨hc, hd⟩ | ⟨hc, hd⟩ | ⟨hc, hd⟩ | ⟨hc, hd⟩ | hc
            ·
              refine w_seq ?_
              have hj2 : j < i := by omega
              have hi2 : i < fr.length := by omega
              have eo : I3.g o (i : Int) = o.getD i 0 := by simp [Ec.g]
              have ef : I3.g fr (i : Int) = fr.getD i 0 := by simp [Ec.g]
              have eo2 : I3.g o (j : Int) = o.getD j 0 := by simp [Ec.g]
              have ef2 : I3.g fr (j : Int) = fr.getD j 0 := by simp [Ec.g]
              refine w_net [⟨[], [], [0], 0, 0⟩, ⟨[], [], [12], 0, 0⟩, ⟨[0, 1], [0, 1], [], 0, 0⟩, ⟨[0, 1, 2], [2], [], 0, 0⟩, ⟨[], [], [0], 0, 0⟩, ⟨[], [], [13], 0, 0⟩, ⟨[4, 5], [4, 5], [], 0, 0⟩, ⟨[4, 5, 6], [6], [], 0, 0⟩, ⟨[0, 1, 2, 3, 4, 5, 6, 7], [3, 7], [], 0, 0⟩, ⟨[0, 1, 2, 3, 4, 5, 6, 7, 8], [8], [], 0, 0⟩, ⟨[0, 1, 2, 3, 4, 5, 6, 7, 8, 9], [9], [0], 0, 0⟩, ⟨[0, 1, 2, 3, 4, 5, 6, 7, 8, 9], [9], [13], 0, 0⟩, ⟨[0, 1, 2, 3, 4, 5, 6, 7, 8, 9, 10, 11], [10, 11, 9], [], 0, 0⟩, ⟨[0, 1, 2, 3, 4, 5, 6, 7, 8, 9, 10, 11, 12], [12, 9], [], 0, 0⟩, ⟨[0, 1, 2, 3, 4, 5, 6, 7, 8, 9, 10, 11, 12, 13], [13, 9], [], 0, 0⟩, ⟨[0, 1, 2, 3, 4, 5, 6, 7, 8, 9, 10, 11, 12, 13, 14], [9, 14], [], 0, 0⟩, ⟨[0, 1, 2, 3, 4, 5, 6, 7, 8, 9, 10, 11, 12, 13, 14, 15], [15], [], 0, 0⟩, ⟨[0, 1, 2, 3, 4, 5, 6, 7, 8, 9, 10, 11, 12, 13, 14, 15, 16], [16], [5], 0, 0⟩, ⟨[0, 1, 2, 3, 4, 5, 6, 7, 8, 9, 10, 11, 12, 13, 14, 15, 16], [16], [12], 0, 0⟩, ⟨[0, 1, 2, 3, 4, 5, 6, 7, 8, 9, 10, 11, 12, 13, 14, 15, 16, 17, 18], [17, 18, 16], [], 0, 0⟩, ⟨[0, 1, 2, 3, 4, 5, 6, 7, 8, 9, 10, 11, 12, 13, 14, 15, 16, 17, 18, 19], [19, 16], [], 0, 0⟩, ⟨[0, 1, 2, 3, 4, 5, 6, 7, 8, 9, 10, 11, 12, 13, 14, 15, 16], [16], [5], 0, 0⟩, ⟨[0, 1, 2, 3, 4, 5, 6, 7, 8, 9, 10, 11, 12, 13, 14, 15, 16], [16], [13], 0, 0⟩, ⟨[0, 1, 2, 3, 4, 5, 6, 7, 8, 9, 10, 11, 12, 13, 14, 15, 16, 21, 22], [21, 22, 16], [], 0, 0⟩, ⟨[0, 1, 2, 3, 4, 5, 6, 7, 8, 9, 10, 11, 12, 13, 14, 15, 16, 21, 22, 23], [23, 16], [], 0, 0⟩, ⟨[0, 1, 2, 3, 4, 5, 6, 7, 8, 9, 10, 11, 12, 13, 14, 15, 16, 17, 18, 19, 20, 21, 22, 23, 24], [20, 24, 16], [], 0, 0⟩, ⟨[0, 1, 2, 3, 4, 5, 6, 7, 8, 9, 10, 11, 12, 13, 14, 15, 16, 17, 18, 19, 20, 21, 22, 23, 24, 25], [16, 25], [], 0, 0⟩, ⟨[0, 1, 2, 3, 4, 5, 6, 7, 8, 9, 10, 11, 12, 13, 14, 15, 16, 17, 18, 19, 20, 21, 22, 23, 24, 25, 26], [26], [], 0, 0⟩, ⟨[0, 1, 2, 3, 4, 5, 6, 7, 8, 9, 10, 11, 12, 13, 14, 15, 16, 17, 18, 19, 20, 21, 22, 23, 24, 25, 26, 27], [27], [0], 0, 0⟩, ⟨[0, 1, 2, 3, 4, 5, 6, 7, 8, 9, 10, 11, 12, 13, 14, 15, 16, 17, 18, 19, 20, 21, 22, 23, 24, 25, 26, 27], [27], [13], 0, 0⟩, ⟨[0, 1, 2, 3, 4, 5, 6, 7, 8, 9, 10, 11, 12, 13, 14, 15, 16, 17, 18, 19, 20, 21, 22, 23, 24, 25, 26, 27, 28, 29], [28, 29, 27], [], 0, 0⟩, ⟨[0, 1, 2, 3, 4, 5, 6, 7, 8, 9, 10, 11, 12, 13, 14, 15, 16, 17, 18, 19, 20, 21, 22, 23, 24, 25, 26, 27, 28, 29, 30], [30, 27], [], 0, 0⟩, ⟨[0, 1, 2, 3, 4, 5, 6, 7, 8, 9, 10, 11, 12, 13, 14, 15, 16, 17, 18, 19, 20, 21, 22, 23, 24, 25, 26, 27], [27], [0], 0, 0⟩, ⟨[0, 1, 2, 3, 4, 5, 6, 7, 8, 9, 10, 11, 12, 13, 14, 15, 16, 17, 18, 19, 20, 21, 22, 23, 24, 25, 26, 27], [27], [12], 0, 0⟩, ⟨[0, 1, 2, 3, 4, 5, 6, 7, 8, 9, 10, 11, 12, 13, 14, 15, 16, 17, 18, 19, 20, 21, 22, 23, 24, 25, 26, 27, 32, 33], [32, 33, 27], [], 0, 0⟩, ⟨[0, 1, 2, 3, 4, 5, 6, 7, 8, 9, 10, 11, 12, 13, 14, 15, 16, 17, 18, 19, 20, 21, 22, 23, 24, 25, 26, 27, 32, 33, 34], [34, 27], [], 0, 0⟩, ⟨[0, 1, 2, 3, 4, 5, 6, 7, 8, 9, 10, 11, 12, 13, 14, 15, 16, 17, 18, 19, 20, 21, 22, 23, 24, 25, 26, 27, 28, 29, 30, 31, 32, 33, 34, 35], [31, 35, 27], [], 0, 0⟩, ⟨[0, 1, 2, 3, 4, 5, 6, 7, 8, 9, 10, 11, 12, 13, 14, 15, 16, 17, 18, 19, 20, 21, 22, 23, 24, 25, 26, 27, 28, 29, 30, 31, 32, 33, 34, 35, 36], [36, 27], [], 0, 0⟩, ⟨[0, 1, 2, 3, 4, 5, 6, 7, 8, 9, 10, 11, 12, 13, 14, 15, 16, 17, 18, 19, 20, 21, 22, 23, 24, 25, 26, 27, 28, 29, 30, 31, 32, 33, 34, 35, 36, 37], [37], [0], 0, 0⟩, ⟨[0, 1, 2, 3, 4, 5, 6, 7, 8, 9, 10, 11, 12, 13, 14, 15, 16, 17, 18, 19, 20, 21, 22, 23, 24, 25, 26, 27, 28, 29, 30, 31, 32, 33, 34, 35, 36, 37], [37], [12], 0, 0⟩, ⟨[0, 1, 2, 3, 4, 5, 6, 7, 8, 9, 10, 11, 12, 13, 14, 15, 16, 17, 18, 19, 20, 21, 22, 23, 24, 25, 26, 27, 28, 29, 30, 31, 32, 33, 34, 35, 36, 37, 38, 39], [38, 39, 37], [], 0, 0⟩, ⟨[0, 1, 2, 3, 4, 5, 6, 7, 8, 9, 10, 11, 12, 13, 14, 15, 16, 17, 18, 19, 20, 21, 22, 23, 24, 25, 26, 27, 28, 29, 30, 31, 32, 33, 34, 35, 36, 37, 38, 39, 40], [40, 37], [], 0, 0⟩, ⟨[0, 1, 2, 3, 4, 5, 6, 7, 8, 9, 10, 11, 12, 13, 14, 15, 16, 17, 18, 19, 20, 21, 22, 23, 24, 25, 26, 27, 28, 29, 30, 31, 32, 33, 34, 35, 36, 37, 38, 39, 40, 41], [41, 37], [], 0, 0⟩, ⟨[0, 1, 2, 3, 4, 5, 6, 7, 8, 9, 10, 11, 12, 13, 14, 15, 16, 17, 18, 19, 20, 21, 22, 23, 24, 25, 26, 27, 28, 29, 30, 31, 32, 33, 34, 35, 36, 37, 38, 39, 40, 41, 42], [37, 42, 27], [], 0, 0⟩, ⟨[0, 1, 2, 3, 4, 5, 6, 7, 8, 9, 10, 11, 12, 13, 14, 15, 16, 17, 18, 19, 20, 21, 22, 23, 24, 25, 26, 27, 28, 29, 30, 31, 32, 33, 34, 35, 36, 37, 38, 39, 40, 41, 42, 43], [43, 27], [], 0, 0⟩, ⟨[0, 1, 2, 3, 4, 5, 6, 7, 8, 9, 10, 11, 12, 13, 14, 15, 16, 17, 18, 19, 20, 21, 22, 23, 24, 25, 26, 27, 28, 29, 30, 31, 32, 33, 34, 35, 36, 37, 38, 39, 40, 41, 42, 43, 44], [44], [5], 0, 0⟩, ⟨[0, 1, 2, 3, 4, 5, 6, 7, 8, 9, 10, 11, 12, 13, 14, 15, 16, 17, 18, 19, 20, 21, 22, 23, 24, 25, 26, 27, 28, 29, 30, 31, 32, 33, 34, 35, 36, 37, 38, 39, 40, 41, 42, 43, 44], [44], [13], 0, 0⟩, ⟨[0, 1, 2, 3, 4, 5, 6, 7, 8, 9, 10, 11, 12, 13, 14, 15, 16, 17, 18, 19, 20, 21, 22, 23, 24, 25, 26, 27, 28, 29, 30, 31, 32, 33, 34, 35, 36, 37, 38, 39, 40, 41, 42, 43, 44, 45, 46], [45, 46, 44], [], 0, 0⟩, ⟨[0, 1, 2, 3, 4, 5, 6, 7, 8, 9, 10, 11, 12, 13, 14, 15, 16, 17, 18, 19, 20, 21, 22, 23, 24, 25, 26, 27, 28, 29, 30, 31, 32, 33, 34, 35, 36, 37, 38, 39, 40, 41, 42, 43, 44, 45, 46, 47], [47, 44], [], 0, 0⟩, ⟨[0, 1, 2, 3, 4, 5, 6, 7, 8, 9, 10, 11, 12, 13, 14, 15, 16, 17, 18, 19, 20, 21, 22, 23, 24, 25, 26, 27, 28, 29, 30, 31, 32, 33, 34, 35, 36, 37, 38, 39, 40, 41, 42, 43, 44], [44], [5], 0, 0⟩, ⟨[0, 1, 2, 3, 4, 5, 6, 7, 8, 9, 10, 11, 12, 13, 14, 15, 16, 17, 18, 19, 20, 21, 22, 23, 24, 25, 26, 27, 28, 29, 30, 31, 32, 33, 34, 35, 36, 37, 38, 39, 40, 41, 42, 43, 44], [44], [12], 0, 0⟩, ⟨[0, 1, 2, 3, 4, 5, 6, 7, 8, 9, 10, 11, 12, 13, 14, 15, 16, 17, 18, 19, 20, 21, 22, 23, 24, 25, 26, 27, 28, 29, 30, 31, 32, 33, 34, 35, 36, 37, 38, 39, 40, 41, 42, 43, 44, 49, 50], [49, 50, 44], [], 0, 0⟩, ⟨[0, 1, 2, 3, 4, 5, 6, 7, 8, 9, 10, 11, 12, 13, 14, 15, 16, 17, 18, 19, 20, 21, 22, 23, 24, 25, 26, 27, 28, 29, 30, 31, 32, 33, 34, 35, 36, 37, 38, 39, 40, 41, 42, 43, 44, 49, 50, 51], [51, 44], [], 0, 0⟩, ⟨[0, 1, 2, 3, 4, 5, 6, 7, 8, 9, 10, 11, 12, 13, 14, 15, 16, 17, 18, 19, 20, 21, 22, 23, 24, 25, 26, 27, 28, 29, 30, 31, 32, 33, 34, 35, 36, 37, 38, 39, 40, 41, 42, 43, 44, 45, 46, 47, 48, 49, 50, 51, 52], [48, 52, 44], [], 0, 0⟩, ⟨[0, 1, 2, 3, 4, 5, 6, 7, 8, 9, 10, 11, 12, 13, 14, 15, 16, 17, 18, 19, 20, 21, 22, 23, 24, 25, 26, 27, 28, 29, 30, 31, 32, 33, 34, 35, 36, 37, 38, 39, 40, 41, 42, 43, 44, 45, 46, 47, 48, 49, 50, 51, 52, 53], [44, 53, 27], [], 0, 0⟩, ⟨[0, 1, 2, 3, 4, 5, 6, 7, 8, 9, 10, 11, 12, 13, 14, 15, 16, 17, 18, 19, 20, 21, 22, 23, 24, 25, 26, 27, 28, 29, 30, 31, 32, 33, 34, 35, 36, 37, 38, 39, 40, 41, 42, 43, 44, 45, 46, 47, 48, 49, 50, 51, 52, 53, 54], [27, 54], [], 0, 0⟩] [⟨fun y => RC br o, none, none, []⟩, ⟨fun y => Row I3 (some ⟨bo, 0, none⟩) fr.length fr.length o, none, none, [19, 20, 23, 24]⟩, ⟨fun y => RdR I3 p fr.length fr, none, none, [2, 3, 6, 7, 12, 13, 30, 31, 34, 35]⟩] F V.mixed (by kernel_rfl) rfl (fun _ => .refl _) (locT_0 _ (locT_0 _ (locT_0 _ locT_nil))) ?_
              refine net_pure (fun y => [(0, _)]) (fun y => rfl) rfl rfl rfl (fun y hA L => st_v (v_move rfl) ⟨rfl, rfl⟩) (by intros; rfl) (by intro y y2 h; rfl) ?_
              refine net_pure (fun y => [(12, _)]) (fun y => rfl) rfl rfl rfl (fun y hA L => st_v (v_move rfl) ⟨rfl, rfl⟩) (by intros; rfl) (by intro y y2 h; rfl) ?_
              refine net_read (fun y => [RdR I3 p fr.length fr]) (fun y => [(146, _), (147, _)]) (fun y => rfl) rfl (fun y => rfl) rfl (fun y FF hA => st_v (r_index (c := (I3)) V.sl22 rfl rfl (by first | exact own mm0 | exact own mm1 | exact own mm2 | exact own mm3 | exact own mm4 | exact own mm5 | exact own mm6 | exact own mm7 | exact own mm8 | exact own mm9 | exact own mm10 | exact own mm11 | exact rdH (fun _ _ h => h) mm0 | exact rdH (fun _ _ h => h) mm1 | exact rdH (fun _ _ h => h) mm2 | exact rdH (fun _ _ h => h) mm3 | exact rdH (fun _ _ h => h) mm4 | exact rdH (fun _ _ h => h) mm5 | exact rdH (fun _ _ h => h) mm6 | exact rdH (fun _ _ h => h) mm7 | exact rdH (fun _ _ h => h) mm8 | exact rdH (fun _ _ h => h) mm9 | exact rdH (fun _ _ h => h) mm10 | exact rdH (fun _ _ h => h) mm11) (by omega) (by omega)) ⟨rfl, rfl⟩) (by intros; rfl) (by intro y y2 h; rfl) ?_
              refine net_read (fun y => [RdR I3 p fr.length fr]) (fun y => [(148, _)]) (fun y => rfl) rfl (fun y => rfl) rfl (fun y FF hA => st_v (r_load (c := (I3)) V.s3 rfl (by first | exact own mm0 | exact own mm1 | exact own mm2 | exact own mm3 | exact own mm4 | exact own mm5 | exact own mm6 | exact own mm7 | exact own mm8 | exact own mm9 | exact own mm10 | exact own mm11 | exact rdH (fun _ _ h => h) mm0 | exact rdH (fun _ _ h => h) mm1 | exact rdH (fun _ _ h => h) mm2 | exact rdH (fun _ _ h => h) mm3 | exact rdH (fun _ _ h => h) mm4 | exact rdH (fun _ _ h => h) mm5 | exact rdH (fun _ _ h => h) mm6 | exact rdH (fun _ _ h => h) mm7 | exact rdH (fun _ _ h => h) mm8 | exact rdH (fun _ _ h => h) mm9 | exact rdH (fun _ _ h => h) mm10 | exact rdH (fun _ _ h => h) mm11) (by omega) (by omega) rfl rfl) ⟨rfl, rfl⟩) (by intros; rfl) (by intro y y2 h; rfl) ?_
              refine net_pure (fun y => [(0, _)]) (fun y => rfl) rfl rfl rfl (fun y hA L => st_v (v_move rfl) ⟨rfl, rfl⟩) (by intros; rfl) (by intro y y2 h; rfl) ?_
              refine net_pure (fun y => [(13, _)]) (fun y => rfl) rfl rfl rfl (fun y hA L => st_v (v_move rfl) ⟨rfl, rfl⟩) (by intros; rfl) (by intro y y2 h; rfl) ?_
              refine net_read (fun y => [RdR I3 p fr.length fr]) (fun y => [(150, _), (151, _)]) (fun y => rfl) rfl (fun y => rfl) rfl (fun y FF hA => st_v (r_index (c := (I3)) V.sl22 rfl rfl (by first | exact own mm0 | exact own mm1 | exact own mm2 | exact own mm3 | exact own mm4 | exact own mm5 | exact own mm6 | exact own mm7 | exact own mm8 | exact own mm9 | exact own mm10 | exact own mm11 | exact rdH (fun _ _ h => h) mm0 | exact rdH (fun _ _ h => h) mm1 | exact rdH (fun _ _ h => h) mm2 | exact rdH (fun _ _ h => h) mm3 | exact rdH (fun _ _ h => h) mm4 | exact rdH (fun _ _ h => h) mm5 | exact rdH (fun _ _ h => h) mm6 | exact rdH (fun _ _ h => h) mm7 | exact rdH (fun _ _ h => h) mm8 | exact rdH (fun _ _ h => h) mm9 | exact rdH (fun _ _ h => h) mm10 | exact rdH (fun _ _ h => h) mm11) (by omega) (by omega)) ⟨rfl, rfl⟩) (by intros; rfl) (by intro y y2 h; rfl) ?_
              refine net_read (fun y => [RdR I3 p fr.length fr]) (fun y => [(152, _)]) (fun y => rfl) rfl (fun y => rfl) rfl (fun y FF hA => st_v (r_load (c := (I3)) V.s3 rfl (by first | exact own mm0 | exact own mm1 | exact own mm2 | exact own mm3 | exact own mm4 | exact own mm5 | exact own mm6 | exact own mm7 | exact own mm8 | exact own mm9 | exact own mm10 | exact own mm11 | exact rdH (fun _ _ h => h) mm0 | exact rdH (fun _ _ h => h) mm1 | exact rdH (fun _ _ h => h) mm2 | exact rdH (fun _ _ h => h) mm3 | exact rdH (fun _ _ h => h) mm4 | exact rdH (fun _ _ h => h) mm5 | exact rdH (fun _ _ h => h) mm6 | exact rdH (fun _ _ h => h) mm7 | exact rdH (fun _ _ h => h) mm8 | exact rdH (fun _ _ h => h) mm9 | exact rdH (fun _ _ h => h) mm10 | exact rdH (fun _ _ h => h) mm11) (by omega) (by omega) rfl rfl) ⟨rfl, rfl⟩) (by intros; rfl) (by intro y y2 h; rfl) ?_
              refine net_pure (fun y => [(149, _), (153, _)]) (fun y => rfl) rfl rfl rfl (fun y hA L => st_v (v_T (v_gtr rfl rfl) (by omega)) ⟨rfl, rfl⟩) (by intros; rfl) (by intro y y2 h; rfl) ?_
              refine net_pure (fun y => [(154, _)]) (fun y => rfl) rfl rfl rfl (fun y hA L => st_v (v_move rfl) ⟨rfl, rfl⟩) (by intros; rfl) (by intro y y2 h; rfl) ?_
              refine net_pure (fun y => [(155, _), (0, _)]) (fun y => rfl) rfl rfl rfl (fun y hA L => st_want rfl (st_v (v_move rfl) ⟨rfl, rfl⟩)) (by intros; rfl) (by intro y y2 h; rfl) ?_
              refine net_pure (fun y => [(155, _), (13, _)]) (fun y => rfl) rfl rfl rfl (fun y hA L => st_want rfl (st_v (v_move rfl) ⟨rfl, rfl⟩)) (by intros; rfl) (by intro y y2 h; rfl) ?_
              refine net_read (fun y => [RdR I3 p fr.length fr]) (fun y => [(156, _), (157, _), (155, _)]) (fun y => rfl) rfl (fun y => rfl) rfl (fun y FF hA => st_want rfl (st_v (r_index (c := (I3)) V.sl22 rfl rfl (by first | exact own mm0 | exact own mm1 | exact own mm2 | exact own mm3 | exact own mm4 | exact own mm5 | exact own mm6 | exact own mm7 | exact own mm8 | exact own mm9 | exact own mm10 | exact own mm11 | exact rdH (fun _ _ h => h) mm0 | exact rdH (fun _ _ h => h) mm1 | exact rdH (fun _ _ h => h) mm2 | exact rdH (fun _ _ h => h) mm3 | exact rdH (fun _ _ h => h) mm4 | exact rdH (fun _ _ h => h) mm5 | exact rdH (fun _ _ h => h) mm6 | exact rdH (fun _ _ h => h) mm7 | exact rdH (fun _ _ h => h) mm8 | exact rdH (fun _ _ h => h) mm9 | exact rdH (fun _ _ h => h) mm10 | exact rdH (fun _ _ h => h) mm11) (by omega) (by omega)) ⟨rfl, rfl⟩)) (by intros; rfl) (by intro y y2 h; rfl) ?_
              refine net_read (fun y => [RdR I3 p fr.length fr]) (fun y => [(158, _), (155, _)]) (fun y => rfl) rfl (fun y => rfl) rfl (fun y FF hA => st_want rfl (st_v (r_load (c := (I3)) V.s3 rfl (by first | exact own mm0 | exact own mm1 | exact own mm2 | exact own mm3 | exact own mm4 | exact own mm5 | exact own mm6 | exact own mm7 | exact own mm8 | exact own mm9 | exact own mm10 | exact own mm11 | exact rdH (fun _ _ h => h) mm0 | exact rdH (fun _ _ h => h) mm1 | exact rdH (fun _ _ h => h) mm2 | exact rdH (fun _ _ h => h) mm3 | exact rdH (fun _ _ h => h) mm4 | exact rdH (fun _ _ h => h) mm5 | exact rdH (fun _ _ h => h) mm6 | exact rdH (fun _ _ h => h) mm7 | exact rdH (fun _ _ h => h) mm8 | exact rdH (fun _ _ h => h) mm9 | exact rdH (fun _ _ h => h) mm10 | exact rdH (fun _ _ h => h) mm11) (by omega) (by omega) rfl rfl) ⟨rfl, rfl⟩)) (by intros; rfl) (by intro y y2 h; rfl) ?_
              refine net_pure (fun y => [(159, _), (155, _)]) (fun y => rfl) rfl rfl rfl (fun y hA L => st_want rfl (st_v (v_T (v_gtr rfl rfl) (by omega)) ⟨rfl, rfl⟩)) (by intros; rfl) (by intro y y2 h; rfl) ?_
              refine net_pure (fun y => [(155, _), (160, _)]) (fun y => rfl) rfl rfl rfl (fun y hA L => st_v (v_pickT rfl rfl) ⟨rfl, rfl⟩) (by intros; rfl) (by intro y y2 h; rfl) ?_
              refine net_pure (fun y => [(161, _)]) (fun y => rfl) rfl rfl rfl (fun y hA L => st_v (v_move rfl) ⟨rfl, rfl⟩) (by intros; rfl) (by intro y y2 h; rfl) ?_
              refine net_pure (fun y => [(162, _), (5, _)]) (fun y => rfl) rfl rfl rfl (fun y hA L => st_want rfl (st_v (v_move rfl) ⟨rfl, rfl⟩)) (by intros; rfl) (by intro y y2 h; rfl) ?_
              refine net_pure (fun y => [(162, _), (12, _)]) (fun y => rfl) rfl rfl rfl (fun y hA L => st_want rfl (st_v (v_move rfl) ⟨rfl, rfl⟩)) (by intros; rfl) (by intro y y2 h; rfl) ?_
              refine net_read (fun y => [Row I3 (some ⟨bo, 0, none⟩) fr.length fr.length o]) (fun y => [(163, _), (164, _), (162, _)]) (fun y => rfl) rfl (fun y => rfl) rfl (fun y FF hA => st_want rfl (st_v (r_index (c := (I3)) V.sl22 rfl rfl (by first | exact own mm0 | exact own mm1 | exact own mm2 | exact own mm3 | exact own mm4 | exact own mm5 | exact own mm6 | exact own mm7 | exact own mm8 | exact own mm9 | exact own mm10 | exact own mm11 | exact rdH (fun _ _ h => h) mm0 | exact rdH (fun _ _ h => h) mm1 | exact rdH (fun _ _ h => h) mm2 | exact rdH (fun _ _ h => h) mm3 | exact rdH (fun _ _ h => h) mm4 | exact rdH (fun _ _ h => h) mm5 | exact rdH (fun _ _ h => h) mm6 | exact rdH (fun _ _ h => h) mm7 | exact rdH (fun _ _ h => h) mm8 | exact rdH (fun _ _ h => h) mm9 | exact rdH (fun _ _ h => h) mm10 | exact rdH (fun _ _ h => h) mm11) (by omega) (by omega)) ⟨rfl, rfl⟩)) (by intros; rfl) (by intro y y2 h; rfl) ?_
              refine net_read (fun y => [Row I3 (some ⟨bo, 0, none⟩) fr.length fr.length o]) (fun y => [(165, _), (162, _)]) (fun y => rfl) rfl (fun y => rfl) rfl (fun y FF hA => st_want rfl (st_v (r_load (c := (I3)) V.s3 rfl (by first | exact own mm0 | exact own mm1 | exact own mm2 | exact own mm3 | exact own mm4 | exact own mm5 | exact own mm6 | exact own mm7 | exact own mm8 | exact own mm9 | exact own mm10 | exact own mm11 | exact rdH (fun _ _ h => h) mm0 | exact rdH (fun _ _ h => h) mm1 | exact rdH (fun _ _ h => h) mm2 | exact rdH (fun _ _ h => h) mm3 | exact rdH (fun _ _ h => h) mm4 | exact rdH (fun _ _ h => h) mm5 | exact rdH (fun _ _ h => h) mm6 | exact rdH (fun _ _ h => h) mm7 | exact rdH (fun _ _ h => h) mm8 | exact rdH (fun _ _ h => h) mm9 | exact rdH (fun _ _ h => h) mm10 | exact rdH (fun _ _ h => h) mm11) (by omega) (by omega) rfl rfl) ⟨rfl, rfl⟩)) (by intros; rfl) (by intro y y2 h; rfl) ?_
              refine net_pure (fun y => [(162, _), (5, _)]) (fun y => rfl) rfl rfl rfl (fun y hA L => st_want rfl (st_v (v_move rfl) ⟨rfl, rfl⟩)) (by intros; rfl) (by intro y y2 h; rfl) ?_
              refine net_pure (fun y => [(162, _), (13, _)]) (fun y => rfl) rfl rfl rfl (fun y hA L => st_want rfl (st_v (v_move rfl) ⟨rfl, rfl⟩)) (by intros; rfl) (by intro y y2 h; rfl) ?_
              refine net_read (fun y => [Row I3 (some ⟨bo, 0, none⟩) fr.length fr.length o]) (fun y => [(167, _), (168, _), (162, _)]) (fun y => rfl) rfl (fun y => rfl) rfl (fun y FF hA => st_want rfl (st_v (r_index (c := (I3)) V.sl22 rfl rfl (by first | exact own mm0 | exact own mm1 | exact own mm2 | exact own mm3 | exact own mm4 | exact own mm5 | exact own mm6 | exact own mm7 | exact own mm8 | exact own mm9 | exact own mm10 | exact own mm11 | exact rdH (fun _ _ h => h) mm0 | exact rdH (fun _ _ h => h) mm1 | exact rdH (fun _ _ h => h) mm2 | exact rdH (fun _ _ h => h) mm3 | exact rdH (fun _ _ h => h) mm4 | exact rdH (fun _ _ h => h) mm5 | exact rdH (fun _ _ h => h) mm6 | exact rdH (fun _ _ h => h) mm7 | exact rdH (fun _ _ h => h) mm8 | exact rdH (fun _ _ h => h) mm9 | exact rdH (fun _ _ h => h) mm10 | exact rdH (fun _ _ h => h) mm11) (by omega) (by omega)) ⟨rfl, rfl⟩)) (by intros; rfl) (by intro y y2 h; rfl) ?_
              refine net_read (fun y => [Row I3 (some ⟨bo, 0, none⟩) fr.length fr.length o]) (fun y => [(169, _), (162, _)]) (fun y => rfl) rfl (fun y => rfl) rfl (fun y FF hA => st_want rfl (st_v (r_load (c := (I3)) V.s3 rfl (by first | exact own mm0 | exact own mm1 | exact own mm2 | exact own mm3 | exact own mm4 | exact own mm5 | exact own mm6 | exact own mm7 | exact own mm8 | exact own mm9 | exact own mm10 | exact own mm11 | exact rdH (fun _ _ h => h) mm0 | exact rdH (fun _ _ h => h) mm1 | exact rdH (fun _ _ h => h) mm2 | exact rdH (fun _ _ h => h) mm3 | exact rdH (fun _ _ h => h) mm4 | exact rdH (fun _ _ h => h) mm5 | exact rdH (fun _ _ h => h) mm6 | exact rdH (fun _ _ h => h) mm7 | exact rdH (fun _ _ h => h) mm8 | exact rdH (fun _ _ h => h) mm9 | exact rdH (fun _ _ h => h) mm10 | exact rdH (fun _ _ h => h) mm11) (by omega) (by omega) rfl rfl) ⟨rfl, rfl⟩)) (by intros; rfl) (by intro y y2 h; rfl) ?_
              refine net_pure (fun y => [(166, _), (170, _), (162, _)]) (fun y => rfl) rfl rfl rfl (fun y hA L => st_want rfl (st_v (v_F (v_gtr rfl rfl) (by have := hg.down i j (by omega) (by omega) (by omega) (by omega); omega)) ⟨rfl, rfl⟩)) (by intros; rfl) (by intro y y2 h; rfl) ?_
              refine net_pure (fun y => [(162, _), (171, _)]) (fun y => rfl) rfl rfl rfl (fun y hA L => st_v (v_pickT rfl rfl) ⟨rfl, rfl⟩) (by intros; rfl) (by intro y y2 h; rfl) ?_
              refine net_pure (fun y => [(172, _)]) (fun y => rfl) rfl rfl rfl (fun y hA L => st_v (v_move rfl) ⟨rfl, rfl⟩) (by intros; rfl) (by intro y y2 h; rfl) ?_
              refine net_pure (fun y => [(173, _), (0, _)]) (fun y => rfl) rfl rfl rfl (fun y hA L => st_want rfl (st_v (v_move rfl) ⟨rfl, rfl⟩)) (by intros; rfl) (by intro y y2 h; rfl) ?_
              refine net_pure (fun y => [(173, _), (13, _)]) (fun y => rfl) rfl rfl rfl (fun y hA L => st_want rfl (st_v (v_move rfl) ⟨rfl, rfl⟩)) (by intros; rfl) (by intro y y2 h; rfl) ?_
              refine net_read (fun y => [RdR I3 p fr.length fr]) (fun y => [(174, _), (175, _), (173, _)]) (fun y => rfl) rfl (fun y => rfl) rfl (fun y FF hA => st_want rfl (st_v (r_index (c := (I3)) V.sl22 rfl rfl (by first | exact own mm0 | exact own mm1 | exact own mm2 | exact own mm3 | exact own mm4 | exact own mm5 | exact own mm6 | exact own mm7 | exact own mm8 | exact own mm9 | exact own mm10 | exact own mm11 | exact rdH (fun _ _ h => h) mm0 | exact rdH (fun _ _ h => h) mm1 | exact rdH (fun _ _ h => h) mm2 | exact rdH (fun _ _ h => h) mm3 | exact rdH (fun _ _ h => h) mm4 | exact rdH (fun _ _ h => h) mm5 | exact rdH (fun _ _ h => h) mm6 | exact rdH (fun _ _ h => h) mm7 | exact rdH (fun _ _ h => h) mm8 | exact rdH (fun _ _ h => h) mm9 | exact rdH (fun _ _ h => h) mm10 | exact rdH (fun _ _ h => h) mm11) (by omega) (by omega)) ⟨rfl, rfl⟩)) (by intros; rfl) (by intro y y2 h; rfl) ?_
              refine net_read (fun y => [RdR I3 p fr.length fr]) (fun y => [(176, _), (173, _)]) (fun y => rfl) rfl (fun y => rfl) rfl (fun y FF hA => st_want rfl (st_v (r_load (c := (I3)) V.s3 rfl (by first | exact own mm0 | exact own mm1 | exact own mm2 | exact own mm3 | exact own mm4 | exact own mm5 | exact own mm6 | exact own mm7 | exact own mm8 | exact own mm9 | exact own mm10 | exact own mm11 | exact rdH (fun _ _ h => h) mm0 | exact rdH (fun _ _ h => h) mm1 | exact rdH (fun _ _ h => h) mm2 | exact rdH (fun _ _ h => h) mm3 | exact rdH (fun _ _ h => h) mm4 | exact rdH (fun _ _ h => h) mm5 | exact rdH (fun _ _ h => h) mm6 | exact rdH (fun _ _ h => h) mm7 | exact rdH (fun _ _ h => h) mm8 | exact rdH (fun _ _ h => h) mm9 | exact rdH (fun _ _ h => h) mm10 | exact rdH (fun _ _ h => h) mm11) (by omega) (by omega) rfl rfl) ⟨rfl, rfl⟩)) (by intros; rfl) (by intro y y2 h; rfl) ?_
              refine net_pure (fun y => [(173, _), (0, _)]) (fun y => rfl) rfl rfl rfl (fun y hA L => st_want rfl (st_v (v_move rfl) ⟨rfl, rfl⟩)) (by intros; rfl) (by intro y y2 h; rfl) ?_
              refine net_pure (fun y => [(173, _), (12, _)]) (fun y => rfl) rfl rfl rfl (fun y hA L => st_want rfl (st_v (v_move rfl) ⟨rfl, rfl⟩)) (by intros; rfl) (by intro y y2 h; rfl) ?_
              refine net_read (fun y => [RdR I3 p fr.length fr]) (fun y => [(178, _), (179, _), (173, _)]) (fun y => rfl) rfl (fun y => rfl) rfl (fun y FF hA => st_want rfl (st_v (r_index (c := (I3)) V.sl22 rfl rfl (by first | exact own mm0 | exact own mm1 | exact own mm2 | exact own mm3 | exact own mm4 | exact own mm5 | exact own mm6 | exact own mm7 | exact own mm8 | exact own mm9 | exact own mm10 | exact own mm11 | exact rdH (fun _ _ h => h) mm0 | exact rdH (fun _ _ h => h) mm1 | exact rdH (fun _ _ h => h) mm2 | exact rdH (fun _ _ h => h) mm3 | exact rdH (fun _ _ h => h) mm4 | exact rdH (fun _ _ h => h) mm5 | exact rdH (fun _ _ h => h) mm6 | exact rdH (fun _ _ h => h) mm7 | exact rdH (fun _ _ h => h) mm8 | exact rdH (fun _ _ h => h) mm9 | exact rdH (fun _ _ h => h) mm10 | exact rdH (fun _ _ h => h) mm11) (by omega) (by omega)) ⟨rfl, rfl⟩)) (by intros; rfl) (by intro y y2 h; rfl) ?_
              refine net_read (fun y => [RdR I3 p fr.length fr]) (fun y => [(180, _), (173, _)]) (fun y => rfl) rfl (fun y => rfl) rfl (fun y FF hA => st_want rfl (st_v (r_load (c := (I3)) V.s3 rfl (by first | exact own mm0 | exact own mm1 | exact own mm2 | exact own mm3 | exact own mm4 | exact own mm5 | exact own mm6 | exact own mm7 | exact own mm8 | exact own mm9 | exact own mm10 | exact own mm11 | exact rdH (fun _ _ h => h) mm0 | exact rdH (fun _ _ h => h) mm1 | exact rdH (fun _ _ h => h) mm2 | exact rdH (fun _ _ h => h) mm3 | exact rdH (fun _ _ h => h) mm4 | exact rdH (fun _ _ h => h) mm5 | exact rdH (fun _ _ h => h) mm6 | exact rdH (fun _ _ h => h) mm7 | exact rdH (fun _ _ h => h) mm8 | exact rdH (fun _ _ h => h) mm9 | exact rdH (fun _ _ h => h) mm10 | exact rdH (fun _ _ h => h) mm11) (by omega) (by omega) rfl rfl) ⟨rfl, rfl⟩)) (by intros; rfl) (by intro y y2 h; rfl) ?_
              refine net_pure (fun y => [(177, _), (181, _), (173, _)]) (fun y => rfl) rfl rfl rfl (fun y hA L => st_want rfl (st_v (v_F (v_gtr rfl rfl) (by omega)) ⟨rfl, rfl⟩)) (by intros; rfl) (by intro y y2 h; rfl) ?_
              refine net_pure (fun y => [(182, _), (173, _)]) (fun y => rfl) rfl rfl rfl (fun y hA L => st_want rfl (st_v (v_move rfl) ⟨rfl, rfl⟩)) (by intros; rfl) (by intro y y2 h; rfl) ?_
              refine net_pure (fun y => [(183, _), (0, _)]) (fun y => rfl) rfl rfl rfl (fun y hA L => st_pass rfl rfl ⟨rfl, rfl⟩) (by intros; rfl) (by intro y y2 h; rfl) ?_
              refine net_pure (fun y => [(183, _), (12, _)]) (fun y => rfl) rfl rfl rfl (fun y hA L => st_pass rfl rfl ⟨rfl, rfl⟩) (by intros; rfl) (by intro y y2 h; rfl) ?_
              refine net_pure (fun y => [(184, _), (185, _), (183, _)]) (fun y => rfl) rfl rfl rfl (fun y hA L => st_pass rfl rfl ⟨rfl, rfl⟩) (by intros; rfl) (by intro y y2 h; rfl) ?_
              refine net_pure (fun y => [(186, _), (183, _)]) (fun y => rfl) rfl rfl rfl (fun y hA L => st_pass rfl rfl ⟨rfl, rfl⟩) (by intros; rfl) (by intro y y2 h; rfl) ?_
              refine net_pure (fun y => [(187, _), (183, _)]) (fun y => rfl) rfl rfl rfl (fun y hA L => st_pass rfl rfl ⟨rfl, rfl⟩) (by intros; rfl) (by intro y y2 h; rfl) ?_
              refine net_pure (fun y => [(183, _), (188, _), (173, _)]) (fun y => rfl) rfl rfl rfl (fun y hA L => st_want rfl (st_v (v_pickF rfl rfl) ⟨rfl, rfl⟩)) (by intros; rfl) (by intro y y2 h; rfl) ?_
              refine net_pure (fun y => [(189, _), (173, _)]) (fun y => rfl) rfl rfl rfl (fun y hA L => st_want rfl (st_v (v_move rfl) ⟨rfl, rfl⟩)) (by intros; rfl) (by intro y y2 h; rfl) ?_
              refine net_pure (fun y => [(190, _), (5, _)]) (fun y => rfl) rfl rfl rfl (fun y hA L => st_pass rfl rfl ⟨rfl, rfl⟩) (by intros; rfl) (by intro y y2 h; rfl) ?_
              refine net_pure (fun y => [(190, _), (13, _)]) (fun y => rfl) rfl rfl rfl (fun y hA L => st_pass rfl rfl ⟨rfl, rfl⟩) (by intros; rfl) (by intro y y2 h; rfl) ?_
              refine net_pure (fun y => [(191, _), (192, _), (190, _)]) (fun y => rfl) rfl rfl rfl (fun y hA L => st_pass rfl rfl ⟨rfl, rfl⟩) (by intros; rfl) (by intro y y2 h; rfl) ?_
              refine net_pure (fun y => [(193, _), (190, _)]) (fun y => rfl) rfl rfl rfl (fun y hA L => st_pass rfl rfl ⟨rfl, rfl⟩) (by intros; rfl) (by intro y y2 h; rfl) ?_
              refine net_pure (fun y => [(190, _), (5, _)]) (fun y => rfl) rfl rfl rfl (fun y hA L => st_pass rfl rfl ⟨rfl, rfl⟩) (by intros; rfl) (by intro y y2 h; rfl) ?_
              refine net_pure (fun y => [(190, _), (12, _)]) (fun y => rfl) rfl rfl rfl (fun y hA L => st_pass rfl rfl ⟨rfl, rfl⟩) (by intros; rfl) (by intro y y2 h; rfl) ?_
              refine net_pure (fun y => [(195, _), (196, _), (190, _)]) (fun y => rfl) rfl rfl rfl (fun y hA L => st_pass rfl rfl ⟨rfl, rfl⟩) (by intros; rfl) (by intro y y2 h; rfl) ?_
              refine net_pure (fun y => [(197, _), (190, _)]) (fun y => rfl) rfl rfl rfl (fun y hA L => st_pass rfl rfl ⟨rfl, rfl⟩) (by intros; rfl) (by intro y y2 h; rfl) ?_
              refine net_pure (fun y => [(194, _), (198, _), (190, _)]) (fun y => rfl) rfl rfl rfl (fun y hA L => st_pass rfl rfl ⟨rfl, rfl⟩) (by intros; rfl) (by intro y y2 h; rfl) ?_
              refine net_pure (fun y => [(190, _), (199, _), (173, _)]) (fun y => rfl) rfl rfl rfl (fun y hA L => st_want rfl (st_v (v_pickF rfl rfl) ⟨rfl, rfl⟩)) (by intros; rfl) (by intro y y2 h; rfl) ?_
              refine net_pure (fun y => [(173, _), (200, _)]) (fun y => rfl) rfl rfl rfl (fun y hA L => st_v (v_pickF rfl rfl) ⟨rfl, rfl⟩) (by intros; rfl) (by intro y y2 h; rfl) ?_
              refine net_nil ?_
              intro y hA
              clear hA
              refine thn_n ?_
              refine w_keep _ (.cons (d := 0) rfl (.cons (d := 1) rfl (.cons (d := 5) rfl (.cons (d := 7) rfl (.cons (d := 12) rfl (.cons (d := 13) rfl (.cons (d := 201) rfl (.nil _)))))))) ?_
              refine w_sub (M := RC br o :: Row I3 (some ⟨bo, 0, none⟩) fr.length fr.length o :: RdR I3 p fr.length fr :: F) (fun _ _ h => h) ?_
              refine w_condF rfl ?_
              refine w_skip ?_
              refine blk_n ?_
              refine thn_n ?_
              refine w_region ?_
              refine o_val (v_move rfl) rfl ?_
              refine o_val (v_add rfl rfl (wrapI (by omega) (by omega))) rfl ?_
              refine o_val (v_assign rfl) rfl ?_
              refine o_nil ?_
              refine j1 (j + 1) ?_ (.cons rfl (.cons rfl (.cons rfl (.cons rfl (.cons rfl (.cons rfl (.nil _))))))) (sub (.cons (by repeat first | exact .head | apply Rem.tail) (.cons (by repeat first | exact .head | apply Rem.tail) (.cons (by repeat first | exact .head | apply Rem.tail) .nil))) (by repeat first | exact .refl | apply Drop.skip))
              exact ⟨by omega, by omega⟩
            ·
              refine w_seq ?_
              have hj2 : j < i := by omega
              have hi2 : i < fr.length := by omega
              have eo : I3.g o (i : Int) = o.getD i 0 := by simp [Ec.g]
              have ef : I3.g fr (i : Int) = fr.getD i 0 := by simp [Ec.g]
              have eo2 : I3.g o (j : Int) = o.getD j 0 := by simp [Ec.g]
              have ef2 : I3.g fr (j : Int) = fr.getD j 0 := by simp [Ec.g]
              refine w_net [⟨[], [], [0], 0, 0⟩, ⟨[], [], [12], 0, 0⟩, ⟨[0, 1], [0, 1], [], 0, 0⟩, ⟨[0, 1, 2], [2], [], 0, 0⟩, ⟨[], [], [0], 0, 0⟩, ⟨[], [], [13], 0, 0⟩, ⟨[4, 5], [4, 5], [], 0, 0⟩, ⟨[4, 5, 6], [6], [], 0, 0⟩, ⟨[0, 1, 2, 3, 4, 5, 6, 7], [3, 7], [], 0, 0⟩, ⟨[0, 1, 2, 3, 4, 5, 6, 7, 8], [8], [], 0, 0⟩, ⟨[0, 1, 2, 3, 4, 5, 6, 7, 8, 9], [9], [0], 0, 0⟩, ⟨[0, 1, 2, 3, 4, 5, 6, 7, 8, 9], [9], [13], 0, 0⟩, ⟨[0, 1, 2, 3, 4, 5, 6, 7, 8, 9, 10, 11], [10, 11, 9], [], 0, 0⟩, ⟨[0, 1, 2, 3, 4, 5, 6, 7, 8, 9, 10, 11, 12], [12, 9], [], 0, 0⟩, ⟨[0, 1, 2, 3, 4, 5, 6, 7, 8, 9, 10, 11, 12, 13], [13, 9], [], 0, 0⟩, ⟨[0, 1, 2, 3, 4, 5, 6, 7, 8, 9, 10, 11, 12, 13, 14], [9, 14], [], 0, 0⟩, ⟨[0, 1, 2, 3, 4, 5, 6, 7, 8, 9, 10, 11, 12, 13, 14, 15], [15], [], 0, 0⟩, ⟨[0, 1, 2, 3, 4, 5, 6, 7, 8, 9, 10, 11, 12, 13, 14, 15, 16], [16], [5], 0, 0⟩, ⟨[0, 1, 2, 3, 4, 5, 6, 7, 8, 9, 10, 11, 12, 13, 14, 15, 16], [16], [12], 0, 0⟩, ⟨[0, 1, 2, 3, 4, 5, 6, 7, 8, 9, 10, 11, 12, 13, 14, 15, 16, 17, 18], [17, 18, 16], [], 0, 0⟩, ⟨[0, 1, 2, 3, 4, 5, 6, 7, 8, 9, 10, 11, 12, 13, 14, 15, 16, 17, 18, 19], [19, 16], [], 0, 0⟩, ⟨[0, 1, 2, 3, 4, 5, 6, 7, 8, 9, 10, 11, 12, 13, 14, 15, 16], [16], [5], 0, 0⟩, ⟨[0, 1, 2, 3, 4, 5, 6, 7, 8, 9, 10, 11, 12, 13, 14, 15, 16], [16], [13], 0, 0⟩, ⟨[0, 1, 2, 3, 4, 5, 6, 7, 8, 9, 10, 11, 12, 13, 14, 15, 16, 21, 22], [21, 22, 16], [], 0, 0⟩, ⟨[0, 1, 2, 3, 4, 5, 6, 7, 8, 9, 10, 11, 12, 13, 14, 15, 16, 21, 22, 23], [23, 16], [], 0, 0⟩, ⟨[0, 1, 2, 3, 4, 5, 6, 7, 8, 9, 10, 11, 12, 13, 14, 15, 16, 17, 18, 19, 20, 21, 22, 23, 24], [20, 24, 16], [], 0, 0⟩, ⟨[0, 1, 2, 3, 4, 5, 6, 7, 8, 9, 10, 11, 12, 13, 14, 15, 16, 17, 18, 19, 20, 21, 22, 23, 24, 25], [16, 25], [], 0, 0⟩, ⟨[0, 1, 2, 3, 4, 5, 6, 7, 8, 9, 10, 11, 12, 13, 14, 15, 16, 17, 18, 19, 20, 21, 22, 23, 24, 25, 26], [26], [], 0, 0⟩, ⟨[0, 1, 2, 3, 4, 5, 6, 7, 8, 9, 10, 11, 12, 13, 14, 15, 16, 17, 18, 19, 20, 21, 22, 23, 24, 25, 26, 27], [27], [0], 0, 0⟩, ⟨[0, 1, 2, 3, 4, 5, 6, 7, 8, 9, 10, 11, 12, 13, 14, 15, 16, 17, 18, 19, 20, 21, 22, 23, 24, 25, 26, 27], [27], [13], 0, 0⟩, ⟨[0, 1, 2, 3, 4, 5, 6, 7, 8, 9, 10, 11, 12, 13, 14, 15, 16, 17, 18, 19, 20, 21, 22, 23, 24, 25, 26, 27, 28, 29], [28, 29, 27], [], 0, 0⟩, ⟨[0, 1, 2, 3, 4, 5, 6, 7, 8, 9, 10, 11, 12, 13, 14, 15, 16, 17, 18, 19, 20, 21, 22, 23, 24, 25, 26, 27, 28, 29, 30], [30, 27], [], 0, 0⟩, ⟨[0, 1, 2, 3, 4, 5, 6, 7, 8, 9, 10, 11, 12, 13, 14, 15, 16, 17, 18, 19, 20, 21, 22, 23, 24, 25, 26, 27], [27], [0], 0, 0⟩, ⟨[0, 1, 2, 3, 4, 5, 6, 7, 8, 9, 10, 11, 12, 13, 14, 15, 16, 17, 18, 19, 20, 21, 22, 23, 24, 25, 26, 27], [27], [12], 0, 0⟩, ⟨[0, 1, 2, 3, 4, 5, 6, 7, 8, 9, 10, 11, 12, 13, 14, 15, 16, 17, 18, 19, 20, 21, 22, 23, 24, 25, 26, 27, 32, 33], [32, 33, 27], [], 0, 0⟩, ⟨[0, 1, 2, 3, 4, 5, 6, 7, 8, 9, 10, 11, 12, 13, 14, 15, 16, 17, 18, 19, 20, 21, 22, 23, 24, 25, 26, 27, 32, 33, 34], [34, 27], [], 0, 0⟩, ⟨[0, 1, 2, 3, 4, 5, 6, 7, 8, 9, 10, 11, 12, 13, 14, 15, 16, 17, 18, 19, 20, 21, 22, 23, 24, 25, 26, 27, 28, 29, 30, 31, 32, 33, 34, 35], [31, 35, 27], [], 0, 0⟩, ⟨[0, 1, 2, 3, 4, 5, 6, 7, 8, 9, 10, 11, 12, 13, 14, 15, 16, 17, 18, 19, 20, 21, 22, 23, 24, 25, 26, 27, 28, 29, 30, 31, 32, 33, 34, 35, 36], [36, 27], [], 0, 0⟩, ⟨[0, 1, 2, 3, 4, 5, 6, 7, 8, 9, 10, 11, 12, 13, 14, 15, 16, 17, 18, 19, 20, 21, 22, 23, 24, 25, 26, 27, 28, 29, 30, 31, 32, 33, 34, 35, 36, 37], [37], [0], 0, 0⟩, ⟨[0, 1, 2, 3, 4, 5, 6, 7, 8, 9, 10, 11, 12, 13, 14, 15, 16, 17, 18, 19, 20, 21, 22, 23, 24, 25, 26, 27, 28, 29, 30, 31, 32, 33, 34, 35, 36, 37], [37], [12], 0, 0⟩, ⟨[0, 1, 2, 3, 4, 5, 6, 7, 8, 9, 10, 11, 12, 13, 14, 15, 16, 17, 18, 19, 20, 21, 22, 23, 24, 25, 26, 27, 28, 29, 30, 31, 32, 33, 34, 35, 36, 37, 38, 39], [38, 39, 37], [], 0, 0⟩, ⟨[0, 1, 2, 3, 4, 5, 6, 7, 8, 9, 10, 11, 12, 13, 14, 15, 16, 17, 18, 19, 20, 21, 22, 23, 24, 25, 26, 27, 28, 29, 30, 31, 32, 33, 34, 35, 36, 37, 38, 39, 40], [40, 37], [], 0, 0⟩, ⟨[0, 1, 2, 3, 4, 5, 6, 7, 8, 9, 10, 11, 12, 13, 14, 15, 16, 17, 18, 19, 20, 21, 22, 23, 24, 25, 26, 27, 28, 29, 30, 31, 32, 33, 34, 35, 36, 37, 38, 39, 40, 41], [41, 37], [], 0, 0⟩, ⟨[0, 1, 2, 3, 4, 5, 6, 7, 8, 9, 10, 11, 12, 13, 14, 15, 16, 17, 18, 19, 20, 21, 22, 23, 24, 25, 26, 27, 28, 29, 30, 31, 32, 33, 34, 35, 36, 37, 38, 39, 40, 41, 42], [37, 42, 27], [], 0, 0⟩, ⟨[0, 1, 2, 3, 4, 5, 6, 7, 8, 9, 10, 11, 12, 13, 14, 15, 16, 17, 18, 19, 20, 21, 22, 23, 24, 25, 26, 27, 28, 29, 30, 31, 32, 33, 34, 35, 36, 37, 38, 39, 40, 41, 42, 43], [43, 27], [], 0, 0⟩, ⟨[0, 1, 2, 3, 4, 5, 6, 7, 8, 9, 10, 11, 12, 13, 14, 15, 16, 17, 18, 19, 20, 21, 22, 23, 24, 25, 26, 27, 28, 29, 30, 31, 32, 33, 34, 35, 36, 37, 38, 39, 40, 41, 42, 43, 44], [44], [5], 0, 0⟩, ⟨[0, 1, 2, 3, 4, 5, 6, 7, 8, 9, 10, 11, 12, 13, 14, 15, 16, 17, 18, 19, 20, 21, 22, 23, 24, 25, 26, 27, 28, 29, 30, 31, 32, 33, 34, 35, 36, 37, 38, 39, 40, 41, 42, 43, 44], [44], [13], 0, 0⟩, ⟨[0, 1, 2, 3, 4, 5, 6, 7, 8, 9, 10, 11, 12, 13, 14, 15, 16, 17, 18, 19, 20, 21, 22, 23, 24, 25, 26, 27, 28, 29, 30, 31, 32, 33, 34, 35, 36, 37, 38, 39, 40, 41, 42, 43, 44, 45, 46], [45, 46, 44], [], 0, 0⟩, ⟨[0, 1, 2, 3, 4, 5, 6, 7, 8, 9, 10, 11, 12, 13, 14, 15, 16, 17, 18, 19, 20, 21, 22, 23, 24, 25, 26, 27, 28, 29, 30, 31, 32, 33, 34, 35, 36, 37, 38, 39, 40, 41, 42, 43, 44, 45, 46, 47], [47, 44], [], 0, 0⟩, ⟨[0, 1, 2, 3, 4, 5, 6, 7, 8, 9, 10, 11, 12, 13, 14, 15, 16, 17, 18, 19, 20, 21, 22, 23, 24, 25, 26, 27, 28, 29, 30, 31, 32, 33, 34, 35, 36, 37, 38, 39, 40, 41, 42, 43, 44], [44], [5], 0, 0⟩, ⟨[0, 1, 2, 3, 4, 5, 6, 7, 8, 9, 10, 11, 12, 13, 14, 15, 16, 17, 18, 19, 20, 21, 22, 23, 24, 25, 26, 27, 28, 29, 30, 31, 32, 33, 34, 35, 36, 37, 38, 39, 40, 41, 42, 43, 44], [44], [12], 0, 0⟩, ⟨[0, 1, 2, 3, 4, 5, 6, 7, 8, 9, 10, 11, 12, 13, 14, 15, 16, 17, 18, 19, 20, 21, 22, 23, 24, 25, 26, 27, 28, 29, 30, 31, 32, 33, 34, 35, 36, 37, 38, 39, 40, 41, 42, 43, 44, 49, 50], [49, 50, 44], [], 0, 0⟩, ⟨[0, 1, 2, 3, 4, 5, 6, 7, 8, 9, 10, 11, 12, 13, 14, 15, 16, 17, 18, 19, 20, 21, 22, 23, 24, 25, 26, 27, 28, 29, 30, 31, 32, 33, 34, 35, 36, 37, 38, 39, 40, 41, 42, 43, 44, 49, 50, 51], [51, 44], [], 0, 0⟩, ⟨[0, 1, 2, 3, 4, 5, 6, 7, 8, 9, 10, 11, 12, 13, 14, 15, 16, 17, 18, 19, 20, 21, 22, 23, 24, 25, 26, 27, 28, 29, 30, 31, 32, 33, 34, 35, 36, 37, 38, 39, 40, 41, 42, 43, 44, 45, 46, 47, 48, 49, 50, 51, 52], [48, 52, 44], [], 0, 0⟩, ⟨[0, 1, 2, 3, 4, 5, 6, 7, 8, 9, 10, 11, 12, 13, 14, 15, 16, 17, 18, 19, 20, 21, 22, 23, 24, 25, 26, 27, 28, 29, 30, 31, 32, 33, 34, 35, 36, 37, 38, 39, 40, 41, 42, 43, 44, 45, 46, 47, 48, 49, 50, 51, 52, 53], [44, 53, 27], [], 0, 0⟩, ⟨[0, 1, 2, 3, 4, 5, 6, 7, 8, 9, 10, 11, 12, 13, 14, 15, 16, 17, 18, 19, 20, 21, 22, 23, 24, 25, 26, 27, 28, 29, 30, 31, 32, 33, 34, 35, 36, 37, 38, 39, 40, 41, 42, 43, 44, 45, 46, 47, 48, 49, 50, 51, 52, 53, 54], [27, 54], [], 0, 0⟩] [⟨fun y => RC br o, none, none, []⟩, ⟨fun y => Row I3 (some ⟨bo, 0, none⟩) fr.length fr.length o, none, none, []⟩, ⟨fun y => RdR I3 p fr.length fr, none, none, [2, 3, 6, 7, 12, 13, 30, 31, 34, 35]⟩] F V.mixed (by kernel_rfl) rfl (fun _ => .refl _) (locT_0 _ (locT_0 _ (locT_0 _ locT_nil))) ?_
              refine net_pure (fun y => [(0, _)]) (fun y => rfl) rfl rfl rfl (fun y hA L => st_v (v_move rfl) ⟨rfl, rfl⟩) (by intros; rfl) (by intro y y2 h; rfl) ?_
              refine net_pure (fun y => [(12, _)]) (fun y => rfl) rfl rfl rfl (fun y hA L => st_v (v_move rfl) ⟨rfl, rfl⟩) (by intros; rfl) (by intro y y2 h; rfl) ?_
              refine net_read (fun y => [RdR I3 p fr.length fr]) (fun y => [(146, _), (147, _)]) (fun y => rfl) rfl (fun y => rfl) rfl (fun y FF hA => st_v (r_index (c := (I3)) V.sl22 rfl rfl (by first | exact own mm0 | exact own mm1 | exact own mm2 | exact own mm3 | exact own mm4 | exact own mm5 | exact own mm6 | exact own mm7 | exact own mm8 | exact own mm9 | exact own mm10 | exact own mm11 | exact rdH (fun _ _ h => h) mm0 | exact rdH (fun _ _ h => h) mm1 | exact rdH (fun _ _ h => h) mm2 | exact rdH (fun _ _ h => h) mm3 | exact rdH (fun _ _ h => h) mm4 | exact rdH (fun _ _ h => h) mm5 | exact rdH (fun _ _ h => h) mm6 | exact rdH (fun _ _ h => h) mm7 | exact rdH (fun _ _ h => h) mm8 | exact rdH (fun _ _ h => h) mm9 | exact rdH (fun _ _ h => h) mm10 | exact rdH (fun _ _ h => h) mm11) (by omega) (by omega)) ⟨rfl, rfl⟩) (by intros; rfl) (by intro y y2 h; rfl) ?_
              refine net_read (fun y => [RdR I3 p fr.length fr]) (fun y => [(148, _)]) (fun y => rfl) rfl (fun y => rfl) rfl (fun y FF hA => st_v (r_load (c := (I3)) V.s3 rfl (by first | exact own mm0 | exact own mm1 | exact own mm2 | exact own mm3 | exact own mm4 | exact own mm5 | exact own mm6 | exact own mm7 | exact own mm8 | exact own mm9 | exact own mm10 | exact own mm11 | exact rdH (fun _ _ h => h) mm0 | exact rdH (fun _ _ h => h) mm1 | exact rdH (fun _ _ h => h) mm2 | exact rdH (fun _ _ h => h) mm3 | exact rdH (fun _ _ h => h) mm4 | exact rdH (fun _ _ h => h) mm5 | exact rdH (fun _ _ h => h) mm6 | exact rdH (fun _ _ h => h) mm7 | exact rdH (fun _ _ h => h) mm8 | exact rdH (fun _ _ h => h) mm9 | exact rdH (fun _ _ h => h) mm10 | exact rdH (fun _ _ h => h) mm11) (by omega) (by omega) rfl rfl) ⟨rfl, rfl⟩) (by intros; rfl) (by intro y y2 h; rfl) ?_
              refine net_pure (fun y => [(0, _)]) (fun y => rfl) rfl rfl rfl (fun y hA L => st_v (v_move rfl) ⟨rfl, rfl⟩) (by intros; rfl) (by intro y y2 h; rfl) ?_
              refine net_pure (fun y => [(13, _)]) (fun y => rfl) rfl rfl rfl (fun y hA L => st_v (v_move rfl) ⟨rfl, rfl⟩) (by intros; rfl) (by intro y y2 h; rfl) ?_
              refine net_read (fun y => [RdR I3 p fr.length fr]) (fun y => [(150, _), (151, _)]) (fun y => rfl) rfl (fun y => rfl) rfl (fun y FF hA => st_v (r_index (c := (I3)) V.sl22 rfl rfl (by first | exact own mm0 | exact own mm1 | exact own mm2 | exact own mm3 | exact own mm4 | exact own mm5 | exact own mm6 | exact own mm7 | exact own mm8 | exact own mm9 | exact own mm10 | exact own mm11 | exact rdH (fun _ _ h => h) mm0 | exact rdH (fun _ _ h => h) mm1 | exact rdH (fun _ _ h => h) mm2 | exact rdH (fun _ _ h => h) mm3 | exact rdH (fun _ _ h => h) mm4 | exact rdH (fun _ _ h => h) mm5 | exact rdH (fun _ _ h => h) mm6 | exact rdH (fun _ _ h => h) mm7 | exact rdH (fun _ _ h => h) mm8 | exact rdH (fun _ _ h => h) mm9 | exact rdH (fun _ _ h => h) mm10 | exact rdH (fun _ _ h => h) mm11) (by omega) (by omega)) ⟨rfl, rfl⟩) (by intros; rfl) (by intro y y2 h; rfl) ?_
              refine net_read (fun y => [RdR I3 p fr.length fr]) (fun y => [(152, _)]) (fun y => rfl) rfl (fun y => rfl) rfl (fun y FF hA => st_v (r_load (c := (I3)) V.s3 rfl (by first | exact own mm0 | exact own mm1 | exact own mm2 | exact own mm3 | exact own mm4 | exact own mm5 | exact own mm6 | exact own mm7 | exact own mm8 | exact own mm9 | exact own mm10 | exact own mm11 | exact rdH (fun _ _ h => h) mm0 | exact rdH (fun _ _ h => h) mm1 | exact rdH (fun _ _ h => h) mm2 | exact rdH (fun _ _ h => h) mm3 | exact rdH (fun _ _ h => h) mm4 | exact rdH (fun _ _ h => h) mm5 | exact rdH (fun _ _ h => h) mm6 | exact rdH (fun _ _ h => h) mm7 | exact rdH (fun _ _ h => h) mm8 | exact rdH (fun _ _ h => h) mm9 | exact rdH (fun _ _ h => h) mm10 | exact rdH (fun _ _ h => h) mm11) (by omega) (by omega) rfl rfl) ⟨rfl, rfl⟩) (by intros; rfl) (by intro y y2 h; rfl) ?_
              refine net_pure (fun y => [(149, _), (153, _)]) (fun y => rfl) rfl rfl rfl (fun y hA L => st_v (v_T (v_gtr rfl rfl) (by omega)) ⟨rfl, rfl⟩) (by intros; rfl) (by intro y y2 h; rfl) ?_
              refine net_pure (fun y => [(154, _)]) (fun y => rfl) rfl rfl rfl (fun y hA L => st_v (v_move rfl) ⟨rfl, rfl⟩) (by intros; rfl) (by intro y y2 h; rfl) ?_
              refine net_pure (fun y => [(155, _), (0, _)]) (fun y => rfl) rfl rfl rfl (fun y hA L => st_want rfl (st_v (v_move rfl) ⟨rfl, rfl⟩)) (by intros; rfl) (by intro y y2 h; rfl) ?_
              refine net_pure (fun y => [(155, _), (13, _)]) (fun y => rfl) rfl rfl rfl (fun y hA L => st_want rfl (st_v (v_move rfl) ⟨rfl, rfl⟩)) (by intros; rfl) (by intro y y2 h; rfl) ?_
              refine net_read (fun y => [RdR I3 p fr.length fr]) (fun y => [(156, _), (157, _), (155, _)]) (fun y => rfl) rfl (fun y => rfl) rfl (fun y FF hA => st_want rfl (st_v (r_index (c := (I3)) V.sl22 rfl rfl (by first | exact own mm0 | exact own mm1 | exact own mm2 | exact own mm3 | exact own mm4 | exact own mm5 | exact own mm6 | exact own mm7 | exact own mm8 | exact own mm9 | exact own mm10 | exact own mm11 | exact rdH (fun _ _ h => h) mm0 | exact rdH (fun _ _ h => h) mm1 | exact rdH (fun _ _ h => h) mm2 | exact rdH (fun _ _ h => h) mm3 | exact rdH (fun _ _ h => h) mm4 | exact rdH (fun _ _ h => h) mm5 | exact rdH (fun _ _ h => h) mm6 | exact rdH (fun _ _ h => h) mm7 | exact rdH (fun _ _ h => h) mm8 | exact rdH (fun _ _ h => h) mm9 | exact rdH (fun _ _ h => h) mm10 | exact rdH (fun _ _ h => h) mm11) (by omega) (by omega)) ⟨rfl, rfl⟩)) (by intros; rfl) (by intro y y2 h; rfl) ?_
              refine net_read (fun y => [RdR I3 p fr.length fr]) (fun y => [(158, _), (155, _)]) (fun y => rfl) rfl (fun y => rfl) rfl (fun y FF hA => st_want rfl (st_v (r_load (c := (I3)) V.s3 rfl (by first | exact own mm0 | exact own mm1 | exact own mm2 | exact own mm3 | exact own mm4 | exact own mm5 | exact own mm6 | exact own mm7 | exact own mm8 | exact own mm9 | exact own mm10 | exact own mm11 | exact rdH (fun _ _ h => h) mm0 | exact rdH (fun _ _ h => h) mm1 | exact rdH (fun _ _ h => h) mm2 | exact rdH (fun _ _ h => h) mm3 | exact rdH (fun _ _ h => h) mm4 | exact rdH (fun _ _ h => h) mm5 | exact rdH (fun _ _ h => h) mm6 | exact rdH (fun _ _ h => h) mm7 | exact rdH (fun _ _ h => h) mm8 | exact rdH (fun _ _ h => h) mm9 | exact rdH (fun _ _ h => h) mm10 | exact rdH (fun _ _ h => h) mm11) (by omega) (by omega) rfl rfl) ⟨rfl, rfl⟩)) (by intros; rfl) (by intro y y2 h; rfl) ?_
              refine net_pure (fun y => [(159, _), (155, _)]) (fun y => rfl) rfl rfl rfl (fun y hA L => st_want rfl (st_v (v_F (v_gtr rfl rfl) (by omega)) ⟨rfl, rfl⟩)) (by intros; rfl) (by intro y y2 h; rfl) ?_
              refine net_pure (fun y => [(155, _), (160, _)]) (fun y => rfl) rfl rfl rfl (fun y hA L => st_v (v_pickT rfl rfl) ⟨rfl, rfl⟩) (by intros; rfl) (by intro y y2 h; rfl) ?_
              refine net_pure (fun y => [(161, _)]) (fun y => rfl) rfl rfl rfl (fun y hA L => st_v (v_move rfl) ⟨rfl, rfl⟩) (by intros; rfl) (by intro y y2 h; rfl) ?_
              refine net_pure (fun y => [(162, _), (5, _)]) (fun y => rfl) rfl rfl rfl (fun y hA L => st_pass rfl rfl ⟨rfl, rfl⟩) (by intros; rfl) (by intro y y2 h; rfl) ?_
              refine net_pure (fun y => [(162, _), (12, _)]) (fun y => rfl) rfl rfl rfl (fun y hA L => st_pass rfl rfl ⟨rfl, rfl⟩) (by intros; rfl) (by intro y y2 h; rfl) ?_
              refine net_pure (fun y => [(163, _), (164, _), (162, _)]) (fun y => rfl) rfl rfl rfl (fun y hA L => st_pass rfl rfl ⟨rfl, rfl⟩) (by intros; rfl) (by intro y y2 h; rfl) ?_
              refine net_pure (fun y => [(165, _), (162, _)]) (fun y => rfl) rfl rfl rfl (fun y hA L => st_pass rfl rfl ⟨rfl, rfl⟩) (by intros; rfl) (by intro y y2 h; rfl) ?_
              refine net_pure (fun y => [(162, _), (5, _)]) (fun y => rfl) rfl rfl rfl (fun y hA L => st_pass rfl rfl ⟨rfl, rfl⟩) (by intros; rfl) (by intro y y2 h; rfl) ?_
              refine net_pure (fun y => [(162, _), (13, _)]) (fun y => rfl) rfl rfl rfl (fun y hA L => st_pass rfl rfl ⟨rfl, rfl⟩) (by intros; rfl) (by intro y y2 h; rfl) ?_
              refine net_pure (fun y => [(167, _), (168, _), (162, _)]) (fun y => rfl) rfl rfl rfl (fun y hA L => st_pass rfl rfl ⟨rfl, rfl⟩) (by intros; rfl) (by intro y y2 h; rfl) ?_
              refine net_pure (fun y => [(169, _), (162, _)]) (fun y => rfl) rfl rfl rfl (fun y hA L => st_pass rfl rfl ⟨rfl, rfl⟩) (by intros; rfl) (by intro y y2 h; rfl) ?_
              refine net_pure (fun y => [(166, _), (170, _), (162, _)]) (fun y => rfl) rfl rfl rfl (fun y hA L => st_pass rfl rfl ⟨rfl, rfl⟩) (by intros; rfl) (by intro y y2 h; rfl) ?_
              refine net_pure (fun y => [(162, _), (171, _)]) (fun y => rfl) rfl rfl rfl (fun y hA L => st_v (v_pickF rfl rfl) ⟨rfl, rfl⟩) (by intros; rfl) (by intro y y2 h; rfl) ?_
              refine net_pure (fun y => [(172, _)]) (fun y => rfl) rfl rfl rfl (fun y hA L => st_v (v_move rfl) ⟨rfl, rfl⟩) (by intros; rfl) (by intro y y2 h; rfl) ?_
              refine net_pure (fun y => [(173, _), (0, _)]) (fun y => rfl) rfl rfl rfl (fun y hA L => st_want rfl (st_v (v_move rfl) ⟨rfl, rfl⟩)) (by intros; rfl) (by intro y y2 h; rfl) ?_
              refine net_pure (fun y => [(173, _), (13, _)]) (fun y => rfl) rfl rfl rfl (fun y hA L => st_want rfl (st_v (v_move rfl) ⟨rfl, rfl⟩)) (by intros; rfl) (by intro y y2 h; rfl) ?_
              refine net_read (fun y => [RdR I3 p fr.length fr]) (fun y => [(174, _), (175, _), (173, _)]) (fun y => rfl) rfl (fun y => rfl) rfl (fun y FF hA => st_want rfl (st_v (r_index (c := (I3)) V.sl22 rfl rfl (by first | exact own mm0 | exact own mm1 | exact own mm2 | exact own mm3 | exact own mm4 | exact own mm5 | exact own mm6 | exact own mm7 | exact own mm8 | exact own mm9 | exact own mm10 | exact own mm11 | exact rdH (fun _ _ h => h) mm0 | exact rdH (fun _ _ h => h) mm1 | exact rdH (fun _ _ h => h) mm2 | exact rdH (fun _ _ h => h) mm3 | exact rdH (fun _ _ h => h) mm4 | exact rdH (fun _ _ h => h) mm5 | exact rdH (fun _ _ h => h) mm6 | exact rdH (fun _ _ h => h) mm7 | exact rdH (fun _ _ h => h) mm8 | exact rdH (fun _ _ h => h) mm9 | exact rdH (fun _ _ h => h) mm10 | exact rdH (fun _ _ h => h) mm11) (by omega) (by omega)) ⟨rfl, rfl⟩)) (by intros; rfl) (by intro y y2 h; rfl) ?_
              refine net_read (fun y => [RdR I3 p fr.length fr]) (fun y => [(176, _), (173, _)]) (fun y => rfl) rfl (fun y => rfl) rfl (fun y FF hA => st_want rfl (st_v (r_load (c := (I3)) V.s3 rfl (by first | exact own mm0 | exact own mm1 | exact own mm2 | exact own mm3 | exact own mm4 | exact own mm5 | exact own mm6 | exact own mm7 | exact own mm8 | exact own mm9 | exact own mm10 | exact own mm11 | exact rdH (fun _ _ h => h) mm0 | exact rdH (fun _ _ h => h) mm1 | exact rdH (fun _ _ h => h) mm2 | exact rdH (fun _ _ h => h) mm3 | exact rdH (fun _ _ h => h) mm4 | exact rdH (fun _ _ h => h) mm5 | exact rdH (fun _ _ h => h) mm6 | exact rdH (fun _ _ h => h) mm7 | exact rdH (fun _ _ h => h) mm8 | exact rdH (fun _ _ h => h) mm9 | exact rdH (fun _ _ h => h) mm10 | exact rdH (fun _ _ h => h) mm11) (by omega) (by omega) rfl rfl) ⟨rfl, rfl⟩)) (by intros; rfl) (by intro y y2 h; rfl) ?_
              refine net_pure (fun y => [(173, _), (0, _)]) (fun y => rfl) rfl rfl rfl (fun y hA L => st_want rfl (st_v (v_move rfl) ⟨rfl, rfl⟩)) (by intros; rfl) (by intro y y2 h; rfl) ?_
              refine net_pure (fun y => [(173, _), (12, _)]) (fun y => rfl) rfl rfl rfl (fun y hA L => st_want rfl (st_v (v_move rfl) ⟨rfl, rfl⟩)) (by intros; rfl) (by intro y y2 h; rfl) ?_
              refine net_read (fun y => [RdR I3 p fr.length fr]) (fun y => [(178, _), (179, _), (173, _)]) (fun y => rfl) rfl (fun y => rfl) rfl (fun y FF hA => st_want rfl (st_v (r_index (c := (I3)) V.sl22 rfl rfl (by first | exact own mm0 | exact own mm1 | exact own mm2 | exact own mm3 | exact own mm4 | exact own mm5 | exact own mm6 | exact own mm7 | exact own mm8 | exact own mm9 | exact own mm10 | exact own mm11 | exact rdH (fun _ _ h => h) mm0 | exact rdH (fun _ _ h => h) mm1 | exact rdH (fun _ _ h => h) mm2 | exact rdH (fun _ _ h => h) mm3 | exact rdH (fun _ _ h => h) mm4 | exact rdH (fun _ _ h => h) mm5 | exact rdH (fun _ _ h => h) mm6 | exact rdH (fun _ _ h => h) mm7 | exact rdH (fun _ _ h => h) mm8 | exact rdH (fun _ _ h => h) mm9 | exact rdH (fun _ _ h => h) mm10 | exact rdH (fun _ _ h => h) mm11) (by omega) (by omega)) ⟨rfl, rfl⟩)) (by intros; rfl) (by intro y y2 h; rfl) ?_
              refine net_read (fun y => [RdR I3 p fr.length fr]) (fun y => [(180, _), (173, _)]) (fun y => rfl) rfl (fun y => rfl) rfl (fun y FF hA => st_want rfl (st_v (r_load (c := (I3)) V.s3 rfl (by first | exact own mm0 | exact own mm1 | exact own mm2 | exact own mm3 | exact own mm4 | exact own mm5 | exact own mm6 | exact own mm7 | exact own mm8 | exact own mm9 | exact own mm10 | exact own mm11 | exact rdH (fun _ _ h => h) mm0 | exact rdH (fun _ _ h => h) mm1 | exact rdH (fun _ _ h => h) mm2 | exact rdH (fun _ _ h => h) mm3 | exact rdH (fun _ _ h => h) mm4 | exact rdH (fun _ _ h => h) mm5 | exact rdH (fun _ _ h => h) mm6 | exact rdH (fun _ _ h => h) mm7 | exact rdH (fun _ _ h => h) mm8 | exact rdH (fun _ _ h => h) mm9 | exact rdH (fun _ _ h => h) mm10 | exact rdH (fun _ _ h => h) mm11) (by omega) (by omega) rfl rfl) ⟨rfl, rfl⟩)) (by intros; rfl) (by intro y y2 h; rfl) ?_
              refine net_pure (fun y => [(177, _), (181, _), (173, _)]) (fun y => rfl) rfl rfl rfl (fun y hA L => st_want rfl (st_v (v_F (v_gtr rfl rfl) (by omega)) ⟨rfl, rfl⟩)) (by intros; rfl) (by intro y y2 h; rfl) ?_
              refine net_pure (fun y => [(182, _), (173, _)]) (fun y => rfl) rfl rfl rfl (fun y hA L => st_want rfl (st_v (v_move rfl) ⟨rfl, rfl⟩)) (by intros; rfl) (by intro y y2 h; rfl) ?_
              refine net_pure (fun y => [(183, _), (0, _)]) (fun y => rfl) rfl rfl rfl (fun y hA L => st_pass rfl rfl ⟨rfl, rfl⟩) (by intros; rfl) (by intro y y2 h; rfl) ?_
              refine net_pure (fun y => [(183, _), (12, _)]) (fun y => rfl) rfl rfl rfl (fun y hA L => st_pass rfl rfl ⟨rfl, rfl⟩) (by intros; rfl) (by intro y y2 h; rfl) ?_
              refine net_pure (fun y => [(184, _), (185, _), (183, _)]) (fun y => rfl) rfl rfl rfl (fun y hA L => st_pass rfl rfl ⟨rfl, rfl⟩) (by intros; rfl) (by intro y y2 h; rfl) ?_
              refine net_pure (fun y => [(186, _), (183, _)]) (fun y => rfl) rfl rfl rfl (fun y hA L => st_pass rfl rfl ⟨rfl, rfl⟩) (by intros; rfl) (by intro y y2 h; rfl) ?_
              refine net_pure (fun y => [(187, _), (183, _)]) (fun y => rfl) rfl rfl rfl (fun y hA L => st_pass rfl rfl ⟨rfl, rfl⟩) (by intros; rfl) (by intro y y2 h; rfl) ?_
              refine net_pure (fun y => [(183, _), (188, _), (173, _)]) (fun y => rfl) rfl rfl rfl (fun y hA L => st_want rfl (st_v (v_pickF rfl rfl) ⟨rfl, rfl⟩)) (by intros; rfl) (by intro y y2 h; rfl) ?_
              refine net_pure (fun y => [(189, _), (173, _)]) (fun y => rfl) rfl rfl rfl (fun y hA L => st_want rfl (st_v (v_move rfl) ⟨rfl, rfl⟩)) (by intros; rfl) (by intro y y2 h; rfl) ?_
              refine net_pure (fun y => [(190, _), (5, _)]) (fun y => rfl) rfl rfl rfl (fun y hA L => st_pass rfl rfl ⟨rfl, rfl⟩) (by intros; rfl) (by intro y y2 h; rfl) ?_
              refine net_pure (fun y => [(190, _), (13, _)]) (fun y => rfl) rfl rfl rfl (fun y hA L => st_pass rfl rfl ⟨rfl, rfl⟩) (by intros; rfl) (by intro y y2 h; rfl) ?_
              refine net_pure (fun y => [(191, _), (192, _), (190, _)]) (fun y => rfl) rfl rfl rfl (fun y hA L => st_pass rfl rfl ⟨rfl, rfl⟩) (by intros; rfl) (by intro y y2 h; rfl) ?_
              refine net_pure (fun y => [(193, _), (190, _)]) (fun y => rfl) rfl rfl rfl (fun y hA L => st_pass rfl rfl ⟨rfl, rfl⟩) (by intros; rfl) (by intro y y2 h; rfl) ?_
              refine net_pure (fun y => [(190, _), (5, _)]) (fun y => rfl) rfl rfl rfl (fun y hA L => st_pass rfl rfl ⟨rfl, rfl⟩) (by intros; rfl) (by intro y y2 h; rfl) ?_
              refine net_pure (fun y => [(190, _), (12, _)]) (fun y => rfl) rfl rfl rfl (fun y hA L => st_pass rfl rfl ⟨rfl, rfl⟩) (by intros; rfl) (by intro y y2 h; rfl) ?_
              refine net_pure (fun y => [(195, _), (196, _), (190, _)]) (fun y => rfl) rfl rfl rfl (fun y hA L => st_pass rfl rfl ⟨rfl, rfl⟩) (by intros; rfl) (by intro y y2 h; rfl) ?_
              refine net_pure (fun y => [(197, _), (190, _)]) (fun y => rfl) rfl rfl rfl (fun y hA L => st_pass rfl rfl ⟨rfl, rfl⟩) (by intros; rfl) (by intro y y2 h; rfl) ?_
              refine net_pure (fun y => [(194, _), (198, _), (190, _)]) (fun y => rfl) rfl rfl rfl (fun y hA L => st_pass rfl rfl ⟨rfl, rfl⟩) (by intros; rfl) (by intro y y2 h; rfl) ?_
              refine net_pure (fun y => [(190, _), (199, _), (173, _)]) (fun y => rfl) rfl rfl rfl (fun y hA L => st_want rfl (st_v (v_pickF rfl rfl) ⟨rfl, rfl⟩)) (by intros; rfl) (by intro y y2 h; rfl) ?_
              refine net_pure (fun y => [(173, _), (200, _)]) (fun y => rfl) rfl rfl rfl (fun y hA L => st_v (v_pickF rfl rfl) ⟨rfl, rfl⟩) (by intros; rfl) (by intro y y2 h; rfl) ?_
              refine net_nil ?_
              intro y hA
              clear hA
              refine thn_n ?_
              refine w_keep _ (.cons (d := 0) rfl (.cons (d := 1) rfl (.cons (d := 5) rfl (.cons (d := 7) rfl (.cons (d := 12) rfl (.cons (d := 13) rfl (.cons (d := 201) rfl (.nil _)))))))) ?_
              refine w_sub (M := RC br o :: Row I3 (some ⟨bo, 0, none⟩) fr.length fr.length o :: RdR I3 p fr.length fr :: F) (fun _ _ h => h) ?_
              refine w_condF rfl ?_
              refine w_skip ?_
              refine blk_n ?_
              refine thn_n ?_
              refine w_region ?_
              refine o_val (v_move rfl) rfl ?_
              refine o_val (v_add rfl rfl (wrapI (by omega) (by omega))) rfl ?_
              refine o_val (v_assign rfl) rfl ?_
              refine o_nil ?_
              refine j1 (j + 1) ?_ (.cons rfl (.cons rfl (.cons rfl (.cons rfl (.cons rfl (.cons rfl (.nil _))))))) (sub (.cons (by repeat first | exact .head | apply Rem.tail) (.cons (by repeat first | exact .head | apply Rem.tail) (.cons (by repeat first | exact .head | apply Rem.tail) .nil))) (by repeat first | exact .refl | apply Drop.skip))
              exact ⟨by omega, by omega⟩
            ·
              refine w_seq ?_
              have hj2 : j < i := by omega
              have hi2 : i < fr.length := by omega
              have eo : I3.g o (i : Int) = o.getD i 0 := by simp [Ec.g]
              have ef : I3.g fr (i : Int) = fr.getD i 0 := by simp [Ec.g]
              have eo2 : I3.g o (j : Int) = o.getD j 0 := by simp [Ec.g]
              have ef2 : I3.g fr (j : Int) = fr.getD j 0 := by simp [Ec.g]
              refine w_net [⟨[], [], [0], 0, 0⟩, ⟨[], [], [12], 0, 0⟩, ⟨[0, 1], [0, 1], [], 0, 0⟩, ⟨[0, 1, 2], [2], [], 0, 0⟩, ⟨[], [], [0], 0, 0⟩, ⟨[], [], [13], 0, 0⟩, ⟨[4, 5], [4, 5], [], 0, 0⟩, ⟨[4, 5, 6], [6], [], 0, 0⟩, ⟨[0, 1, 2, 3, 4, 5, 6, 7], [3, 7], [], 0, 0⟩, ⟨[0, 1, 2, 3, 4, 5, 6, 7, 8], [8], [], 0, 0⟩, ⟨[0, 1, 2, 3, 4, 5, 6, 7, 8, 9], [9], [0], 0, 0⟩, ⟨[0, 1, 2, 3, 4, 5, 6, 7, 8, 9], [9], [13], 0, 0⟩, ⟨[0, 1, 2, 3, 4, 5, 6, 7, 8, 9, 10, 11], [10, 11, 9], [], 0, 0⟩, ⟨[0, 1, 2, 3, 4, 5, 6, 7, 8, 9, 10, 11, 12], [12, 9], [], 0, 0⟩, ⟨[0, 1, 2, 3, 4, 5, 6, 7, 8, 9, 10, 11, 12, 13], [13, 9], [], 0, 0⟩, ⟨[0, 1, 2, 3, 4, 5, 6, 7, 8, 9, 10, 11, 12, 13, 14], [9, 14], [], 0, 0⟩, ⟨[0, 1, 2, 3, 4, 5, 6, 7, 8, 9, 10, 11, 12, 13, 14, 15], [15], [], 0, 0⟩, ⟨[0, 1, 2, 3, 4, 5, 6, 7, 8, 9, 10, 11, 12, 13, 14, 15, 16], [16], [5], 0, 0⟩, ⟨[0, 1, 2, 3, 4, 5, 6, 7, 8, 9, 10, 11, 12, 13, 14, 15, 16], [16], [12], 0, 0⟩, ⟨[0, 1, 2, 3, 4, 5, 6, 7, 8, 9, 10, 11, 12, 13, 14, 15, 16, 17, 18], [17, 18, 16], [], 0, 0⟩, ⟨[0, 1, 2, 3, 4, 5, 6, 7, 8, 9, 10, 11, 12, 13, 14, 15, 16, 17, 18, 19], [19, 16], [], 0, 0⟩, ⟨[0, 1, 2, 3, 4, 5, 6, 7, 8, 9, 10, 11, 12, 13, 14, 15, 16], [16], [5], 0, 0⟩, ⟨[0, 1, 2, 3, 4, 5, 6, 7, 8, 9, 10, 11, 12, 13, 14, 15, 16], [16], [13], 0, 0⟩, ⟨[0, 1, 2, 3, 4, 5, 6, 7, 8, 9, 10, 11, 12, 13, 14, 15, 16, 21, 22], [21, 22, 16], [], 0, 0⟩, ⟨[0, 1, 2, 3, 4, 5, 6, 7, 8, 9, 10, 11, 12, 13, 14, 15, 16, 21, 22, 23], [23, 16], [], 0, 0⟩, ⟨[0, 1, 2, 3, 4, 5, 6, 7, 8, 9, 10, 11, 12, 13, 14, 15, 16, 17, 18, 19, 20, 21, 22, 23, 24], [20, 24, 16], [], 0, 0⟩, ⟨[0, 1, 2, 3, 4, 5, 6, 7, 8, 9, 10, 11, 12, 13, 14, 15, 16, 17, 18, 19, 20, 21, 22, 23, 24, 25], [16, 25], [], 0, 0⟩, ⟨[0, 1, 2, 3, 4, 5, 6, 7, 8, 9, 10, 11, 12, 13, 14, 15, 16, 17, 18, 19, 20, 21, 22, 23, 24, 25, 26], [26], [], 0, 0⟩, ⟨[0, 1, 2, 3, 4, 5, 6, 7, 8, 9, 10, 11, 12, 13, 14, 15, 16, 17, 18, 19, 20, 21, 22, 23, 24, 25, 26, 27], [27], [0], 0, 0⟩, ⟨[0, 1, 2, 3, 4, 5, 6, 7, 8, 9, 10, 11, 12, 13, 14, 15, 16, 17, 18, 19, 20, 21, 22, 23, 24, 25, 26, 27], [27], [13], 0, 0⟩, ⟨[0, 1, 2, 3, 4, 5, 6, 7, 8, 9, 10, 11, 12, 13, 14, 15, 16, 17, 18, 19, 20, 21, 22, 23, 24, 25, 26, 27, 28, 29], [28, 29, 27], [], 0, 0⟩, ⟨[0, 1, 2, 3, 4, 5, 6, 7, 8, 9, 10, 11, 12, 13, 14, 15, 16, 17, 18, 19, 20, 21, 22, 23, 24, 25, 26, 27, 28, 29, 30], [30, 27], [], 0, 0⟩, ⟨[0, 1, 2, 3, 4, 5, 6, 7, 8, 9, 10, 11, 12, 13, 14, 15, 16, 17, 18, 19, 20, 21, 22, 23, 24, 25, 26, 27], [27], [0], 0, 0⟩, ⟨[0, 1, 2, 3, 4, 5, 6, 7, 8, 9, 10, 11, 12, 13, 14, 15, 16, 17, 18, 19, 20, 21, 22, 23, 24, 25, 26, 27], [27], [12], 0, 0⟩, ⟨[0, 1, 2, 3, 4, 5, 6, 7, 8, 9, 10, 11, 12, 13, 14, 15, 16, 17, 18, 19, 20, 21, 22, 23, 24, 25, 26, 27, 32, 33], [32, 33, 27], [], 0, 0⟩, ⟨[0, 1, 2, 3, 4, 5, 6, 7, 8, 9, 10, 11, 12, 13, 14, 15, 16, 17, 18, 19, 20, 21, 22, 23, 24, 25, 26, 27, 32, 33, 34], [34, 27], [], 0, 0⟩, ⟨[0, 1, 2, 3, 4, 5, 6, 7, 8, 9, 10, 11, 12, 13, 14, 15, 16, 17, 18, 19, 20, 21, 22, 23, 24, 25, 26, 27, 28, 29, 30, 31, 32, 33, 34, 35], [31, 35, 27], [], 0, 0⟩, ⟨[0, 1, 2, 3, 4, 5, 6, 7, 8, 9, 10, 11, 12, 13, 14, 15, 16, 17, 18, 19, 20, 21, 22, 23, 24, 25, 26, 27, 28, 29, 30, 31, 32, 33, 34, 35, 36], [36, 27], [], 0, 0⟩, ⟨[0, 1, 2, 3, 4, 5, 6, 7, 8, 9, 10, 11, 12, 13, 14, 15, 16, 17, 18, 19, 20, 21, 22, 23, 24, 25, 26, 27, 28, 29, 30, 31, 32, 33, 34, 35, 36, 37], [37], [0], 0, 0⟩, ⟨[0, 1, 2, 3, 4, 5, 6, 7, 8, 9, 10, 11, 12, 13, 14, 15, 16, 17, 18, 19, 20, 21, 22, 23, 24, 25, 26, 27, 28, 29, 30, 31, 32, 33, 34, 35, 36, 37], [37], [12], 0, 0⟩, ⟨[0, 1, 2, 3, 4, 5, 6, 7, 8, 9, 10, 11, 12, 13, 14, 15, 16, 17, 18, 19, 20, 21, 22, 23, 24, 25, 26, 27, 28, 29, 30, 31, 32, 33, 34, 35, 36, 37, 38, 39], [38, 39, 37], [], 0, 0⟩, ⟨[0, 1, 2, 3, 4, 5, 6, 7, 8, 9, 10, 11, 12, 13, 14, 15, 16, 17, 18, 19, 20, 21, 22, 23, 24, 25, 26, 27, 28, 29, 30, 31, 32, 33, 34, 35, 36, 37, 38, 39, 40], [40, 37], [], 0, 0⟩, ⟨[0, 1, 2, 3, 4, 5, 6, 7, 8, 9, 10, 11, 12, 13, 14, 15, 16, 17, 18, 19, 20, 21, 22, 23, 24, 25, 26, 27, 28, 29, 30, 31, 32, 33, 34, 35, 36, 37, 38, 39, 40, 41], [41, 37], [], 0, 0⟩, ⟨[0, 1, 2, 3, 4, 5, 6, 7, 8, 9, 10, 11, 12, 13, 14, 15, 16, 17, 18, 19, 20, 21, 22, 23, 24, 25, 26, 27, 28, 29, 30, 31, 32, 33, 34, 35, 36, 37, 38, 39, 40, 41, 42], [37, 42, 27], [], 0, 0⟩, ⟨[0, 1, 2, 3, 4, 5, 6, 7, 8, 9, 10, 11, 12, 13, 14, 15, 16, 17, 18, 19, 20, 21, 22, 23, 24, 25, 26, 27, 28, 29, 30, 31, 32, 33, 34, 35, 36, 37, 38, 39, 40, 41, 42, 43], [43, 27], [], 0, 0⟩, ⟨[0, 1, 2, 3, 4, 5, 6, 7, 8, 9, 10, 11, 12, 13, 14, 15, 16, 17, 18, 19, 20, 21, 22, 23, 24, 25, 26, 27, 28, 29, 30, 31, 32, 33, 34, 35, 36, 37, 38, 39, 40, 41, 42, 43, 44], [44], [5], 0, 0⟩, ⟨[0, 1, 2, 3, 4, 5, 6, 7, 8, 9, 10, 11, 12, 13, 14, 15, 16, 17, 18, 19, 20, 21, 22, 23, 24, 25, 26, 27, 28, 29, 30, 31, 32, 33, 34, 35, 36, 37, 38, 39, 40, 41, 42, 43, 44], [44], [13], 0, 0⟩, ⟨[0, 1, 2, 3, 4, 5, 6, 7, 8, 9, 10, 11, 12, 13, 14, 15, 16, 17, 18, 19, 20, 21, 22, 23, 24, 25, 26, 27, 28, 29, 30, 31, 32, 33, 34, 35, 36, 37, 38, 39, 40, 41, 42, 43, 44, 45, 46], [45, 46, 44], [], 0, 0⟩, ⟨[0, 1, 2, 3, 4, 5, 6, 7, 8, 9, 10, 11, 12, 13, 14, 15, 16, 17, 18, 19, 20, 21, 22, 23, 24, 25, 26, 27, 28, 29, 30, 31, 32, 33, 34, 35, 36, 37, 38, 39, 40, 41, 42, 43, 44, 45, 46, 47], [47, 44], [], 0, 0⟩, ⟨[0, 1, 2, 3, 4, 5, 6, 7, 8, 9, 10, 11, 12, 13, 14, 15, 16, 17, 18, 19, 20, 21, 22, 23, 24, 25, 26, 27, 28, 29, 30, 31, 32, 33, 34, 35, 36, 37, 38, 39, 40, 41, 42, 43, 44], [44], [5], 0, 0⟩, ⟨[0, 1, 2, 3, 4, 5, 6, 7, 8, 9, 10, 11, 12, 13, 14, 15, 16, 17, 18, 19, 20, 21, 22, 23, 24, 25, 26, 27, 28, 29, 30, 31, 32, 33, 34, 35, 36, 37, 38, 39, 40, 41, 42, 43, 44], [44], [12], 0, 0⟩, ⟨[0, 1, 2, 3, 4, 5, 6, 7, 8, 9, 10, 11, 12, 13, 14, 15, 16, 17, 18, 19, 20, 21, 22, 23, 24, 25, 26, 27, 28, 29, 30, 31, 32, 33, 34, 35, 36, 37, 38, 39, 40, 41, 42, 43, 44, 49, 50], [49, 50, 44], [], 0, 0⟩, ⟨[0, 1, 2, 3, 4, 5, 6, 7, 8, 9, 10, 11, 12, 13, 14, 15, 16, 17, 18, 19, 20, 21, 22, 23, 24, 25, 26, 27, 28, 29, 30, 31, 32, 33, 34, 35, 36, 37, 38, 39, 40, 41, 42, 43, 44, 49, 50, 51], [51, 44], [], 0, 0⟩, ⟨[0, 1, 2, 3, 4, 5, 6, 7, 8, 9, 10, 11, 12, 13, 14, 15, 16, 17, 18, 19, 20, 21, 22, 23, 24, 25, 26, 27, 28, 29, 30, 31, 32, 33, 34, 35, 36, 37, 38, 39, 40, 41, 42, 43, 44, 45, 46, 47, 48, 49, 50, 51, 52], [48, 52, 44], [], 0, 0⟩, ⟨[0, 1, 2, 3, 4, 5, 6, 7, 8, 9, 10, 11, 12, 13, 14, 15, 16, 17, 18, 19, 20, 21, 22, 23, 24, 25, 26, 27, 28, 29, 30, 31, 32, 33, 34, 35, 36, 37, 38, 39, 40, 41, 42, 43, 44, 45, 46, 47, 48, 49, 50, 51, 52, 53], [44, 53, 27], [], 0, 0⟩, ⟨[0, 1, 2, 3, 4, 5, 6, 7, 8, 9, 10, 11, 12, 13, 14, 15, 16, 17, 18, 19, 20, 21, 22, 23, 24, 25, 26, 27, 28, 29, 30, 31, 32, 33, 34, 35, 36, 37, 38, 39, 40, 41, 42, 43, 44, 45, 46, 47, 48, 49, 50, 51, 52, 53, 54], [27, 54], [], 0, 0⟩] [⟨fun y => RC br o, none, none, []⟩, ⟨fun y => Row I3 (some ⟨bo, 0, none⟩) fr.length fr.length o, none, none, [47, 48, 51, 52]⟩, ⟨fun y => RdR I3 p fr.length fr, none, none, [2, 3, 6, 7, 30, 31, 34, 35, 40, 41]⟩] F V.mixed (by kernel_rfl) rfl (fun _ => .refl _) (locT_0 _ (locT_0 _ (locT_0 _ locT_nil))) ?_
              refine net_pure (fun y => [(0, _)]) (fun y => rfl) rfl rfl rfl (fun y hA L => st_v (v_move rfl) ⟨rfl, rfl⟩) (by intros; rfl) (by intro y y2 h; rfl) ?_
              refine net_pure (fun y => [(12, _)]) (fun y => rfl) rfl rfl rfl (fun y hA L => st_v (v_move rfl) ⟨rfl, rfl⟩) (by intros; rfl) (by intro y y2 h; rfl) ?_
              refine net_read (fun y => [RdR I3 p fr.length fr]) (fun y => [(146, _), (147, _)]) (fun y => rfl) rfl (fun y => rfl) rfl (fun y FF hA => st_v (r_index (c := (I3)) V.sl22 rfl rfl (by first | exact own mm0 | exact own mm1 | exact own mm2 | exact own mm3 | exact own mm4 | exact own mm5 | exact own mm6 | exact own mm7 | exact own mm8 | exact own mm9 | exact own mm10 | exact own mm11 | exact rdH (fun _ _ h => h) mm0 | exact rdH (fun _ _ h => h) mm1 | exact rdH (fun _ _ h => h) mm2 | exact rdH (fun _ _ h => h) mm3 | exact rdH (fun _ _ h => h) mm4 | exact rdH (fun _ _ h => h) mm5 | exact rdH (fun _ _ h => h) mm6 | exact rdH (fun _ _ h => h) mm7 | exact rdH (fun _ _ h => h) mm8 | exact rdH (fun _ _ h => h) mm9 | exact rdH (fun _ _ h => h) mm10 | exact rdH (fun _ _ h => h) mm11) (by omega) (by omega)) ⟨rfl, rfl⟩) (by intros; rfl) (by intro y y2 h; rfl) ?_
              refine net_read (fun y => [RdR I3 p fr.length fr]) (fun y => [(148, _)]) (fun y => rfl) rfl (fun y => rfl) rfl (fun y FF hA => st_v (r_load (c := (I3)) V.s3 rfl (by first | exact own mm0 | exact own mm1 | exact own mm2 | exact own mm3 | exact own mm4 | exact own mm5 | exact own mm6 | exact own mm7 | exact own mm8 | exact own mm9 | exact own mm10 | exact own mm11 | exact rdH (fun _ _ h => h) mm0 | exact rdH (fun _ _ h => h) mm1 | exact rdH (fun _ _ h => h) mm2 | exact rdH (fun _ _ h => h) mm3 | exact rdH (fun _ _ h => h) mm4 | exact rdH (fun _ _ h => h) mm5 | exact rdH (fun _ _ h => h) mm6 | exact rdH (fun _ _ h => h) mm7 | exact rdH (fun _ _ h => h) mm8 | exact rdH (fun _ _ h => h) mm9 | exact rdH (fun _ _ h => h) mm10 | exact rdH (fun _ _ h => h) mm11) (by omega) (by omega) rfl rfl) ⟨rfl, rfl⟩) (by intros; rfl) (by intro y y2 h; rfl) ?_
              refine net_pure (fun y => [(0, _)]) (fun y => rfl) rfl rfl rfl (fun y hA L => st_v (v_move rfl) ⟨rfl, rfl⟩) (by intros; rfl) (by intro y y2 h; rfl) ?_
              refine net_pure (fun y => [(13, _)]) (fun y => rfl) rfl rfl rfl (fun y hA L => st_v (v_move rfl) ⟨rfl, rfl⟩) (by intros; rfl) (by intro y y2 h; rfl) ?_
              refine net_read (fun y => [RdR I3 p fr.length fr]) (fun y => [(150, _), (151, _)]) (fun y => rfl) rfl (fun y => rfl) rfl (fun y FF hA => st_v (r_index (c := (I3)) V.sl22 rfl rfl (by first | exact own mm0 | exact own mm1 | exact own mm2 | exact own mm3 | exact own mm4 | exact own mm5 | exact own mm6 | exact own mm7 | exact own mm8 | exact own mm9 | exact own mm10 | exact own mm11 | exact rdH (fun _ _ h => h) mm0 | exact rdH (fun _ _ h => h) mm1 | exact rdH (fun _ _ h => h) mm2 | exact rdH (fun _ _ h => h) mm3 | exact rdH (fun _ _ h => h) mm4 | exact rdH (fun _ _ h => h) mm5 | exact rdH (fun _ _ h => h) mm6 | exact rdH (fun _ _ h => h) mm7 | exact rdH (fun _ _ h => h) mm8 | exact rdH (fun _ _ h => h) mm9 | exact rdH (fun _ _ h => h) mm10 | exact rdH (fun _ _ h => h) mm11) (by omega) (by omega)) ⟨rfl, rfl⟩) (by intros; rfl) (by intro y y2 h; rfl) ?_
              refine net_read (fun y => [RdR I3 p fr.length fr]) (fun y => [(152, _)]) (fun y => rfl) rfl (fun y => rfl) rfl (fun y FF hA => st_v (r_load (c := (I3)) V.s3 rfl (by first | exact own mm0 | exact own mm1 | exact own mm2 | exact own mm3 | exact own mm4 | exact own mm5 | exact own mm6 | exact own mm7 | exact own mm8 | exact own mm9 | exact own mm10 | exact own mm11 | exact rdH (fun _ _ h => h) mm0 | exact rdH (fun _ _ h => h) mm1 | exact rdH (fun _ _ h => h) mm2 | exact rdH (fun _ _ h => h) mm3 | exact rdH (fun _ _ h => h) mm4 | exact rdH (fun _ _ h => h) mm5 | exact rdH (fun _ _ h => h) mm6 | exact rdH (fun _ _ h => h) mm7 | exact rdH (fun _ _ h => h) mm8 | exact rdH (fun _ _ h => h) mm9 | exact rdH (fun _ _ h => h) mm10 | exact rdH (fun _ _ h => h) mm11) (by omega) (by omega) rfl rfl) ⟨rfl, rfl⟩) (by intros; rfl) (by intro y y2 h; rfl) ?_
              refine net_pure (fun y => [(149, _), (153, _)]) (fun y => rfl) rfl rfl rfl (fun y hA L => st_v (v_F (v_gtr rfl rfl) (by omega)) ⟨rfl, rfl⟩) (by intros; rfl) (by intro y y2 h; rfl) ?_
              refine net_pure (fun y => [(154, _)]) (fun y => rfl) rfl rfl rfl (fun y hA L => st_v (v_move rfl) ⟨rfl, rfl⟩) (by intros; rfl) (by intro y y2 h; rfl) ?_
              refine net_pure (fun y => [(155, _), (0, _)]) (fun y => rfl) rfl rfl rfl (fun y hA L => st_pass rfl rfl ⟨rfl, rfl⟩) (by intros; rfl) (by intro y y2 h; rfl) ?_
              refine net_pure (fun y => [(155, _), (13, _)]) (fun y => rfl) rfl rfl rfl (fun y hA L => st_pass rfl rfl ⟨rfl, rfl⟩) (by intros; rfl) (by intro y y2 h; rfl) ?_
              refine net_pure (fun y => [(156, _), (157, _), (155, _)]) (fun y => rfl) rfl rfl rfl (fun y hA L => st_pass rfl rfl ⟨rfl, rfl⟩) (by intros; rfl) (by intro y y2 h; rfl) ?_
              refine net_pure (fun y => [(158, _), (155, _)]) (fun y => rfl) rfl rfl rfl (fun y hA L => st_pass rfl rfl ⟨rfl, rfl⟩) (by intros; rfl) (by intro y y2 h; rfl) ?_
              refine net_pure (fun y => [(159, _), (155, _)]) (fun y => rfl) rfl rfl rfl (fun y hA L => st_pass rfl rfl ⟨rfl, rfl⟩) (by intros; rfl) (by intro y y2 h; rfl) ?_
              refine net_pure (fun y => [(155, _), (160, _)]) (fun y => rfl) rfl rfl rfl (fun y hA L => st_v (v_pickF rfl rfl) ⟨rfl, rfl⟩) (by intros; rfl) (by intro y y2 h; rfl) ?_
              refine net_pure (fun y => [(161, _)]) (fun y => rfl) rfl rfl rfl (fun y hA L => st_v (v_move rfl) ⟨rfl, rfl⟩) (by intros; rfl) (by intro y y2 h; rfl) ?_
              refine net_pure (fun y => [(162, _), (5, _)]) (fun y => rfl) rfl rfl rfl (fun y hA L => st_pass rfl rfl ⟨rfl, rfl⟩) (by intros; rfl) (by intro y y2 h; rfl) ?_
              refine net_pure (fun y => [(162, _), (12, _)]) (fun y => rfl) rfl rfl rfl (fun y hA L => st_pass rfl rfl ⟨rfl, rfl⟩) (by intros; rfl) (by intro y y2 h; rfl) ?_
              refine net_pure (fun y => [(163, _), (164, _), (162, _)]) (fun y => rfl) rfl rfl rfl (fun y hA L => st_pass rfl rfl ⟨rfl, rfl⟩) (by intros; rfl) (by intro y y2 h; rfl) ?_
              refine net_pure (fun y => [(165, _), (162, _)]) (fun y => rfl) rfl rfl rfl (fun y hA L => st_pass rfl rfl ⟨rfl, rfl⟩) (by intros; rfl) (by intro y y2 h; rfl) ?_
              refine net_pure (fun y => [(162, _), (5, _)]) (fun y => rfl) rfl rfl rfl (fun y hA L => st_pass rfl rfl ⟨rfl, rfl⟩) (by intros; rfl) (by intro y y2 h; rfl) ?_
              refine net_pure (fun y => [(162, _), (13, _)]) (fun y => rfl) rfl rfl rfl (fun y hA L => st_pass rfl rfl ⟨rfl, rfl⟩) (by intros; rfl) (by intro y y2 h; rfl) ?_
              refine net_pure (fun y => [(167, _), (168, _), (162, _)]) (fun y => rfl) rfl rfl rfl (fun y hA L => st_pass rfl rfl ⟨rfl, rfl⟩) (by intros; rfl) (by intro y y2 h; rfl) ?_
              refine net_pure (fun y => [(169, _), (162, _)]) (fun y => rfl) rfl rfl rfl (fun y hA L => st_pass rfl rfl ⟨rfl, rfl⟩) (by intros; rfl) (by intro y y2 h; rfl) ?_
              refine net_pure (fun y => [(166, _), (170, _), (162, _)]) (fun y => rfl) rfl rfl rfl (fun y hA L => st_pass rfl rfl ⟨rfl, rfl⟩) (by intros; rfl) (by intro y y2 h; rfl) ?_
              refine net_pure (fun y => [(162, _), (171, _)]) (fun y => rfl) rfl rfl rfl (fun y hA L => st_v (v_pickF rfl rfl) ⟨rfl, rfl⟩) (by intros; rfl) (by intro y y2 h; rfl) ?_
              refine net_pure (fun y => [(172, _)]) (fun y => rfl) rfl rfl rfl (fun y hA L => st_v (v_move rfl) ⟨rfl, rfl⟩) (by intros; rfl) (by intro y y2 h; rfl) ?_
              refine net_pure (fun y => [(173, _), (0, _)]) (fun y => rfl) rfl rfl rfl (fun y hA L => st_want rfl (st_v (v_move rfl) ⟨rfl, rfl⟩)) (by intros; rfl) (by intro y y2 h; rfl) ?_
              refine net_pure (fun y => [(173, _), (13, _)]) (fun y => rfl) rfl rfl rfl (fun y hA L => st_want rfl (st_v (v_move rfl) ⟨rfl, rfl⟩)) (by intros; rfl) (by intro y y2 h; rfl) ?_
              refine net_read (fun y => [RdR I3 p fr.length fr]) (fun y => [(174, _), (175, _), (173, _)]) (fun y => rfl) rfl (fun y => rfl) rfl (fun y FF hA => st_want rfl (st_v (r_index (c := (I3)) V.sl22 rfl rfl (by first | exact own mm0 | exact own mm1 | exact own mm2 | exact own mm3 | exact own mm4 | exact own mm5 | exact own mm6 | exact own mm7 | exact own mm8 | exact own mm9 | exact own mm10 | exact own mm11 | exact rdH (fun _ _ h => h) mm0 | exact rdH (fun _ _ h => h) mm1 | exact rdH (fun _ _ h => h) mm2 | exact rdH (fun _ _ h => h) mm3 | exact rdH (fun _ _ h => h) mm4 | exact rdH (fun _ _ h => h) mm5 | exact rdH (fun _ _ h => h) mm6 | exact rdH (fun _ _ h => h) mm7 | exact rdH (fun _ _ h => h) mm8 | exact rdH (fun _ _ h => h) mm9 | exact rdH (fun _ _ h => h) mm10 | exact rdH (fun _ _ h => h) mm11) (by omega) (by omega)) ⟨rfl, rfl⟩)) (by intros; rfl) (by intro y y2 h; rfl) ?_
              refine net_read (fun y => [RdR I3 p fr.length fr]) (fun y => [(176, _), (173, _)]) (fun y => rfl) rfl (fun y => rfl) rfl (fun y FF hA => st_want rfl (st_v (r_load (c := (I3)) V.s3 rfl (by first | exact own mm0 | exact own mm1 | exact own mm2 | exact own mm3 | exact own mm4 | exact own mm5 | exact own mm6 | exact own mm7 | exact own mm8 | exact own mm9 | exact own mm10 | exact own mm11 | exact rdH (fun _ _ h => h) mm0 | exact rdH (fun _ _ h => h) mm1 | exact rdH (fun _ _ h => h) mm2 | exact rdH (fun _ _ h => h) mm3 | exact rdH (fun _ _ h => h) mm4 | exact rdH (fun _ _ h => h) mm5 | exact rdH (fun _ _ h => h) mm6 | exact rdH (fun _ _ h => h) mm7 | exact rdH (fun _ _ h => h) mm8 | exact rdH (fun _ _ h => h) mm9 | exact rdH (fun _ _ h => h) mm10 | exact rdH (fun _ _ h => h) mm11) (by omega) (by omega) rfl rfl) ⟨rfl, rfl⟩)) (by intros; rfl) (by intro y y2 h; rfl) ?_
              refine net_pure (fun y => [(173, _), (0, _)]) (fun y => rfl) rfl rfl rfl (fun y hA L => st_want rfl (st_v (v_move rfl) ⟨rfl, rfl⟩)) (by intros; rfl) (by intro y y2 h; rfl) ?_
              refine net_pure (fun y => [(173, _), (12, _)]) (fun y => rfl) rfl rfl rfl (fun y hA L => st_want rfl (st_v (v_move rfl) ⟨rfl, rfl⟩)) (by intros; rfl) (by intro y y2 h; rfl) ?_
              refine net_read (fun y => [RdR I3 p fr.length fr]) (fun y => [(178, _), (179, _), (173, _)]) (fun y => rfl) rfl (fun y => rfl) rfl (fun y FF hA => st_want rfl (st_v (r_index (c := (I3)) V.sl22 rfl rfl (by first | exact own mm0 | exact own mm1 | exact own mm2 | exact own mm3 | exact own mm4 | exact own mm5 | exact own mm6 | exact own mm7 | exact own mm8 | exact own mm9 | exact own mm10 | exact own mm11 | exact rdH (fun _ _ h => h) mm0 | exact rdH (fun _ _ h => h) mm1 | exact rdH (fun _ _ h => h) mm2 | exact rdH (fun _ _ h => h) mm3 | exact rdH (fun _ _ h => h) mm4 | exact rdH (fun _ _ h => h) mm5 | exact rdH (fun _ _ h => h) mm6 | exact rdH (fun _ _ h => h) mm7 | exact rdH (fun _ _ h => h) mm8 | exact rdH (fun _ _ h => h) mm9 | exact rdH (fun _ _ h => h) mm10 | exact rdH (fun _ _ h => h) mm11) (by omega) (by omega)) ⟨rfl, rfl⟩)) (by intros; rfl) (by intro y y2 h; rfl) ?_
              refine net_read (fun y => [RdR I3 p fr.length fr]) (fun y => [(180, _), (173, _)]) (fun y => rfl) rfl (fun y => rfl) rfl (fun y FF hA => st_want rfl (st_v (r_load (c := (I3)) V.s3 rfl (by first | exact own mm0 | exact own mm1 | exact own mm2 | exact own mm3 | exact own mm4 | exact own mm5 | exact own mm6 | exact own mm7 | exact own mm8 | exact own mm9 | exact own mm10 | exact own mm11 | exact rdH (fun _ _ h => h) mm0 | exact rdH (fun _ _ h => h) mm1 | exact rdH (fun _ _ h => h) mm2 | exact rdH (fun _ _ h => h) mm3 | exact rdH (fun _ _ h => h) mm4 | exact rdH (fun _ _ h => h) mm5 | exact rdH (fun _ _ h => h) mm6 | exact rdH (fun _ _ h => h) mm7 | exact rdH (fun _ _ h => h) mm8 | exact rdH (fun _ _ h => h) mm9 | exact rdH (fun _ _ h => h) mm10 | exact rdH (fun _ _ h => h) mm11) (by omega) (by omega) rfl rfl) ⟨rfl, rfl⟩)) (by intros; rfl) (by intro y y2 h; rfl) ?_
              refine net_pure (fun y => [(177, _), (181, _), (173, _)]) (fun y => rfl) rfl rfl rfl (fun y hA L => st_want rfl (st_v (v_T (v_gtr rfl rfl) (by omega)) ⟨rfl, rfl⟩)) (by intros; rfl) (by intro y y2 h; rfl) ?_
              refine net_pure (fun y => [(182, _), (173, _)]) (fun y => rfl) rfl rfl rfl (fun y hA L => st_want rfl (st_v (v_move rfl) ⟨rfl, rfl⟩)) (by intros; rfl) (by intro y y2 h; rfl) ?_
              refine net_pure (fun y => [(183, _), (0, _)]) (fun y => rfl) rfl rfl rfl (fun y hA L => st_want rfl (st_v (v_move rfl) ⟨rfl, rfl⟩)) (by intros; rfl) (by intro y y2 h; rfl) ?_
              refine net_pure (fun y => [(183, _), (12, _)]) (fun y => rfl) rfl rfl rfl (fun y hA L => st_want rfl (st_v (v_move rfl) ⟨rfl, rfl⟩)) (by intros; rfl) (by intro y y2 h; rfl) ?_
              refine net_read (fun y => [RdR I3 p fr.length fr]) (fun y => [(184, _), (185, _), (183, _)]) (fun y => rfl) rfl (fun y => rfl) rfl (fun y FF hA => st_want rfl (st_v (r_index (c := (I3)) V.sl22 rfl rfl (by first | exact own mm0 | exact own mm1 | exact own mm2 | exact own mm3 | exact own mm4 | exact own mm5 | exact own mm6 | exact own mm7 | exact own mm8 | exact own mm9 | exact own mm10 | exact own mm11 | exact rdH (fun _ _ h => h) mm0 | exact rdH (fun _ _ h => h) mm1 | exact rdH (fun _ _ h => h) mm2 | exact rdH (fun _ _ h => h) mm3 | exact rdH (fun _ _ h => h) mm4 | exact rdH (fun _ _ h => h) mm5 | exact rdH (fun _ _ h => h) mm6 | exact rdH (fun _ _ h => h) mm7 | exact rdH (fun _ _ h => h) mm8 | exact rdH (fun _ _ h => h) mm9 | exact rdH (fun _ _ h => h) mm10 | exact rdH (fun _ _ h => h) mm11) (by omega) (by omega)) ⟨rfl, rfl⟩)) (by intros; rfl) (by intro y y2 h; rfl) ?_
              refine net_read (fun y => [RdR I3 p fr.length fr]) (fun y => [(186, _), (183, _)]) (fun y => rfl) rfl (fun y => rfl) rfl (fun y FF hA => st_want rfl (st_v (r_load (c := (I3)) V.s3 rfl (by first | exact own mm0 | exact own mm1 | exact own mm2 | exact own mm3 | exact own mm4 | exact own mm5 | exact own mm6 | exact own mm7 | exact own mm8 | exact own mm9 | exact own mm10 | exact own mm11 | exact rdH (fun _ _ h => h) mm0 | exact rdH (fun _ _ h => h) mm1 | exact rdH (fun _ _ h => h) mm2 | exact rdH (fun _ _ h => h) mm3 | exact rdH (fun _ _ h => h) mm4 | exact rdH (fun _ _ h => h) mm5 | exact rdH (fun _ _ h => h) mm6 | exact rdH (fun _ _ h => h) mm7 | exact rdH (fun _ _ h => h) mm8 | exact rdH (fun _ _ h => h) mm9 | exact rdH (fun _ _ h => h) mm10 | exact rdH (fun _ _ h => h) mm11) (by omega) (by omega) rfl rfl) ⟨rfl, rfl⟩)) (by intros; rfl) (by intro y y2 h; rfl) ?_
              refine net_pure (fun y => [(187, _), (183, _)]) (fun y => rfl) rfl rfl rfl (fun y hA L => st_want rfl (st_v (v_T (v_gtr rfl rfl) (by omega)) ⟨rfl, rfl⟩)) (by intros; rfl) (by intro y y2 h; rfl) ?_
              refine net_pure (fun y => [(183, _), (188, _), (173, _)]) (fun y => rfl) rfl rfl rfl (fun y hA L => st_want rfl (st_v (v_pickT rfl rfl) ⟨rfl, rfl⟩)) (by intros; rfl) (by intro y y2 h; rfl) ?_
              refine net_pure (fun y => [(189, _), (173, _)]) (fun y => rfl) rfl rfl rfl (fun y hA L => st_want rfl (st_v (v_move rfl) ⟨rfl, rfl⟩)) (by intros; rfl) (by intro y y2 h; rfl) ?_
              refine net_pure (fun y => [(190, _), (5, _)]) (fun y => rfl) rfl rfl rfl (fun y hA L => st_want rfl (st_v (v_move rfl) ⟨rfl, rfl⟩)) (by intros; rfl) (by intro y y2 h; rfl) ?_
              refine net_pure (fun y => [(190, _), (13, _)]) (fun y => rfl) rfl rfl rfl (fun y hA L => st_want rfl (st_v (v_move rfl) ⟨rfl, rfl⟩)) (by intros; rfl) (by intro y y2 h; rfl) ?_
              refine net_read (fun y => [Row I3 (some ⟨bo, 0, none⟩) fr.length fr.length o]) (fun y => [(191, _), (192, _), (190, _)]) (fun y => rfl) rfl (fun y => rfl) rfl (fun y FF hA => st_want rfl (st_v (r_index (c := (I3)) V.sl22 rfl rfl (by first | exact own mm0 | exact own mm1 | exact own mm2 | exact own mm3 | exact own mm4 | exact own mm5 | exact own mm6 | exact own mm7 | exact own mm8 | exact own mm9 | exact own mm10 | exact own mm11 | exact rdH (fun _ _ h => h) mm0 | exact rdH (fun _ _ h => h) mm1 | exact rdH (fun _ _ h => h) mm2 | exact rdH (fun _ _ h => h) mm3 | exact rdH (fun _ _ h => h) mm4 | exact rdH (fun _ _ h => h) mm5 | exact rdH (fun _ _ h => h) mm6 | exact rdH (fun _ _ h => h) mm7 | exact rdH (fun _ _ h => h) mm8 | exact rdH (fun _ _ h => h) mm9 | exact rdH (fun _ _ h => h) mm10 | exact rdH (fun _ _ h => h) mm11) (by omega) (by omega)) ⟨rfl, rfl⟩)) (by intros; rfl) (by intro y y2 h; rfl) ?_
              refine net_read (fun y => [Row I3 (some ⟨bo, 0, none⟩) fr.length fr.length o]) (fun y => [(193, _), (190, _)]) (fun y => rfl) rfl (fun y => rfl) rfl (fun y FF hA => st_want rfl (st_v (r_load (c := (I3)) V.s3 rfl (by first | exact own mm0 | exact own mm1 | exact own mm2 | exact own mm3 | exact own mm4 | exact own mm5 | exact own mm6 | exact own mm7 | exact own mm8 | exact own mm9 | exact own mm10 | exact own mm11 | exact rdH (fun _ _ h => h) mm0 | exact rdH (fun _ _ h => h) mm1 | exact rdH (fun _ _ h => h) mm2 | exact rdH (fun _ _ h => h) mm3 | exact rdH (fun _ _ h => h) mm4 | exact rdH (fun _ _ h => h) mm5 | exact rdH (fun _ _ h => h) mm6 | exact rdH (fun _ _ h => h) mm7 | exact rdH (fun _ _ h => h) mm8 | exact rdH (fun _ _ h => h) mm9 | exact rdH (fun _ _ h => h) mm10 | exact rdH (fun _ _ h => h) mm11) (by omega) (by omega) rfl rfl) ⟨rfl, rfl⟩)) (by intros; rfl) (by intro y y2 h; rfl) ?_
              refine net_pure (fun y => [(190, _), (5, _)]) (fun y => rfl) rfl rfl rfl (fun y hA L => st_want rfl (st_v (v_move rfl) ⟨rfl, rfl⟩)) (by intros; rfl) (by intro y y2 h; rfl) ?_
              refine net_pure (fun y => [(190, _), (12, _)]) (fun y => rfl) rfl rfl rfl (fun y hA L => st_want rfl (st_v (v_move rfl) ⟨rfl, rfl⟩)) (by intros; rfl) (by intro y y2 h; rfl) ?_
              refine net_read (fun y => [Row I3 (some ⟨bo, 0, none⟩) fr.length fr.length o]) (fun y => [(195, _), (196, _), (190, _)]) (fun y => rfl) rfl (fun y => rfl) rfl (fun y FF hA => st_want rfl (st_v (r_index (c := (I3)) V.sl22 rfl rfl (by first | exact own mm0 | exact own mm1 | exact own mm2 | exact own mm3 | exact own mm4 | exact own mm5 | exact own mm6 | exact own mm7 | exact own mm8 | exact own mm9 | exact own mm10 | exact own mm11 | exact rdH (fun _ _ h => h) mm0 | exact rdH (fun _ _ h => h) mm1 | exact rdH (fun _ _ h => h) mm2 | exact rdH (fun _ _ h => h) mm3 | exact rdH (fun _ _ h => h) mm4 | exact rdH (fun _ _ h => h) mm5 | exact rdH (fun _ _ h => h) mm6 | exact rdH (fun _ _ h => h) mm7 | exact rdH (fun _ _ h => h) mm8 | exact rdH (fun _ _ h => h) mm9 | exact rdH (fun _ _ h => h) mm10 | exact rdH (fun _ _ h => h) mm11) (by omega) (by omega)) ⟨rfl, rfl⟩)) (by intros; rfl) (by intro y y2 h; rfl) ?_
              refine net_read (fun y => [Row I3 (some ⟨bo, 0, none⟩) fr.length fr.length o]) (fun y => [(197, _), (190, _)]) (fun y => rfl) rfl (fun y => rfl) rfl (fun y FF hA => st_want rfl (st_v (r_load (c := (I3)) V.s3 rfl (by first | exact own mm0 | exact own mm1 | exact own mm2 | exact own mm3 | exact own mm4 | exact own mm5 | exact own mm6 | exact own mm7 | exact own mm8 | exact own mm9 | exact own mm10 | exact own mm11 | exact rdH (fun _ _ h => h) mm0 | exact rdH (fun _ _ h => h) mm1 | exact rdH (fun _ _ h => h) mm2 | exact rdH (fun _ _ h => h) mm3 | exact rdH (fun _ _ h => h) mm4 | exact rdH (fun _ _ h => h) mm5 | exact rdH (fun _ _ h => h) mm6 | exact rdH (fun _ _ h => h) mm7 | exact rdH (fun _ _ h => h) mm8 | exact rdH (fun _ _ h => h) mm9 | exact rdH (fun _ _ h => h) mm10 | exact rdH (fun _ _ h => h) mm11) (by omega) (by omega) rfl rfl) ⟨rfl, rfl⟩)) (by intros; rfl) (by intro y y2 h; rfl) ?_
              refine net_pure (fun y => [(194, _), (198, _), (190, _)]) (fun y => rfl) rfl rfl rfl (fun y hA L => st_want rfl (st_v (v_F (v_gtr rfl rfl) (by have := hg.down j i (by omega) (by omega) (by omega) (by omega); omega)) ⟨rfl, rfl⟩)) (by intros; rfl) (by intro y y2 h; rfl) ?_
              refine net_pure (fun y => [(190, _), (199, _), (173, _)]) (fun y => rfl) rfl rfl rfl (fun y hA L => st_want rfl (st_v (v_pickT rfl rfl) ⟨rfl, rfl⟩)) (by intros; rfl) (by intro y y2 h; rfl) ?_
              refine net_pure (fun y => [(173, _), (200, _)]) (fun y => rfl) rfl rfl rfl (fun y hA L => st_v (v_pickF rfl rfl) ⟨rfl, rfl⟩) (by intros; rfl) (by intro y y2 h; rfl) ?_
              refine net_nil ?_
              intro y hA
              clear hA
              refine thn_n ?_
              refine w_keep _ (.cons (d := 0) rfl (.cons (d := 1) rfl (.cons (d := 5) rfl (.cons (d := 7) rfl (.cons (d := 12) rfl (.cons (d := 13) rfl (.cons (d := 201) rfl (.nil _)))))))) ?_
              refine w_sub (M := RC br o :: Row I3 (some ⟨bo, 0, none⟩) fr.length fr.length o :: RdR I3 p fr.length fr :: F) (fun _ _ h => h) ?_
              refine w_condF rfl ?_
              refine w_skip ?_
              refine blk_n ?_
              refine thn_n ?_
              refine w_region ?_
              refine o_val (v_move rfl) rfl ?_
              refine o_val (v_add rfl rfl (wrapI (by omega) (by omega))) rfl ?_
              refine o_val (v_assign rfl) rfl ?_
              refine o_nil ?_
              refine j1 (j + 1) ?_ (.cons rfl (.cons rfl (.cons rfl (.cons rfl (.cons rfl (.cons rfl (.nil _))))))) (sub (.cons (by repeat first | exact .head | apply Rem.tail) (.cons (by repeat first | exact .head | apply Rem.tail) (.cons (by repeat first | exact .head | apply Rem.tail) .nil))) (by repeat first | exact .refl | apply Drop.skip))
              exact ⟨by omega, by omega⟩
            ·
              refine w_seq ?_
              have hj2 : j < i := by omega
              have hi2 : i < fr.length := by omega
              have eo : I3.g o (i : Int) = o.getD i 0 := by simp [Ec.g]
              have ef : I3.g fr (i : Int) = fr.getD i 0 := by simp [Ec.g]
              have eo2 : I3.g o (j : Int) = o.getD j 0 := by simp [Ec.g]
              have ef2 : I3.g fr (j : Int) = fr.getD j 0 := by simp [Ec.g]
              refine w_net [⟨[], [], [0], 0, 0⟩, ⟨[], [], [12], 0, 0⟩, ⟨[0, 1], [0, 1], [], 0, 0⟩, ⟨[0, 1, 2], [2], [], 0, 0⟩, ⟨[], [], [0], 0, 0⟩, ⟨[], [], [13], 0, 0⟩, ⟨[4, 5], [4, 5], [], 0, 0⟩, ⟨[4, 5, 6], [6], [], 0, 0⟩, ⟨[0, 1, 2, 3, 4, 5, 6, 7], [3, 7], [], 0, 0⟩, ⟨[0, 1, 2, 3, 4, 5, 6, 7, 8], [8], [], 0, 0⟩, ⟨[0, 1, 2, 3, 4, 5, 6, 7, 8, 9], [9], [0], 0, 0⟩, ⟨[0, 1, 2, 3, 4, 5, 6, 7, 8, 9], [9], [13], 0, 0⟩, ⟨[0, 1, 2, 3, 4, 5, 6, 7, 8, 9, 10, 11], [10, 11, 9], [], 0, 0⟩, ⟨[0, 1, 2, 3, 4, 5, 6, 7, 8, 9, 10, 11, 12], [12, 9], [], 0, 0⟩, ⟨[0, 1, 2, 3, 4, 5, 6, 7, 8, 9, 10, 11, 12, 13], [13, 9], [], 0, 0⟩, ⟨[0, 1, 2, 3, 4, 5, 6, 7, 8, 9, 10, 11, 12, 13, 14], [9, 14], [], 0, 0⟩, ⟨[0, 1, 2, 3, 4, 5, 6, 7, 8, 9, 10, 11, 12, 13, 14, 15], [15], [], 0, 0⟩, ⟨[0, 1, 2, 3, 4, 5, 6, 7, 8, 9, 10, 11, 12, 13, 14, 15, 16], [16], [5], 0, 0⟩, ⟨[0, 1, 2, 3, 4, 5, 6, 7, 8, 9, 10, 11, 12, 13, 14, 15, 16], [16], [12], 0, 0⟩, ⟨[0, 1, 2, 3, 4, 5, 6, 7, 8, 9, 10, 11, 12, 13, 14, 15, 16, 17, 18], [17, 18, 16], [], 0, 0⟩, ⟨[0, 1, 2, 3, 4, 5, 6, 7, 8, 9, 10, 11, 12, 13, 14, 15, 16, 17, 18, 19], [19, 16], [], 0, 0⟩, ⟨[0, 1, 2, 3, 4, 5, 6, 7, 8, 9, 10, 11, 12, 13, 14, 15, 16], [16], [5], 0, 0⟩, ⟨[0, 1, 2, 3, 4, 5, 6, 7, 8, 9, 10, 11, 12, 13, 14, 15, 16], [16], [13], 0, 0⟩, ⟨[0, 1, 2, 3, 4, 5, 6, 7, 8, 9, 10, 11, 12, 13, 14, 15, 16, 21, 22], [21, 22, 16], [], 0, 0⟩, ⟨[0, 1, 2, 3, 4, 5, 6, 7, 8, 9, 10, 11, 12, 13, 14, 15, 16, 21, 22, 23], [23, 16], [], 0, 0⟩, ⟨[0, 1, 2, 3, 4, 5, 6, 7, 8, 9, 10, 11, 12, 13, 14, 15, 16, 17, 18, 19, 20, 21, 22, 23, 24], [20, 24, 16], [], 0, 0⟩, ⟨[0, 1, 2, 3, 4, 5, 6, 7, 8, 9, 10, 11, 12, 13, 14, 15, 16, 17, 18, 19, 20, 21, 22, 23, 24, 25], [16, 25], [], 0, 0⟩, ⟨[0, 1, 2, 3, 4, 5, 6, 7, 8, 9, 10, 11, 12, 13, 14, 15, 16, 17, 18, 19, 20, 21, 22, 23, 24, 25, 26], [26], [], 0, 0⟩, ⟨[0, 1, 2, 3, 4, 5, 6, 7, 8, 9, 10, 11, 12, 13, 14, 15, 16, 17, 18, 19, 20, 21, 22, 23, 24, 25, 26, 27], [27], [0], 0, 0⟩, ⟨[0, 1, 2, 3, 4, 5, 6, 7, 8, 9, 10, 11, 12, 13, 14, 15, 16, 17, 18, 19, 20, 21, 22, 23, 24, 25, 26, 27], [27], [13], 0, 0⟩, ⟨[0, 1, 2, 3, 4, 5, 6, 7, 8, 9, 10, 11, 12, 13, 14, 15, 16, 17, 18, 19, 20, 21, 22, 23, 24, 25, 26, 27, 28, 29], [28, 29, 27], [], 0, 0⟩, ⟨[0, 1, 2, 3, 4, 5, 6, 7, 8, 9, 10, 11, 12, 13, 14, 15, 16, 17, 18, 19, 20, 21, 22, 23, 24, 25, 26, 27, 28, 29, 30], [30, 27], [], 0, 0⟩, ⟨[0, 1, 2, 3, 4, 5, 6, 7, 8, 9, 10, 11, 12, 13, 14, 15, 16, 17, 18, 19, 20, 21, 22, 23, 24, 25, 26, 27], [27], [0], 0, 0⟩, ⟨[0, 1, 2, 3, 4, 5, 6, 7, 8, 9, 10, 11, 12, 13, 14, 15, 16, 17, 18, 19, 20, 21, 22, 23, 24, 25, 26, 27], [27], [12], 0, 0⟩, ⟨[0, 1, 2, 3, 4, 5, 6, 7, 8, 9, 10, 11, 12, 13, 14, 15, 16, 17, 18, 19, 20, 21, 22, 23, 24, 25, 26, 27, 32, 33], [32, 33, 27], [], 0, 0⟩, ⟨[0, 1, 2, 3, 4, 5, 6, 7, 8, 9, 10, 11, 12, 13, 14, 15, 16, 17, 18, 19, 20, 21, 22, 23, 24, 25, 26, 27, 32, 33, 34], [34, 27], [], 0, 0⟩, ⟨[0, 1, 2, 3, 4, 5, 6, 7, 8, 9, 10, 11, 12, 13, 14, 15, 16, 17, 18, 19, 20, 21, 22, 23, 24, 25, 26, 27, 28, 29, 30, 31, 32, 33, 34, 35], [31, 35, 27], [], 0, 0⟩, ⟨[0, 1, 2, 3, 4, 5, 6, 7, 8, 9, 10, 11, 12, 13, 14, 15, 16, 17, 18, 19, 20, 21, 22, 23, 24, 25, 26, 27, 28, 29, 30, 31, 32, 33, 34, 35, 36], [36, 27], [], 0, 0⟩, ⟨[0, 1, 2, 3, 4, 5, 6, 7, 8, 9, 10, 11, 12, 13, 14, 15, 16, 17, 18, 19, 20, 21, 22, 23, 24, 25, 26, 27, 28, 29, 30, 31, 32, 33, 34, 35, 36, 37], [37], [0], 0, 0⟩, ⟨[0, 1, 2, 3, 4, 5, 6, 7, 8, 9, 10, 11, 12, 13, 14, 15, 16, 17, 18, 19, 20, 21, 22, 23, 24, 25, 26, 27, 28, 29, 30, 31, 32, 33, 34, 35, 36, 37], [37], [12], 0, 0⟩, ⟨[0, 1, 2, 3, 4, 5, 6, 7, 8, 9, 10, 11, 12, 13, 14, 15, 16, 17, 18, 19, 20, 21, 22, 23, 24, 25, 26, 27, 28, 29, 30, 31, 32, 33, 34, 35, 36, 37, 38, 39], [38, 39, 37], [], 0, 0⟩, ⟨[0, 1, 2, 3, 4, 5, 6, 7, 8, 9, 10, 11, 12, 13, 14, 15, 16, 17, 18, 19, 20, 21, 22, 23, 24, 25, 26, 27, 28, 29, 30, 31, 32, 33, 34, 35, 36, 37, 38, 39, 40], [40, 37], [], 0, 0⟩, ⟨[0, 1, 2, 3, 4, 5, 6, 7, 8, 9, 10, 11, 12, 13, 14, 15, 16, 17, 18, 19, 20, 21, 22, 23, 24, 25, 26, 27, 28, 29, 30, 31, 32, 33, 34, 35, 36, 37, 38, 39, 40, 41], [41, 37], [], 0, 0⟩, ⟨[0, 1, 2, 3, 4, 5, 6, 7, 8, 9, 10, 11, 12, 13, 14, 15, 16, 17, 18, 19, 20, 21, 22, 23, 24, 25, 26, 27, 28, 29, 30, 31, 32, 33, 34, 35, 36, 37, 38, 39, 40, 41, 42], [37, 42, 27], [], 0, 0⟩, ⟨[0, 1, 2, 3, 4, 5, 6, 7, 8, 9, 10, 11, 12, 13, 14, 15, 16, 17, 18, 19, 20, 21, 22, 23, 24, 25, 26, 27, 28, 29, 30, 31, 32, 33, 34, 35, 36, 37, 38, 39, 40, 41, 42, 43], [43, 27], [], 0, 0⟩, ⟨[0, 1, 2, 3, 4, 5, 6, 7, 8, 9, 10, 11, 12, 13, 14, 15, 16, 17, 18, 19, 20, 21, 22, 23, 24, 25, 26, 27, 28, 29, 30, 31, 32, 33, 34, 35, 36, 37, 38, 39, 40, 41, 42, 43, 44], [44], [5], 0, 0⟩, ⟨[0, 1, 2, 3, 4, 5, 6, 7, 8, 9, 10, 11, 12, 13, 14, 15, 16, 17, 18, 19, 20, 21, 22, 23, 24, 25, 26, 27, 28, 29, 30, 31, 32, 33, 34, 35, 36, 37, 38, 39, 40, 41, 42, 43, 44], [44], [13], 0, 0⟩, ⟨[0, 1, 2, 3, 4, 5, 6, 7, 8, 9, 10, 11, 12, 13, 14, 15, 16, 17, 18, 19, 20, 21, 22, 23, 24, 25, 26, 27, 28, 29, 30, 31, 32, 33, 34, 35, 36, 37, 38, 39, 40, 41, 42, 43, 44, 45, 46], [45, 46, 44], [], 0, 0⟩, ⟨[0, 1, 2, 3, 4, 5, 6, 7, 8, 9, 10, 11, 12, 13, 14, 15, 16, 17, 18, 19, 20, 21, 22, 23, 24, 25, 26, 27, 28, 29, 30, 31, 32, 33, 34, 35, 36, 37, 38, 39, 40, 41, 42, 43, 44, 45, 46, 47], [47, 44], [], 0, 0⟩, ⟨[0, 1, 2, 3, 4, 5, 6, 7, 8, 9, 10, 11, 12, 13, 14, 15, 16, 17, 18, 19, 20, 21, 22, 23, 24, 25, 26, 27, 28, 29, 30, 31, 32, 33, 34, 35, 36, 37, 38, 39, 40, 41, 42, 43, 44], [44], [5], 0, 0⟩, ⟨[0, 1, 2, 3, 4, 5, 6, 7, 8, 9, 10, 11, 12, 13, 14, 15, 16, 17, 18, 19, 20, 21, 22, 23, 24, 25, 26, 27, 28, 29, 30, 31, 32, 33, 34, 35, 36, 37, 38, 39, 40, 41, 42, 43, 44], [44], [12], 0, 0⟩, ⟨[0, 1, 2, 3, 4, 5, 6, 7, 8, 9, 10, 11, 12, 13, 14, 15, 16, 17, 18, 19, 20, 21, 22, 23, 24, 25, 26, 27, 28, 29, 30, 31, 32, 33, 34, 35, 36, 37, 38, 39, 40, 41, 42, 43, 44, 49, 50], [49, 50, 44], [], 0, 0⟩, ⟨[0, 1, 2, 3, 4, 5, 6, 7, 8, 9, 10, 11, 12, 13, 14, 15, 16, 17, 18, 19, 20, 21, 22, 23, 24, 25, 26, 27, 28, 29, 30, 31, 32, 33, 34, 35, 36, 37, 38, 39, 40, 41, 42, 43, 44, 49, 50, 51], [51, 44], [], 0, 0⟩, ⟨[0, 1, 2, 3, 4, 5, 6, 7, 8, 9, 10, 11, 12, 13, 14, 15, 16, 17, 18, 19, 20, 21, 22, 23, 24, 25, 26, 27, 28, 29, 30, 31, 32, 33, 34, 35, 36, 37, 38, 39, 40, 41, 42, 43, 44, 45, 46, 47, 48, 49, 50, 51, 52], [48, 52, 44], [], 0, 0⟩, ⟨[0, 1, 2, 3, 4, 5, 6, 7, 8, 9, 10, 11, 12, 13, 14, 15, 16, 17, 18, 19, 20, 21, 22, 23, 24, 25, 26, 27, 28, 29, 30, 31, 32, 33, 34, 35, 36, 37, 38, 39, 40, 41, 42, 43, 44, 45, 46, 47, 48, 49, 50, 51, 52, 53], [44, 53, 27], [], 0, 0⟩, ⟨[0, 1, 2, 3, 4, 5, 6, 7, 8, 9, 10, 11, 12, 13, 14, 15, 16, 17, 18, 19, 20, 21, 22, 23, 24, 25, 26, 27, 28, 29, 30, 31, 32, 33, 34, 35, 36, 37, 38, 39, 40, 41, 42, 43, 44, 45, 46, 47, 48, 49, 50, 51, 52, 53, 54], [27, 54], [], 0, 0⟩] [⟨fun y => RC br o, none, none, []⟩, ⟨fun y => Row I3 (some ⟨bo, 0, none⟩) fr.length fr.length o, none, none, []⟩, ⟨fun y => RdR I3 p fr.length fr, none, none, [2, 3, 6, 7, 30, 31, 34, 35, 40, 41]⟩] F V.mixed (by kernel_rfl) rfl (fun _ => .refl _) (locT_0 _ (locT_0 _ (locT_0 _ locT_nil))) ?_
              refine net_pure (fun y => [(0, _)]) (fun y => rfl) rfl rfl rfl (fun y hA L => st_v (v_move rfl) ⟨rfl, rfl⟩) (by intros; rfl) (by intro y y2 h; rfl) ?_
              refine net_pure (fun y => [(12, _)]) (fun y => rfl) rfl rfl rfl (fun y hA L => st_v (v_move rfl) ⟨rfl, rfl⟩) (by intros; rfl) (by intro y y2 h; rfl) ?_
              refine net_read (fun y => [RdR I3 p fr.length fr]) (fun y => [(146, _), (147, _)]) (fun y => rfl) rfl (fun y => rfl) rfl (fun y FF hA => st_v (r_index (c := (I3)) V.sl22 rfl rfl (by first | exact own mm0 | exact own mm1 | exact own mm2 | exact own mm3 | exact own mm4 | exact own mm5 | exact own mm6 | exact own mm7 | exact own mm8 | exact own mm9 | exact own mm10 | exact own mm11 | exact rdH (fun _ _ h => h) mm0 | exact rdH (fun _ _ h => h) mm1 | exact rdH (fun _ _ h => h) mm2 | exact rdH (fun _ _ h => h) mm3 | exact rdH (fun _ _ h => h) mm4 | exact rdH (fun _ _ h => h) mm5 | exact rdH (fun _ _ h => h) mm6 | exact rdH (fun _ _ h => h) mm7 | exact rdH (fun _ _ h => h) mm8 | exact rdH (fun _ _ h => h) mm9 | exact rdH (fun _ _ h => h) mm10 | exact rdH (fun _ _ h => h) mm11) (by omega) (by omega)) ⟨rfl, rfl⟩) (by intros; rfl) (by intro y y2 h; rfl) ?_
              refine net_read (fun y => [RdR I3 p fr.length fr]) (fun y => [(148, _)]) (fun y => rfl) rfl (fun y => rfl) rfl (fun y FF hA => st_v (r_load (c := (I3)) V.s3 rfl (by first | exact own mm0 | exact own mm1 | exact own mm2 | exact own mm3 | exact own mm4 | exact own mm5 | exact own mm6 | exact own mm7 | exact own mm8 | exact own mm9 | exact own mm10 | exact own mm11 | exact rdH (fun _ _ h => h) mm0 | exact rdH (fun _ _ h => h) mm1 | exact rdH (fun _ _ h => h) mm2 | exact rdH (fun _ _ h => h) mm3 | exact rdH (fun _ _ h => h) mm4 | exact rdH (fun _ _ h => h) mm5 | exact rdH (fun _ _ h => h) mm6 | exact rdH (fun _ _ h => h) mm7 | exact rdH (fun _ _ h => h) mm8 | exact rdH (fun _ _ h => h) mm9 | exact rdH (fun _ _ h => h) mm10 | exact rdH (fun _ _ h => h) mm11) (by omega) (by omega) rfl rfl) ⟨rfl, rfl⟩) (by intros; rfl) (by intro y y2 h; rfl) ?_
              refine net_pure (fun y => [(0, _)]) (fun y => rfl) rfl rfl rfl (fun y hA L => st_v (v_move rfl) ⟨rfl, rfl⟩) (by intros; rfl) (by intro y y2 h; rfl) ?_
              refine net_pure (fun y => [(13, _)]) (fun y => rfl) rfl rfl rfl (fun y hA L => st_v (v_move rfl) ⟨rfl, rfl⟩) (by intros; rfl) (by intro y y2 h; rfl) ?_
              refine net_read (fun y => [RdR I3 p fr.length fr]) (fun y => [(150, _), (151, _)]) (fun y => rfl) rfl (fun y => rfl) rfl (fun y FF hA => st_v (r_index (c := (I3)) V.sl22 rfl rfl (by first | exact own mm0 | exact own mm1 | exact own mm2 | exact own mm3 | exact own mm4 | exact own mm5 | exact own mm6 | exact own mm7 | exact own mm8 | exact own mm9 | exact own mm10 | exact own mm11 | exact rdH (fun _ _ h => h) mm0 | exact rdH (fun _ _ h => h) mm1 | exact rdH (fun _ _ h => h) mm2 | exact rdH (fun _ _ h => h) mm3 | exact rdH (fun _ _ h => h) mm4 | exact rdH (fun _ _ h => h) mm5 | exact rdH (fun _ _ h => h) mm6 | exact rdH (fun _ _ h => h) mm7 | exact rdH (fun _ _ h => h) mm8 | exact rdH (fun _ _ h => h) mm9 | exact rdH (fun _ _ h => h) mm10 | exact rdH (fun _ _ h => h) mm11) (by omega) (by omega)) ⟨rfl, rfl⟩) (by intros; rfl) (by intro y y2 h; rfl) ?_
              refine net_read (fun y => [RdR I3 p fr.length fr]) (fun y => [(152, _)]) (fun y => rfl) rfl (fun y => rfl) rfl (fun y FF hA => st_v (r_load (c := (I3)) V.s3 rfl (by first | exact own mm0 | exact own mm1 | exact own mm2 | exact own mm3 | exact own mm4 | exact own mm5 | exact own mm6 | exact own mm7 | exact own mm8 | exact own mm9 | exact own mm10 | exact own mm11 | exact rdH (fun _ _ h => h) mm0 | exact rdH (fun _ _ h => h) mm1 | exact rdH (fun _ _ h => h) mm2 | exact rdH (fun _ _ h => h) mm3 | exact rdH (fun _ _ h => h) mm4 | exact rdH (fun _ _ h => h) mm5 | exact rdH (fun _ _ h => h) mm6 | exact rdH (fun _ _ h => h) mm7 | exact rdH (fun _ _ h => h) mm8 | exact rdH (fun _ _ h => h) mm9 | exact rdH (fun _ _ h => h) mm10 | exact rdH (fun _ _ h => h) mm11) (by omega) (by omega) rfl rfl) ⟨rfl, rfl⟩) (by intros; rfl) (by intro y y2 h; rfl) ?_
              refine net_pure (fun y => [(149, _), (153, _)]) (fun y => rfl) rfl rfl rfl (fun y hA L => st_v (v_F (v_gtr rfl rfl) (by omega)) ⟨rfl, rfl⟩) (by intros; rfl) (by intro y y2 h; rfl) ?_
              refine net_pure (fun y => [(154, _)]) (fun y => rfl) rfl rfl rfl (fun y hA L => st_v (v_move rfl) ⟨rfl, rfl⟩) (by intros; rfl) (by intro y y2 h; rfl) ?_
              refine net_pure (fun y => [(155, _), (0, _)]) (fun y => rfl) rfl rfl rfl (fun y hA L => st_pass rfl rfl ⟨rfl, rfl⟩) (by intros; rfl) (by intro y y2 h; rfl) ?_
              refine net_pure (fun y => [(155, _), (13, _)]) (fun y => rfl) rfl rfl rfl (fun y hA L => st_pass rfl rfl ⟨rfl, rfl⟩) (by intros; rfl) (by intro y y2 h; rfl) ?_
              refine net_pure (fun y => [(156, _), (157, _), (155, _)]) (fun y => rfl) rfl rfl rfl (fun y hA L => st_pass rfl rfl ⟨rfl, rfl⟩) (by intros; rfl) (by intro y y2 h; rfl) ?_
              refine net_pure (fun y => [(158, _), (155, _)]) (fun y => rfl) rfl rfl rfl (fun y hA L => st_pass rfl rfl ⟨rfl, rfl⟩) (by intros; rfl) (by intro y y2 h; rfl) ?_
              refine net_pure (fun y => [(159, _), (155, _)]) (fun y => rfl) rfl rfl rfl (fun y hA L => st_pass rfl rfl ⟨rfl, rfl⟩) (by intros; rfl) (by intro y y2 h; rfl) ?_
              refine net_pure (fun y => [(155, _), (160, _)]) (fun y => rfl) rfl rfl rfl (fun y hA L => st_v (v_pickF rfl rfl) ⟨rfl, rfl⟩) (by intros; rfl) (by intro y y2 h; rfl) ?_
              refine net_pure (fun y => [(161, _)]) (fun y => rfl) rfl rfl rfl (fun y hA L => st_v (v_move rfl) ⟨rfl, rfl⟩) (by intros; rfl) (by intro y y2 h; rfl) ?_
              refine net_pure (fun y => [(162, _), (5, _)]) (fun y => rfl) rfl rfl rfl (fun y hA L => st_pass rfl rfl ⟨rfl, rfl⟩) (by intros; rfl) (by intro y y2 h; rfl) ?_
              refine net_pure (fun y => [(162, _), (12, _)]) (fun y => rfl) rfl rfl rfl (fun y hA L => st_pass rfl rfl ⟨rfl, rfl⟩) (by intros; rfl) (by intro y y2 h; rfl) ?_
              refine net_pure (fun y => [(163, _), (164, _), (162, _)]) (fun y => rfl) rfl rfl rfl (fun y hA L => st_pass rfl rfl ⟨rfl, rfl⟩) (by intros; rfl) (by intro y y2 h; rfl) ?_
              refine net_pure (fun y => [(165, _), (162, _)]) (fun y => rfl) rfl rfl rfl (fun y hA L => st_pass rfl rfl ⟨rfl, rfl⟩) (by intros; rfl) (by intro y y2 h; rfl) ?_
              refine net_pure (fun y => [(162, _), (5, _)]) (fun y => rfl) rfl rfl rfl (fun y hA L => st_pass rfl rfl ⟨rfl, rfl⟩) (by intros; rfl) (by intro y y2 h; rfl) ?_
              refine net_pure (fun y => [(162, _), (13, _)]) (fun y => rfl) rfl rfl rfl (fun y hA L => st_pass rfl rfl ⟨rfl, rfl⟩) (by intros; rfl) (by intro y y2 h; rfl) ?_
              refine net_pure (fun y => [(167, _), (168, _), (162, _)]) (fun y => rfl) rfl rfl rfl (fun y hA L => st_pass rfl rfl ⟨rfl, rfl⟩) (by intros; rfl) (by intro y y2 h; rfl) ?_
              refine net_pure (fun y => [(169, _), (162, _)]) (fun y => rfl) rfl rfl rfl (fun y hA L => st_pass rfl rfl ⟨rfl, rfl⟩) (by intros; rfl) (by intro y y2 h; rfl) ?_
              refine net_pure (fun y => [(166, _), (170, _), (162, _)]) (fun y => rfl) rfl rfl rfl (fun y hA L => st_pass rfl rfl ⟨rfl, rfl⟩) (by intros; rfl) (by intro y y2 h; rfl) ?_
              refine net_pure (fun y => [(162, _), (171, _)]) (fun y => rfl) rfl rfl rfl (fun y hA L => st_v (v_pickF rfl rfl) ⟨rfl, rfl⟩) (by intros; rfl) (by intro y y2 h; rfl) ?_
              refine net_pure (fun y => [(172, _)]) (fun y => rfl) rfl rfl rfl (fun y hA L => st_v (v_move rfl) ⟨rfl, rfl⟩) (by intros; rfl) (by intro y y2 h; rfl) ?_
              refine net_pure (fun y => [(173, _), (0, _)]) (fun y => rfl) rfl rfl rfl (fun y hA L => st_want rfl (st_v (v_move rfl) ⟨rfl, rfl⟩)) (by intros; rfl) (by intro y y2 h; rfl) ?_
              refine net_pure (fun y => [(173, _), (13, _)]) (fun y => rfl) rfl rfl rfl (fun y hA L => st_want rfl (st_v (v_move rfl) ⟨rfl, rfl⟩)) (by intros; rfl) (by intro y y2 h; rfl) ?_
              refine net_read (fun y => [RdR I3 p fr.length fr]) (fun y => [(174, _), (175, _), (173, _)]) (fun y => rfl) rfl (fun y => rfl) rfl (fun y FF hA => st_want rfl (st_v (r_index (c := (I3)) V.sl22 rfl rfl (by first | exact own mm0 | exact own mm1 | exact own mm2 | exact own mm3 | exact own mm4 | exact own mm5 | exact own mm6 | exact own mm7 | exact own mm8 | exact own mm9 | exact own mm10 | exact own mm11 | exact rdH (fun _ _ h => h) mm0 | exact rdH (fun _ _ h => h) mm1 | exact rdH (fun _ _ h => h) mm2 | exact rdH (fun _ _ h => h) mm3 | exact rdH (fun _ _ h => h) mm4 | exact rdH (fun _ _ h => h) mm5 | exact rdH (fun _ _ h => h) mm6 | exact rdH (fun _ _ h => h) mm7 | exact rdH (fun _ _ h => h) mm8 | exact rdH (fun _ _ h => h) mm9 | exact rdH (fun _ _ h => h) mm10 | exact rdH (fun _ _ h => h) mm11) (by omega) (by omega)) ⟨rfl, rfl⟩)) (by intros; rfl) (by intro y y2 h; rfl) ?_
              refine net_read (fun y => [RdR I3 p fr.length fr]) (fun y => [(176, _), (173, _)]) (fun y => rfl) rfl (fun y => rfl) rfl (fun y FF hA => st_want rfl (st_v (r_load (c := (I3)) V.s3 rfl (by first | exact own mm0 | exact own mm1 | exact own mm2 | exact own mm3 | exact own mm4 | exact own mm5 | exact own mm6 | exact own mm7 | exact own mm8 | exact own mm9 | exact own mm10 | exact own mm11 | exact rdH (fun _ _ h => h) mm0 | exact rdH (fun _ _ h => h) mm1 | exact rdH (fun _ _ h => h) mm2 | exact rdH (fun _ _ h => h) mm3 | exact rdH (fun _ _ h => h) mm4 | exact rdH (fun _ _ h => h) mm5 | exact rdH (fun _ _ h => h) mm6 | exact rdH (fun _ _ h => h) mm7 | exact rdH (fun _ _ h => h) mm8 | exact rdH (fun _ _ h => h) mm9 | exact rdH (fun _ _ h => h) mm10 | exact rdH (fun _ _ h => h) mm11) (by omega) (by omega) rfl rfl) ⟨rfl, rfl⟩)) (by intros; rfl) (by intro y y2 h; rfl) ?_
              refine net_pure (fun y => [(173, _), (0, _)]) (fun y => rfl) rfl rfl rfl (fun y hA L => st_want rfl (st_v (v_move rfl) ⟨rfl, rfl⟩)) (by intros; rfl) (by intro y y2 h; rfl) ?_
              refine net_pure (fun y => [(173, _), (12, _)]) (fun y => rfl) rfl rfl rfl (fun y hA L => st_want rfl (st_v (v_move rfl) ⟨rfl, rfl⟩)) (by intros; rfl) (by intro y y2 h; rfl) ?_
              refine net_read (fun y => [RdR I3 p fr.length fr]) (fun y => [(178, _), (179, _), (173, _)]) (fun y => rfl) rfl (fun y => rfl) rfl (fun y FF hA => st_want rfl (st_v (r_index (c := (I3)) V.sl22 rfl rfl (by first | exact own mm0 | exact own mm1 | exact own mm2 | exact own mm3 | exact own mm4 | exact own mm5 | exact own mm6 | exact own mm7 | exact own mm8 | exact own mm9 | exact own mm10 | exact own mm11 | exact rdH (fun _ _ h => h) mm0 | exact rdH (fun _ _ h => h) mm1 | exact rdH (fun _ _ h => h) mm2 | exact rdH (fun _ _ h => h) mm3 | exact rdH (fun _ _ h => h) mm4 | exact rdH (fun _ _ h => h) mm5 | exact rdH (fun _ _ h => h) mm6 | exact rdH (fun _ _ h => h) mm7 | exact rdH (fun _ _ h => h) mm8 | exact rdH (fun _ _ h => h) mm9 | exact rdH (fun _ _ h => h) mm10 | exact rdH (fun _ _ h => h) mm11) (by omega) (by omega)) ⟨rfl, rfl⟩)) (by intros; rfl) (by intro y y2 h; rfl) ?_
              refine net_read (fun y => [RdR I3 p fr.length fr]) (fun y => [(180, _), (173, _)]) (fun y => rfl) rfl (fun y => rfl) rfl (fun y FF hA => st_want rfl (st_v (r_load (c := (I3)) V.s3 rfl (by first | exact own mm0 | exact own mm1 | exact own mm2 | exact own mm3 | exact own mm4 | exact own mm5 | exact own mm6 | exact own mm7 | exact own mm8 | exact own mm9 | exact own mm10 | exact own mm11 | exact rdH (fun _ _ h => h) mm0 | exact rdH (fun _ _ h => h) mm1 | exact rdH (fun _ _ h => h) mm2 | exact rdH (fun _ _ h => h) mm3 | exact rdH (fun _ _ h => h) mm4 | exact rdH (fun _ _ h => h) mm5 | exact rdH (fun _ _ h => h) mm6 | exact rdH (fun _ _ h => h) mm7 | exact rdH (fun _ _ h => h) mm8 | exact rdH (fun _ _ h => h) mm9 | exact rdH (fun _ _ h => h) mm10 | exact rdH (fun _ _ h => h) mm11) (by omega) (by omega) rfl rfl) ⟨rfl, rfl⟩)) (by intros; rfl) (by intro y y2 h; rfl) ?_
              refine net_pure (fun y => [(177, _), (181, _), (173, _)]) (fun y => rfl) rfl rfl rfl (fun y hA L => st_want rfl (st_v (v_T (v_gtr rfl rfl) (by omega)) ⟨rfl, rfl⟩)) (by intros; rfl) (by intro y y2 h; rfl) ?_
              refine net_pure (fun y => [(182, _), (173, _)]) (fun y => rfl) rfl rfl rfl (fun y hA L => st_want rfl (st_v (v_move rfl) ⟨rfl, rfl⟩)) (by intros; rfl) (by intro y y2 h; rfl) ?_
              refine net_pure (fun y => [(183, _), (0, _)]) (fun y => rfl) rfl rfl rfl (fun y hA L => st_want rfl (st_v (v_move rfl) ⟨rfl, rfl⟩)) (by intros; rfl) (by intro y y2 h; rfl) ?_
              refine net_pure (fun y => [(183, _), (12, _)]) (fun y => rfl) rfl rfl rfl (fun y hA L => st_want rfl (st_v (v_move rfl) ⟨rfl, rfl⟩)) (by intros; rfl) (by intro y y2 h; rfl) ?_
              refine net_read (fun y => [RdR I3 p fr.length fr]) (fun y => [(184, _), (185, _), (183, _)]) (fun y => rfl) rfl (fun y => rfl) rfl (fun y FF hA => st_want rfl (st_v (r_index (c := (I3)) V.sl22 rfl rfl (by first | exact own mm0 | exact own mm1 | exact own mm2 | exact own mm3 | exact own mm4 | exact own mm5 | exact own mm6 | exact own mm7 | exact own mm8 | exact own mm9 | exact own mm10 | exact own mm11 | exact rdH (fun _ _ h => h) mm0 | exact rdH (fun _ _ h => h) mm1 | exact rdH (fun _ _ h => h) mm2 | exact rdH (fun _ _ h => h) mm3 | exact rdH (fun _ _ h => h) mm4 | exact rdH (fun _ _ h => h) mm5 | exact rdH (fun _ _ h => h) mm6 | exact rdH (fun _ _ h => h) mm7 | exact rdH (fun _ _ h => h) mm8 | exact rdH (fun _ _ h => h) mm9 | exact rdH (fun _ _ h => h) mm10 | exact rdH (fun _ _ h => h) mm11) (by omega) (by omega)) ⟨rfl, rfl⟩)) (by intros; rfl) (by intro y y2 h; rfl) ?_
              refine net_read (fun y => [RdR I3 p fr.length fr]) (fun y => [(186, _), (183, _)]) (fun y => rfl) rfl (fun y => rfl) rfl (fun y FF hA => st_want rfl (st_v (r_load (c := (I3)) V.s3 rfl (by first | exact own mm0 | exact own mm1 | exact own mm2 | exact own mm3 | exact own mm4 | exact own mm5 | exact own mm6 | exact own mm7 | exact own mm8 | exact own mm9 | exact own mm10 | exact own mm11 | exact rdH (fun _ _ h => h) mm0 | exact rdH (fun _ _ h => h) mm1 | exact rdH (fun _ _ h => h) mm2 | exact rdH (fun _ _ h => h) mm3 | exact rdH (fun _ _ h => h) mm4 | exact rdH (fun _ _ h => h) mm5 | exact rdH (fun _ _ h => h) mm6 | exact rdH (fun _ _ h => h) mm7 | exact rdH (fun _ _ h => h) mm8 | exact rdH (fun _ _ h => h) mm9 | exact rdH (fun _ _ h => h) mm10 | exact rdH (fun _ _ h => h) mm11) (by omega) (by omega) rfl rfl) ⟨rfl, rfl⟩)) (by intros; rfl) (by intro y y2 h; rfl) ?_
              refine net_pure (fun y => [(187, _), (183, _)]) (fun y => rfl) rfl rfl rfl (fun y hA L => st_want rfl (st_v (v_F (v_gtr rfl rfl) (by omega)) ⟨rfl, rfl⟩)) (by intros; rfl) (by intro y y2 h; rfl) ?_
              refine net_pure (fun y => [(183, _), (188, _), (173, _)]) (fun y => rfl) rfl rfl rfl (fun y hA L => st_want rfl (st_v (v_pickT rfl rfl) ⟨rfl, rfl⟩)) (by intros; rfl) (by intro y y2 h; rfl) ?_
              refine net_pure (fun y => [(189, _), (173, _)]) (fun y => rfl) rfl rfl rfl (fun y hA L => st_want rfl (st_v (v_move rfl) ⟨rfl, rfl⟩)) (by intros; rfl) (by intro y y2 h; rfl) ?_
              refine net_pure (fun y => [(190, _), (5, _)]) (fun y => rfl) rfl rfl rfl (fun y hA L => st_pass rfl rfl ⟨rfl, rfl⟩) (by intros; rfl) (by intro y y2 h; rfl) ?_
              refine net_pure (fun y => [(190, _), (13, _)]) (fun y => rfl) rfl rfl rfl (fun y hA L => st_pass rfl rfl ⟨rfl, rfl⟩) (by intros; rfl) (by intro y y2 h; rfl) ?_
              refine net_pure (fun y => [(191, _), (192, _), (190, _)]) (fun y => rfl) rfl rfl rfl (fun y hA L => st_pass rfl rfl ⟨rfl, rfl⟩) (by intros; rfl) (by intro y y2 h; rfl) ?_
              refine net_pure (fun y => [(193, _), (190, _)]) (fun y => rfl) rfl rfl rfl (fun y hA L => st_pass rfl rfl ⟨rfl, rfl⟩) (by intros; rfl) (by intro y y2 h; rfl) ?_
              refine net_pure (fun y => [(190, _), (5, _)]) (fun y => rfl) rfl rfl rfl (fun y hA L => st_pass rfl rfl ⟨rfl, rfl⟩) (by intros; rfl) (by intro y y2 h; rfl) ?_
              refine net_pure (fun y => [(190, _), (12, _)]) (fun y => rfl) rfl rfl rfl (fun y hA L => st_pass rfl rfl ⟨rfl, rfl⟩) (by intros; rfl) (by intro y y2 h; rfl) ?_
              refine net_pure (fun y => [(195, _), (196, _), (190, _)]) (fun y => rfl) rfl rfl rfl (fun y hA L => st_pass rfl rfl ⟨rfl, rfl⟩) (by intros; rfl) (by intro y y2 h; rfl) ?_
              refine net_pure (fun y => [(197, _), (190, _)]) (fun y => rfl) rfl rfl rfl (fun y hA L => st_pass rfl rfl ⟨rfl, rfl⟩) (by intros; rfl) (by intro y y2 h; rfl) ?_
              refine net_pure (fun y => [(194, _), (198, _), (190, _)]) (fun y => rfl) rfl rfl rfl (fun y hA L => st_pass rfl rfl ⟨rfl, rfl⟩) (by intros; rfl) (by intro y y2 h; rfl) ?_
              refine net_pure (fun y => [(190, _), (199, _), (173, _)]) (fun y => rfl) rfl rfl rfl (fun y hA L => st_want rfl (st_v (v_pickF rfl rfl) ⟨rfl, rfl⟩)) (by intros; rfl) (by intro y y2 h; rfl) ?_
              refine net_pure (fun y => [(173, _), (200, _)]) (fun y => rfl) rfl rfl rfl (fun y hA L => st_v (v_pickF rfl rfl) ⟨rfl, rfl⟩) (by intros; rfl) (by intro y y2 h; rfl) ?_
              refine net_nil ?_
              intro y hA
              clear hA
              refine thn_n ?_
              refine w_keep _ (.cons (d := 0) rfl (.cons (d := 1) rfl (.cons (d := 5) rfl (.cons (d := 7) rfl (.cons (d := 12) rfl (.cons (d := 13) rfl (.cons (d := 201) rfl (.nil _)))))))) ?_
              refine w_sub (M := RC br o :: Row I3 (some ⟨bo, 0, none⟩) fr.length fr.length o :: RdR I3 p fr.length fr :: F) (fun _ _ h => h) ?_
              refine w_condF rfl ?_
              refine w_skip ?_
              refine blk_n ?_
              refine thn_n ?_
              refine w_region ?_
              refine o_val (v_move rfl) rfl ?_
              refine o_val (v_add rfl rfl (wrapI (by omega) (by omega))) rfl ?_
              refine o_val (v_assign rfl) rfl ?_
              refine o_nil ?_
              refine j1 (j + 1) ?_ (.cons rfl (.cons rfl (.cons rfl (.cons rfl (.cons rfl (.cons rfl (.nil _))))))) (sub (.cons (by repeat first | exact .head | apply Rem.tail) (.cons (by repeat first | exact .head | apply Rem.tail) (.cons (by repeat first | exact .head | apply Rem.tail) .nil))) (by repeat first | exact .refl | apply Drop.skip))
              exact ⟨by omega, by omega⟩
            ·
              refine w_seq ?_
              have hj2 : j < i := by omega
              have hi2 : i < fr.length := by omega
              have eo : I3.g o (i : Int) = o.getD i 0 := by simp [Ec.g]
              have ef : I3.g fr (i : Int) = fr.getD i 0 := by simp [Ec.g]
              have eo2 : I3.g o (j : Int) = o.getD j 0 := by simp [Ec.g]
              have ef2 : I3.g fr (j : Int) = fr.getD j 0 := by simp [Ec.g]
              refine w_net [⟨[], [], [0], 0, 0⟩, ⟨[], [], [12], 0, 0⟩, ⟨[0, 1], [0, 1], [], 0, 0⟩, ⟨[0, 1, 2], [2], [], 0, 0⟩, ⟨[], [], [0], 0, 0⟩, ⟨[], [], [13], 0, 0⟩, ⟨[4, 5], [4, 5], [], 0, 0⟩, ⟨[4, 5, 6], [6], [], 0, 0⟩, ⟨[0, 1, 2, 3, 4, 5, 6, 7], [3, 7], [], 0, 0⟩, ⟨[0, 1, 2, 3, 4, 5, 6, 7, 8], [8], [], 0, 0⟩, ⟨[0, 1, 2, 3, 4, 5, 6, 7, 8, 9], [9], [0], 0, 0⟩, ⟨[0, 1, 2, 3, 4, 5, 6, 7, 8, 9], [9], [13], 0, 0⟩, ⟨[0, 1, 2, 3, 4, 5, 6, 7, 8, 9, 10, 11], [10, 11, 9], [], 0, 0⟩, ⟨[0, 1, 2, 3, 4, 5, 6, 7, 8, 9, 10, 11, 12], [12, 9], [], 0, 0⟩, ⟨[0, 1, 2, 3, 4, 5, 6, 7, 8, 9, 10, 11, 12, 13], [13, 9], [], 0, 0⟩, ⟨[0, 1, 2, 3, 4, 5, 6, 7, 8, 9, 10, 11, 12, 13, 14], [9, 14], [], 0, 0⟩, ⟨[0, 1, 2, 3, 4, 5, 6, 7, 8, 9, 10, 11, 12, 13, 14, 15], [15], [], 0, 0⟩, ⟨[0, 1, 2, 3, 4, 5, 6, 7, 8, 9, 10, 11, 12, 13, 14, 15, 16], [16], [5], 0, 0⟩, ⟨[0, 1, 2, 3, 4, 5, 6, 7, 8, 9, 10, 11, 12, 13, 14, 15, 16], [16], [12], 0, 0⟩, ⟨[0, 1, 2, 3, 4, 5, 6, 7, 8, 9, 10, 11, 12, 13, 14, 15, 16, 17, 18], [17, 18, 16], [], 0, 0⟩, ⟨[0, 1, 2, 3, 4, 5, 6, 7, 8, 9, 10, 11, 12, 13, 14, 15, 16, 17, 18, 19], [19, 16], [], 0, 0⟩, ⟨[0, 1, 2, 3, 4, 5, 6, 7, 8, 9, 10, 11, 12, 13, 14, 15, 16], [16], [5], 0, 0⟩, ⟨[0, 1, 2, 3, 4, 5, 6, 7, 8, 9, 10, 11, 12, 13, 14, 15, 16], [16], [13], 0, 0⟩, ⟨[0, 1, 2, 3, 4, 5, 6, 7, 8, 9, 10, 11, 12, 13, 14, 15, 16, 21, 22], [21, 22, 16], [], 0, 0⟩, ⟨[0, 1, 2, 3, 4, 5, 6, 7, 8, 9, 10, 11, 12, 13, 14, 15, 16, 21, 22, 23], [23, 16], [], 0, 0⟩, ⟨[0, 1, 2, 3, 4, 5, 6, 7, 8, 9, 10, 11, 12, 13, 14, 15, 16, 17, 18, 19, 20, 21, 22, 23, 24], [20, 24, 16], [], 0, 0⟩, ⟨[0, 1, 2, 3, 4, 5, 6, 7, 8, 9, 10, 11, 12, 13, 14, 15, 16, 17, 18, 19, 20, 21, 22, 23, 24, 25], [16, 25], [], 0, 0⟩, ⟨[0, 1, 2, 3, 4, 5, 6, 7, 8, 9, 10, 11, 12, 13, 14, 15, 16, 17, 18, 19, 20, 21, 22, 23, 24, 25, 26], [26], [], 0, 0⟩, ⟨[0, 1, 2, 3, 4, 5, 6, 7, 8, 9, 10, 11, 12, 13, 14, 15, 16, 17, 18, 19, 20, 21, 22, 23, 24, 25, 26, 27], [27], [0], 0, 0⟩, ⟨[0, 1, 2, 3, 4, 5, 6, 7, 8, 9, 10, 11, 12, 13, 14, 15, 16, 17, 18, 19, 20, 21, 22, 23, 24, 25, 26, 27], [27], [13], 0, 0⟩, ⟨[0, 1, 2, 3, 4, 5, 6, 7, 8, 9, 10, 11, 12, 13, 14, 15, 16, 17, 18, 19, 20, 21, 22, 23, 24, 25, 26, 27, 28, 29], [28, 29, 27], [], 0, 0⟩, ⟨[0, 1, 2, 3, 4, 5, 6, 7, 8, 9, 10, 11, 12, 13, 14, 15, 16, 17, 18, 19, 20, 21, 22, 23, 24, 25, 26, 27, 28, 29, 30], [30, 27], [], 0, 0⟩, ⟨[0, 1, 2, 3, 4, 5, 6, 7, 8, 9, 10, 11, 12, 13, 14, 15, 16, 17, 18, 19, 20, 21, 22, 23, 24, 25, 26, 27], [27], [0], 0, 0⟩, ⟨[0, 1, 2, 3, 4, 5, 6, 7, 8, 9, 10, 11, 12, 13, 14, 15, 16, 17, 18, 19, 20, 21, 22, 23, 24, 25, 26, 27], [27], [12], 0, 0⟩, ⟨[0, 1, 2, 3, 4, 5, 6, 7, 8, 9, 10, 11, 12, 13, 14, 15, 16, 17, 18, 19, 20, 21, 22, 23, 24, 25, 26, 27, 32, 33], [32, 33, 27], [], 0, 0⟩, ⟨[0, 1, 2, 3, 4, 5, 6, 7, 8, 9, 10, 11, 12, 13, 14, 15, 16, 17, 18, 19, 20, 21, 22, 23, 24, 25, 26, 27, 32, 33, 34], [34, 27], [], 0, 0⟩, ⟨[0, 1, 2, 3, 4, 5, 6, 7, 8, 9, 10, 11, 12, 13, 14, 15, 16, 17, 18, 19, 20, 21, 22, 23, 24, 25, 26, 27, 28, 29, 30, 31, 32, 33, 34, 35], [31, 35, 27], [], 0, 0⟩, ⟨[0, 1, 2, 3, 4, 5, 6, 7, 8, 9, 10, 11, 12, 13, 14, 15, 16, 17, 18, 19, 20, 21, 22, 23, 24, 25, 26, 27, 28, 29, 30, 31, 32, 33, 34, 35, 36], [36, 27], [], 0, 0⟩, ⟨[0, 1, 2, 3, 4, 5, 6, 7, 8, 9, 10, 11, 12, 13, 14, 15, 16, 17, 18, 19, 20, 21, 22, 23, 24, 25, 26, 27, 28, 29, 30, 31, 32, 33, 34, 35, 36, 37], [37], [0], 0, 0⟩, ⟨[0, 1, 2, 3, 4, 5, 6, 7, 8, 9, 10, 11, 12, 13, 14, 15, 16, 17, 18, 19, 20, 21, 22, 23, 24, 25, 26, 27, 28, 29, 30, 31, 32, 33, 34, 35, 36, 37], [37], [12], 0, 0⟩, ⟨[0, 1, 2, 3, 4, 5, 6, 7, 8, 9, 10, 11, 12, 13, 14, 15, 16, 17, 18, 19, 20, 21, 22, 23, 24, 25, 26, 27, 28, 29, 30, 31, 32, 33, 34, 35, 36, 37, 38, 39], [38, 39, 37], [], 0, 0⟩, ⟨[0, 1, 2, 3, 4, 5, 6, 7, 8, 9, 10, 11, 12, 13, 14, 15, 16, 17, 18, 19, 20, 21, 22, 23, 24, 25, 26, 27, 28, 29, 30, 31, 32, 33, 34, 35, 36, 37, 38, 39, 40], [40, 37], [], 0, 0⟩, ⟨[0, 1, 2, 3, 4, 5, 6, 7, 8, 9, 10, 11, 12, 13, 14, 15, 16, 17, 18, 19, 20, 21, 22, 23, 24, 25, 26, 27, 28, 29, 30, 31, 32, 33, 34, 35, 36, 37, 38, 39, 40, 41], [41, 37], [], 0, 0⟩, ⟨[0, 1, 2, 3, 4, 5, 6, 7, 8, 9, 10, 11, 12, 13, 14, 15, 16, 17, 18, 19, 20, 21, 22, 23, 24, 25, 26, 27, 28, 29, 30, 31, 32, 33, 34, 35, 36, 37, 38, 39, 40, 41, 42], [37, 42, 27], [], 0, 0⟩, ⟨[0, 1, 2, 3, 4, 5, 6, 7, 8, 9, 10, 11, 12, 13, 14, 15, 16, 17, 18, 19, 20, 21, 22, 23, 24, 25, 26, 27, 28, 29, 30, 31, 32, 33, 34, 35, 36, 37, 38, 39, 40, 41, 42, 43], [43, 27], [], 0, 0⟩, ⟨[0, 1, 2, 3, 4, 5, 6, 7, 8, 9, 10, 11, 12, 13, 14, 15, 16, 17, 18, 19, 20, 21, 22, 23, 24, 25, 26, 27, 28, 29, 30, 31, 32, 33, 34, 35, 36, 37, 38, 39, 40, 41, 42, 43, 44], [44], [5], 0, 0⟩, ⟨[0, 1, 2, 3, 4, 5, 6, 7, 8, 9, 10, 11, 12, 13, 14, 15, 16, 17, 18, 19, 20, 21, 22, 23, 24, 25, 26, 27, 28, 29, 30, 31, 32, 33, 34, 35, 36, 37, 38, 39, 40, 41, 42, 43, 44], [44], [13], 0, 0⟩, ⟨[0, 1, 2, 3, 4, 5, 6, 7, 8, 9, 10, 11, 12, 13, 14, 15, 16, 17, 18, 19, 20, 21, 22, 23, 24, 25, 26, 27, 28, 29, 30, 31, 32, 33, 34, 35, 36, 37, 38, 39, 40, 41, 42, 43, 44, 45, 46], [45, 46, 44], [], 0, 0⟩, ⟨[0, 1, 2, 3, 4, 5, 6, 7, 8, 9, 10, 11, 12, 13, 14, 15, 16, 17, 18, 19, 20, 21, 22, 23, 24, 25, 26, 27, 28, 29, 30, 31, 32, 33, 34, 35, 36, 37, 38, 39, 40, 41, 42, 43, 44, 45, 46, 47], [47, 44], [], 0, 0⟩, ⟨[0, 1, 2, 3, 4, 5, 6, 7, 8, 9, 10, 11, 12, 13, 14, 15, 16, 17, 18, 19, 20, 21, 22, 23, 24, 25, 26, 27, 28, 29, 30, 31, 32, 33, 34, 35, 36, 37, 38, 39, 40, 41, 42, 43, 44], [44], [5], 0, 0⟩, ⟨[0, 1, 2, 3, 4, 5, 6, 7, 8, 9, 10, 11, 12, 13, 14, 15, 16, 17, 18, 19, 20, 21, 22, 23, 24, 25, 26, 27, 28, 29, 30, 31, 32, 33, 34, 35, 36, 37, 38, 39, 40, 41, 42, 43, 44], [44], [12], 0, 0⟩, ⟨[0, 1, 2, 3, 4, 5, 6, 7, 8, 9, 10, 11, 12, 13, 14, 15, 16, 17, 18, 19, 20, 21, 22, 23, 24, 25, 26, 27, 28, 29, 30, 31, 32, 33, 34, 35, 36, 37, 38, 39, 40, 41, 42, 43, 44, 49, 50], [49, 50, 44], [], 0, 0⟩, ⟨[0, 1, 2, 3, 4, 5, 6, 7, 8, 9, 10, 11, 12, 13, 14, 15, 16, 17, 18, 19, 20, 21, 22, 23, 24, 25, 26, 27, 28, 29, 30, 31, 32, 33, 34, 35, 36, 37, 38, 39, 40, 41, 42, 43, 44, 49, 50, 51], [51, 44], [], 0, 0⟩, ⟨[0, 1, 2, 3, 4, 5, 6, 7, 8, 9, 10, 11, 12, 13, 14, 15, 16, 17, 18, 19, 20, 21, 22, 23, 24, 25, 26, 27, 28, 29, 30, 31, 32, 33, 34, 35, 36, 37, 38, 39, 40, 41, 42, 43, 44, 45, 46, 47, 48, 49, 50, 51, 52], [48, 52, 44], [], 0, 0⟩, ⟨[0, 1, 2, 3, 4, 5, 6, 7, 8, 9, 10, 11, 12, 13, 14, 15, 16, 17, 18, 19, 20, 21, 22, 23, 24, 25, 26, 27, 28, 29, 30, 31, 32, 33, 34, 35, 36, 37, 38, 39, 40, 41, 42, 43, 44, 45, 46, 47, 48, 49, 50, 51, 52, 53], [44, 53, 27], [], 0, 0⟩, ⟨[0, 1, 2, 3, 4, 5, 6, 7, 8, 9, 10, 11, 12, 13, 14, 15, 16, 17, 18, 19, 20, 21, 22, 23, 24, 25, 26, 27, 28, 29, 30, 31, 32, 33, 34, 35, 36, 37, 38, 39, 40, 41, 42, 43, 44, 45, 46, 47, 48, 49, 50, 51, 52, 53, 54], [27, 54], [], 0, 0⟩] [⟨fun y => RC br o, none, none, []⟩, ⟨fun y => Row I3 (some ⟨bo, 0, none⟩) fr.length fr.length o, none, none, []⟩, ⟨fun y => RdR I3 p fr.length fr, none, none, [2, 3, 6, 7, 30, 31, 34, 35]⟩] F V.mixed (by kernel_rfl) rfl (fun _ => .refl _) (locT_0 _ (locT_0 _ (locT_0 _ locT_nil))) ?_
              refine net_pure (fun y => [(0, _)]) (fun y => rfl) rfl rfl rfl (fun y hA L => st_v (v_move rfl) ⟨rfl, rfl⟩) (by intros; rfl) (by intro y y2 h; rfl) ?_
              refine net_pure (fun y => [(12, _)]) (fun y => rfl) rfl rfl rfl (fun y hA L => st_v (v_move rfl) ⟨rfl, rfl⟩) (by intros; rfl) (by intro y y2 h; rfl) ?_
              refine net_read (fun y => [RdR I3 p fr.length fr]) (fun y => [(146, _), (147, _)]) (fun y => rfl) rfl (fun y => rfl) rfl (fun y FF hA => st_v (r_index (c := (I3)) V.sl22 rfl rfl (by first | exact own mm0 | exact own mm1 | exact own mm2 | exact own mm3 | exact own mm4 | exact own mm5 | exact own mm6 | exact own mm7 | exact own mm8 | exact own mm9 | exact own mm10 | exact own mm11 | exact rdH (fun _ _ h => h) mm0 | exact rdH (fun _ _ h => h) mm1 | exact rdH (fun _ _ h => h) mm2 | exact rdH (fun _ _ h => h) mm3 | exact rdH (fun _ _ h => h) mm4 | exact rdH (fun _ _ h => h) mm5 | exact rdH (fun _ _ h => h) mm6 | exact rdH (fun _ _ h => h) mm7 | exact rdH (fun _ _ h => h) mm8 | exact rdH (fun _ _ h => h) mm9 | exact rdH (fun _ _ h => h) mm10 | exact rdH (fun _ _ h => h) mm11) (by omega) (by omega)) ⟨rfl, rfl⟩) (by intros; rfl) (by intro y y2 h; rfl) ?_
              refine net_read (fun y => [RdR I3 p fr.length fr]) (fun y => [(148, _)]) (fun y => rfl) rfl (fun y => rfl) rfl (fun y FF hA => st_v (r_load (c := (I3)) V.s3 rfl (by first | exact own mm0 | exact own mm1 | exact own mm2 | exact own mm3 | exact own mm4 | exact own mm5 | exact own mm6 | exact own mm7 | exact own mm8 | exact own mm9 | exact own mm10 | exact own mm11 | exact rdH (fun _ _ h => h) mm0 | exact rdH (fun _ _ h => h) mm1 | exact rdH (fun _ _ h => h) mm2 | exact rdH (fun _ _ h => h) mm3 | exact rdH (fun _ _ h => h) mm4 | exact rdH (fun _ _ h => h) mm5 | exact rdH (fun _ _ h => h) mm6 | exact rdH (fun _ _ h => h) mm7 | exact rdH (fun _ _ h => h) mm8 | exact rdH (fun _ _ h => h) mm9 | exact rdH (fun _ _ h => h) mm10 | exact rdH (fun _ _ h => h) mm11) (by omega) (by omega) rfl rfl) ⟨rfl, rfl⟩) (by intros; rfl) (by intro y y2 h; rfl) ?_
              refine net_pure (fun y => [(0, _)]) (fun y => rfl) rfl rfl rfl (fun y hA L => st_v (v_move rfl) ⟨rfl, rfl⟩) (by intros; rfl) (by intro y y2 h; rfl) ?_
              refine net_pure (fun y => [(13, _)]) (fun y => rfl) rfl rfl rfl (fun y hA L => st_v (v_move rfl) ⟨rfl, rfl⟩) (by intros; rfl) (by intro y y2 h; rfl) ?_
              refine net_read (fun y => [RdR I3 p fr.length fr]) (fun y => [(150, _), (151, _)]) (fun y => rfl) rfl (fun y => rfl) rfl (fun y FF hA => st_v (r_index (c := (I3)) V.sl22 rfl rfl (by first | exact own mm0 | exact own mm1 | exact own mm2 | exact own mm3 | exact own mm4 | exact own mm5 | exact own mm6 | exact own mm7 | exact own mm8 | exact own mm9 | exact own mm10 | exact own mm11 | exact rdH (fun _ _ h => h) mm0 | exact rdH (fun _ _ h => h) mm1 | exact rdH (fun _ _ h => h) mm2 | exact rdH (fun _ _ h => h) mm3 | exact rdH (fun _ _ h => h) mm4 | exact rdH (fun _ _ h => h) mm5 | exact rdH (fun _ _ h => h) mm6 | exact rdH (fun _ _ h => h) mm7 | exact rdH (fun _ _ h => h) mm8 | exact rdH (fun _ _ h => h) mm9 | exact rdH (fun _ _ h => h) mm10 | exact rdH (fun _ _ h => h) mm11) (by omega) (by omega)) ⟨rfl, rfl⟩) (by intros; rfl) (by intro y y2 h; rfl) ?_
              refine net_read (fun y => [RdR I3 p fr.length fr]) (fun y => [(152, _)]) (fun y => rfl) rfl (fun y => rfl) rfl (fun y FF hA => st_v (r_load (c := (I3)) V.s3 rfl (by first | exact own mm0 | exact own mm1 | exact own mm2 | exact own mm3 | exact own mm4 | exact own mm5 | exact own mm6 | exact own mm7 | exact own mm8 | exact own mm9 | exact own mm10 | exact own mm11 | exact rdH (fun _ _ h => h) mm0 | exact rdH (fun _ _ h => h) mm1 | exact rdH (fun _ _ h => h) mm2 | exact rdH (fun _ _ h => h) mm3 | exact rdH (fun _ _ h => h) mm4 | exact rdH (fun _ _ h => h) mm5 | exact rdH (fun _ _ h => h) mm6 | exact rdH (fun _ _ h => h) mm7 | exact rdH (fun _ _ h => h) mm8 | exact rdH (fun _ _ h => h) mm9 | exact rdH (fun _ _ h => h) mm10 | exact rdH (fun _ _ h => h) mm11) (by omega) (by omega) rfl rfl) ⟨rfl, rfl⟩) (by intros; rfl) (by intro y y2 h; rfl) ?_
              refine net_pure (fun y => [(149, _), (153, _)]) (fun y => rfl) rfl rfl rfl (fun y hA L => st_v (v_F (v_gtr rfl rfl) (by omega)) ⟨rfl, rfl⟩) (by intros; rfl) (by intro y y2 h; rfl) ?_
              refine net_pure (fun y => [(154, _)]) (fun y => rfl) rfl rfl rfl (fun y hA L => st_v (v_move rfl) ⟨rfl, rfl⟩) (by intros; rfl) (by intro y y2 h; rfl) ?_
              refine net_pure (fun y => [(155, _), (0, _)]) (fun y => rfl) rfl rfl rfl (fun y hA L => st_pass rfl rfl ⟨rfl, rfl⟩) (by intros; rfl) (by intro y y2 h; rfl) ?_
              refine net_pure (fun y => [(155, _), (13, _)]) (fun y => rfl) rfl rfl rfl (fun y hA L => st_pass rfl rfl ⟨rfl, rfl⟩) (by intros; rfl) (by intro y y2 h; rfl) ?_
              refine net_pure (fun y => [(156, _), (157, _), (155, _)]) (fun y => rfl) rfl rfl rfl (fun y hA L => st_pass rfl rfl ⟨rfl, rfl⟩) (by intros; rfl) (by intro y y2 h; rfl) ?_
              refine net_pure (fun y => [(158, _), (155, _)]) (fun y => rfl) rfl rfl rfl (fun y hA L => st_pass rfl rfl ⟨rfl, rfl⟩) (by intros; rfl) (by intro y y2 h; rfl) ?_
              refine net_pure (fun y => [(159, _), (155, _)]) (fun y => rfl) rfl rfl rfl (fun y hA L => st_pass rfl rfl ⟨rfl, rfl⟩) (by intros; rfl) (by intro y y2 h; rfl) ?_
              refine net_pure (fun y => [(155, _), (160, _)]) (fun y => rfl) rfl rfl rfl (fun y hA L => st_v (v_pickF rfl rfl) ⟨rfl, rfl⟩) (by intros; rfl) (by intro y y2 h; rfl) ?_
              refine net_pure (fun y => [(161, _)]) (fun y => rfl) rfl rfl rfl (fun y hA L => st_v (v_move rfl) ⟨rfl, rfl⟩) (by intros; rfl) (by intro y y2 h; rfl) ?_
              refine net_pure (fun y => [(162, _), (5, _)]) (fun y => rfl) rfl rfl rfl (fun y hA L => st_pass rfl rfl ⟨rfl, rfl⟩) (by intros; rfl) (by intro y y2 h; rfl) ?_
              refine net_pure (fun y => [(162, _), (12, _)]) (fun y => rfl) rfl rfl rfl (fun y hA L => st_pass rfl rfl ⟨rfl, rfl⟩) (by intros; rfl) (by intro y y2 h; rfl) ?_
              refine net_pure (fun y => [(163, _), (164, _), (162, _)]) (fun y => rfl) rfl rfl rfl (fun y hA L => st_pass rfl rfl ⟨rfl, rfl⟩) (by intros; rfl) (by intro y y2 h; rfl) ?_
              refine net_pure (fun y => [(165, _), (162, _)]) (fun y => rfl) rfl rfl rfl (fun y hA L => st_pass rfl rfl ⟨rfl, rfl⟩) (by intros; rfl) (by intro y y2 h; rfl) ?_
              refine net_pure (fun y => [(162, _), (5, _)]) (fun y => rfl) rfl rfl rfl (fun y hA L => st_pass rfl rfl ⟨rfl, rfl⟩) (by intros; rfl) (by intro y y2 h; rfl) ?_
              refine net_pure (fun y => [(162, _), (13, _)]) (fun y => rfl) rfl rfl rfl (fun y hA L => st_pass rfl rfl ⟨rfl, rfl⟩) (by intros; rfl) (by intro y y2 h; rfl) ?_
              refine net_pure (fun y => [(167, _), (168, _), (162, _)]) (fun y => rfl) rfl rfl rfl (fun y hA L => st_pass rfl rfl ⟨rfl, rfl⟩) (by intros; rfl) (by intro y y2 h; rfl) ?_
              refine net_pure (fun y => [(169, _), (162, _)]) (fun y => rfl) rfl rfl rfl (fun y hA L => st_pass rfl rfl ⟨rfl, rfl⟩) (by intros; rfl) (by intro y y2 h; rfl) ?_
              refine net_pure (fun y => [(166, _), (170, _), (162, _)]) (fun y => rfl) rfl rfl rfl (fun y hA L => st_pass rfl rfl ⟨rfl, rfl⟩) (by intros; rfl) (by intro y y2 h; rfl) ?_
              refine net_pure (fun y => [(162, _), (171, _)]) (fun y => rfl) rfl rfl rfl (fun y hA L => st_v (v_pickF rfl rfl) ⟨rfl, rfl⟩) (by intros; rfl) (by intro y y2 h; rfl) ?_
              refine net_pure (fun y => [(172, _)]) (fun y => rfl) rfl rfl rfl (fun y hA L => st_v (v_move rfl) ⟨rfl, rfl⟩) (by intros; rfl) (by intro y y2 h; rfl) ?_
              refine net_pure (fun y => [(173, _), (0, _)]) (fun y => rfl) rfl rfl rfl (fun y hA L => st_want rfl (st_v (v_move rfl) ⟨rfl, rfl⟩)) (by intros; rfl) (by intro y y2 h; rfl) ?_
              refine net_pure (fun y => [(173, _), (13, _)]) (fun y => rfl) rfl rfl rfl (fun y hA L => st_want rfl (st_v (v_move rfl) ⟨rfl, rfl⟩)) (by intros; rfl) (by intro y y2 h; rfl) ?_
              refine net_read (fun y => [RdR I3 p fr.length fr]) (fun y => [(174, _), (175, _), (173, _)]) (fun y => rfl) rfl (fun y => rfl) rfl (fun y FF hA => st_want rfl (st_v (r_index (c := (I3)) V.sl22 rfl rfl (by first | exact own mm0 | exact own mm1 | exact own mm2 | exact own mm3 | exact own mm4 | exact own mm5 | exact own mm6 | exact own mm7 | exact own mm8 | exact own mm9 | exact own mm10 | exact own mm11 | exact rdH (fun _ _ h => h) mm0 | exact rdH (fun _ _ h => h) mm1 | exact rdH (fun _ _ h => h) mm2 | exact rdH (fun _ _ h => h) mm3 | exact rdH (fun _ _ h => h) mm4 | exact rdH (fun _ _ h => h) mm5 | exact rdH (fun _ _ h => h) mm6 | exact rdH (fun _ _ h => h) mm7 | exact rdH (fun _ _ h => h) mm8 | exact rdH (fun _ _ h => h) mm9 | exact rdH (fun _ _ h => h) mm10 | exact rdH (fun _ _ h => h) mm11) (by omega) (by omega)) ⟨rfl, rfl⟩)) (by intros; rfl) (by intro y y2 h; rfl) ?_
              refine net_read (fun y => [RdR I3 p fr.length fr]) (fun y => [(176, _), (173, _)]) (fun y => rfl) rfl (fun y => rfl) rfl (fun y FF hA => st_want rfl (st_v (r_load (c := (I3)) V.s3 rfl (by first | exact own mm0 | exact own mm1 | exact own mm2 | exact own mm3 | exact own mm4 | exact own mm5 | exact own mm6 | exact own mm7 | exact own mm8 | exact own mm9 | exact own mm10 | exact own mm11 | exact rdH (fun _ _ h => h) mm0 | exact rdH (fun _ _ h => h) mm1 | exact rdH (fun _ _ h => h) mm2 | exact rdH (fun _ _ h => h) mm3 | exact rdH (fun _ _ h => h) mm4 | exact rdH (fun _ _ h => h) mm5 | exact rdH (fun _ _ h => h) mm6 | exact rdH (fun _ _ h => h) mm7 | exact rdH (fun _ _ h => h) mm8 | exact rdH (fun _ _ h => h) mm9 | exact rdH (fun _ _ h => h) mm10 | exact rdH (fun _ _ h => h) mm11) (by omega) (by omega) rfl rfl) ⟨rfl, rfl⟩)) (by intros; rfl) (by intro y y2 h; rfl) ?_
              refine net_pure (fun y => [(173, _), (0, _)]) (fun y => rfl) rfl rfl rfl (fun y hA L => st_want rfl (st_v (v_move rfl) ⟨rfl, rfl⟩)) (by intros; rfl) (by intro y y2 h; rfl) ?_
              refine net_pure (fun y => [(173, _), (12, _)]) (fun y => rfl) rfl rfl rfl (fun y hA L => st_want rfl (st_v (v_move rfl) ⟨rfl, rfl⟩)) (by intros; rfl) (by intro y y2 h; rfl) ?_
              refine net_read (fun y => [RdR I3 p fr.length fr]) (fun y => [(178, _), (179, _), (173, _)]) (fun y => rfl) rfl (fun y => rfl) rfl (fun y FF hA => st_want rfl (st_v (r_index (c := (I3)) V.sl22 rfl rfl (by first | exact own mm0 | exact own mm1 | exact own mm2 | exact own mm3 | exact own mm4 | exact own mm5 | exact own mm6 | exact own mm7 | exact own mm8 | exact own mm9 | exact own mm10 | exact own mm11 | exact rdH (fun _ _ h => h) mm0 | exact rdH (fun _ _ h => h) mm1 | exact rdH (fun _ _ h => h) mm2 | exact rdH (fun _ _ h => h) mm3 | exact rdH (fun _ _ h => h) mm4 | exact rdH (fun _ _ h => h) mm5 | exact rdH (fun _ _ h => h) mm6 | exact rdH (fun _ _ h => h) mm7 | exact rdH (fun _ _ h => h) mm8 | exact rdH (fun _ _ h => h) mm9 | exact rdH (fun _ _ h => h) mm10 | exact rdH (fun _ _ h => h) mm11) (by omega) (by omega)) ⟨rfl, rfl⟩)) (by intros; rfl) (by intro y y2 h; rfl) ?_
              refine net_read (fun y => [RdR I3 p fr.length fr]) (fun y => [(180, _), (173, _)]) (fun y => rfl) rfl (fun y => rfl) rfl (fun y FF hA => st_want rfl (st_v (r_load (c := (I3)) V.s3 rfl (by first | exact own mm0 | exact own mm1 | exact own mm2 | exact own mm3 | exact own mm4 | exact own mm5 | exact own mm6 | exact own mm7 | exact own mm8 | exact own mm9 | exact own mm10 | exact own mm11 | exact rdH (fun _ _ h => h) mm0 | exact rdH (fun _ _ h => h) mm1 | exact rdH (fun _ _ h => h) mm2 | exact rdH (fun _ _ h => h) mm3 | exact rdH (fun _ _ h => h) mm4 | exact rdH (fun _ _ h => h) mm5 | exact rdH (fun _ _ h => h) mm6 | exact rdH (fun _ _ h => h) mm7 | exact rdH (fun _ _ h => h) mm8 | exact rdH (fun _ _ h => h) mm9 | exact rdH (fun _ _ h => h) mm10 | exact rdH (fun _ _ h => h) mm11) (by omega) (by omega) rfl rfl) ⟨rfl, rfl⟩)) (by intros; rfl) (by intro y y2 h; rfl) ?_
              refine net_pure (fun y => [(177, _), (181, _), (173, _)]) (fun y => rfl) rfl rfl rfl (fun y hA L => st_want rfl (st_v (v_F (v_gtr rfl rfl) (by omega)) ⟨rfl, rfl⟩)) (by intros; rfl) (by intro y y2 h; rfl) ?_
              refine net_pure (fun y => [(182, _), (173, _)]) (fun y => rfl) rfl rfl rfl (fun y hA L => st_want rfl (st_v (v_move rfl) ⟨rfl, rfl⟩)) (by intros; rfl) (by intro y y2 h; rfl) ?_
              refine net_pure (fun y => [(183, _), (0, _)]) (fun y => rfl) rfl rfl rfl (fun y hA L => st_pass rfl rfl ⟨rfl, rfl⟩) (by intros; rfl) (by intro y y2 h; rfl) ?_
              refine net_pure (fun y => [(183, _), (12, _)]) (fun y => rfl) rfl rfl rfl (fun y hA L => st_pass rfl rfl ⟨rfl, rfl⟩) (by intros; rfl) (by intro y y2 h; rfl) ?_
              refine net_pure (fun y => [(184, _), (185, _), (183, _)]) (fun y => rfl) rfl rfl rfl (fun y hA L => st_pass rfl rfl ⟨rfl, rfl⟩) (by intros; rfl) (by intro y y2 h; rfl) ?_
              refine net_pure (fun y => [(186, _), (183, _)]) (fun y => rfl) rfl rfl rfl (fun y hA L => st_pass rfl rfl ⟨rfl, rfl⟩) (by intros; rfl) (by intro y y2 h; rfl) ?_
              refine net_pure (fun y => [(187, _), (183, _)]) (fun y => rfl) rfl rfl rfl (fun y hA L => st_pass rfl rfl ⟨rfl, rfl⟩) (by intros; rfl) (by intro y y2 h; rfl) ?_
              refine net_pure (fun y => [(183, _), (188, _), (173, _)]) (fun y => rfl) rfl rfl rfl (fun y hA L => st_want rfl (st_v (v_pickF rfl rfl) ⟨rfl, rfl⟩)) (by intros; rfl) (by intro y y2 h; rfl) ?_
              refine net_pure (fun y => [(189, _), (173, _)]) (fun y => rfl) rfl rfl rfl (fun y hA L => st_want rfl (st_v (v_move rfl) ⟨rfl, rfl⟩)) (by intros; rfl) (by intro y y2 h; rfl) ?_
              refine net_pure (fun y => [(190, _), (5, _)]) (fun y => rfl) rfl rfl rfl (fun y hA L => st_pass rfl rfl ⟨rfl, rfl⟩) (by intros; rfl) (by intro y y2 h; rfl) ?_
              refine net_pure (fun y => [(190, _), (13, _)]) (fun y => rfl) rfl rfl rfl (fun y hA L => st_pass rfl rfl ⟨rfl, rfl⟩) (by intros; rfl) (by intro y y2 h; rfl) ?_
              refine net_pure (fun y => [(191, _), (192, _), (190, _)]) (fun y => rfl) rfl rfl rfl (fun y hA L => st_pass rfl rfl ⟨rfl, rfl⟩) (by intros; rfl) (by intro y y2 h; rfl) ?_
              refine net_pure (fun y => [(193, _), (190, _)]) (fun y => rfl) rfl rfl rfl (fun y hA L => st_pass rfl rfl ⟨rfl, rfl⟩) (by intros; rfl) (by intro y y2 h; rfl) ?_
              refine net_pure (fun y => [(190, _), (5, _)]) (fun y => rfl) rfl rfl rfl (fun y hA L => st_pass rfl rfl ⟨rfl, rfl⟩) (by intros; rfl) (by intro y y2 h; rfl) ?_
              refine net_pure (fun y => [(190, _), (12, _)]) (fun y => rfl) rfl rfl rfl (fun y hA L => st_pass rfl rfl ⟨rfl, rfl⟩) (by intros; rfl) (by intro y y2 h; rfl) ?_
              refine net_pure (fun y => [(195, _), (196, _), (190, _)]) (fun y => rfl) rfl rfl rfl (fun y hA L => st_pass rfl rfl ⟨rfl, rfl⟩) (by intros; rfl) (by intro y y2 h; rfl) ?_
              refine net_pure (fun y => [(197, _), (190, _)]) (fun y => rfl) rfl rfl rfl (fun y hA L => st_pass rfl rfl ⟨rfl, rfl⟩) (by intros; rfl) (by intro y y2 h; rfl) ?_
              refine net_pure (fun y => [(194, _), (198, _), (190, _)]) (fun y => rfl) rfl rfl rfl (fun y hA L => st_pass rfl rfl ⟨rfl, rfl⟩) (by intros; rfl) (by intro y y2 h; rfl) ?_
              refine net_pure (fun y => [(190, _), (199, _), (173, _)]) (fun y => rfl) rfl rfl rfl (fun y hA L => st_want rfl (st_v (v_pickF rfl rfl) ⟨rfl, rfl⟩)) (by intros; rfl) (by intro y y2 h; rfl) ?_
              refine net_pure (fun y => [(173, _), (200, _)]) (fun y => rfl) rfl rfl rfl (fun y hA L => st_v (v_pickF rfl rfl) ⟨rfl, rfl⟩) (by intros; rfl) (by intro y y2 h; rfl) ?_
              refine net_nil ?_
              intro y hA
              clear hA
              refine thn_n ?_
              refine w_keep _ (.cons (d := 0) rfl (.cons (d := 1) rfl (.cons (d := 5) rfl (.cons (d := 7) rfl (.cons (d := 12) rfl (.cons (d := 13) rfl (.cons (d := 201) rfl (.nil _)))))))) ?_
              refine w_sub (M := RC br o :: Row I3 (some ⟨bo, 0, none⟩) fr.length fr.length o :: RdR I3 p fr.length fr :: F) (fun _ _ h => h) ?_
              refine w_condF rfl ?_
              refine w_skip ?_
              refine blk_n ?_
              refine thn_n ?_
              refine w_region ?_
              refine o_val (v_move rfl) rfl ?_
              refine o_val (v_add rfl rfl (wrapI (by omega) (by omega))) rfl ?_
              refine o_val (v_assign rfl) rfl ?_
              refine o_nil ?_
              refine j1 (j + 1) ?_ (.cons rfl (.cons rfl (.cons rfl (.cons rfl (.cons rfl (.cons rfl (.nil _))))))) (sub (.cons (by repeat first | exact .head | apply Rem.tail) (.cons (by repeat first | exact .head | apply Rem.tail) (.cons (by repeat first | exact .head | apply Rem.tail) .nil))) (by repeat first | exact .refl | apply Drop.skip))
              exact ⟨by omega, by omega⟩
          ·
            refine w_exit ?_
            refine thn_e ?_
            refine thn_e ?_
            refine blk_x ?_
            refine blk_n ?_
            refine thn_n ?_
            refine w_region ?_
            refine o_val (v_move rfl) rfl ?_
            refine o_val (v_add rfl rfl (wrapI (by omega) (by omega))) rfl ?_
            refine o_val (v_assign rfl) rfl ?_
            refine o_nil ?_
            refine j1 (i + 1) ?_ (.cons rfl (.cons rfl (.cons rfl (.cons rfl (.cons rfl (.nil _)))))) (sub (.cons (by repeat first | exact .head | apply Rem.tail) (.cons (by repeat first | exact .head | apply Rem.tail) (.cons (by repeat first | exact .head | apply Rem.tail) .nil))) (by repeat first | exact .refl | apply Drop.skip))
            exact ⟨by omega, by omega⟩
      ·
        refine w_exit ?_
        refine thn_e ?_
        refine thn_e ?_
        refine blk_x ?_
        refine thn_n ?_
        refine w_seq ?_
        refine w_region ?_
        refine o_val (v_assign rfl) rfl ?_
        refine o_nil ?_
        refine thn_n ?_
        refine w_ret ?_
        exact ret_ok (G := [RdR I3 p fr.length fr]) (res1 rfl) ⟨rfl, rfl⟩ (sub (.cons (by repeat first | exact .head | apply Rem.tail) .nil) (by repeat first | exact .refl | apply Drop.skip))

set_option maxHeartbeats 4000000 in
set_option maxRecDepth 100000 in
theorem lens_no (p : Option Addr) (c : Nat) (fr : List Int) (most : Int) (hNo : ¬ OkL fr most) : Ctr Try.prog 7 [.slice p fr.length c, .int .i64 most] [RdR I3 p fr.length fr] (Ret fun v G => v = .bool true ∧ G = [RdR I3 p fr.length fr]) := by
  refine spec_of [(0, _), (1, _)] Try.func7 rfl Try.ntmps7 rfl rfl ?_
  intro w0 F
  refine w_seq ?_
  refine w_region ?_
  refine o_val (v_assign rfl) rfl ?_
  refine o_nil ?_
  refine thn_n ?_
  refine w_seq ?_
  refine w_seq ?_
  refine w_region ?_
  refine o_call (awake) V.b9  rfl .nil rfl ?_
  rintro _ _ ⟨rfl, rfl⟩
  refine o_val (v_to (v := .bool false) (v_not rfl) rfl) rfl ?_
  refine o_nil ?_
  refine thn_n ?_
  refine w_condF rfl ?_
  refine w_skip ?_
  refine thn_n ?_
  refine w_seq ?_
  refine w_seq ?_
  refine w_region ?_
  refine o_val (v_move rfl) rfl ?_
  refine o_val (v_len (ty' := 0) Try.underlying22 rfl) rfl ?_
  refine o_val (v_gtr rfl rfl) rfl ?_
  refine o_nil ?_
  refine thn_n ?_
  first | refine w_condD rfl (fun h18 => ?_) (fun h18 => ?_) | refine w_cond rfl (fun h18 => ?_) (fun h18 => ?_)
  ·
    refine w_seq ?_
    refine w_region ?_
    refine o_val (v_assign rfl) rfl ?_
    refine o_nil ?_
    refine thn_n ?_
    refine w_ret ?_
    refine (thn_r ?_)
    exact ret_ok (G := [RdR I3 p fr.length fr]) (res1 rfl) ⟨rfl, rfl⟩ (sub (.cons (by repeat first | exact .head | apply Rem.tail) .nil) (by repeat first | exact .refl | apply Drop.skip))
  ·
    refine w_skip ?_
    refine thn_n ?_
    refine w_seq ?_
    refine w_region ?_
    refine o_val (v_move rfl) rfl ?_
    refine o_val (v_move rfl) rfl ?_
    refine o_call (h_len_no p c fr most (RdR I3 p fr.length fr) (fun _ _ h => h) hNo) V.b24  rfl (.cons (by repeat first | exact .head | apply Rem.tail) .nil) rfl ?_
    rintro _ _ ⟨rfl, rfl⟩
    refine o_val (v_move rfl) rfl ?_
    refine o_val (v_extract rfl rfl) rfl ?_
    refine o_val (v_extract rfl rfl) rfl ?_
    refine o_val (v_assign rfl) rfl ?_
    refine o_val (v_assign rfl) rfl ?_
    refine o_nil ?_
    refine thn_n ?_
    refine w_seq ?_
    refine w_region ?_
    refine o_val (v_move rfl) rfl ?_
    refine o_val (v_len (ty' := 0) Try.underlying22 rfl) rfl ?_
    refine o_val (v_leq rfl rfl) rfl ?_
    refine o_val (v_move rfl) rfl ?_
    first | refine o_boolD 28 rfl (fun h28 => ?_) (fun h28 => ?_) | refine o_bool 28 rfl (fun h28 => ?_) (fun h28 => ?_)
    ·
      refine o_want rfl ?_
      refine o_val (v_move rfl) rfl ?_
      refine o_want rfl ?_
      refine o_val (v_geq rfl rfl) rfl ?_
      refine o_val (v_pickT rfl rfl) rfl ?_
      refine o_val (v_move rfl) rfl ?_
      first | refine o_boolD 32 rfl (fun h32 => ?_) (fun h32 => ?_) | refine o_bool 32 rfl (fun h32 => ?_) (fun h32 => ?_)
      ·
        refine o_want rfl ?_
        refine o_val (v_move rfl) rfl ?_
        refine o_want rfl ?_
        refine o_val (v_leq rfl rfl) rfl ?_
        refine o_val (v_pickT rfl rfl) rfl ?_
        refine o_val (v_assign rfl) rfl ?_
        refine o_val (v_assign rfl) rfl ?_
        refine o_nil ?_
        refine thn_n ?_
        refine w_seq ?_
        refine w_seq ?_
        refine w_region ?_
        refine o_val (v_assign rfl) rfl ?_
        refine o_nil ?_
        refine thn_n ?_
        refine w_block ?_
        rw [show ((7 : Nat), Value.int .i64 0) = (7, .int .i64 ((PkM.lvs fr 0).length : Int)) from by rw [PkM.lvs_zero]; rfl]
        refine w_loop2 (fun (k : Nat) (f : Bool) => [(0, .slice p fr.length c), (1, .int .i64 most), (5, .slice none 0 0), (6, .bool false), (7, .int .i64 ((PkM.lvs fr k).length : Int)), (8, .bool f), (9, .int .i64 (k : Int))]) (fun (k : Nat) (f : Bool) => RdR I3 p fr.length fr :: F) (fun (k : Nat) (f : Bool) => k ≤ fr.length ∧ (f = true → fr.length ≤ 320 ∧ 1 ≤ most ∧ most ≤ 15 ∧ ∀ i, i < k → 0 ≤ fr.getD i 0 ∧ fr.getD i 0 ≤ 1048576)) (fun (k : Nat) (f : Bool) => fr.length - k) (i2 (0) (_) ?_ (.cons rfl (.cons rfl (.cons rfl (.cons rfl (.cons rfl (.cons rfl (.cons rfl (.nil _)))))))) (sub (.cons (by repeat first | exact .head | apply Rem.tail) .nil) (by repeat first | exact .refl | apply Drop.skip))) ?_
        ·
          refine ⟨Nat.zero_le _, fun hf => ?_⟩
          first
          | (exact absurd hf (by decide))
          | (have hf2 := of_decide_eq_true hf; exact ⟨by omega, by omega, by omega, fun i hi => absurd hi (Nat.not_lt_zero _)⟩)
        intro k f
        rintro ⟨hk, hK⟩
        refine w_seq ?_
        refine w_seq ?_
        refine w_region ?_
        refine o_val (v_move rfl) rfl ?_
        refine o_val (v_move rfl) rfl ?_
        refine o_val (v_len (ty' := 0) Try.underlying22 rfl) rfl ?_
        refine o_val (v_lss rfl rfl) rfl ?_
        refine o_nil ?_
        refine thn_n ?_
        first | refine w_condD rfl (fun h39 => ?_) (fun h39 => ?_) | refine w_cond rfl (fun h39 => ?_) (fun h39 => ?_)
        ·
          refine w_skip ?_
          refine thn_n ?_
          refine w_seq ?_
          refine w_block ?_
          refine w_seq ?_
          have hk2 : k < fr.length := by omega
          have hll := PkM.lvs_len fr k
          have hg2 : I3.g fr (k : Int) = fr.getD k 0 := by simp [Ec.g]
          refine w_region ?_
          refine o_val (v_move rfl) rfl ?_
          refine o_val (v_move rfl) rfl ?_
          first | refine o_boolD 43 rfl (fun h43 => ?_) (fun h43 => ?_) | refine o_bool 43 rfl (fun h43 => ?_) (fun h43 => ?_)
          ·
            refine o_want rfl ?_
            refine o_val (v_move rfl) rfl ?_
            refine o_want rfl ?_
            refine o_val (v_move rfl) rfl ?_
            refine o_want rfl ?_
            refine o_val (r_index (c := (I3)) V.sl22 rfl rfl (by first | exact own mm0 | exact own mm1 | exact own mm2 | exact own mm3 | exact own mm4 | exact own mm5 | exact own mm6 | exact own mm7 | exact own mm8 | exact own mm9 | exact own mm10 | exact own mm11 | exact rdH (fun _ _ h => h) mm0 | exact rdH (fun _ _ h => h) mm1 | exact rdH (fun _ _ h => h) mm2 | exact rdH (fun _ _ h => h) mm3 | exact rdH (fun _ _ h => h) mm4 | exact rdH (fun _ _ h => h) mm5 | exact rdH (fun _ _ h => h) mm6 | exact rdH (fun _ _ h => h) mm7 | exact rdH (fun _ _ h => h) mm8 | exact rdH (fun _ _ h => h) mm9 | exact rdH (fun _ _ h => h) mm10 | exact rdH (fun _ _ h => h) mm11) (by omega) (by omega)) rfl ?_
            refine o_want rfl ?_
            refine o_val (r_load (c := (I3)) V.s3 rfl (by first | exact own mm0 | exact own mm1 | exact own mm2 | exact own mm3 | exact own mm4 | exact own mm5 | exact own mm6 | exact own mm7 | exact own mm8 | exact own mm9 | exact own mm10 | exact own mm11 | exact rdH (fun _ _ h => h) mm0 | exact rdH (fun _ _ h => h) mm1 | exact rdH (fun _ _ h => h) mm2 | exact rdH (fun _ _ h => h) mm3 | exact rdH (fun _ _ h => h) mm4 | exact rdH (fun _ _ h => h) mm5 | exact rdH (fun _ _ h => h) mm6 | exact rdH (fun _ _ h => h) mm7 | exact rdH (fun _ _ h => h) mm8 | exact rdH (fun _ _ h => h) mm9 | exact rdH (fun _ _ h => h) mm10 | exact rdH (fun _ _ h => h) mm11) (by omega) (by omega) rfl rfl) rfl ?_
            refine o_want rfl ?_
            refine o_val (v_geq rfl rfl) rfl ?_
            refine o_val (v_pickT rfl rfl) rfl ?_
            refine o_val (v_move rfl) rfl ?_
            first | refine o_boolD 50 rfl (fun h50 => ?_) (fun h50 => ?_) | refine o_bool 50 rfl (fun h50 => ?_) (fun h50 => ?_)
            ·
              refine o_want rfl ?_
              refine o_val (v_move rfl) rfl ?_
              refine o_want rfl ?_
              refine o_val (v_move rfl) rfl ?_
              refine o_want rfl ?_
              refine o_val (r_index (c := (I3)) V.sl22 rfl rfl (by first | exact own mm0 | exact own mm1 | exact own mm2 | exact own mm3 | exact own mm4 | exact own mm5 | exact own mm6 | exact own mm7 | exact own mm8 | exact own mm9 | exact own mm10 | exact own mm11 | exact rdH (fun _ _ h => h) mm0 | exact rdH (fun _ _ h => h) mm1 | exact rdH (fun _ _ h => h) mm2 | exact rdH (fun _ _ h => h) mm3 | exact rdH (fun _ _ h => h) mm4 | exact rdH (fun _ _ h => h) mm5 | exact rdH (fun _ _ h => h) mm6 | exact rdH (fun _ _ h => h) mm7 | exact rdH (fun _ _ h => h) mm8 | exact rdH (fun _ _ h => h) mm9 | exact rdH (fun _ _ h => h) mm10 | exact rdH (fun _ _ h => h) mm11) (by omega) (by omega)) rfl ?_
              refine o_want rfl ?_
              refine o_val (r_load (c := (I3)) V.s3 rfl (by first | exact own mm0 | exact own mm1 | exact own mm2 | exact own mm3 | exact own mm4 | exact own mm5 | exact own mm6 | exact own mm7 | exact own mm8 | exact own mm9 | exact own mm10 | exact own mm11 | exact rdH (fun _ _ h => h) mm0 | exact rdH (fun _ _ h => h) mm1 | exact rdH (fun _ _ h => h) mm2 | exact rdH (fun _ _ h => h) mm3 | exact rdH (fun _ _ h => h) mm4 | exact rdH (fun _ _ h => h) mm5 | exact rdH (fun _ _ h => h) mm6 | exact rdH (fun _ _ h => h) mm7 | exact rdH (fun _ _ h => h) mm8 | exact rdH (fun _ _ h => h) mm9 | exact rdH (fun _ _ h => h) mm10 | exact rdH (fun _ _ h => h) mm11) (by omega) (by omega) rfl rfl) rfl ?_
              refine o_want rfl ?_
              refine o_val (v_leq rfl rfl) rfl ?_
              refine o_val (v_pickT rfl rfl) rfl ?_
              refine o_val (v_assign rfl) rfl ?_
              refine o_nil ?_
              refine thn_n ?_
              refine w_seq ?_
              refine w_region ?_
              refine o_val (v_move rfl) rfl ?_
              refine o_val (v_move rfl) rfl ?_
              refine o_val (r_index (c := (I3)) V.sl22 rfl rfl (by first | exact own mm0 | exact own mm1 | exact own mm2 | exact own mm3 | exact own mm4 | exact own mm5 | exact own mm6 | exact own mm7 | exact own mm8 | exact own mm9 | exact own mm10 | exact own mm11 | exact rdH (fun _ _ h => h) mm0 | exact rdH (fun _ _ h => h) mm1 | exact rdH (fun _ _ h => h) mm2 | exact rdH (fun _ _ h => h) mm3 | exact rdH (fun _ _ h => h) mm4 | exact rdH (fun _ _ h => h) mm5 | exact rdH (fun _ _ h => h) mm6 | exact rdH (fun _ _ h => h) mm7 | exact rdH (fun _ _ h => h) mm8 | exact rdH (fun _ _ h => h) mm9 | exact rdH (fun _ _ h => h) mm10 | exact rdH (fun _ _ h => h) mm11) (by omega) (by omega)) rfl ?_
              refine o_val (r_load (c := (I3)) V.s3 rfl (by first | exact own mm0 | exact own mm1 | exact own mm2 | exact own mm3 | exact own mm4 | exact own mm5 | exact own mm6 | exact own mm7 | exact own mm8 | exact own mm9 | exact own mm10 | exact own mm11 | exact rdH (fun _ _ h => h) mm0 | exact rdH (fun _ _ h => h) mm1 | exact rdH (fun _ _ h => h) mm2 | exact rdH (fun _ _ h => h) mm3 | exact rdH (fun _ _ h => h) mm4 | exact rdH (fun _ _ h => h) mm5 | exact rdH (fun _ _ h => h) mm6 | exact rdH (fun _ _ h => h) mm7 | exact rdH (fun _ _ h => h) mm8 | exact rdH (fun _ _ h => h) mm9 | exact rdH (fun _ _ h => h) mm10 | exact rdH (fun _ _ h => h) mm11) (by omega) (by omega) rfl rfl) rfl ?_
              refine o_val (v_gtr rfl rfl) rfl ?_
              refine o_nil ?_
              refine thn_n ?_
              first | refine w_condD rfl (fun h61 => ?_) (fun h61 => ?_) | refine w_cond rfl (fun h61 => ?_) (fun h61 => ?_)
              ·
                refine w_region ?_
                refine o_val (v_move rfl) rfl ?_
                refine o_val (v_add rfl rfl (wrapI (by omega) (by omega))) rfl ?_
                refine o_val (v_assign rfl) rfl ?_
                refine o_nil ?_
                refine blk_n ?_
                refine thn_n ?_
                refine w_region ?_
                refine o_val (v_move rfl) rfl ?_
                refine o_val (v_add rfl rfl (wrapI (by omega) (by omega))) rfl ?_
                refine o_val (v_assign rfl) rfl ?_
                refine o_nil ?_
                have hst : ∀ x : Bool, (x = true → f = true ∧ 0 ≤ fr.getD k 0 ∧ fr.getD k 0 ≤ 1048576) → x = true → fr.length ≤ 320 ∧ 1 ≤ most ∧ most ≤ 15 ∧ ∀ i, i < k + 1 → 0 ≤ fr.getD i 0 ∧ fr.getD i 0 ≤ 1048576 := fun x hx e => by
                  obtain ⟨e1, e2, e3⟩ := hx e
                  obtain ⟨a1, a2, a3, a4⟩ := hK e1
                  exact ⟨a1, a2, a3, fun i hi => by
                    rcases Nat.lt_or_ge i k with h | h
                    · exact a4 i h
                    · obtain rfl : i = k := by omega
                      exact ⟨e2, e3⟩⟩
                first
                | (rw [lvs_cast_yes (by omega)]; refine j2 (k + 1) _ ⟨⟨by omega, hst _ ?_⟩, by omega⟩ (.cons rfl (.cons rfl (.cons rfl (.cons rfl (.cons rfl (.cons rfl (.cons rfl (.nil _)))))))) (sub (.cons (by repeat first | exact .head | apply Rem.tail) .nil) (by repeat first | exact .refl | apply Drop.skip)))
                | (rw [← PkM.lvs_no (by omega)]; refine j2 (k + 1) _ ⟨⟨by omega, hst _ ?_⟩, by omega⟩ (.cons rfl (.cons rfl (.cons rfl (.cons rfl (.cons rfl (.cons rfl (.cons rfl (.nil _)))))))) (sub (.cons (by repeat first | exact .head | apply Rem.tail) .nil) (by repeat first | exact .refl | apply Drop.skip)))
                intro hx
                first
                | (exact absurd hx (by decide))
                | (have hx2 := of_decide_eq_true hx; exact ⟨by assumption, by omega, by omega⟩)
              ·
                refine w_skip ?_
                refine blk_n ?_
                refine thn_n ?_
                refine w_region ?_
                refine o_val (v_move rfl) rfl ?_
                refine o_val (v_add rfl rfl (wrapI (by omega) (by omega))) rfl ?_
                refine o_val (v_assign rfl) rfl ?_
                refine o_nil ?_
                have hst : ∀ x : Bool, (x = true → f = true ∧ 0 ≤ fr.getD k 0 ∧ fr.getD k 0 ≤ 1048576) → x = true → fr.length ≤ 320 ∧ 1 ≤ most ∧ most ≤ 15 ∧ ∀ i, i < k + 1 → 0 ≤ fr.getD i 0 ∧ fr.getD i 0 ≤ 1048576 := fun x hx e => by
                  obtain ⟨e1, e2, e3⟩ := hx e
                  obtain ⟨a1, a2, a3, a4⟩ := hK e1
                  exact ⟨a1, a2, a3, fun i hi => by
                    rcases Nat.lt_or_ge i k with h | h
                    · exact a4 i h
                    · obtain rfl : i = k := by omega
                      exact ⟨e2, e3⟩⟩
                first
                | (rw [lvs_cast_yes (by omega)]; refine j2 (k + 1) _ ⟨⟨by omega, hst _ ?_⟩, by omega⟩ (.cons rfl (.cons rfl (.cons rfl (.cons rfl (.cons rfl (.cons rfl (.cons rfl (.nil _)))))))) (sub (.cons (by repeat first | exact .head | apply Rem.tail) .nil) (by repeat first | exact .refl | apply Drop.skip)))
                | (rw [← PkM.lvs_no (by omega)]; refine j2 (k + 1) _ ⟨⟨by omega, hst _ ?_⟩, by omega⟩ (.cons rfl (.cons rfl (.cons rfl (.cons rfl (.cons rfl (.cons rfl (.cons rfl (.nil _)))))))) (sub (.cons (by repeat first | exact .head | apply Rem.tail) .nil) (by repeat first | exact .refl | apply Drop.skip)))
                intro hx
                first
                | (exact absurd hx (by decide))
                | (have hx2 := of_decide_eq_true hx; exact ⟨by assumption, by omega, by omega⟩)
            ·
              refine o_pass rfl rfl rfl ?_
              refine o_pass rfl rfl rfl ?_
              refine o_pass rfl rfl rfl ?_
              refine o_pass rfl rfl rfl ?_
              refine o_pass rfl rfl rfl ?_
              refine o_val (v_pickF rfl rfl) rfl ?_
              refine o_val (v_assign rfl) rfl ?_
              refine o_nil ?_
              refine thn_n ?_
              refine w_seq ?_
              refine w_region ?_
              refine o_val (v_move rfl) rfl ?_
              refine o_val (v_move rfl) rfl ?_
              refine o_val (r_index (c := (I3)) V.sl22 rfl rfl (by first | exact own mm0 | exact own mm1 | exact own mm2 | exact own mm3 | exact own mm4 | exact own mm5 | exact own mm6 | exact own mm7 | exact own mm8 | exact own mm9 | exact own mm10 | exact own mm11 | exact rdH (fun _ _ h => h) mm0 | exact rdH (fun _ _ h => h) mm1 | exact rdH (fun _ _ h => h) mm2 | exact rdH (fun _ _ h => h) mm3 | exact rdH (fun _ _ h => h) mm4 | exact rdH (fun _ _ h => h) mm5 | exact rdH (fun _ _ h => h) mm6 | exact rdH (fun _ _ h => h) mm7 | exact rdH (fun _ _ h => h) mm8 | exact rdH (fun _ _ h => h) mm9 | exact rdH (fun _ _ h => h) mm10 | exact rdH (fun _ _ h => h) mm11) (by omega) (by omega)) rfl ?_
              refine o_val (r_load (c := (I3)) V.s3 rfl (by first | exact own mm0 | exact own mm1 | exact own mm2 | exact own mm3 | exact own mm4 | exact own mm5 | exact own mm6 | exact own mm7 | exact own mm8 | exact own mm9 | exact own mm10 | exact own mm11 | exact rdH (fun _ _ h => h) mm0 | exact rdH (fun _ _ h => h) mm1 | exact rdH (fun _ _ h => h) mm2 | exact rdH (fun _ _ h => h) mm3 | exact rdH (fun _ _ h => h) mm4 | exact rdH (fun _ _ h => h) mm5 | exact rdH (fun _ _ h => h) mm6 | exact rdH (fun _ _ h => h) mm7 | exact rdH (fun _ _ h => h) mm8 | exact rdH (fun _ _ h => h) mm9 | exact rdH (fun _ _ h => h) mm10 | exact rdH (fun _ _ h => h) mm11) (by omega) (by omega) rfl rfl) rfl ?_
              refine o_val (v_gtr rfl rfl) rfl ?_
              refine o_nil ?_
              refine thn_n ?_
              first | refine w_condD rfl (fun h61 => ?_) (fun h61 => ?_) | refine w_cond rfl (fun h61 => ?_) (fun h61 => ?_)
              ·
                refine w_region ?_
                refine o_val (v_move rfl) rfl ?_
                refine o_val (v_add rfl rfl (wrapI (by omega) (by omega))) rfl ?_
                refine o_val (v_assign rfl) rfl ?_
                refine o_nil ?_
                refine blk_n ?_
                refine thn_n ?_
                refine w_region ?_
                refine o_val (v_move rfl) rfl ?_
                refine o_val (v_add rfl rfl (wrapI (by omega) (by omega))) rfl ?_
                refine o_val (v_assign rfl) rfl ?_
                refine o_nil ?_
                have hst : ∀ x : Bool, (x = true → f = true ∧ 0 ≤ fr.getD k 0 ∧ fr.getD k 0 ≤ 1048576) → x = true → fr.length ≤ 320 ∧ 1 ≤ most ∧ most ≤ 15 ∧ ∀ i, i < k + 1 → 0 ≤ fr.getD i 0 ∧ fr.getD i 0 ≤ 1048576 := fun x hx e => by
                  obtain ⟨e1, e2, e3⟩ := hx e
                  obtain ⟨a1, a2, a3, a4⟩ := hK e1
                  exact ⟨a1, a2, a3, fun i hi => by
                    rcases Nat.lt_or_ge i k with h | h
                    · exact a4 i h
                    · obtain rfl : i = k := by omega
                      exact ⟨e2, e3⟩⟩
                first
                | (rw [lvs_cast_yes (by omega)]; refine j2 (k + 1) _ ⟨⟨by omega, hst _ ?_⟩, by omega⟩ (.cons rfl (.cons rfl (.cons rfl (.cons rfl (.cons rfl (.cons rfl (.cons rfl (.nil _)))))))) (sub (.cons (by repeat first | exact .head | apply Rem.tail) .nil) (by repeat first | exact .refl | apply Drop.skip)))
                | (rw [← PkM.lvs_no (by omega)]; refine j2 (k + 1) _ ⟨⟨by omega, hst _ ?_⟩, by omega⟩ (.cons rfl (.cons rfl (.cons rfl (.cons rfl (.cons rfl (.cons rfl (.cons rfl (.nil _)))))))) (sub (.cons (by repeat first | exact .head | apply Rem.tail) .nil) (by repeat first | exact .refl | apply Drop.skip)))
                intro hx
                first
                | (exact absurd hx (by decide))
                | (have hx2 := of_decide_eq_true hx; exact ⟨by assumption, by omega, by omega⟩)
              ·
                refine w_skip ?_
                refine blk_n ?_
                refine thn_n ?_
                refine w_region ?_
                refine o_val (v_move rfl) rfl ?_
                refine o_val (v_add rfl rfl (wrapI (by omega) (by omega))) rfl ?_
                refine o_val (v_assign rfl) rfl ?_
                refine o_nil ?_
                have hst : ∀ x : Bool, (x = true → f = true ∧ 0 ≤ fr.getD k 0 ∧ fr.getD k 0 ≤ 1048576) → x = true → fr.length ≤ 320 ∧ 1 ≤ most ∧ most ≤ 15 ∧ ∀ i, i < k + 1 → 0 ≤ fr.getD i 0 ∧ fr.getD i 0 ≤ 1048576 := fun x hx e => by
                  obtain ⟨e1, e2, e3⟩ := hx e
                  obtain ⟨a1, a2, a3, a4⟩ := hK e1
                  exact ⟨a1, a2, a3, fun i hi => by
                    rcases Nat.lt_or_ge i k with h | h
                    · exact a4 i h
                    · obtain rfl : i = k := by omega
                      exact ⟨e2, e3⟩⟩
                first
                | (rw [lvs_cast_yes (by omega)]; refine j2 (k + 1) _ ⟨⟨by omega, hst _ ?_⟩, by omega⟩ (.cons rfl (.cons rfl (.cons rfl (.cons rfl (.cons rfl (.cons rfl (.cons rfl (.nil _)))))))) (sub (.cons (by repeat first | exact .head | apply Rem.tail) .nil) (by repeat first | exact .refl | apply Drop.skip)))
                | (rw [← PkM.lvs_no (by omega)]; refine j2 (k + 1) _ ⟨⟨by omega, hst _ ?_⟩, by omega⟩ (.cons rfl (.cons rfl (.cons rfl (.cons rfl (.cons rfl (.cons rfl (.cons rfl (.nil _)))))))) (sub (.cons (by repeat first | exact .head | apply Rem.tail) .nil) (by repeat first | exact .refl | apply Drop.skip)))
                intro hx
                first
                | (exact absurd hx (by decide))
                | (have hx2 := of_decide_eq_true hx; exact ⟨by assumption, by omega, by omega⟩)
          ·
            refine o_pass rfl rfl rfl ?_
            refine o_pass rfl rfl rfl ?_
            refine o_pass rfl rfl rfl ?_
            refine o_pass rfl rfl rfl ?_
            refine o_pass rfl rfl rfl ?_
            refine o_val (v_pickF rfl rfl) rfl ?_
            refine o_val (v_move rfl) rfl ?_
            refine o_pass rfl rfl rfl ?_
            refine o_pass rfl rfl rfl ?_
            refine o_pass rfl rfl rfl ?_
            refine o_pass rfl rfl rfl ?_
            refine o_pass rfl rfl rfl ?_
            refine o_val (v_pickF rfl rfl) rfl ?_
            refine o_val (v_assign rfl) rfl ?_
            refine o_nil ?_
            refine thn_n ?_
            refine w_seq ?_
            refine w_region ?_
            refine o_val (v_move rfl) rfl ?_
            refine o_val (v_move rfl) rfl ?_
            refine o_val (r_index (c := (I3)) V.sl22 rfl rfl (by first | exact own mm0 | exact own mm1 | exact own mm2 | exact own mm3 | exact own mm4 | exact own mm5 | exact own mm6 | exact own mm7 | exact own mm8 | exact own mm9 | exact own mm10 | exact own mm11 | exact rdH (fun _ _ h => h) mm0 | exact rdH (fun _ _ h => h) mm1 | exact rdH (fun _ _ h => h) mm2 | exact rdH (fun _ _ h => h) mm3 | exact rdH (fun _ _ h => h) mm4 | exact rdH (fun _ _ h => h) mm5 | exact rdH (fun _ _ h => h) mm6 | exact rdH (fun _ _ h => h) mm7 | exact rdH (fun _ _ h => h) mm8 | exact rdH (fun _ _ h => h) mm9 | exact rdH (fun _ _ h => h) mm10 | exact rdH (fun _ _ h => h) mm11) (by omega) (by omega)) rfl ?_
            refine o_val (r_load (c := (I3)) V.s3 rfl (by first | exact own mm0 | exact own mm1 | exact own mm2 | exact own mm3 | exact own mm4 | exact own mm5 | exact own mm6 | exact own mm7 | exact own mm8 | exact own mm9 | exact own mm10 | exact own mm11 | exact rdH (fun _ _ h => h) mm0 | exact rdH (fun _ _ h => h) mm1 | exact rdH (fun _ _ h => h) mm2 | exact rdH (fun _ _ h => h) mm3 | exact rdH (fun _ _ h => h) mm4 | exact rdH (fun _ _ h => h) mm5 | exact rdH (fun _ _ h => h) mm6 | exact rdH (fun _ _ h => h) mm7 | exact rdH (fun _ _ h => h) mm8 | exact rdH (fun _ _ h => h) mm9 | exact rdH (fun _ _ h => h) mm10 | exact rdH (fun _ _ h => h) mm11) (by omega) (by omega) rfl rfl) rfl ?_
            refine o_val (v_gtr rfl rfl) rfl ?_
            refine o_nil ?_
            refine thn_n ?_
            first | refine w_condD rfl (fun h61 => ?_) (fun h61 => ?_) | refine w_cond rfl (fun h61 => ?_) (fun h61 => ?_)
            ·
              refine w_region ?_
              refine o_val (v_move rfl) rfl ?_
              refine o_val (v_add rfl rfl (wrapI (by omega) (by omega))) rfl ?_
              refine o_val (v_assign rfl) rfl ?_
              refine o_nil ?_
              refine blk_n ?_
              refine thn_n ?_
              refine w_region ?_
              refine o_val (v_move rfl) rfl ?_
              refine o_val (v_add rfl rfl (wrapI (by omega) (by omega))) rfl ?_
              refine o_val (v_assign rfl) rfl ?_
              refine o_nil ?_
              have hst : ∀ x : Bool, (x = true → f = true ∧ 0 ≤ fr.getD k 0 ∧ fr.getD k 0 ≤ 1048576) → x = true → fr.length ≤ 320 ∧ 1 ≤ most ∧ most ≤ 15 ∧ ∀ i, i < k + 1 → 0 ≤ fr.getD i 0 ∧ fr.getD i 0 ≤ 1048576 := fun x hx e => by
                obtain ⟨e1, e2, e3⟩ := hx e
                obtain ⟨a1, a2, a3, a4⟩ := hK e1
                exact ⟨a1, a2, a3, fun i hi => by
                  rcases Nat.lt_or_ge i k with h | h
                  · exact a4 i h
                  · obtain rfl : i = k := by omega
                    exact ⟨e2, e3⟩⟩
              first
              | (rw [lvs_cast_yes (by omega)]; refine j2 (k + 1) _ ⟨⟨by omega, hst _ ?_⟩, by omega⟩ (.cons rfl (.cons rfl (.cons rfl (.cons rfl (.cons rfl (.cons rfl (.cons rfl (.nil _)))))))) (sub (.cons (by repeat first | exact .head | apply Rem.tail) .nil) (by repeat first | exact .refl | apply Drop.skip)))
              | (rw [← PkM.lvs_no (by omega)]; refine j2 (k + 1) _ ⟨⟨by omega, hst _ ?_⟩, by omega⟩ (.cons rfl (.cons rfl (.cons rfl (.cons rfl (.cons rfl (.cons rfl (.cons rfl (.nil _)))))))) (sub (.cons (by repeat first | exact .head | apply Rem.tail) .nil) (by repeat first | exact .refl | apply Drop.skip)))
              intro hx
              first
              | (exact absurd hx (by decide))
              | (have hx2 := of_decide_eq_true hx; exact ⟨by assumption, by omega, by omega⟩)
            ·
              refine w_skip ?_
              refine blk_n ?_
              refine thn_n ?_
              refine w_region ?_
              refine o_val (v_move rfl) rfl ?_
              refine o_val (v_add rfl rfl (wrapI (by omega) (by omega))) rfl ?_
              refine o_val (v_assign rfl) rfl ?_
              refine o_nil ?_
              have hst : ∀ x : Bool, (x = true → f = true ∧ 0 ≤ fr.getD k 0 ∧ fr.getD k 0 ≤ 1048576) → x = true → fr.length ≤ 320 ∧ 1 ≤ most ∧ most ≤ 15 ∧ ∀ i, i < k + 1 → 0 ≤ fr.getD i 0 ∧ fr.getD i 0 ≤ 1048576 := fun x hx e => by
                obtain ⟨e1, e2, e3⟩ := hx e
                obtain ⟨a1, a2, a3, a4⟩ := hK e1
                exact ⟨a1, a2, a3, fun i hi => by
                  rcases Nat.lt_or_ge i k with h | h
                  · exact a4 i h
                  · obtain rfl : i = k := by omega
                    exact ⟨e2, e3⟩⟩
              first
              | (rw [lvs_cast_yes (by omega)]; refine j2 (k + 1) _ ⟨⟨by omega, hst _ ?_⟩, by omega⟩ (.cons rfl (.cons rfl (.cons rfl (.cons rfl (.cons rfl (.cons rfl (.cons rfl (.nil _)))))))) (sub (.cons (by repeat first | exact .head | apply Rem.tail) .nil) (by repeat first | exact .refl | apply Drop.skip)))
              | (rw [← PkM.lvs_no (by omega)]; refine j2 (k + 1) _ ⟨⟨by omega, hst _ ?_⟩, by omega⟩ (.cons rfl (.cons rfl (.cons rfl (.cons rfl (.cons rfl (.cons rfl (.cons rfl (.nil _)))))))) (sub (.cons (by repeat first | exact .head | apply Rem.tail) .nil) (by repeat first | exact .refl | apply Drop.skip)))
              intro hx
              first
              | (exact absurd hx (by decide))
              | (have hx2 := of_decide_eq_true hx; exact ⟨by assumption, by omega, by omega⟩)
        ·
          refine w_exit ?_
          refine thn_e ?_
          refine thn_e ?_
          refine blk_x ?_
          refine thn_n ?_
          refine w_seq ?_
          obtain rfl : k = fr.length := by omega
          refine w_region ?_
          refine o_val (v_move rfl) rfl ?_
          refine o_val (v_move rfl) rfl ?_
          first | refine o_boolD 65 rfl (fun h65 => ?_) (fun h65 => ?_) | refine o_bool 65 rfl (fun h65 => ?_) (fun h65 => ?_)
          ·
            obtain ⟨a1, a2, a3, a4⟩ := hK h65
            refine o_want rfl ?_
            refine o_val (v_move rfl) rfl ?_
            refine o_want rfl ?_
            refine o_val (v_move rfl) rfl ?_
            refine o_want rfl ?_
            refine o_val (v_and (r := most) rfl rfl (and15 (by omega))) rfl ?_
            refine o_want rfl ?_
            refine o_val (v_conv V.u3 Try.underlying34 rfl (wrapU (by omega) (by omega))) rfl ?_
            refine o_want rfl ?_
            refine o_val (v_shl (r := ((2 ^ most.toNat : Nat) : Int)) rfl rfl (by omega) (shl_most (by omega))) rfl ?_
            refine o_want rfl ?_
            refine o_val (v_F (v_leq rfl rfl) (fun h => hNo ⟨a2, a3, a1, a4, by omega⟩)) rfl ?_
            refine o_val (v_pickT rfl rfl) rfl ?_
            refine o_val (v_assign rfl) rfl ?_
            refine o_nil ?_
            refine thn_n ?_
            refine w_seq ?_
            refine w_seq ?_
            refine w_region ?_
            refine o_val (v_move rfl) rfl ?_
            refine o_val (v_to (v := .bool true) (v_not rfl) rfl) rfl ?_
            refine o_nil ?_
            refine thn_n ?_
            refine w_condT rfl ?_
            refine w_seq ?_
            refine w_region ?_
            refine o_val (v_move rfl) rfl ?_
            refine o_val (v_to (v := .bool true) (v_not rfl) rfl) rfl ?_
            refine o_val (v_move rfl) rfl ?_
            refine o_want rfl ?_
            refine o_val (v_move rfl) rfl ?_
            refine o_want rfl ?_
            refine o_val (v_len (ty' := 0) Try.underlying22 rfl) rfl ?_
            refine o_want rfl ?_
            refine o_val (v_T (v_eql rfl rfl) rfl) rfl ?_
            refine o_val (v_pickT rfl rfl) rfl ?_
            refine o_val (v_assign rfl) rfl ?_
            refine o_nil ?_
            refine thn_n ?_
            refine w_ret ?_
            refine (thn_r ?_)
            exact ret_ok (G := [RdR I3 p fr.length fr]) (res1 rfl) ⟨rfl, rfl⟩ (sub (.cons (by repeat first | exact .head | apply Rem.tail) .nil) (by repeat first | exact .refl | apply Drop.skip))
          ·
            refine o_pass rfl rfl rfl ?_
            refine o_pass rfl rfl rfl ?_
            refine o_pass rfl rfl rfl ?_
            refine o_pass rfl rfl rfl ?_
            refine o_pass rfl rfl rfl ?_
            refine o_pass rfl rfl rfl ?_
            refine o_val (v_pickF rfl rfl) rfl ?_
            refine o_val (v_assign rfl) rfl ?_
            refine o_nil ?_
            refine thn_n ?_
            refine w_seq ?_
            refine w_seq ?_
            refine w_region ?_
            refine o_val (v_move rfl) rfl ?_
            refine o_val (v_to (v := .bool true) (v_not rfl) rfl) rfl ?_
            refine o_nil ?_
            refine thn_n ?_
            refine w_condT rfl ?_
            refine w_seq ?_
            refine w_region ?_
            refine o_val (v_move rfl) rfl ?_
            refine o_val (v_to (v := .bool true) (v_not rfl) rfl) rfl ?_
            refine o_val (v_move rfl) rfl ?_
            refine o_want rfl ?_
            refine o_val (v_move rfl) rfl ?_
            refine o_want rfl ?_
            refine o_val (v_len (ty' := 0) Try.underlying22 rfl) rfl ?_
            refine o_want rfl ?_
            refine o_val (v_T (v_eql rfl rfl) rfl) rfl ?_
            refine o_val (v_pickT rfl rfl) rfl ?_
            refine o_val (v_assign rfl) rfl ?_
            refine o_nil ?_
            refine thn_n ?_
            refine w_ret ?_
            refine (thn_r ?_)
            exact ret_ok (G := [RdR I3 p fr.length fr]) (res1 rfl) ⟨rfl, rfl⟩ (sub (.cons (by repeat first | exact .head | apply Rem.tail) .nil) (by repeat first | exact .refl | apply Drop.skip))
      ·
        refine o_pass rfl rfl rfl ?_
        refine o_pass rfl rfl rfl ?_
        refine o_val (v_pickF rfl rfl) rfl ?_
        refine o_val (v_assign rfl) rfl ?_
        refine o_val (v_assign rfl) rfl ?_
        refine o_nil ?_
        refine thn_n ?_
        refine w_seq ?_
        refine w_seq ?_
        refine w_region ?_
        refine o_val (v_assign rfl) rfl ?_
        refine o_nil ?_
        refine thn_n ?_
        refine w_block ?_
        rw [show ((7 : Nat), Value.int .i64 0) = (7, .int .i64 ((PkM.lvs fr 0).length : Int)) from by rw [PkM.lvs_zero]; rfl]
        refine w_loop2 (fun (k : Nat) (f : Bool) => [(0, .slice p fr.length c), (1, .int .i64 most), (5, .slice none 0 0), (6, .bool false), (7, .int .i64 ((PkM.lvs fr k).length : Int)), (8, .bool f), (9, .int .i64 (k : Int))]) (fun (k : Nat) (f : Bool) => RdR I3 p fr.length fr :: F) (fun (k : Nat) (f : Bool) => k ≤ fr.length ∧ (f = true → fr.length ≤ 320 ∧ 1 ≤ most ∧ most ≤ 15 ∧ ∀ i, i < k → 0 ≤ fr.getD i 0 ∧ fr.getD i 0 ≤ 1048576)) (fun (k : Nat) (f : Bool) => fr.length - k) (i2 (0) (_) ?_ (.cons rfl (.cons rfl (.cons rfl (.cons rfl (.cons rfl (.cons rfl (.cons rfl (.nil _)))))))) (sub (.cons (by repeat first | exact .head | apply Rem.tail) .nil) (by repeat first | exact .refl | apply Drop.skip))) ?_
        ·
          refine ⟨Nat.zero_le _, fun hf => ?_⟩
          first
          | (exact absurd hf (by decide))
          | (have hf2 := of_decide_eq_true hf; exact ⟨by omega, by omega, by omega, fun i hi => absurd hi (Nat.not_lt_zero _)⟩)
        intro k f
        rintro ⟨hk, hK⟩
        refine w_seq ?_
        refine w_seq ?_
        refine w_region ?_
        refine o_val (v_move rfl) rfl ?_
        refine o_val (v_move rfl) rfl ?_
        refine o_val (v_len (ty' := 0) Try.underlying22 rfl) rfl ?_
        refine o_val (v_lss rfl rfl) rfl ?_
        refine o_nil ?_
        refine thn_n ?_
        first | refine w_condD rfl (fun h39 => ?_) (fun h39 => ?_) | refine w_cond rfl (fun h39 => ?_) (fun h39 => ?_)
        ·
          refine w_skip ?_
          refine thn_n ?_
          refine w_seq ?_
          refine w_block ?_
          refine w_seq ?_
          have hk2 : k < fr.length := by omega
          have hll := PkM.lvs_len fr k
          have hg2 : I3.g fr (k : Int) = fr.getD k 0 := by simp [Ec.g]
          refine w_region ?_
          refine o_val (v_move rfl) rfl ?_
          refine o_val (v_move rfl) rfl ?_
          first | refine o_boolD 43 rfl (fun h43 => ?_) (fun h43 => ?_) | refine o_bool 43 rfl (fun h43 => ?_) (fun h43 => ?_)
          ·
            refine o_want rfl ?_
            refine o_val (v_move rfl) rfl ?_
            refine o_want rfl ?_
            refine o_val (v_move rfl) rfl ?_
            refine o_want rfl ?_
            refine o_val (r_index (c := (I3)) V.sl22 rfl rfl (by first | exact own mm0 | exact own mm1 | exact own mm2 | exact own mm3 | exact own mm4 | exact own mm5 | exact own mm6 | exact own mm7 | exact own mm8 | exact own mm9 | exact own mm10 | exact own mm11 | exact rdH (fun _ _ h => h) mm0 | exact rdH (fun _ _ h => h) mm1 | exact rdH (fun _ _ h => h) mm2 | exact rdH (fun _ _ h => h) mm3 | exact rdH (fun _ _ h => h) mm4 | exact rdH (fun _ _ h => h) mm5 | exact rdH (fun _ _ h => h) mm6 | exact rdH (fun _ _ h => h) mm7 | exact rdH (fun _ _ h => h) mm8 | exact rdH (fun _ _ h => h) mm9 | exact rdH (fun _ _ h => h) mm10 | exact rdH (fun _ _ h => h) mm11) (by omega) (by omega)) rfl ?_
            refine o_want rfl ?_
            refine o_val (r_load (c := (I3)) V.s3 rfl (by first | exact own mm0 | exact own mm1 | exact own mm2 | exact own mm3 | exact own mm4 | exact own mm5 | exact own mm6 | exact own mm7 | exact own mm8 | exact own mm9 | exact own mm10 | exact own mm11 | exact rdH (fun _ _ h => h) mm0 | exact rdH (fun _ _ h => h) mm1 | exact rdH (fun _ _ h => h) mm2 | exact rdH (fun _ _ h => h) mm3 | exact rdH (fun _ _ h => h) mm4 | exact rdH (fun _ _ h => h) mm5 | exact rdH (fun _ _ h => h) mm6 | exact rdH (fun _ _ h => h) mm7 | exact rdH (fun _ _ h => h) mm8 | exact rdH (fun _ _ h => h) mm9 | exact rdH (fun _ _ h => h) mm10 | exact rdH (fun _ _ h => h) mm11) (by omega) (by omega) rfl rfl) rfl ?_
            refine o_want rfl ?_
            refine o_val (v_geq rfl rfl) rfl ?_
            refine o_val (v_pickT rfl rfl) rfl ?_
            refine o_val (v_move rfl) rfl ?_
            first | refine o_boolD 50 rfl (fun h50 => ?_) (fun h50 => ?_) | refine o_bool 50 rfl (fun h50 => ?_) (fun h50 => ?_)
            ·
              refine o_want rfl ?_
              refine o_val (v_move rfl) rfl ?_
              refine o_want rfl ?_
              refine o_val (v_move rfl) rfl ?_
              refine o_want rfl ?_
              refine o_val (r_index (c := (I3)) V.sl22 rfl rfl (by first | exact own mm0 | exact own mm1 | exact own mm2 | exact own mm3 | exact own mm4 | exact own mm5 | exact own mm6 | exact own mm7 | exact own mm8 | exact own mm9 | exact own mm10 | exact own mm11 | exact rdH (fun _ _ h => h) mm0 | exact rdH (fun _ _ h => h) mm1 | exact rdH (fun _ _ h => h) mm2 | exact rdH (fun _ _ h => h) mm3 | exact rdH (fun _ _ h => h) mm4 | exact rdH (fun _ _ h => h) mm5 | exact rdH (fun _ _ h => h) mm6 | exact rdH (fun _ _ h => h) mm7 | exact rdH (fun _ _ h => h) mm8 | exact rdH (fun _ _ h => h) mm9 | exact rdH (fun _ _ h => h) mm10 | exact rdH (fun _ _ h => h) mm11) (by omega) (by omega)) rfl ?_
              refine o_want rfl ?_
              refine o_val (r_load (c := (I3)) V.s3 rfl (by first | exact own mm0 | exact own mm1 | exact own mm2 | exact own mm3 | exact own mm4 | exact own mm5 | exact own mm6 | exact own mm7 | exact own mm8 | exact own mm9 | exact own mm10 | exact own mm11 | exact rdH (fun _ _ h => h) mm0 | exact rdH (fun _ _ h => h) mm1 | exact rdH (fun _ _ h => h) mm2 | exact rdH (fun _ _ h => h) mm3 | exact rdH (fun _ _ h => h) mm4 | exact rdH (fun _ _ h => h) mm5 | exact rdH (fun _ _ h => h) mm6 | exact rdH (fun _ _ h => h) mm7 | exact rdH (fun _ _ h => h) mm8 | exact rdH (fun _ _ h => h) mm9 | exact rdH (fun _ _ h => h) mm10 | exact rdH (fun _ _ h => h) mm11) (by omega) (by omega) rfl rfl) rfl ?_
              refine o_want rfl ?_
              refine o_val (v_leq rfl rfl) rfl ?_
              refine o_val (v_pickT rfl rfl) rfl ?_
              refine o_val (v_assign rfl) rfl ?_
              refine o_nil ?_
              refine thn_n ?_
              refine w_seq ?_
              refine w_region ?_
              refine o_val (v_move rfl) rfl ?_
              refine o_val (v_move rfl) rfl ?_
              refine o_val (r_index (c := (I3)) V.sl22 rfl rfl (by first | exact own mm0 | exact own mm1 | exact own mm2 | exact own mm3 | exact own mm4 | exact own mm5 | exact own mm6 | exact own mm7 | exact own mm8 | exact own mm9 | exact own mm10 | exact own mm11 | exact rdH (fun _ _ h => h) mm0 | exact rdH (fun _ _ h => h) mm1 | exact rdH (fun _ _ h => h) mm2 | exact rdH (fun _ _ h => h) mm3 | exact rdH (fun _ _ h => h) mm4 | exact rdH (fun _ _ h => h) mm5 | exact rdH (fun _ _ h => h) mm6 | exact rdH (fun _ _ h => h) mm7 | exact rdH (fun _ _ h => h) mm8 | exact rdH (fun _ _ h => h) mm9 | exact rdH (fun _ _ h => h) mm10 | exact rdH (fun _ _ h => h) mm11) (by omega) (by omega)) rfl ?_
              refine o_val (r_load (c := (I3)) V.s3 rfl (by first | exact own mm0 | exact own mm1 | exact own mm2 | exact own mm3 | exact own mm4 | exact own mm5 | exact own mm6 | exact own mm7 | exact own mm8 | exact own mm9 | exact own mm10 | exact own mm11 | exact rdH (fun _ _ h => h) mm0 | exact rdH (fun _ _ h => h) mm1 | exact rdH (fun _ _ h => h) mm2 | exact rdH (fun _ _ h => h) mm3 | exact rdH (fun _ _ h => h) mm4 | exact rdH (fun _ _ h => h) mm5 | exact rdH (fun _ _ h => h) mm6 | exact rdH (fun _ _ h => h) mm7 | exact rdH (fun _ _ h => h) mm8 | exact rdH (fun _ _ h => h) mm9 | exact rdH (fun _ _ h => h) mm10 | exact rdH (fun _ _ h => h) mm11) (by omega) (by omega) rfl rfl) rfl ?_
              refine o_val (v_gtr rfl rfl) rfl ?_
              refine o_nil ?_
              refine thn_n ?_
              first | refine w_condD rfl (fun h61 => ?_) (fun h61 => ?_) | refine w_cond rfl (fun h61 => ?_) (fun h61 => ?_)
              ·
                refine w_region ?_
                refine o_val (v_move rfl) rfl ?_
                refine o_val (v_add rfl rfl (wrapI (by omega) (by omega))) rfl ?_
                refine o_val (v_assign rfl) rfl ?_
                refine o_nil ?_
                refine blk_n ?_
                refine thn_n ?_
                refine w_region ?_
                refine o_val (v_move rfl) rfl ?_
                refine o_val (v_add rfl rfl (wrapI (by omega) (by omega))) rfl ?_
                refine o_val (v_assign rfl) rfl ?_
                refine o_nil ?_
                have hst : ∀ x : Bool, (x = true → f = true ∧ 0 ≤ fr.getD k 0 ∧ fr.getD k 0 ≤ 1048576) → x = true → fr.length ≤ 320 ∧ 1 ≤ most ∧ most ≤ 15 ∧ ∀ i, i < k + 1 → 0 ≤ fr.getD i 0 ∧ fr.getD i 0 ≤ 1048576 := fun x hx e => by
                  obtain ⟨e1, e2, e3⟩ := hx e
                  obtain ⟨a1, a2, a3, a4⟩ := hK e1
                  exact ⟨a1, a2, a3, fun i hi => by
                    rcases Nat.lt_or_ge i k with h | h
                    · exact a4 i h
                    · obtain rfl : i = k := by omega
                      exact ⟨e2, e3⟩⟩
                first
                | (rw [lvs_cast_yes (by omega)]; refine j2 (k + 1) _ ⟨⟨by omega, hst _ ?_⟩, by omega⟩ (.cons rfl (.cons rfl (.cons rfl (.cons rfl (.cons rfl (.cons rfl (.cons rfl (.nil _)))))))) (sub (.cons (by repeat first | exact .head | apply Rem.tail) .nil) (by repeat first | exact .refl | apply Drop.skip)))
                | (rw [← PkM.lvs_no (by omega)]; refine j2 (k + 1) _ ⟨⟨by omega, hst _ ?_⟩, by omega⟩ (.cons rfl (.cons rfl (.cons rfl (.cons rfl (.cons rfl (.cons rfl (.cons rfl (.nil _)))))))) (sub (.cons (by repeat first | exact .head | apply Rem.tail) .nil) (by repeat first | exact .refl | apply Drop.skip)))
                intro hx
                first
                | (exact absurd hx (by decide))
                | (have hx2 := of_decide_eq_true hx; exact ⟨by assumption, by omega, by omega⟩)
              ·
                refine w_skip ?_
                refine blk_n ?_
                refine thn_n ?_
                refine w_region ?_
                refine o_val (v_move rfl) rfl ?_
                refine o_val (v_add rfl rfl (wrapI (by omega) (by omega))) rfl ?_
                refine o_val (v_assign rfl) rfl ?_
                refine o_nil ?_
                have hst : ∀ x : Bool, (x = true → f = true ∧ 0 ≤ fr.getD k 0 ∧ fr.getD k 0 ≤ 1048576) → x = true → fr.length ≤ 320 ∧ 1 ≤ most ∧ most ≤ 15 ∧ ∀ i, i < k + 1 → 0 ≤ fr.getD i 0 ∧ fr.getD i 0 ≤ 1048576 := fun x hx e => by
                  obtain ⟨e1, e2, e3⟩ := hx e
                  obtain ⟨a1, a2, a3, a4⟩ := hK e1
                  exact ⟨a1, a2, a3, fun i hi => by
                    rcases Nat.lt_or_ge i k with h | h
                    · exact a4 i h
                    · obtain rfl : i = k := by omega
                      exact ⟨e2, e3⟩⟩
                first
                | (rw [lvs_cast_yes (by omega)]; refine j2 (k + 1) _ ⟨⟨by omega, hst _ ?_⟩, by omega⟩ (.cons rfl (.cons rfl (.cons rfl (.cons rfl (.cons rfl (.cons rfl (.cons rfl (.nil _)))))))) (sub (.cons (by repeat first | exact .head | apply Rem.tail) .nil) (by repeat first | exact .refl | apply Drop.skip)))
                | (rw [← PkM.lvs_no (by omega)]; refine j2 (k + 1) _ ⟨⟨by omega, hst _ ?_⟩, by omega⟩ (.cons rfl (.cons rfl (.cons rfl (.cons rfl (.cons rfl (.cons rfl (.cons rfl (.nil _)))))))) (sub (.cons (by repeat first | exact .head | apply Rem.tail) .nil) (by repeat first | exact .refl | apply Drop.skip)))
                intro hx
                first
                | (exact absurd hx (by decide))
                | (have hx2 := of_decide_eq_true hx; exact ⟨by assumption, by omega, by omega⟩)
            ·
              refine o_pass rfl rfl rfl ?_
              refine o_pass rfl rfl rfl ?_
              refine o_pass rfl rfl rfl ?_
              refine o_pass rfl rfl rfl ?_
              refine o_pass rfl rfl rfl ?_
              refine o_val (v_pickF rfl rfl) rfl ?_
              refine o_val (v_assign rfl) rfl ?_
              refine o_nil ?_
              refine thn_n ?_
              refine w_seq ?_
              refine w_region ?_
              refine o_val (v_move rfl) rfl ?_
              refine o_val (v_move rfl) rfl ?_
              refine o_val (r_index (c := (I3)) V.sl22 rfl rfl (by first | exact own mm0 | exact own mm1 | exact own mm2 | exact own mm3 | exact own mm4 | exact own mm5 | exact own mm6 | exact own mm7 | exact own mm8 | exact own mm9 | exact own mm10 | exact own mm11 | exact rdH (fun _ _ h => h) mm0 | exact rdH (fun _ _ h => h) mm1 | exact rdH (fun _ _ h => h) mm2 | exact rdH (fun _ _ h => h) mm3 | exact rdH (fun _ _ h => h) mm4 | exact rdH (fun _ _ h => h) mm5 | exact rdH (fun _ _ h => h) mm6 | exact rdH (fun _ _ h => h) mm7 | exact rdH (fun _ _ h => h) mm8 | exact rdH (fun _ _ h => h) mm9 | exact rdH (fun _ _ h => h) mm10 | exact rdH (fun _ _ h => h) mm11) (by omega) (by omega)) rfl ?_
              refine o_val (r_load (c := (I3)) V.s3 rfl (by first | exact own mm0 | exact own mm1 | exact own mm2 | exact own mm3 | exact own mm4 | exact own mm5 | exact own mm6 | exact own mm7 | exact own mm8 | exact own mm9 | exact own mm10 | exact own mm11 | exact rdH (fun _ _ h => h) mm0 | exact rdH (fun _ _ h => h) mm1 | exact rdH (fun _ _ h => h) mm2 | exact rdH (fun _ _ h => h) mm3 | exact rdH (fun _ _ h => h) mm4 | exact rdH (fun _ _ h => h) mm5 | exact rdH (fun _ _ h => h) mm6 | exact rdH (fun _ _ h => h) mm7 | exact rdH (fun _ _ h => h) mm8 | exact rdH (fun _ _ h => h) mm9 | exact rdH (fun _ _ h => h) mm10 | exact rdH (fun _ _ h => h) mm11) (by omega) (by omega) rfl rfl) rfl ?_
              refine o_val (v_gtr rfl rfl) rfl ?_
              refine o_nil ?_
              refine thn_n ?_
              first | refine w_condD rfl (fun h61 => ?_) (fun h61 => ?_) | refine w_cond rfl (fun h61 => ?_) (fun h61 => ?_)
              ·
                refine w_region ?_
                refine o_val (v_move rfl) rfl ?_
                refine o_val (v_add rfl rfl (wrapI (by omega) (by omega))) rfl ?_
                refine o_val (v_assign rfl) rfl ?_
                refine o_nil ?_
                refine blk_n ?_
                refine thn_n ?_
                refine w_region ?_
                refine o_val (v_move rfl) rfl ?_
                refine o_val (v_add rfl rfl (wrapI (by omega) (by omega))) rfl ?_
                refine o_val (v_assign rfl) rfl ?_
                refine o_nil ?_
                have hst : ∀ x : Bool, (x = true → f = true ∧ 0 ≤ fr.getD k 0 ∧ fr.getD k 0 ≤ 1048576) → x = true → fr.length ≤ 320 ∧ 1 ≤ most ∧ most ≤ 15 ∧ ∀ i, i < k + 1 → 0 ≤ fr.getD i 0 ∧ fr.getD i 0 ≤ 1048576 := fun x hx e => by
                  obtain ⟨e1, e2, e3⟩ := hx e
                  obtain ⟨a1, a2, a3, a4⟩ := hK e1
                  exact ⟨a1, a2, a3, fun i hi => by
                    rcases Nat.lt_or_ge i k with h | h
                    · exact a4 i h
                    · obtain rfl : i = k := by omega
                      exact ⟨e2, e3⟩⟩
                first
                | (rw [lvs_cast_yes (by omega)]; refine j2 (k + 1) _ ⟨⟨by omega, hst _ ?_⟩, by omega⟩ (.cons rfl (.cons rfl (.cons rfl (.cons rfl (.cons rfl (.cons rfl (.cons rfl (.nil _)))))))) (sub (.cons (by repeat first | exact .head | apply Rem.tail) .nil) (by repeat first | exact .refl | apply Drop.skip)))
                | (rw [← PkM.lvs_no (by omega)]; refine j2 (k + 1) _ ⟨⟨by omega, hst _ ?_⟩, by omega⟩ (.cons rfl (.cons rfl (.cons rfl (.cons rfl (.cons rfl (.cons rfl (.cons rfl (.nil _)))))))) (sub (.cons (by repeat first | exact .head | apply Rem.tail) .nil) (by repeat first | exact .refl | apply Drop.skip)))
                intro hx
                first
                | (exact absurd hx (by decide))
                | (have hx2 := of_decide_eq_true hx; exact ⟨by assumption, by omega, by omega⟩)
              ·
                refine w_skip ?_
                refine blk_n ?_
                refine thn_n ?_
                refine w_region ?_
                refine o_val (v_move rfl) rfl ?_
                refine o_val (v_add rfl rfl (wrapI (by omega) (by omega))) rfl ?_
                refine o_val (v_assign rfl) rfl ?_
                refine o_nil ?_
                have hst : ∀ x : Bool, (x = true → f = true ∧ 0 ≤ fr.getD k 0 ∧ fr.getD k 0 ≤ 1048576) → x = true → fr.length ≤ 320 ∧ 1 ≤ most ∧ most ≤ 15 ∧ ∀ i, i < k + 1 → 0 ≤ fr.getD i 0 ∧ fr.getD i 0 ≤ 1048576 := fun x hx e => by
                  obtain ⟨e1, e2, e3⟩ := hx e
                  obtain ⟨a1, a2, a3, a4⟩ := hK e1
                  exact ⟨a1, a2, a3, fun i hi => by
                    rcases Nat.lt_or_ge i k with h | h
                    · exact a4 i h
                    · obtain rfl : i = k := by omega
                      exact ⟨e2, e3⟩⟩
                first
                | (rw [lvs_cast_yes (by omega)]; refine j2 (k + 1) _ ⟨⟨by omega, hst _ ?_⟩, by omega⟩ (.cons rfl (.cons rfl (.cons rfl (.cons rfl (.cons rfl (.cons rfl (.cons rfl (.nil _)))))))) (sub (.cons (by repeat first | exact .head | apply Rem.tail) .nil) (by repeat first | exact .refl | apply Drop.skip)))
                | (rw [← PkM.lvs_no (by omega)]; refine j2 (k + 1) _ ⟨⟨by omega, hst _ ?_⟩, by omega⟩ (.cons rfl (.cons rfl (.cons rfl (.cons rfl (.cons rfl (.cons rfl (.cons rfl (.nil _)))))))) (sub (.cons (by repeat first | exact .head | apply Rem.tail) .nil) (by repeat first | exact .refl | apply Drop.skip)))
                intro hx
                first
                | (exact absurd hx (by decide))
                | (have hx2 := of_decide_eq_true hx; exact ⟨by assumption, by omega, by omega⟩)
          ·
            refine o_pass rfl rfl rfl ?_
            refine o_pass rfl rfl rfl ?_
            refine o_pass rfl rfl rfl ?_
            refine o_pass rfl rfl rfl ?_
            refine o_pass rfl rfl rfl ?_
            refine o_val (v_pickF rfl rfl) rfl ?_
            refine o_val (v_move rfl) rfl ?_
            refine o_pass rfl rfl rfl ?_
            refine o_pass rfl rfl rfl ?_
            refine o_pass rfl rfl rfl ?_
            refine o_pass rfl rfl rfl ?_
            refine o_pass rfl rfl rfl ?_
            refine o_val (v_pickF rfl rfl) rfl ?_
            refine o_val (v_assign rfl) rfl ?_
            refine o_nil ?_
            refine thn_n ?_
            refine w_seq ?_
            refine w_region ?_
            refine o_val (v_move rfl) rfl ?_
            refine o_val (v_move rfl) rfl ?_
            refine o_val (r_index (c := (I3)) V.sl22 rfl rfl (by first | exact own mm0 | exact own mm1 | exact own mm2 | exact own mm3 | exact own mm4 | exact own mm5 | exact own mm6 | exact own mm7 | exact own mm8 | exact own mm9 | exact own mm10 | exact own mm11 | exact rdH (fun _ _ h => h) mm0 | exact rdH (fun _ _ h => h) mm1 | exact rdH (fun _ _ h => h) mm2 | exact rdH (fun _ _ h => h) mm3 | exact rdH (fun _ _ h => h) mm4 | exact rdH (fun _ _ h => h) mm5 | exact rdH (fun _ _ h => h) mm6 | exact rdH (fun _ _ h => h) mm7 | exact rdH (fun _ _ h => h) mm8 | exact rdH (fun _ _ h => h) mm9 | exact rdH (fun _ _ h => h) mm10 | exact rdH (fun _ _ h => h) mm11) (by omega) (by omega)) rfl ?_
            refine o_val (r_load (c := (I3)) V.s3 rfl (by first | exact own mm0 | exact own mm1 | exact own mm2 | exact own mm3 | exact own mm4 | exact own mm5 | exact own mm6 | exact own mm7 | exact own mm8 | exact own mm9 | exact own mm10 | exact own mm11 | exact rdH (fun _ _ h => h) mm0 | exact rdH (fun _ _ h => h) mm1 | exact rdH (fun _ _ h => h) mm2 | exact rdH (fun _ _ h => h) mm3 | exact rdH (fun _ _ h => h) mm4 | exact rdH (fun _ _ h => h) mm5 | exact rdH (fun _ _ h => h) mm6 | exact rdH (fun _ _ h => h) mm7 | exact rdH (fun _ _ h => h) mm8 | exact rdH (fun _ _ h => h) mm9 | exact rdH (fun _ _ h => h) mm10 | exact rdH (fun _ _ h => h) mm11) (by omega) (by omega) rfl rfl) rfl ?_
            refine o_val (v_gtr rfl rfl) rfl ?_
            refine o_nil ?_
            refine thn_n ?_
            first | refine w_condD rfl (fun h61 => ?_) (fun h61 => ?_) | refine w_cond rfl (fun h61 => ?_) (fun h61 => ?_)
            ·
              refine w_region ?_
              refine o_val (v_move rfl) rfl ?_
              refine o_val (v_add rfl rfl (wrapI (by omega) (by omega))) rfl ?_
              refine o_val (v_assign rfl) rfl ?_
              refine o_nil ?_
              refine blk_n ?_
              refine thn_n ?_
              refine w_region ?_
              refine o_val (v_move rfl) rfl ?_
              refine o_val (v_add rfl rfl (wrapI (by omega) (by omega))) rfl ?_
              refine o_val (v_assign rfl) rfl ?_
              refine o_nil ?_
              have hst : ∀ x : Bool, (x = true → f = true ∧ 0 ≤ fr.getD k 0 ∧ fr.getD k 0 ≤ 1048576) → x = true → fr.length ≤ 320 ∧ 1 ≤ most ∧ most ≤ 15 ∧ ∀ i, i < k + 1 → 0 ≤ fr.getD i 0 ∧ fr.getD i 0 ≤ 1048576 := fun x hx e => by
                obtain ⟨e1, e2, e3⟩ := hx e
                obtain ⟨a1, a2, a3, a4⟩ := hK e1
                exact ⟨a1, a2, a3, fun i hi => by
                  rcases Nat.lt_or_ge i k with h | h
                  · exact a4 i h
                  · obtain rfl : i = k := by omega
                    exact ⟨e2, e3⟩⟩
              first
              | (rw [lvs_cast_yes (by omega)]; refine j2 (k + 1) _ ⟨⟨by omega, hst _ ?_⟩, by omega⟩ (.cons rfl (.cons rfl (.cons rfl (.cons rfl (.cons rfl (.cons rfl (.cons rfl (.nil _)))))))) (sub (.cons (by repeat first | exact .head | apply Rem.tail) .nil) (by repeat first | exact .refl | apply Drop.skip)))
              | (rw [← PkM.lvs_no (by omega)]; refine j2 (k + 1) _ ⟨⟨by omega, hst _ ?_⟩, by omega⟩ (.cons rfl (.cons rfl (.cons rfl (.cons rfl (.cons rfl (.cons rfl (.cons rfl (.nil _)))))))) (sub (.cons (by repeat first | exact .head | apply Rem.tail) .nil) (by repeat first | exact .refl | apply Drop.skip)))
              intro hx
              first
              | (exact absurd hx (by decide))
              | (have hx2 := of_decide_eq_true hx; exact ⟨by assumption, by omega, by omega⟩)
            ·
              refine w_skip ?_
              refine blk_n ?_
              refine thn_n ?_
              refine w_region ?_
              refine o_val (v_move rfl) rfl ?_
              refine o_val (v_add rfl rfl (wrapI (by omega) (by omega))) rfl ?_
              refine o_val (v_assign rfl) rfl ?_
              refine o_nil ?_
              have hst : ∀ x : Bool, (x = true → f = true ∧ 0 ≤ fr.getD k 0 ∧ fr.getD k 0 ≤ 1048576) → x = true → fr.length ≤ 320 ∧ 1 ≤ most ∧ most ≤ 15 ∧ ∀ i, i < k + 1 → 0 ≤ fr.getD i 0 ∧ fr.getD i 0 ≤ 1048576 := fun x hx e => by
                obtain ⟨e1, e2, e3⟩ := hx e
                obtain ⟨a1, a2, a3, a4⟩ := hK e1
                exact ⟨a1, a2, a3, fun i hi => by
                  rcases Nat.lt_or_ge i k with h | h
                  · exact a4 i h
                  · obtain rfl : i = k := by omega
                    exact ⟨e2, e3⟩⟩
              first
              | (rw [lvs_cast_yes (by omega)]; refine j2 (k + 1) _ ⟨⟨by omega, hst _ ?_⟩, by omega⟩ (.cons rfl (.cons rfl (.cons rfl (.cons rfl (.cons rfl (.cons rfl (.cons rfl (.nil _)))))))) (sub (.cons (by repeat first | exact .head | apply Rem.tail) .nil) (by repeat first | exact .refl | apply Drop.skip)))
              | (rw [← PkM.lvs_no (by omega)]; refine j2 (k + 1) _ ⟨⟨by omega, hst _ ?_⟩, by omega⟩ (.cons rfl (.cons rfl (.cons rfl (.cons rfl (.cons rfl (.cons rfl (.cons rfl (.nil _)))))))) (sub (.cons (by repeat first | exact .head | apply Rem.tail) .nil) (by repeat first | exact .refl | apply Drop.skip)))
              intro hx
              first
              | (exact absurd hx (by decide))
              | (have hx2 := of_decide_eq_true hx; exact ⟨by assumption, by omega, by omega⟩)
        ·
          refine w_exit ?_
          refine thn_e ?_
          refine thn_e ?_
          refine blk_x ?_
          refine thn_n ?_
          refine w_seq ?_
          obtain rfl : k = fr.length := by omega
          refine w_region ?_
          refine o_val (v_move rfl) rfl ?_
          refine o_val (v_move rfl) rfl ?_
          first | refine o_boolD 65 rfl (fun h65 => ?_) (fun h65 => ?_) | refine o_bool 65 rfl (fun h65 => ?_) (fun h65 => ?_)
          ·
            obtain ⟨a1, a2, a3, a4⟩ := hK h65
            refine o_want rfl ?_
            refine o_val (v_move rfl) rfl ?_
            refine o_want rfl ?_
            refine o_val (v_move rfl) rfl ?_
            refine o_want rfl ?_
            refine o_val (v_and (r := most) rfl rfl (and15 (by omega))) rfl ?_
            refine o_want rfl ?_
            refine o_val (v_conv V.u3 Try.underlying34 rfl (wrapU (by omega) (by omega))) rfl ?_
            refine o_want rfl ?_
            refine o_val (v_shl (r := ((2 ^ most.toNat : Nat) : Int)) rfl rfl (by omega) (shl_most (by omega))) rfl ?_
            refine o_want rfl ?_
            refine o_val (v_F (v_leq rfl rfl) (fun h => hNo ⟨a2, a3, a1, a4, by omega⟩)) rfl ?_
            refine o_val (v_pickT rfl rfl) rfl ?_
            refine o_val (v_assign rfl) rfl ?_
            refine o_nil ?_
            refine thn_n ?_
            refine w_seq ?_
            refine w_seq ?_
            refine w_region ?_
            refine o_val (v_move rfl) rfl ?_
            refine o_val (v_to (v := .bool true) (v_not rfl) rfl) rfl ?_
            refine o_nil ?_
            refine thn_n ?_
            refine w_condT rfl ?_
            refine w_seq ?_
            refine w_region ?_
            refine o_val (v_move rfl) rfl ?_
            refine o_val (v_to (v := .bool true) (v_not rfl) rfl) rfl ?_
            refine o_val (v_move rfl) rfl ?_
            refine o_want rfl ?_
            refine o_val (v_move rfl) rfl ?_
            refine o_want rfl ?_
            refine o_val (v_len (ty' := 0) Try.underlying22 rfl) rfl ?_
            refine o_want rfl ?_
            refine o_val (v_T (v_eql rfl rfl) rfl) rfl ?_
            refine o_val (v_pickT rfl rfl) rfl ?_
            refine o_val (v_assign rfl) rfl ?_
            refine o_nil ?_
            refine thn_n ?_
            refine w_ret ?_
            refine (thn_r ?_)
            exact ret_ok (G := [RdR I3 p fr.length fr]) (res1 rfl) ⟨rfl, rfl⟩ (sub (.cons (by repeat first | exact .head | apply Rem.tail) .nil) (by repeat first | exact .refl | apply Drop.skip))
          ·
            refine o_pass rfl rfl rfl ?_
            refine o_pass rfl rfl rfl ?_
            refine o_pass rfl rfl rfl ?_
            refine o_pass rfl rfl rfl ?_
            refine o_pass rfl rfl rfl ?_
            refine o_pass rfl rfl rfl ?_
            refine o_val (v_pickF rfl rfl) rfl ?_
            refine o_val (v_assign rfl) rfl ?_
            refine o_nil ?_
            refine thn_n ?_
            refine w_seq ?_
            refine w_seq ?_
            refine w_region ?_
            refine o_val (v_move rfl) rfl ?_
            refine o_val (v_to (v := .bool true) (v_not rfl) rfl) rfl ?_
            refine o_nil ?_
            refine thn_n ?_
            refine w_condT rfl ?_
            refine w_seq ?_
            refine w_region ?_
            refine o_val (v_move rfl) rfl ?_
            refine o_val (v_to (v := .bool true) (v_not rfl) rfl) rfl ?_
            refine o_val (v_move rfl) rfl ?_
            refine o_want rfl ?_
            refine o_val (v_move rfl) rfl ?_
            refine o_want rfl ?_
            refine o_val (v_len (ty' := 0) Try.underlying22 rfl) rfl ?_
            refine o_want rfl ?_
            refine o_val (v_T (v_eql rfl rfl) rfl) rfl ?_
            refine o_val (v_pickT rfl rfl) rfl ?_
            refine o_val (v_assign rfl) rfl ?_
            refine o_nil ?_
            refine thn_n ?_
            refine w_ret ?_
            refine (thn_r ?_)
            exact ret_ok (G := [RdR I3 p fr.length fr]) (res1 rfl) ⟨rfl, rfl⟩ (sub (.cons (by repeat first | exact .head | apply Rem.tail) .nil) (by repeat first | exact .refl | apply Drop.skip))
    ·
      refine o_pass rfl rfl rfl ?_
      refine o_pass rfl rfl rfl ?_
      refine o_val (v_pickF rfl rfl) rfl ?_
      refine o_val (v_move rfl) rfl ?_
      refine o_pass rfl rfl rfl ?_
      refine o_pass rfl rfl rfl ?_
      refine o_val (v_pickF rfl rfl) rfl ?_
      refine o_val (v_assign rfl) rfl ?_
      refine o_val (v_assign rfl) rfl ?_
      refine o_nil ?_
      refine thn_n ?_
      refine w_seq ?_
      refine w_seq ?_
      refine w_region ?_
      refine o_val (v_assign rfl) rfl ?_
      refine o_nil ?_
      refine thn_n ?_
      refine w_block ?_
      rw [show ((7 : Nat), Value.int .i64 0) = (7, .int .i64 ((PkM.lvs fr 0).length : Int)) from by rw [PkM.lvs_zero]; rfl]
      refine w_loop2 (fun (k : Nat) (f : Bool) => [(0, .slice p fr.length c), (1, .int .i64 most), (5, .slice none 0 0), (6, .bool false), (7, .int .i64 ((PkM.lvs fr k).length : Int)), (8, .bool f), (9, .int .i64 (k : Int))]) (fun (k : Nat) (f : Bool) => RdR I3 p fr.length fr :: F) (fun (k : Nat) (f : Bool) => k ≤ fr.length ∧ (f = true → fr.length ≤ 320 ∧ 1 ≤ most ∧ most ≤ 15 ∧ ∀ i, i < k → 0 ≤ fr.getD i 0 ∧ fr.getD i 0 ≤ 1048576)) (fun (k : Nat) (f : Bool) => fr.length - k) (i2 (0) (_) ?_ (.cons rfl (.cons rfl (.cons rfl (.cons rfl (.cons rfl (.cons rfl (.cons rfl (.nil _)))))))) (sub (.cons (by repeat first | exact .head | apply Rem.tail) .nil) (by repeat first | exact .refl | apply Drop.skip))) ?_
      ·
        refine ⟨Nat.zero_le _, fun hf => ?_⟩
        first
        | (exact absurd hf (by decide))
        | (have hf2 := of_decide_eq_true hf; exact ⟨by omega, by omega, by omega, fun i hi => absurd hi (Nat.not_lt_zero _)⟩)
      intro k f
      rintro ⟨hk, hK⟩
      refine w_seq ?_
      refine w_seq ?_
      refine w_region ?_
      refine o_val (v_move rfl) rfl ?_
      refine o_val (v_move rfl) rfl ?_
      refine o_val (v_len (ty' := 0) Try.underlying22 rfl) rfl ?_
      refine o_val (v_lss rfl rfl) rfl ?_
      refine o_nil ?_
      refine thn_n ?_
      first | refine w_condD rfl (fun h39 => ?_) (fun h39 => ?_) | refine w_cond rfl (fun h39 => ?_) (fun h39 => ?_)
      ·
        refine w_skip ?_
        refine thn_n ?_
        refine w_seq ?_
        refine w_block ?_
        refine w_seq ?_
        have hk2 : k < fr.length := by omega
        have hll := PkM.lvs_len fr k
        have hg2 : I3.g fr (k : Int) = fr.getD k 0 := by simp [Ec.g]
        refine w_region ?_
        refine o_val (v_move rfl) rfl ?_
        refine o_val (v_move rfl) rfl ?_
        first | refine o_boolD 43 rfl (fun h43 => ?_) (fun h43 => ?_) | refine o_bool 43 rfl (fun h43 => ?_) (fun h43 => ?_)
        ·
          refine o_want rfl ?_
          refine o_val (v_move rfl) rfl ?_
          refine o_want rfl ?_
          refine o_val (v_move rfl) rfl ?_
          refine o_want rfl ?_
          refine o_val (r_index (c := (I3)) V.sl22 rfl rfl (by first | exact own mm0 | exact own mm1 | exact own mm2 | exact own mm3 | exact own mm4 | exact own mm5 | exact own mm6 | exact own mm7 | exact own mm8 | exact own mm9 | exact own mm10 | exact own mm11 | exact rdH (fun _ _ h => h) mm0 | exact rdH (fun _ _ h => h) mm1 | exact rdH (fun _ _ h => h) mm2 | exact rdH (fun _ _ h => h) mm3 | exact rdH (fun _ _ h => h) mm4 | exact rdH (fun _ _ h => h) mm5 | exact rdH (fun _ _ h => h) mm6 | exact rdH (fun _ _ h => h) mm7 | exact rdH (fun _ _ h => h) mm8 | exact rdH (fun _ _ h => h) mm9 | exact rdH (fun _ _ h => h) mm10 | exact rdH (fun _ _ h => h) mm11) (by omega) (by omega)) rfl ?_
          refine o_want rfl ?_
          refine o_val (r_load (c := (I3)) V.s3 rfl (by first | exact own mm0 | exact own mm1 | exact own mm2 | exact own mm3 | exact own mm4 | exact own mm5 | exact own mm6 | exact own mm7 | exact own mm8 | exact own mm9 | exact own mm10 | exact own mm11 | exact rdH (fun _ _ h => h) mm0 | exact rdH (fun _ _ h => h) mm1 | exact rdH (fun _ _ h => h) mm2 | exact rdH (fun _ _ h => h) mm3 | exact rdH (fun _ _ h => h) mm4 | exact rdH (fun _ _ h => h) mm5 | exact rdH (fun _ _ h => h) mm6 | exact rdH (fun _ _ h => h) mm7 | exact rdH (fun _ _ h => h) mm8 | exact rdH (fun _ _ h => h) mm9 | exact rdH (fun _ _ h => h) mm10 | exact rdH (fun _ _ h => h) mm11) (by omega) (by omega) rfl rfl) rfl ?_
          refine o_want rfl ?_
          refine o_val (v_geq rfl rfl) rfl ?_
          refine o_val (v_pickT rfl rfl) rfl ?_
          refine o_val (v_move rfl) rfl ?_
          first | refine o_boolD 50 rfl (fun h50 => ?_) (fun h50 => ?_) | refine o_bool 50 rfl (fun h50 => ?_) (fun h50 => ?_)
          ·
            refine o_want rfl ?_
            refine o_val (v_move rfl) rfl ?_
            refine o_want rfl ?_
            refine o_val (v_move rfl) rfl ?_
            refine o_want rfl ?_
            refine o_val (r_index (c := (I3)) V.sl22 rfl rfl (by first | exact own mm0 | exact own mm1 | exact own mm2 | exact own mm3 | exact own mm4 | exact own mm5 | exact own mm6 | exact own mm7 | exact own mm8 | exact own mm9 | exact own mm10 | exact own mm11 | exact rdH (fun _ _ h => h) mm0 | exact rdH (fun _ _ h => h) mm1 | exact rdH (fun _ _ h => h) mm2 | exact rdH (fun _ _ h => h) mm3 | exact rdH (fun _ _ h => h) mm4 | exact rdH (fun _ _ h => h) mm5 | exact rdH (fun _ _ h => h) mm6 | exact rdH (fun _ _ h => h) mm7 | exact rdH (fun _ _ h => h) mm8 | exact rdH (fun _ _ h => h) mm9 | exact rdH (fun _ _ h => h) mm10 | exact rdH (fun _ _ h => h) mm11) (by omega) (by omega)) rfl ?_
            refine o_want rfl ?_
            refine o_val (r_load (c := (I3)) V.s3 rfl (by first | exact own mm0 | exact own mm1 | exact own mm2 | exact own mm3 | exact own mm4 | exact own mm5 | exact own mm6 | exact own mm7 | exact own mm8 | exact own mm9 | exact own mm10 | exact own mm11 | exact rdH (fun _ _ h => h) mm0 | exact rdH (fun _ _ h => h) mm1 | exact rdH (fun _ _ h => h) mm2 | exact rdH (fun _ _ h => h) mm3 | exact rdH (fun _ _ h => h) mm4 | exact rdH (fun _ _ h => h) mm5 | exact rdH (fun _ _ h => h) mm6 | exact rdH (fun _ _ h => h) mm7 | exact rdH (fun _ _ h => h) mm8 | exact rdH (fun _ _ h => h) mm9 | exact rdH (fun _ _ h => h) mm10 | exact rdH (fun _ _ h => h) mm11) (by omega) (by omega) rfl rfl) rfl ?_
            refine o_want rfl ?_
            refine o_val (v_leq rfl rfl) rfl ?_
            refine o_val (v_pickT rfl rfl) rfl ?_
            refine o_val (v_assign rfl) rfl ?_
            refine o_nil ?_
            refine thn_n ?_
            refine w_seq ?_
            refine w_region ?_
            refine o_val (v_move rfl) rfl ?_
            refine o_val (v_move rfl) rfl ?_
            refine o_val (r_index (c := (I3)) V.sl22 rfl rfl (by first | exact own mm0 | exact own mm1 | exact own mm2 | exact own mm3 | exact own mm4 | exact own mm5 | exact own mm6 | exact own mm7 | exact own mm8 | exact own mm9 | exact own mm10 | exact own mm11 | exact rdH (fun _ _ h => h) mm0 | exact rdH (fun _ _ h => h) mm1 | exact rdH (fun _ _ h => h) mm2 | exact rdH (fun _ _ h => h) mm3 | exact rdH (fun _ _ h => h) mm4 | exact rdH (fun _ _ h => h) mm5 | exact rdH (fun _ _ h => h) mm6 | exact rdH (fun _ _ h => h) mm7 | exact rdH (fun _ _ h => h) mm8 | exact rdH (fun _ _ h => h) mm9 | exact rdH (fun _ _ h => h) mm10 | exact rdH (fun _ _ h => h) mm11) (by omega) (by omega)) rfl ?_
            refine o_val (r_load (c := (I3)) V.s3 rfl (by first | exact own mm0 | exact own mm1 | exact own mm2 | exact own mm3 | exact own mm4 | exact own mm5 | exact own mm6 | exact own mm7 | exact own mm8 | exact own mm9 | exact own mm10 | exact own mm11 | exact rdH (fun _ _ h => h) mm0 | exact rdH (fun _ _ h => h) mm1 | exact rdH (fun _ _ h => h) mm2 | exact rdH (fun _ _ h => h) mm3 | exact rdH (fun _ _ h => h) mm4 | exact rdH (fun _ _ h => h) mm5 | exact rdH (fun _ _ h => h) mm6 | exact rdH (fun _ _ h => h) mm7 | exact rdH (fun _ _ h => h) mm8 | exact rdH (fun _ _ h => h) mm9 | exact rdH (fun _ _ h => h) mm10 | exact rdH (fun _ _ h => h) mm11) (by omega) (by omega) rfl rfl) rfl ?_
            refine o_val (v_gtr rfl rfl) rfl ?_
            refine o_nil ?_
            refine thn_n ?_
            first | refine w_condD rfl (fun h61 => ?_) (fun h61 => ?_) | refine w_cond rfl (fun h61 => ?_) (fun h61 => ?_)
            ·
              refine w_region ?_
              refine o_val (v_move rfl) rfl ?_
              refine o_val (v_add rfl rfl (wrapI (by omega) (by omega))) rfl ?_
              refine o_val (v_assign rfl) rfl ?_
              refine o_nil ?_
              refine blk_n ?_
              refine thn_n ?_
              refine w_region ?_
              refine o_val (v_move rfl) rfl ?_
              refine o_val (v_add rfl rfl (wrapI (by omega) (by omega))) rfl ?_
              refine o_val (v_assign rfl) rfl ?_
              refine o_nil ?_
              have hst : ∀ x : Bool, (x = true → f = true ∧ 0 ≤ fr.getD k 0 ∧ fr.getD k 0 ≤ 1048576) → x = true → fr.length ≤ 320 ∧ 1 ≤ most ∧ most ≤ 15 ∧ ∀ i, i < k + 1 → 0 ≤ fr.getD i 0 ∧ fr.getD i 0 ≤ 1048576 := fun x hx e => by
                obtain ⟨e1, e2, e3⟩ := hx e
                obtain ⟨a1, a2, a3, a4⟩ := hK e1
                exact ⟨a1, a2, a3, fun i hi => by
                  rcases Nat.lt_or_ge i k with h | h
                  · exact a4 i h
                  · obtain rfl : i = k := by omega
                    exact ⟨e2, e3⟩⟩
              first
              | (rw [lvs_cast_yes (by omega)]; refine j2 (k + 1) _ ⟨⟨by omega, hst _ ?_⟩, by omega⟩ (.cons rfl (.cons rfl (.cons rfl (.cons rfl (.cons rfl (.cons rfl (.cons rfl (.nil _)))))))) (sub (.cons (by repeat first | exact .head | apply Rem.tail) .nil) (by repeat first | exact .refl | apply Drop.skip)))
              | (rw [← PkM.lvs_no (by omega)]; refine j2 (k + 1) _ ⟨⟨by omega, hst _ ?_⟩, by omega⟩ (.cons rfl (.cons rfl (.cons rfl (.cons rfl (.cons rfl (.cons rfl (.cons rfl (.nil _)))))))) (sub (.cons (by repeat first | exact .head | apply Rem.tail) .nil) (by repeat first | exact .refl | apply Drop.skip)))
              intro hx
              first
              | (exact absurd hx (by decide))
              | (have hx2 := of_decide_eq_true hx; exact ⟨by assumption, by omega, by omega⟩)
            ·
              refine w_skip ?_
              refine blk_n ?_
              refine thn_n ?_
              refine w_region ?_
              refine o_val (v_move rfl) rfl ?_
              refine o_val (v_add rfl rfl (wrapI (by omega) (by omega))) rfl ?_
              refine o_val (v_assign rfl) rfl ?_
              refine o_nil ?_
              have hst : ∀ x : Bool, (x = true → f = true ∧ 0 ≤ fr.getD k 0 ∧ fr.getD k 0 ≤ 1048576) → x = true → fr.length ≤ 320 ∧ 1 ≤ most ∧ most ≤ 15 ∧ ∀ i, i < k + 1 → 0 ≤ fr.getD i 0 ∧ fr.getD i 0 ≤ 1048576 := fun x hx e => by
                obtain ⟨e1, e2, e3⟩ := hx e
                obtain ⟨a1, a2, a3, a4⟩ := hK e1
                exact ⟨a1, a2, a3, fun i hi => by
                  rcases Nat.lt_or_ge i k with h | h
                  · exact a4 i h
                  · obtain rfl : i = k := by omega
                    exact ⟨e2, e3⟩⟩
              first
              | (rw [lvs_cast_yes (by omega)]; refine j2 (k + 1) _ ⟨⟨by omega, hst _ ?_⟩, by omega⟩ (.cons rfl (.cons rfl (.cons rfl (.cons rfl (.cons rfl (.cons rfl (.cons rfl (.nil _)))))))) (sub (.cons (by repeat first | exact .head | apply Rem.tail) .nil) (by repeat first | exact .refl | apply Drop.skip)))
              | (rw [← PkM.lvs_no (by omega)]; refine j2 (k + 1) _ ⟨⟨by omega, hst _ ?_⟩, by omega⟩ (.cons rfl (.cons rfl (.cons rfl (.cons rfl (.cons rfl (.cons rfl (.cons rfl (.nil _)))))))) (sub (.cons (by repeat first | exact .head | apply Rem.tail) .nil) (by repeat first | exact .refl | apply Drop.skip)))
              intro hx
              first
              | (exact absurd hx (by decide))
              | (have hx2 := of_decide_eq_true hx; exact ⟨by assumption, by omega, by omega⟩)
          ·
            refine o_pass rfl rfl rfl ?_
            refine o_pass rfl rfl rfl ?_
            refine o_pass rfl rfl rfl ?_
            refine o_pass rfl rfl rfl ?_
            refine o_pass rfl rfl rfl ?_
            refine o_val (v_pickF rfl rfl) rfl ?_
            refine o_val (v_assign rfl) rfl ?_
            refine o_nil ?_
            refine thn_n ?_
            refine w_seq ?_
            refine w_region ?_
            refine o_val (v_move rfl) rfl ?_
            refine o_val (v_move rfl) rfl ?_
            refine o_val (r_index (c := (I3)) V.sl22 rfl rfl (by first | exact own mm0 | exact own mm1 | exact own mm2 | exact own mm3 | exact own mm4 | exact own mm5 | exact own mm6 | exact own mm7 | exact own mm8 | exact own mm9 | exact own mm10 | exact own mm11 | exact rdH (fun _ _ h => h) mm0 | exact rdH (fun _ _ h => h) mm1 | exact rdH (fun _ _ h => h) mm2 | exact rdH (fun _ _ h => h) mm3 | exact rdH (fun _ _ h => h) mm4 | exact rdH (fun _ _ h => h) mm5 | exact rdH (fun _ _ h => h) mm6 | exact rdH (fun _ _ h => h) mm7 | exact rdH (fun _ _ h => h) mm8 | exact rdH (fun _ _ h => h) mm9 | exact rdH (fun _ _ h => h) mm10 | exact rdH (fun _ _ h => h) mm11) (by omega) (by omega)) rfl ?_
            refine o_val (r_load (c := (I3)) V.s3 rfl (by first | exact own mm0 | exact own mm1 | exact own mm2 | exact own mm3 | exact own mm4 | exact own mm5 | exact own mm6 | exact own mm7 | exact own mm8 | exact own mm9 | exact own mm10 | exact own mm11 | exact rdH (fun _ _ h => h) mm0 | exact rdH (fun _ _ h => h) mm1 | exact rdH (fun _ _ h => h) mm2 | exact rdH (fun _ _ h => h) mm3 | exact rdH (fun _ _ h => h) mm4 | exact rdH (fun _ _ h => h) mm5 | exact rdH (fun _ _ h => h) mm6 | exact rdH (fun _ _ h => h) mm7 | exact rdH (fun _ _ h => h) mm8 | exact rdH (fun _ _ h => h) mm9 | exact rdH (fun _ _ h => h) mm10 | exact rdH (fun _ _ h => h) mm11) (by omega) (by omega) rfl rfl) rfl ?_
            refine o_val (v_gtr rfl rfl) rfl ?_
            refine o_nil ?_
            refine thn_n ?_
            first | refine w_condD rfl (fun h61 => ?_) (fun h61 => ?_) | refine w_cond rfl (fun h61 => ?_) (fun h61 => ?_)
            ·
              refine w_region ?_
              refine o_val (v_move rfl) rfl ?_
              refine o_val (v_add rfl rfl (wrapI (by omega) (by omega))) rfl ?_
              refine o_val (v_assign rfl) rfl ?_
              refine o_nil ?_
              refine blk_n ?_
              refine thn_n ?_
              refine w_region ?_
              refine o_val (v_move rfl) rfl ?_
              refine o_val (v_add rfl rfl (wrapI (by omega) (by omega))) rfl ?_
              refine o_val (v_assign rfl) rfl ?_
              refine o_nil ?_
              have hst : ∀ x : Bool, (x = true → f = true ∧ 0 ≤ fr.getD k 0 ∧ fr.getD k 0 ≤ 1048576) → x = true → fr.length ≤ 320 ∧ 1 ≤ most ∧ most ≤ 15 ∧ ∀ i, i < k + 1 → 0 ≤ fr.getD i 0 ∧ fr.getD i 0 ≤ 1048576 := fun x hx e => by
                obtain ⟨e1, e2, e3⟩ := hx e
                obtain ⟨a1, a2, a3, a4⟩ := hK e1
                exact ⟨a1, a2, a3, fun i hi => by
                  rcases Nat.lt_or_ge i k with h | h
                  · exact a4 i h
                  · obtain rfl : i = k := by omega
                    exact ⟨e2, e3⟩⟩
              first
              | (rw [lvs_cast_yes (by omega)]; refine j2 (k + 1) _ ⟨⟨by omega, hst _ ?_⟩, by omega⟩ (.cons rfl (.cons rfl (.cons rfl (.cons rfl (.cons rfl (.cons rfl (.cons rfl (.nil _)))))))) (sub (.cons (by repeat first | exact .head | apply Rem.tail) .nil) (by repeat first | exact .refl | apply Drop.skip)))
              | (rw [← PkM.lvs_no (by omega)]; refine j2 (k + 1) _ ⟨⟨by omega, hst _ ?_⟩, by omega⟩ (.cons rfl (.cons rfl (.cons rfl (.cons rfl (.cons rfl (.cons rfl (.cons rfl (.nil _)))))))) (sub (.cons (by repeat first | exact .head | apply Rem.tail) .nil) (by repeat first | exact .refl | apply Drop.skip)))
              intro hx
              first
              | (exact absurd hx (by decide))
              | (have hx2 := of_decide_eq_true hx; exact ⟨by assumption, by omega, by omega⟩)
            ·
              refine w_skip ?_
              refine blk_n ?_
              refine thn_n ?_
              refine w_region ?_
              refine o_val (v_move rfl) rfl ?_
              refine o_val (v_add rfl rfl (wrapI (by omega) (by omega))) rfl ?_
              refine o_val (v_assign rfl) rfl ?_
              refine o_nil ?_
              have hst : ∀ x : Bool, (x = true → f = true ∧ 0 ≤ fr.getD k 0 ∧ fr.getD k 0 ≤ 1048576) → x = true → fr.length ≤ 320 ∧ 1 ≤ most ∧ most ≤ 15 ∧ ∀ i, i < k + 1 → 0 ≤ fr.getD i 0 ∧ fr.getD i 0 ≤ 1048576 := fun x hx e => by
                obtain ⟨e1, e2, e3⟩ := hx e
                obtain ⟨a1, a2, a3, a4⟩ := hK e1
                exact ⟨a1, a2, a3, fun i hi => by
                  rcases Nat.lt_or_ge i k with h | h
                  · exact a4 i h
                  · obtain rfl : i = k := by omega
                    exact ⟨e2, e3⟩⟩
              first
              | (rw [lvs_cast_yes (by omega)]; refine j2 (k + 1) _ ⟨⟨by omega, hst _ ?_⟩, by omega⟩ (.cons rfl (.cons rfl (.cons rfl (.cons rfl (.cons rfl (.cons rfl (.cons rfl (.nil _)))))))) (sub (.cons (by repeat first | exact .head | apply Rem.tail) .nil) (by repeat first | exact .refl | apply Drop.skip)))
              | (rw [← PkM.lvs_no (by omega)]; refine j2 (k + 1) _ ⟨⟨by omega, hst _ ?_⟩, by omega⟩ (.cons rfl (.cons rfl (.cons rfl (.cons rfl (.cons rfl (.cons rfl (.cons rfl (.nil _)))))))) (sub (.cons (by repeat first | exact .head | apply Rem.tail) .nil) (by repeat first | exact .refl | apply Drop.skip)))
              intro hx
              first
              | (exact absurd hx (by decide))
              | (have hx2 := of_decide_eq_true hx; exact ⟨by assumption, by omega, by omega⟩)
        ·
          refine o_pass rfl rfl rfl ?_
          refine o_pass rfl rfl rfl ?_
          refine o_pass rfl rfl rfl ?_
          refine o_pass rfl rfl rfl ?_
          refine o_pass rfl rfl rfl ?_
          refine o_val (v_pickF rfl rfl) rfl ?_
          refine o_val (v_move rfl) rfl ?_
          refine o_pass rfl rfl rfl ?_
          refine o_pass rfl rfl rfl ?_
          refine o_pass rfl rfl rfl ?_
          refine o_pass rfl rfl rfl ?_
          refine o_pass rfl rfl rfl ?_
          refine o_val (v_pickF rfl rfl) rfl ?_
          refine o_val (v_assign rfl) rfl ?_
          refine o_nil ?_
          refine thn_n ?_
          refine w_seq ?_
          refine w_region ?_
          refine o_val (v_move rfl) rfl ?_
          refine o_val (v_move rfl) rfl ?_
          refine o_val (r_index (c := (I3)) V.sl22 rfl rfl (by first | exact own mm0 | exact own mm1 | exact own mm2 | exact own mm3 | exact own mm4 | exact own mm5 | exact own mm6 | exact own mm7 | exact own mm8 | exact own mm9 | exact own mm10 | exact own mm11 | exact rdH (fun _ _ h => h) mm0 | exact rdH (fun _ _ h => h) mm1 | exact rdH (fun _ _ h => h) mm2 | exact rdH (fun _ _ h => h) mm3 | exact rdH (fun _ _ h => h) mm4 | exact rdH (fun _ _ h => h) mm5 | exact rdH (fun _ _ h => h) mm6 | exact rdH (fun _ _ h => h) mm7 | exact rdH (fun _ _ h => h) mm8 | exact rdH (fun _ _ h => h) mm9 | exact rdH (fun _ _ h => h) mm10 | exact rdH (fun _ _ h => h) mm11) (by omega) (by omega)) rfl ?_
          refine o_val (r_load (c := (I3)) V.s3 rfl (by first | exact own mm0 | exact own mm1 | exact own mm2 | exact own mm3 | exact own mm4 | exact own mm5 | exact own mm6 | exact own mm7 | exact own mm8 | exact own mm9 | exact own mm10 | exact own mm11 | exact rdH (fun _ _ h => h) mm0 | exact rdH (fun _ _ h => h) mm1 | exact rdH (fun _ _ h => h) mm2 | exact rdH (fun _ _ h => h) mm3 | exact rdH (fun _ _ h => h) mm4 | exact rdH (fun _ _ h => h) mm5 | exact rdH (fun _ _ h => h) mm6 | exact rdH (fun _ _ h => h) mm7 | exact rdH (fun _ _ h => h) mm8 | exact rdH (fun _ _ h => h) mm9 | exact rdH (fun _ _ h => h) mm10 | exact rdH (fun _ _ h => h) mm11) (by omega) (by omega) rfl rfl) rfl ?_
          refine o_val (v_gtr rfl rfl) rfl ?_
          refine o_nil ?_
          refine thn_n ?_
          first | refine w_condD rfl (fun h61 => ?_) (fun h61 => ?_) | refine w_cond rfl (fun h61 => ?_) (fun h61 => ?_)
          ·
            refine w_region ?_
            refine o_val (v_move rfl) rfl ?_
            refine o_val (v_add rfl rfl (wrapI (by omega) (by omega))) rfl ?_
            refine o_val (v_assign rfl) rfl ?_
            refine o_nil ?_
            refine blk_n ?_
            refine thn_n ?_
            refine w_region ?_
            refine o_val (v_move rfl) rfl ?_
            refine o_val (v_add rfl rfl (wrapI (by omega) (by omega))) rfl ?_
            refine o_val (v_assign rfl) rfl ?_
            refine o_nil ?_
            have hst : ∀ x : Bool, (x = true → f = true ∧ 0 ≤ fr.getD k 0 ∧ fr.getD k 0 ≤ 1048576) → x = true → fr.length ≤ 320 ∧ 1 ≤ most ∧ most ≤ 15 ∧ ∀ i, i < k + 1 → 0 ≤ fr.getD i 0 ∧ fr.getD i 0 ≤ 1048576 := fun x hx e => by
              obtain ⟨e1, e2, e3⟩ := hx e
              obtain ⟨a1, a2, a3, a4⟩ := hK e1
              exact ⟨a1, a2, a3, fun i hi => by
                rcases Nat.lt_or_ge i k with h | h
                · exact a4 i h
                · obtain rfl : i = k := by omega
                  exact ⟨e2, e3⟩⟩
            first
            | (rw [lvs_cast_yes (by omega)]; refine j2 (k + 1) _ ⟨⟨by omega, hst _ ?_⟩, by omega⟩ (.cons rfl (.cons rfl (.cons rfl (.cons rfl (.cons rfl (.cons rfl (.cons rfl (.nil _)))))))) (sub (.cons (by repeat first | exact .head | apply Rem.tail) .nil) (by repeat first | exact .refl | apply Drop.skip)))
            | (rw [← PkM.lvs_no (by omega)]; refine j2 (k + 1) _ ⟨⟨by omega, hst _ ?_⟩, by omega⟩ (.cons rfl (.cons rfl (.cons rfl (.cons rfl (.cons rfl (.cons rfl (.cons rfl (.nil _)))))))) (sub (.cons (by repeat first | exact .head | apply Rem.tail) .nil) (by repeat first | exact .refl | apply Drop.skip)))
            intro hx
            first
            | (exact absurd hx (by decide))
            | (have hx2 := of_decide_eq_true hx; exact ⟨by assumption, by omega, by omega⟩)
          ·
            refine w_skip ?_
            refine blk_n ?_
            refine thn_n ?_
            refine w_region ?_
            refine o_val (v_move rfl) rfl ?_
            refine o_val (v_add rfl rfl (wrapI (by omega) (by omega))) rfl ?_
            refine o_val (v_assign rfl) rfl ?_
            refine o_nil ?_
            have hst : ∀ x : Bool, (x = true → f = true ∧ 0 ≤ fr.getD k 0 ∧ fr.getD k 0 ≤ 1048576) → x = true → fr.length ≤ 320 ∧ 1 ≤ most ∧ most ≤ 15 ∧ ∀ i, i < k + 1 → 0 ≤ fr.getD i 0 ∧ fr.getD i 0 ≤ 1048576 := fun x hx e => by
              obtain ⟨e1, e2, e3⟩ := hx e
              obtain ⟨a1, a2, a3, a4⟩ := hK e1
              exact ⟨a1, a2, a3, fun i hi => by
                rcases Nat.lt_or_ge i k with h | h
                · exact a4 i h
                · obtain rfl : i = k := by omega
                  exact ⟨e2, e3⟩⟩
            first
            | (rw [lvs_cast_yes (by omega)]; refine j2 (k + 1) _ ⟨⟨by omega, hst _ ?_⟩, by omega⟩ (.cons rfl (.cons rfl (.cons rfl (.cons rfl (.cons rfl (.cons rfl (.cons rfl (.nil _)))))))) (sub (.cons (by repeat first | exact .head | apply Rem.tail) .nil) (by repeat first | exact .refl | apply Drop.skip)))
            | (rw [← PkM.lvs_no (by omega)]; refine j2 (k + 1) _ ⟨⟨by omega, hst _ ?_⟩, by omega⟩ (.cons rfl (.cons rfl (.cons rfl (.cons rfl (.cons rfl (.cons rfl (.cons rfl (.nil _)))))))) (sub (.cons (by repeat first | exact .head | apply Rem.tail) .nil) (by repeat first | exact .refl | apply Drop.skip)))
            intro hx
            first
            | (exact absurd hx (by decide))
            | (have hx2 := of_decide_eq_true hx; exact ⟨by assumption, by omega, by omega⟩)
      ·
        refine w_exit ?_
        refine thn_e ?_
        refine thn_e ?_
        refine blk_x ?_
        refine thn_n ?_
        refine w_seq ?_
        obtain rfl : k = fr.length := by omega
        refine w_region ?_
        refine o_val (v_move rfl) rfl ?_
        refine o_val (v_move rfl) rfl ?_
        first | refine o_boolD 65 rfl (fun h65 => ?_) (fun h65 => ?_) | refine o_bool 65 rfl (fun h65 => ?_) (fun h65 => ?_)
        ·
          obtain ⟨a1, a2, a3, a4⟩ := hK h65
          refine o_want rfl ?_
          refine o_val (v_move rfl) rfl ?_
          refine o_want rfl ?_
          refine o_val (v_move rfl) rfl ?_
          refine o_want rfl ?_
          refine o_val (v_and (r := most) rfl rfl (and15 (by omega))) rfl ?_
          refine o_want rfl ?_
          refine o_val (v_conv V.u3 Try.underlying34 rfl (wrapU (by omega) (by omega))) rfl ?_
          refine o_want rfl ?_
          refine o_val (v_shl (r := ((2 ^ most.toNat : Nat) : Int)) rfl rfl (by omega) (shl_most (by omega))) rfl ?_
          refine o_want rfl ?_
          refine o_val (v_F (v_leq rfl rfl) (fun h => hNo ⟨a2, a3, a1, a4, by omega⟩)) rfl ?_
          refine o_val (v_pickT rfl rfl) rfl ?_
          refine o_val (v_assign rfl) rfl ?_
          refine o_nil ?_
          refine thn_n ?_
          refine w_seq ?_
          refine w_seq ?_
          refine w_region ?_
          refine o_val (v_move rfl) rfl ?_
          refine o_val (v_to (v := .bool true) (v_not rfl) rfl) rfl ?_
          refine o_nil ?_
          refine thn_n ?_
          refine w_condT rfl ?_
          refine w_seq ?_
          refine w_region ?_
          refine o_val (v_move rfl) rfl ?_
          refine o_val (v_to (v := .bool true) (v_not rfl) rfl) rfl ?_
          refine o_val (v_move rfl) rfl ?_
          refine o_want rfl ?_
          refine o_val (v_move rfl) rfl ?_
          refine o_want rfl ?_
          refine o_val (v_len (ty' := 0) Try.underlying22 rfl) rfl ?_
          refine o_want rfl ?_
          refine o_val (v_T (v_eql rfl rfl) rfl) rfl ?_
          refine o_val (v_pickT rfl rfl) rfl ?_
          refine o_val (v_assign rfl) rfl ?_
          refine o_nil ?_
          refine thn_n ?_
          refine w_ret ?_
          refine (thn_r ?_)
          exact ret_ok (G := [RdR I3 p fr.length fr]) (res1 rfl) ⟨rfl, rfl⟩ (sub (.cons (by repeat first | exact .head | apply Rem.tail) .nil) (by repeat first | exact .refl | apply Drop.skip))
        ·
          refine o_pass rfl rfl rfl ?_
          refine o_pass rfl rfl rfl ?_
          refine o_pass rfl rfl rfl ?_
          refine o_pass rfl rfl rfl ?_
          refine o_pass rfl rfl rfl ?_
          refine o_pass rfl rfl rfl ?_
          refine o_val (v_pickF rfl rfl) rfl ?_
          refine o_val (v_assign rfl) rfl ?_
          refine o_nil ?_
          refine thn_n ?_
          refine w_seq ?_
          refine w_seq ?_
          refine w_region ?_
          refine o_val (v_move rfl) rfl ?_
          refine o_val (v_to (v := .bool true) (v_not rfl) rfl) rfl ?_
          refine o_nil ?_
          refine thn_n ?_
          refine w_condT rfl ?_
          refine w_seq ?_
          refine w_region ?_
          refine o_val (v_move rfl) rfl ?_
          refine o_val (v_to (v := .bool true) (v_not rfl) rfl) rfl ?_
          refine o_val (v_move rfl) rfl ?_
          refine o_want rfl ?_
          refine o_val (v_move rfl) rfl ?_
          refine o_want rfl ?_
          refine o_val (v_len (ty' := 0) Try.underlying22 rfl) rfl ?_
          refine o_want rfl ?_
          refine o_val (v_T (v_eql rfl rfl) rfl) rfl ?_
          refine o_val (v_pickT rfl rfl) rfl ?_
          refine o_val (v_assign rfl) rfl ?_
          refine o_nil ?_
          refine thn_n ?_
          refine w_ret ?_
          refine (thn_r ?_)
          exact ret_ok (G := [RdR I3 p fr.length fr]) (res1 rfl) ⟨rfl, rfl⟩ (sub (.cons (by repeat first | exact .head | apply Rem.tail) .nil) (by repeat first | exact .refl | apply Drop.skip))


theorem lens (p : Option Addr) (c : Nat) (fr : List Int) (most : Int) : Ctr Try.prog 7 [.slice p fr.length c, .int .i64 most] [RdR I3 p fr.length fr] (Ret fun v G => v = .bool true ∧ G = [RdR I3 p fr.length fr]) := by
  by_cases hOk : OkL fr most
  · exact lens_yes p c fr most hOk
  · exact lens_no p c fr most hOk

end Go.Proofs.Ytmclopghpnndnaa

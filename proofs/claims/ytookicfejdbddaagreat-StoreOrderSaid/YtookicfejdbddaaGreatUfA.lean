/- Walks of functions that the law reaches, and what they lean on; no conditions. -/
import Derived.Test.YtookicfejdbddaaGreatM24
import Derived.Test.YtookicfejdbddaaGreatUiFacts
set_option linter.unusedVariables false
set_option linter.unusedSimpArgs false
set_option linter.unnecessarySimpa false
set_option maxRecDepth 100000
namespace Go.Proofs.YtookicfejdbddaaGreat
open Go.Sl 
attribute [local irreducible] List.replicate DefP.hs DefP.x3 DefP.alkGo DefP.findGo DefP.putP DefP.findP DefP.toks DefP.tokGo
theorem f_hash (bf bh bn : Nat) (p : Option Addr) (c : Nat) (B : List Int) (R : HProp) (hR : ∀ w0 h, R w0 h → RdR U5 p B.length B w0 h) (hB : BitP.Byt B) (hl : B.length ≤ 4194304) (a : Nat) (ha : a + 3 ≤ B.length) : Ctr Tryz.prog 370 [.pointer (some ⟨bf, 0, none⟩), .int .i64 (a : Int)] [Cel bf 405 [.slice p B.length c, .slice (some ⟨bh, 0, none⟩) 8192 8192, .slice (some ⟨bn, 0, none⟩) B.length B.length], R] (Ret fun v G => v = .int .i64 (DefP.hs B a) ∧ G = [Cel bf 405 [.slice p B.length c, .slice (some ⟨bh, 0, none⟩) 8192 8192, .slice (some ⟨bn, 0, none⟩) B.length B.length], R]) := by
  refine spec_of [(0, _), (1, _)] Tryz.func370 rfl Tryz.ntmps370 rfl rfl ?_
  intro w0 F
  refine w_seq ?_
  refine w_region ?_
  refine o_val (v_assign rfl) rfl ?_
  refine o_nil ?_
  refine thn_n ?_
  refine w_seq ?_
  refine w_rd V.mixed (by kernel_rfl) ?_
  refine Rg.o_val (v_move rfl) rfl rfl ?_
  refine Rg.o_val (v_nil rfl) rfl rfl ?_
  refine Rg.o_val (v_fieldAddr V.f405_0 rfl) rfl rfl ?_
  refine Rg.o_val (v_load V.s28 rfl (by repeat first | exact .head _ | apply List.Mem.tail) rfl) rfl rfl ?_
  refine Rg.o_val (v_move rfl) rfl rfl ?_
  refine Rg.o_val (r_index (c := (U5)) V.sl28 rfl rfl (by first | exact own mm0 | exact own mm1 | exact own mm2 | exact own mm3 | exact own mm4 | exact own mm5 | exact own mm6 | exact own mm7 | exact own mm8 | exact own mm9 | exact own mm10 | exact own mm11 | exact rdH hR mm0 | exact rdH hR mm1 | exact rdH hR mm2 | exact rdH hR mm3 | exact rdH hR mm4 | exact rdH hR mm5 | exact rdH hR mm6 | exact rdH hR mm7 | exact rdH hR mm8 | exact rdH hR mm9 | exact rdH hR mm10 | exact rdH hR mm11) (by omega) (by omega)) rfl rfl ?_
  refine Rg.o_val (r_load (c := (U5)) V.s5 rfl (by first | exact own mm0 | exact own mm1 | exact own mm2 | exact own mm3 | exact own mm4 | exact own mm5 | exact own mm6 | exact own mm7 | exact own mm8 | exact own mm9 | exact own mm10 | exact own mm11 | exact rdH hR mm0 | exact rdH hR mm1 | exact rdH hR mm2 | exact rdH hR mm3 | exact rdH hR mm4 | exact rdH hR mm5 | exact rdH hR mm6 | exact rdH hR mm7 | exact rdH hR mm8 | exact rdH hR mm9 | exact rdH hR mm10 | exact rdH hR mm11) (by omega) (by omega) rfl rfl) rfl rfl ?_
  refine Rg.o_val (v_conv V.u5 Tryz.underlying191 rfl (DefP.wrap32b (hB.get _) (gE (a) (by omega)))) rfl rfl ?_
  refine Rg.o_val (v_shl rfl rfl (by decide) rfl) rfl rfl ?_
  refine Rg.o_val (v_move rfl) rfl rfl ?_
  refine Rg.o_val (v_nil rfl) rfl rfl ?_
  refine Rg.o_val (v_fieldAddr V.f405_0 rfl) rfl rfl ?_
  refine Rg.o_val (v_load V.s28 rfl (by repeat first | exact .head _ | apply List.Mem.tail) rfl) rfl rfl ?_
  refine Rg.o_val (v_move rfl) rfl rfl ?_
  refine Rg.o_val (v_add rfl rfl (wrapI (by omega) (by omega))) rfl rfl ?_
  refine Rg.o_val (r_index (c := (U5)) V.sl28 rfl rfl (by first | exact own mm0 | exact own mm1 | exact own mm2 | exact own mm3 | exact own mm4 | exact own mm5 | exact own mm6 | exact own mm7 | exact own mm8 | exact own mm9 | exact own mm10 | exact own mm11 | exact rdH hR mm0 | exact rdH hR mm1 | exact rdH hR mm2 | exact rdH hR mm3 | exact rdH hR mm4 | exact rdH hR mm5 | exact rdH hR mm6 | exact rdH hR mm7 | exact rdH hR mm8 | exact rdH hR mm9 | exact rdH hR mm10 | exact rdH hR mm11) (by omega) (by omega)) rfl rfl ?_
  refine Rg.o_val (r_load (c := (U5)) V.s5 rfl (by first | exact own mm0 | exact own mm1 | exact own mm2 | exact own mm3 | exact own mm4 | exact own mm5 | exact own mm6 | exact own mm7 | exact own mm8 | exact own mm9 | exact own mm10 | exact own mm11 | exact rdH hR mm0 | exact rdH hR mm1 | exact rdH hR mm2 | exact rdH hR mm3 | exact rdH hR mm4 | exact rdH hR mm5 | exact rdH hR mm6 | exact rdH hR mm7 | exact rdH hR mm8 | exact rdH hR mm9 | exact rdH hR mm10 | exact rdH hR mm11) (by omega) (by omega) rfl rfl) rfl rfl ?_
  refine Rg.o_val (v_conv V.u5 Tryz.underlying191 rfl (DefP.wrap32b (hB.get _) (gE (a + 1) (by omega)))) rfl rfl ?_
  refine Rg.o_val (v_shl rfl rfl (by decide) rfl) rfl rfl ?_
  refine Rg.o_val (v_or rfl rfl rfl) rfl rfl ?_
  refine Rg.o_val (v_move rfl) rfl rfl ?_
  refine Rg.o_val (v_nil rfl) rfl rfl ?_
  refine Rg.o_val (v_fieldAddr V.f405_0 rfl) rfl rfl ?_
  refine Rg.o_val (v_load V.s28 rfl (by repeat first | exact .head _ | apply List.Mem.tail) rfl) rfl rfl ?_
  refine Rg.o_val (v_move rfl) rfl rfl ?_
  refine Rg.o_val (v_add rfl rfl (wrapI (by omega) (by omega))) rfl rfl ?_
  refine Rg.o_val (r_index (c := (U5)) V.sl28 rfl rfl (by first | exact own mm0 | exact own mm1 | exact own mm2 | exact own mm3 | exact own mm4 | exact own mm5 | exact own mm6 | exact own mm7 | exact own mm8 | exact own mm9 | exact own mm10 | exact own mm11 | exact rdH hR mm0 | exact rdH hR mm1 | exact rdH hR mm2 | exact rdH hR mm3 | exact rdH hR mm4 | exact rdH hR mm5 | exact rdH hR mm6 | exact rdH hR mm7 | exact rdH hR mm8 | exact rdH hR mm9 | exact rdH hR mm10 | exact rdH hR mm11) (by omega) (by omega)) rfl rfl ?_
  refine Rg.o_val (r_load (c := (U5)) V.s5 rfl (by first | exact own mm0 | exact own mm1 | exact own mm2 | exact own mm3 | exact own mm4 | exact own mm5 | exact own mm6 | exact own mm7 | exact own mm8 | exact own mm9 | exact own mm10 | exact own mm11 | exact rdH hR mm0 | exact rdH hR mm1 | exact rdH hR mm2 | exact rdH hR mm3 | exact rdH hR mm4 | exact rdH hR mm5 | exact rdH hR mm6 | exact rdH hR mm7 | exact rdH hR mm8 | exact rdH hR mm9 | exact rdH hR mm10 | exact rdH hR mm11) (by omega) (by omega) rfl rfl) rfl rfl ?_
  refine Rg.o_val (v_conv V.u5 Tryz.underlying191 rfl (DefP.wrap32b (hB.get _) (gE (a + 2) (by omega)))) rfl rfl ?_
  refine Rg.o_val (v_to (v := .int .u32 (DefP.x3 (B.getD a 0) (B.getD (a + 1) 0) (B.getD (a + 2) 0))) (v_or rfl rfl rfl) (DefP.x3_eq _ _ _)) rfl rfl ?_
  refine Rg.o_val (v_assign rfl) rfl rfl ?_
  refine Rg.o_nil ?_
  refine thn_n ?_
  refine w_seq ?_
  refine w_region ?_
  refine o_val (v_move rfl) rfl ?_
  refine o_val (v_mul rfl rfl rfl) rfl ?_
  refine o_val (v_to (v := .int .u32 (DefP.hs B a)) (v_shr rfl rfl (by decide) rfl) (DefP.hs_eq _ _)) rfl ?_
  refine o_val (v_conv V.u191 Tryz.underlying3 rfl (wrapI (by have := DefP.hs_in B a; omega) (by have := DefP.hs_in B a; omega))) rfl ?_
  refine o_val (v_assign rfl) rfl ?_
  refine o_nil ?_
  refine thn_n ?_
  refine w_ret ?_
  exact ret_ok (G := [Cel bf 405 [.slice p B.length c, .slice (some ⟨bh, 0, none⟩) 8192 8192, .slice (some ⟨bn, 0, none⟩) B.length B.length], R]) (res1 rfl) ⟨rfl, rfl⟩ (sub (.cons (by repeat first | exact .head | apply Rem.tail) (.cons (by repeat first | exact .head | apply Rem.tail) .nil)) (by repeat first | exact .refl | apply Drop.skip))
set_option maxHeartbeats 2000000 in
theorem f_alike (bf bh bn : Nat) (p : Option Addr) (c : Nat) (B : List Int) (R : HProp) (hR : ∀ w0 h, R w0 h → RdR U5 p B.length B w0 h) (hB : BitP.Byt B) (hl : B.length ≤ 4194304) (o a : Nat) (ho : o < a) (ha : a < B.length) : Ctr Tryz.prog 371 [.pointer (some ⟨bf, 0, none⟩), .int .i64 (o : Int), .int .i64 (a : Int)] [Cel bf 405 [.slice p B.length c, .slice (some ⟨bh, 0, none⟩) 8192 8192, .slice (some ⟨bn, 0, none⟩) B.length B.length], R] (Ret fun v G => v = .int .i64 (DefP.alk B o a : Int) ∧ G = [Cel bf 405 [.slice p B.length c, .slice (some ⟨bh, 0, none⟩) 8192 8192, .slice (some ⟨bn, 0, none⟩) B.length B.length], R]) := by
  refine spec_of [(0, _), (1, _), (2, _)] Tryz.func371 rfl Tryz.ntmps371 rfl rfl ?_
  intro w0 F
  refine w_seq ?_
  refine w_region ?_
  refine o_val (v_assign rfl) rfl ?_
  refine o_nil ?_
  refine thn_n ?_
  refine w_seq ?_
  refine w_region ?_
  refine o_val (v_assign rfl) rfl ?_
  refine o_nil ?_
  refine thn_n ?_
  refine w_seq ?_
  refine w_block ?_
  refine w_loop1 (fun (n : Nat) => [(0, .pointer (some ⟨bf, 0, none⟩)), (1, .int .i64 (o : Int)), (2, .int .i64 (a : Int)), (7, .int .i64 (n : Int))]) (fun (n : Nat) => Cel bf 405 [.slice p B.length c, .slice (some ⟨bh, 0, none⟩) 8192 8192, .slice (some ⟨bn, 0, none⟩) B.length B.length] :: R :: F) (fun (n : Nat) => n ≤ 258 ∧ DefP.alk B o a = DefP.alkGo B o a (258 - n) n ∧ a + n ≤ B.length) (fun (n : Nat) => 258 - n) (i1 (0) ?_ (.cons rfl (.cons rfl (.cons rfl (.cons rfl (.nil _))))) (sub (.cons (by repeat first | exact .head | apply Rem.tail) (.cons (by repeat first | exact .head | apply Rem.tail) .nil)) (by repeat first | exact .refl | apply Drop.skip))) ?_
  ·
    exact ⟨Nat.zero_le _, rfl, by omega⟩
  intro n
  rintro ⟨hn, hk, hr⟩
  refine w_seq ?_
  refine w_seq ?_
  refine w_rd V.mixed (by kernel_rfl) ?_
  refine Rg.o_val (v_move rfl) rfl rfl ?_
  refine Rg.o_val (v_lss rfl rfl) rfl rfl ?_
  refine Rg.o_val (v_move rfl) rfl rfl ?_
  refine Rg.o_boolD 10 rfl (fun h10 => ?_) (fun h10 => ?_)
  ·
    refine Rg.o_want rfl ?_
    refine Rg.o_val (v_move rfl) rfl rfl ?_
    refine Rg.o_want rfl ?_
    refine Rg.o_val (v_move rfl) rfl rfl ?_
    refine Rg.o_want rfl ?_
    refine Rg.o_val (v_add rfl rfl (wrapI (by omega) (by omega))) rfl rfl ?_
    refine Rg.o_want rfl ?_
    refine Rg.o_val (v_move rfl) rfl rfl ?_
    refine Rg.o_want rfl ?_
    refine Rg.o_val (v_nil rfl) rfl rfl ?_
    refine Rg.o_want rfl ?_
    refine Rg.o_val (v_fieldAddr V.f405_0 rfl) rfl rfl ?_
    refine Rg.o_want rfl ?_
    refine Rg.o_val (v_load V.s28 rfl (by repeat first | exact .head _ | apply List.Mem.tail) rfl) rfl rfl ?_
    refine Rg.o_want rfl ?_
    refine Rg.o_val (v_len (ty' := 0) Tryz.underlying28 rfl) rfl rfl ?_
    refine Rg.o_want rfl ?_
    refine Rg.o_val (v_lss rfl rfl) rfl rfl ?_
    refine Rg.o_val (v_pickT rfl rfl) rfl rfl ?_
    refine Rg.o_val (v_move rfl) rfl rfl ?_
    refine Rg.o_boolD 21 rfl (fun h21 => ?_) (fun h21 => ?_)
    ·
      refine Rg.o_want rfl ?_
      refine Rg.o_val (v_move rfl) rfl rfl ?_
      refine Rg.o_want rfl ?_
      refine Rg.o_val (v_nil rfl) rfl rfl ?_
      refine Rg.o_want rfl ?_
      refine Rg.o_val (v_fieldAddr V.f405_0 rfl) rfl rfl ?_
      refine Rg.o_want rfl ?_
      refine Rg.o_val (v_load V.s28 rfl (by repeat first | exact .head _ | apply List.Mem.tail) rfl) rfl rfl ?_
      refine Rg.o_want rfl ?_
      refine Rg.o_val (v_move rfl) rfl rfl ?_
      refine Rg.o_want rfl ?_
      refine Rg.o_val (v_move rfl) rfl rfl ?_
      refine Rg.o_want rfl ?_
      refine Rg.o_val (v_add rfl rfl (wrapI (by omega) (by omega))) rfl rfl ?_
      refine Rg.o_want rfl ?_
      refine Rg.o_val (r_index (c := (U5)) V.sl28 rfl rfl (by first | exact own mm0 | exact own mm1 | exact own mm2 | exact own mm3 | exact own mm4 | exact own mm5 | exact own mm6 | exact own mm7 | exact own mm8 | exact own mm9 | exact own mm10 | exact own mm11 | exact rdH hR mm0 | exact rdH hR mm1 | exact rdH hR mm2 | exact rdH hR mm3 | exact rdH hR mm4 | exact rdH hR mm5 | exact rdH hR mm6 | exact rdH hR mm7 | exact rdH hR mm8 | exact rdH hR mm9 | exact rdH hR mm10 | exact rdH hR mm11) (by omega) (by omega)) rfl rfl ?_
      refine Rg.o_want rfl ?_
      refine Rg.o_val (r_load (c := (U5)) V.s5 rfl (by first | exact own mm0 | exact own mm1 | exact own mm2 | exact own mm3 | exact own mm4 | exact own mm5 | exact own mm6 | exact own mm7 | exact own mm8 | exact own mm9 | exact own mm10 | exact own mm11 | exact rdH hR mm0 | exact rdH hR mm1 | exact rdH hR mm2 | exact rdH hR mm3 | exact rdH hR mm4 | exact rdH hR mm5 | exact rdH hR mm6 | exact rdH hR mm7 | exact rdH hR mm8 | exact rdH hR mm9 | exact rdH hR mm10 | exact rdH hR mm11) (by omega) (by omega) rfl rfl) rfl rfl ?_
      refine Rg.o_want rfl ?_
      refine Rg.o_val (v_move rfl) rfl rfl ?_
      refine Rg.o_want rfl ?_
      refine Rg.o_val (v_nil rfl) rfl rfl ?_
      refine Rg.o_want rfl ?_
      refine Rg.o_val (v_fieldAddr V.f405_0 rfl) rfl rfl ?_
      refine Rg.o_want rfl ?_
      refine Rg.o_val (v_load V.s28 rfl (by repeat first | exact .head _ | apply List.Mem.tail) rfl) rfl rfl ?_
      refine Rg.o_want rfl ?_
      refine Rg.o_val (v_move rfl) rfl rfl ?_
      refine Rg.o_want rfl ?_
      refine Rg.o_val (v_move rfl) rfl rfl ?_
      refine Rg.o_want rfl ?_
      refine Rg.o_val (v_add rfl rfl (wrapI (by omega) (by omega))) rfl rfl ?_
      refine Rg.o_want rfl ?_
      refine Rg.o_val (r_index (c := (U5)) V.sl28 rfl rfl (by first | exact own mm0 | exact own mm1 | exact own mm2 | exact own mm3 | exact own mm4 | exact own mm5 | exact own mm6 | exact own mm7 | exact own mm8 | exact own mm9 | exact own mm10 | exact own mm11 | exact rdH hR mm0 | exact rdH hR mm1 | exact rdH hR mm2 | exact rdH hR mm3 | exact rdH hR mm4 | exact rdH hR mm5 | exact rdH hR mm6 | exact rdH hR mm7 | exact rdH hR mm8 | exact rdH hR mm9 | exact rdH hR mm10 | exact rdH hR mm11) (by omega) (by omega)) rfl rfl ?_
      refine Rg.o_want rfl ?_
      refine Rg.o_val (r_load (c := (U5)) V.s5 rfl (by first | exact own mm0 | exact own mm1 | exact own mm2 | exact own mm3 | exact own mm4 | exact own mm5 | exact own mm6 | exact own mm7 | exact own mm8 | exact own mm9 | exact own mm10 | exact own mm11 | exact rdH hR mm0 | exact rdH hR mm1 | exact rdH hR mm2 | exact rdH hR mm3 | exact rdH hR mm4 | exact rdH hR mm5 | exact rdH hR mm6 | exact rdH hR mm7 | exact rdH hR mm8 | exact rdH hR mm9 | exact rdH hR mm10 | exact rdH hR mm11) (by omega) (by omega) rfl rfl) rfl rfl ?_
      refine Rg.o_want rfl ?_
      refine Rg.o_val (v_eql rfl rfl) rfl rfl ?_
      refine Rg.o_val (v_pickT rfl rfl) rfl rfl ?_
      refine Rg.o_nil ?_
      refine thn_n ?_
      first | refine w_condD rfl (fun h41 => ?_) (fun h41 => ?_) | refine w_cond rfl (fun h41 => ?_) (fun h41 => ?_)
      ·
        refine w_skip ?_
        refine thn_n ?_
        refine w_block ?_
        refine w_region ?_
        refine o_val (v_move rfl) rfl ?_
        refine o_val (v_add rfl rfl (wrapI (by omega) (by omega))) rfl ?_
        refine o_val (v_assign rfl) rfl ?_
        refine o_nil ?_
        refine blk_n ?_
        have hc : a + n < B.length ∧ B.getD (o + n) 0 = B.getD (a + n) 0 := ⟨by omega, by rw [← gE (c := U5) (e := (o : Int) + (n : Int)) _ (by omega), ← gE (c := U5) (e := (a : Int) + (n : Int)) _ (by omega)]; assumption⟩
        refine j1 (n + 1) ?_ (.cons rfl (.cons rfl (.cons rfl (.cons rfl (.nil _))))) (sub (.cons (by repeat first | exact .head | apply Rem.tail) (.cons (by repeat first | exact .head | apply Rem.tail) .nil)) (by repeat first | exact .refl | apply Drop.skip))
        exact ⟨⟨by omega, hk.trans (DefP.alkGo_next (by omega) hc), by omega⟩, by omega⟩
      ·
        refine w_exit ?_
        refine thn_e ?_
        refine thn_e ?_
        refine blk_x ?_
        refine thn_n ?_
        refine w_seq ?_
        have hz : DefP.alk B o a = n := by
          rw [hk]
          refine DefP.alkGo_end2 (by omega) (fun h1 => ?_)
          first | omega | (rw [← gE (c := U5) (e := (o : Int) + (n : Int)) _ (by omega), ← gE (c := U5) (e := (a : Int) + (n : Int)) _ (by omega)] at h1; exact absurd h1.2.2 (by assumption))
        refine w_region ?_
        refine o_val (v_move rfl) rfl ?_
        refine o_val (v_assign rfl) rfl ?_
        refine o_nil ?_
        refine thn_n ?_
        refine w_ret ?_
        exact ret_ok (G := [Cel bf 405 [.slice p B.length c, .slice (some ⟨bh, 0, none⟩) 8192 8192, .slice (some ⟨bn, 0, none⟩) B.length B.length], R]) (res1 rfl) ⟨by rw [hz], rfl⟩ (sub (.cons (by repeat first | exact .head | apply Rem.tail) (.cons (by repeat first | exact .head | apply Rem.tail) .nil)) (by repeat first | exact .refl | apply Drop.skip))
    ·
      refine Rg.o_pass rfl rfl rfl ?_
      refine Rg.o_pass rfl rfl rfl ?_
      refine Rg.o_pass rfl rfl rfl ?_
      refine Rg.o_pass rfl rfl rfl ?_
      refine Rg.o_pass rfl rfl rfl ?_
      refine Rg.o_pass rfl rfl rfl ?_
      refine Rg.o_pass rfl rfl rfl ?_
      refine Rg.o_pass rfl rfl rfl ?_
      refine Rg.o_pass rfl rfl rfl ?_
      refine Rg.o_pass rfl rfl rfl ?_
      refine Rg.o_pass rfl rfl rfl ?_
      refine Rg.o_pass rfl rfl rfl ?_
      refine Rg.o_pass rfl rfl rfl ?_
      refine Rg.o_pass rfl rfl rfl ?_
      refine Rg.o_pass rfl rfl rfl ?_
      refine Rg.o_pass rfl rfl rfl ?_
      refine Rg.o_pass rfl rfl rfl ?_
      refine Rg.o_pass rfl rfl rfl ?_
      refine Rg.o_pass rfl rfl rfl ?_
      refine Rg.o_val (v_pickF rfl rfl) rfl rfl ?_
      refine Rg.o_nil ?_
      refine thn_n ?_
      refine w_condF rfl ?_
      refine w_exit ?_
      refine thn_e ?_
      refine thn_e ?_
      refine blk_x ?_
      refine thn_n ?_
      refine w_seq ?_
      have hz : DefP.alk B o a = n := by
        rw [hk]
        refine DefP.alkGo_end2 (by omega) (fun h1 => ?_)
        first | omega | (rw [← gE (c := U5) (e := (o : Int) + (n : Int)) _ (by omega), ← gE (c := U5) (e := (a : Int) + (n : Int)) _ (by omega)] at h1; exact absurd h1.2.2 (by assumption))
      refine w_region ?_
      refine o_val (v_move rfl) rfl ?_
      refine o_val (v_assign rfl) rfl ?_
      refine o_nil ?_
      refine thn_n ?_
      refine w_ret ?_
      exact ret_ok (G := [Cel bf 405 [.slice p B.length c, .slice (some ⟨bh, 0, none⟩) 8192 8192, .slice (some ⟨bn, 0, none⟩) B.length B.length], R]) (res1 rfl) ⟨by rw [hz], rfl⟩ (sub (.cons (by repeat first | exact .head | apply Rem.tail) (.cons (by repeat first | exact .head | apply Rem.tail) .nil)) (by repeat first | exact .refl | apply Drop.skip))
  ·
    refine Rg.o_pass rfl rfl rfl ?_
    refine Rg.o_pass rfl rfl rfl ?_
    refine Rg.o_pass rfl rfl rfl ?_
    refine Rg.o_pass rfl rfl rfl ?_
    refine Rg.o_pass rfl rfl rfl ?_
    refine Rg.o_pass rfl rfl rfl ?_
    refine Rg.o_pass rfl rfl rfl ?_
    refine Rg.o_pass rfl rfl rfl ?_
    refine Rg.o_pass rfl rfl rfl ?_
    refine Rg.o_val (v_pickF rfl rfl) rfl rfl ?_
    refine Rg.o_val (v_move rfl) rfl rfl ?_
    refine Rg.o_pass rfl rfl rfl ?_
    refine Rg.o_pass rfl rfl rfl ?_
    refine Rg.o_pass rfl rfl rfl ?_
    refine Rg.o_pass rfl rfl rfl ?_
    refine Rg.o_pass rfl rfl rfl ?_
    refine Rg.o_pass rfl rfl rfl ?_
    refine Rg.o_pass rfl rfl rfl ?_
    refine Rg.o_pass rfl rfl rfl ?_
    refine Rg.o_pass rfl rfl rfl ?_
    refine Rg.o_pass rfl rfl rfl ?_
    refine Rg.o_pass rfl rfl rfl ?_
    refine Rg.o_pass rfl rfl rfl ?_
    refine Rg.o_pass rfl rfl rfl ?_
    refine Rg.o_pass rfl rfl rfl ?_
    refine Rg.o_pass rfl rfl rfl ?_
    refine Rg.o_pass rfl rfl rfl ?_
    refine Rg.o_pass rfl rfl rfl ?_
    refine Rg.o_pass rfl rfl rfl ?_
    refine Rg.o_pass rfl rfl rfl ?_
    refine Rg.o_val (v_pickF rfl rfl) rfl rfl ?_
    refine Rg.o_nil ?_
    refine thn_n ?_
    refine w_condF rfl ?_
    refine w_exit ?_
    refine thn_e ?_
    refine thn_e ?_
    refine blk_x ?_
    refine thn_n ?_
    refine w_seq ?_
    have hz : DefP.alk B o a = n := by
      rw [hk]
      refine DefP.alkGo_end2 (by omega) (fun h1 => ?_)
      first | omega | (rw [← gE (c := U5) (e := (o : Int) + (n : Int)) _ (by omega), ← gE (c := U5) (e := (a : Int) + (n : Int)) _ (by omega)] at h1; exact absurd h1.2.2 (by assumption))
    refine w_region ?_
    refine o_val (v_move rfl) rfl ?_
    refine o_val (v_assign rfl) rfl ?_
    refine o_nil ?_
    refine thn_n ?_
    refine w_ret ?_
    exact ret_ok (G := [Cel bf 405 [.slice p B.length c, .slice (some ⟨bh, 0, none⟩) 8192 8192, .slice (some ⟨bn, 0, none⟩) B.length B.length], R]) (res1 rfl) ⟨by rw [hz], rfl⟩ (sub (.cons (by repeat first | exact .head | apply Rem.tail) (.cons (by repeat first | exact .head | apply Rem.tail) .nil)) (by repeat first | exact .refl | apply Drop.skip))
theorem f_put (bf bh bn : Nat) (p : Option Addr) (c : Nat) (B : List Int) (R : HProp) (hR : ∀ w0 h, R w0 h → RdR U5 p B.length B w0 h) (hB : BitP.Byt B) (hl : B.length ≤ 4194304) (f : DefP.Fd) (a : Nat) (hf : DefP.Fok B a f) (ha : a < B.length) : Ctr Tryz.prog 352 [.pointer (some ⟨bf, 0, none⟩), .int .i64 (a : Int)] [Cel bf 405 [.slice p B.length c, .slice (some ⟨bh, 0, none⟩) 8192 8192, .slice (some ⟨bn, 0, none⟩) B.length B.length], Row I3 (some ⟨bh, 0, none⟩) 8192 8192 f.hd, Row I3 (some ⟨bn, 0, none⟩) B.length B.length f.nx, R] (Ret fun v G => v = .tuple #[] ∧ G = [Cel bf 405 [.slice p B.length c, .slice (some ⟨bh, 0, none⟩) 8192 8192, .slice (some ⟨bn, 0, none⟩) B.length B.length], Row I3 (some ⟨bh, 0, none⟩) 8192 8192 (DefP.putP B f a).hd, Row I3 (some ⟨bn, 0, none⟩) B.length B.length (DefP.putP B f a).nx, R]) := by
  refine spec_of [(0, _), (1, _)] Tryz.func352 rfl Tryz.ntmps352 rfl rfl ?_
  intro w0 F
  have hh := DefP.hs_in B a
  refine w_seq ?_
  refine w_seq ?_
  refine w_region ?_
  refine o_val (v_move rfl) rfl ?_
  refine o_val (v_add rfl rfl (wrapI (by omega) (by omega))) rfl ?_
  refine o_val (v_move rfl) rfl ?_
  refine o_val (v_nil rfl) rfl ?_
  refine o_val (v_fieldAddr V.f405_0 rfl) rfl ?_
  refine o_val (v_load V.s28 rfl (by repeat first | exact .head _ | apply List.Mem.tail) rfl) rfl ?_
  refine o_val (v_len (ty' := 0) Tryz.underlying28 rfl) rfl ?_
  refine o_val (v_gtr rfl rfl) rfl ?_
  refine o_nil ?_
  refine thn_n ?_
  first | refine w_condD rfl (fun h12 => ?_) (fun h12 => ?_) | refine w_cond rfl (fun h12 => ?_) (fun h12 => ?_)
  ·
    rw [DefP.putP_no (f := f) (by omega : B.length < a + 3)]
    refine w_ret ?_
    refine (thn_r ?_)
    exact ret_ok (G := [Cel bf 405 [.slice p B.length c, .slice (some ⟨bh, 0, none⟩) 8192 8192, .slice (some ⟨bn, 0, none⟩) B.length B.length], Row I3 (some ⟨bh, 0, none⟩) 8192 8192 f.hd, Row I3 (some ⟨bn, 0, none⟩) B.length B.length f.nx, R]) res0 ⟨rfl, rfl⟩ (sub (.cons (by repeat first | exact .head | apply Rem.tail) (.cons (by repeat first | exact .head | apply Rem.tail) (.cons (by repeat first | exact .head | apply Rem.tail) (.cons (by repeat first | exact .head | apply Rem.tail) .nil)))) (by repeat first | exact .refl | apply Drop.skip))
  ·
    obtain ⟨e1, e2⟩ := DefP.putP_yes (f := f) (by omega : ¬ B.length < a + 3)
    rw [e1, e2]
    refine w_skip ?_
    refine thn_n ?_
    refine w_seq ?_
    refine w_region ?_
    refine o_val (v_move rfl) rfl ?_
    refine o_val (v_move rfl) rfl ?_
    refine o_call (f_hash bf bh bn p c B R hR hB hl a (by omega)) V.b370  rfl (.cons (by repeat first | exact .head | apply Rem.tail) (.cons (by repeat first | exact .head | apply Rem.tail) .nil)) rfl ?_
    rintro _ _ ⟨rfl, rfl⟩
    refine o_val (v_assign rfl) rfl ?_
    refine o_nil ?_
    refine thn_n ?_
    refine w_seq ?_
    refine w_re V.mixed (by kernel_rfl) ?_
    refine Rg.o_val (v_move rfl) rfl rfl ?_
    refine Rg.o_val (v_nil rfl) rfl rfl ?_
    refine Rg.o_val (v_fieldAddr V.f405_2 rfl) rfl rfl ?_
    refine Rg.o_val (v_load V.s78 rfl (by repeat first | exact .head _ | apply List.Mem.tail) rfl) rfl rfl ?_
    refine Rg.o_val (v_move rfl) rfl rfl ?_
    refine Rg.o_val (v_move rfl) rfl rfl ?_
    refine Rg.o_val (v_nil rfl) rfl rfl ?_
    refine Rg.o_val (v_fieldAddr V.f405_1 rfl) rfl rfl ?_
    refine Rg.o_val (v_load V.s78 rfl (by repeat first | exact .head _ | apply List.Mem.tail) rfl) rfl rfl ?_
    refine Rg.o_val (v_move rfl) rfl rfl ?_
    refine Rg.o_val (r_index (c := (I3)) V.sl78 rfl rfl (by first | exact own mm0 | exact own mm1 | exact own mm2 | exact own mm3 | exact own mm4 | exact own mm5 | exact own mm6 | exact own mm7 | exact own mm8 | exact own mm9 | exact own mm10 | exact own mm11 | exact rdH hR mm0 | exact rdH hR mm1 | exact rdH hR mm2 | exact rdH hR mm3 | exact rdH hR mm4 | exact rdH hR mm5 | exact rdH hR mm6 | exact rdH hR mm7 | exact rdH hR mm8 | exact rdH hR mm9 | exact rdH hR mm10 | exact rdH hR mm11) (by omega) (by omega)) rfl rfl ?_
    refine Rg.o_val (r_load (c := (I3)) V.s3 rfl (by first | exact own mm0 | exact own mm1 | exact own mm2 | exact own mm3 | exact own mm4 | exact own mm5 | exact own mm6 | exact own mm7 | exact own mm8 | exact own mm9 | exact own mm10 | exact own mm11 | exact rdH hR mm0 | exact rdH hR mm1 | exact rdH hR mm2 | exact rdH hR mm3 | exact rdH hR mm4 | exact rdH hR mm5 | exact rdH hR mm6 | exact rdH hR mm7 | exact rdH hR mm8 | exact rdH hR mm9 | exact rdH hR mm10 | exact rdH hR mm11) (by omega) (by omega) rfl rfl) rfl rfl ?_
    refine Rg.o_val (r_index (c := (I3)) V.sl78 rfl rfl (by first | exact own mm0 | exact own mm1 | exact own mm2 | exact own mm3 | exact own mm4 | exact own mm5 | exact own mm6 | exact own mm7 | exact own mm8 | exact own mm9 | exact own mm10 | exact own mm11 | exact rdH hR mm0 | exact rdH hR mm1 | exact rdH hR mm2 | exact rdH hR mm3 | exact rdH hR mm4 | exact rdH hR mm5 | exact rdH hR mm6 | exact rdH hR mm7 | exact rdH hR mm8 | exact rdH hR mm9 | exact rdH hR mm10 | exact rdH hR mm11) (by omega) (by omega)) rfl rfl ?_
    refine Rg.o_nil ?_
    refine o_eff (r_store (c := (I3)) (_) V.s3 rfl rfl rfl (by repeat first | exact .head | apply Rep.tail) (by omega) (by omega) rfl rfl) ?_
    refine o_nil ?_
    refine thn_n ?_
    refine w_region ?_
    refine o_val (v_move rfl) rfl ?_
    refine o_val (v_nil rfl) rfl ?_
    refine o_val (v_fieldAddr V.f405_1 rfl) rfl ?_
    refine o_val (v_load V.s78 rfl (by repeat first | exact .head _ | apply List.Mem.tail) rfl) rfl ?_
    refine o_val (v_move rfl) rfl ?_
    refine o_val (v_move rfl) rfl ?_
    refine o_val (r_index (c := (I3)) V.sl78 rfl rfl (by first | exact own mm0 | exact own mm1 | exact own mm2 | exact own mm3 | exact own mm4 | exact own mm5 | exact own mm6 | exact own mm7 | exact own mm8 | exact own mm9 | exact own mm10 | exact own mm11 | exact rdH hR mm0 | exact rdH hR mm1 | exact rdH hR mm2 | exact rdH hR mm3 | exact rdH hR mm4 | exact rdH hR mm5 | exact rdH hR mm6 | exact rdH hR mm7 | exact rdH hR mm8 | exact rdH hR mm9 | exact rdH hR mm10 | exact rdH hR mm11) (by omega) (by omega)) rfl ?_
    refine o_eff (r_store (c := (I3)) (_) V.s3 rfl rfl rfl (by repeat first | exact .head | apply Rep.tail) (by omega) (by omega) rfl rfl) ?_
    refine o_nil ?_
    exact end_ok (G := [Cel bf 405 [.slice p B.length c, .slice (some ⟨bh, 0, none⟩) 8192 8192, .slice (some ⟨bn, 0, none⟩) B.length B.length], Row I3 (some ⟨bh, 0, none⟩) 8192 8192 (f.hd.set (DefP.hs B a).toNat (a : Int)), Row I3 (some ⟨bn, 0, none⟩) B.length B.length (f.nx.set a (f.hd.getD (DefP.hs B a).toNat 0)), R]) res0 ⟨rfl, rfl⟩ (sub (.cons (by repeat first | exact .head | apply Rem.tail) (.cons (by repeat first | exact .head | apply Rem.tail) (.cons (by repeat first | exact .head | apply Rem.tail) (.cons (by repeat first | exact .head | apply Rem.tail) .nil)))) (by repeat first | exact .refl | apply Drop.skip))
set_option maxHeartbeats 2000000 in
theorem f_find (bf bh bn : Nat) (p : Option Addr) (c : Nat) (B : List Int) (R : HProp) (hR : ∀ w0 h, R w0 h → RdR U5 p B.length B w0 h) (hB : BitP.Byt B) (hl : B.length ≤ 4194304) (f : DefP.Fd) (a : Nat) (hf : DefP.Fok B a f) (ha : a < B.length) : Ctr Tryz.prog 351 [.pointer (some ⟨bf, 0, none⟩), .int .i64 (a : Int)] [Cel bf 405 [.slice p B.length c, .slice (some ⟨bh, 0, none⟩) 8192 8192, .slice (some ⟨bn, 0, none⟩) B.length B.length], Row I3 (some ⟨bh, 0, none⟩) 8192 8192 f.hd, Row I3 (some ⟨bn, 0, none⟩) B.length B.length f.nx, R] (Ret fun v G => v = .tuple #[.int .i64 (DefP.findP B f a).1, .int .i64 (DefP.findP B f a).2] ∧ G = [Cel bf 405 [.slice p B.length c, .slice (some ⟨bh, 0, none⟩) 8192 8192, .slice (some ⟨bn, 0, none⟩) B.length B.length], Row I3 (some ⟨bh, 0, none⟩) 8192 8192 f.hd, Row I3 (some ⟨bn, 0, none⟩) B.length B.length f.nx, R]) := by
  refine spec_of [(0, _), (1, _)] Tryz.func351 rfl Tryz.ntmps351 rfl rfl ?_
  intro w0 F
  have hh := DefP.hs_in B a
  refine w_seq ?_
  refine w_region ?_
  refine o_val (v_assign rfl) rfl ?_
  refine o_val (v_assign rfl) rfl ?_
  refine o_nil ?_
  refine thn_n ?_
  refine w_seq ?_
  refine w_seq ?_
  refine w_region ?_
  refine o_val (v_move rfl) rfl ?_
  refine o_val (v_add rfl rfl (wrapI (by omega) (by omega))) rfl ?_
  refine o_val (v_move rfl) rfl ?_
  refine o_val (v_nil rfl) rfl ?_
  refine o_val (v_fieldAddr V.f405_0 rfl) rfl ?_
  refine o_val (v_load V.s28 rfl (by repeat first | exact .head _ | apply List.Mem.tail) rfl) rfl ?_
  refine o_val (v_len (ty' := 0) Tryz.underlying28 rfl) rfl ?_
  refine o_val (v_gtr rfl rfl) rfl ?_
  refine o_nil ?_
  refine thn_n ?_
  first | refine w_condD rfl (fun h17 => ?_) (fun h17 => ?_) | refine w_cond rfl (fun h17 => ?_) (fun h17 => ?_)
  ·
    refine w_seq ?_
    refine w_region ?_
    refine o_val (v_assign rfl) rfl ?_
    refine o_val (v_assign rfl) rfl ?_
    refine o_nil ?_
    refine thn_n ?_
    refine w_ret ?_
    refine (thn_r ?_)
    have e : DefP.findP B f a = (0, 0) := by first | exact DefP.find_no (by omega)
    rw [e]
    exact ret_ok (G := [Cel bf 405 [.slice p B.length c, .slice (some ⟨bh, 0, none⟩) 8192 8192, .slice (some ⟨bn, 0, none⟩) B.length B.length], Row I3 (some ⟨bh, 0, none⟩) 8192 8192 f.hd, Row I3 (some ⟨bn, 0, none⟩) B.length B.length f.nx, R]) (res2 rfl rfl) ⟨rfl, rfl⟩ (sub (.cons (by repeat first | exact .head | apply Rem.tail) (.cons (by repeat first | exact .head | apply Rem.tail) (.cons (by repeat first | exact .head | apply Rem.tail) (.cons (by repeat first | exact .head | apply Rem.tail) .nil)))) (by repeat first | exact .refl | apply Drop.skip))
  ·
    refine w_skip ?_
    refine thn_n ?_
    refine w_seq ?_
    refine w_region ?_
    refine o_val (v_assign rfl) rfl ?_
    refine o_val (v_assign rfl) rfl ?_
    refine o_nil ?_
    refine thn_n ?_
    refine w_seq ?_
    refine w_net [⟨[], [], [0], 0, 0⟩, ⟨[0], [0], [], 0, 0⟩, ⟨[0, 1], [1], [], 0, 0⟩, ⟨[0, 1, 2], [2], [], 0, 0⟩, ⟨[], [], [0], 0, 0⟩, ⟨[], [], [1], 0, 0⟩, ⟨[4, 5], [4, 5], [], 0, 0⟩, ⟨[0, 1, 2, 3, 4, 5, 6], [3, 6], [], 0, 0⟩, ⟨[0, 1, 2, 3, 4, 5, 6, 7], [7], [], 0, 0⟩, ⟨[0, 1, 2, 3, 4, 5, 6, 7, 8], [8], [], 0, 0⟩] [⟨fun y => Cel bf 405 [.slice p B.length c, .slice (some ⟨bh, 0, none⟩) 8192 8192, .slice (some ⟨bn, 0, none⟩) B.length B.length], none, none, [3, 6]⟩, ⟨fun y => Row I3 (some ⟨bh, 0, none⟩) 8192 8192 f.hd, none, none, [7, 8]⟩, ⟨fun y => Row I3 (some ⟨bn, 0, none⟩) B.length B.length f.nx, none, none, []⟩, ⟨fun y => R, none, none, [6]⟩] F V.mixed (by kernel_rfl) rfl (fun _ => .refl _) (locT_0 _ (locT_0 _ (locT_0 _ (locT_0 _ locT_nil)))) ?_
    refine net_pure (fun y => [(0, _)]) (fun y => rfl) rfl rfl rfl (fun y hA L => st_v (v_move rfl) ⟨rfl, rfl⟩) (by intros; rfl) (by intro y y2 h; rfl) ?_
    refine net_pure (fun y => [(18, _)]) (fun y => rfl) rfl rfl rfl (fun y hA L => st_v (v_nil rfl) ⟨rfl, rfl⟩) (by intros; rfl) (by intro y y2 h; rfl) ?_
    refine net_pure (fun y => [(19, _)]) (fun y => rfl) rfl rfl rfl (fun y hA L => st_v (v_fieldAddr V.f405_1 rfl) ⟨rfl, rfl⟩) (by intros; rfl) (by intro y y2 h; rfl) ?_
    refine net_read (fun y => [Cel bf 405 [.slice p B.length c, .slice (some ⟨bh, 0, none⟩) 8192 8192, .slice (some ⟨bn, 0, none⟩) B.length B.length]]) (fun y => [(20, _)]) (fun y => rfl) rfl (fun y => rfl) rfl (fun y FF hA => st_v (v_load V.s78 rfl (by repeat first | exact .head _ | apply List.Mem.tail) rfl) ⟨rfl, rfl⟩) (by intros; rfl) (by intro y y2 h; rfl) ?_
    refine net_pure (fun y => [(0, _)]) (fun y => rfl) rfl rfl rfl (fun y hA L => st_v (v_move rfl) ⟨rfl, rfl⟩) (by intros; rfl) (by intro y y2 h; rfl) ?_
    refine net_pure (fun y => [(1, _)]) (fun y => rfl) rfl rfl rfl (fun y hA L => st_v (v_move rfl) ⟨rfl, rfl⟩) (by intros; rfl) (by intro y y2 h; rfl) ?_
    refine net_eff (fun y => []) (fun y => [Cel bf 405 [.slice p B.length c, .slice (some ⟨bh, 0, none⟩) 8192 8192, .slice (some ⟨bn, 0, none⟩) B.length B.length], R]) (fun y => []) (fun y => [(22, _), (23, _)]) (fun y => rfl) (fun y => rfl) (fun y => rfl) (fun y => rfl) (fun y FF hA => st_callN (Post := [Cel bf 405 [.slice p B.length c, .slice (some ⟨bh, 0, none⟩) 8192 8192, .slice (some ⟨bn, 0, none⟩) B.length B.length], R]) (f_hash bf bh bn p c B R hR hB hl a (by omega)) V.b370 rfl (.cons (by repeat first | exact .head | apply Rem.tail) (.cons (by repeat first | exact .head | apply Rem.tail) .nil)) (fun v G h => by rcases h with ⟨rfl, rfl⟩; exact ⟨rfl, .refl _⟩)) (by intros; rfl) (by intros; rfl) (by intro y y2 h; rfl) ?_
    refine net_read (fun y => [Row I3 (some ⟨bh, 0, none⟩) 8192 8192 f.hd]) (fun y => [(21, _), (24, _)]) (fun y => rfl) rfl (fun y => rfl) rfl (fun y FF hA => st_v (r_index (c := (I3)) V.sl78 rfl rfl (by first | exact own mm0 | exact own mm1 | exact own mm2 | exact own mm3 | exact own mm4 | exact own mm5 | exact own mm6 | exact own mm7 | exact own mm8 | exact own mm9 | exact own mm10 | exact own mm11 | exact rdH hR mm0 | exact rdH hR mm1 | exact rdH hR mm2 | exact rdH hR mm3 | exact rdH hR mm4 | exact rdH hR mm5 | exact rdH hR mm6 | exact rdH hR mm7 | exact rdH hR mm8 | exact rdH hR mm9 | exact rdH hR mm10 | exact rdH hR mm11) (by omega) (by omega)) ⟨rfl, rfl⟩) (by intros; rfl) (by intro y y2 h; rfl) ?_
    refine net_read (fun y => [Row I3 (some ⟨bh, 0, none⟩) 8192 8192 f.hd]) (fun y => [(25, _)]) (fun y => rfl) rfl (fun y => rfl) rfl (fun y FF hA => st_v (r_load (c := (I3)) V.s3 rfl (by first | exact own mm0 | exact own mm1 | exact own mm2 | exact own mm3 | exact own mm4 | exact own mm5 | exact own mm6 | exact own mm7 | exact own mm8 | exact own mm9 | exact own mm10 | exact own mm11 | exact rdH hR mm0 | exact rdH hR mm1 | exact rdH hR mm2 | exact rdH hR mm3 | exact rdH hR mm4 | exact rdH hR mm5 | exact rdH hR mm6 | exact rdH hR mm7 | exact rdH hR mm8 | exact rdH hR mm9 | exact rdH hR mm10 | exact rdH hR mm11) (by omega) (by omega) rfl rfl) ⟨rfl, rfl⟩) (by intros; rfl) (by intro y y2 h; rfl) ?_
    refine net_pure (fun y => [(26, _)]) (fun y => rfl) rfl rfl rfl (fun y hA L => st_v (v_assign rfl) ⟨rfl, rfl⟩) (by intros; rfl) (by intro y y2 h; rfl) ?_
    refine net_nil ?_
    intro y hA
    clear hA
    refine thn_n ?_
    refine w_keep _ (.cons (d := 0) rfl (.cons (d := 1) rfl (.cons (d := 6) rfl (.cons (d := 7) rfl (.cons (d := 8) rfl (.nil _)))))) ?_
    refine w_sub (M := Cel bf 405 [.slice p B.length c, .slice (some ⟨bh, 0, none⟩) 8192 8192, .slice (some ⟨bn, 0, none⟩) B.length B.length] :: Row I3 (some ⟨bh, 0, none⟩) 8192 8192 f.hd :: Row I3 (some ⟨bn, 0, none⟩) B.length B.length f.nx :: R :: F) (fun _ _ h => h) ?_
    refine w_seq ?_
    refine w_seq ?_
    have hh0 := hf.h (DefP.hs B a).toNat (by omega)
    have hg : I3.g f.hd (DefP.hs B a) = f.hd.getD (DefP.hs B a).toNat 0 := rfl
    have hs0 := DefP.find_go (f := f) (by omega : ¬ B.length < a + 3)
    have hhl := hf.hl
    refine w_region ?_
    refine o_val (v_move rfl) rfl ?_
    refine o_nil ?_
    refine thn_n ?_
    refine w_block ?_
    refine w_loop4 (fun (k : Nat) (old : Int) (n : Int) (far : Int) => [(0, .pointer (some ⟨bf, 0, none⟩)), (1, .int .i64 (a : Int)), (6, .int .i64 n), (7, .int .i64 far), (8, .int .i64 old), (27, .int .i64 (k : Int))]) (fun (k : Nat) (old : Int) (n : Int) (far : Int) => Cel bf 405 [.slice p B.length c, .slice (some ⟨bh, 0, none⟩) 8192 8192, .slice (some ⟨bn, 0, none⟩) B.length B.length] :: Row I3 (some ⟨bh, 0, none⟩) 8192 8192 f.hd :: Row I3 (some ⟨bn, 0, none⟩) B.length B.length f.nx :: R :: F) (fun (k : Nat) (old : Int) (n : Int) (far : Int) => k ≤ 24 ∧ DefP.findP B f a = DefP.findGo B f.nx a (24 - k) old n far ∧ -1 ≤ old ∧ old < a) (fun (k : Nat) (old : Int) (n : Int) (far : Int) => 24 - k) (i4 (0) (_) (_) (_) ?_ (.cons rfl (.cons rfl (.cons rfl (.cons rfl (.cons rfl (.cons rfl (.nil _))))))) (sub (.cons (by repeat first | exact .head | apply Rem.tail) (.cons (by repeat first | exact .head | apply Rem.tail) (.cons (by repeat first | exact .head | apply Rem.tail) (.cons (by repeat first | exact .head | apply Rem.tail) .nil)))) (by repeat first | exact .refl | apply Drop.skip))) ?_
    ·
      exact ⟨Nat.zero_le _, hs0, hh0⟩
    intro k old n far
    rintro ⟨hk, he, h0, h1⟩
    refine w_seq ?_
    refine w_region ?_
    refine o_val (v_lss rfl rfl) rfl ?_
    refine o_nil ?_
    refine thn_n ?_
    refine w_seq ?_
    first | refine w_condD rfl (fun h28 => ?_) (fun h28 => ?_) | refine w_cond rfl (fun h28 => ?_) (fun h28 => ?_)
    ·
      refine w_skip ?_
      refine thn_n ?_
      refine w_seq ?_
      refine w_block ?_
      refine w_seq ?_
      refine w_seq ?_
      refine w_region ?_
      refine o_val (v_move rfl) rfl ?_
      refine o_val (v_eql rfl rfl) rfl ?_
      refine o_val (v_move rfl) rfl ?_
      first | refine o_boolD 31 rfl (fun h31 => ?_) (fun h31 => ?_) | refine o_bool 31 rfl (fun h31 => ?_) (fun h31 => ?_)
      ·
        refine o_pass rfl rfl rfl ?_
        refine o_pass rfl rfl rfl ?_
        refine o_pass rfl rfl rfl ?_
        refine o_pass rfl rfl rfl ?_
        refine o_val (v_pickT rfl rfl) rfl ?_
        refine o_nil ?_
        refine thn_n ?_
        refine w_condT rfl ?_
        refine w_exit ?_
        refine thn_e ?_
        refine blk_o rfl ?_
        refine thn_e ?_
        refine thn_e ?_
        refine blk_x ?_
        refine thn_n ?_
        refine w_seq ?_
        refine w_region ?_
        refine o_val (v_move rfl) rfl ?_
        refine o_val (v_move rfl) rfl ?_
        refine o_val (v_assign rfl) rfl ?_
        refine o_val (v_assign rfl) rfl ?_
        refine o_nil ?_
        refine thn_n ?_
        refine w_ret ?_
        have e : DefP.findP B f a = (n, far) := by first | exact he.trans (DefP.findGo_end (by omega)) | exact he.trans (DefP.findGo_stop (by omega) (.inl (by assumption))) | exact he.trans (DefP.findGo_stop (by omega) (.inr (by omega)))
        rw [e]
        exact ret_ok (G := [Cel bf 405 [.slice p B.length c, .slice (some ⟨bh, 0, none⟩) 8192 8192, .slice (some ⟨bn, 0, none⟩) B.length B.length], Row I3 (some ⟨bh, 0, none⟩) 8192 8192 f.hd, Row I3 (some ⟨bn, 0, none⟩) B.length B.length f.nx, R]) (res2 rfl rfl) ⟨rfl, rfl⟩ (sub (.cons (by repeat first | exact .head | apply Rem.tail) (.cons (by repeat first | exact .head | apply Rem.tail) (.cons (by repeat first | exact .head | apply Rem.tail) (.cons (by repeat first | exact .head | apply Rem.tail) .nil)))) (by repeat first | exact .refl | apply Drop.skip))
      ·
        refine o_want rfl ?_
        refine o_val (v_move rfl) rfl ?_
        refine o_want rfl ?_
        refine o_val (v_move rfl) rfl ?_
        refine o_want rfl ?_
        refine o_val (v_sub rfl rfl (wrapI (by omega) (by omega))) rfl ?_
        refine o_want rfl ?_
        refine o_val (v_gtr rfl rfl) rfl ?_
        refine o_val (v_pickF rfl rfl) rfl ?_
        refine o_nil ?_
        refine thn_n ?_
        first | refine w_condD rfl (fun h36 => ?_) (fun h36 => ?_) | refine w_cond rfl (fun h36 => ?_) (fun h36 => ?_)
        ·
          refine w_exit ?_
          refine thn_e ?_
          refine blk_o rfl ?_
          refine thn_e ?_
          refine thn_e ?_
          refine blk_x ?_
          refine thn_n ?_
          refine w_seq ?_
          refine w_region ?_
          refine o_val (v_move rfl) rfl ?_
          refine o_val (v_move rfl) rfl ?_
          refine o_val (v_assign rfl) rfl ?_
          refine o_val (v_assign rfl) rfl ?_
          refine o_nil ?_
          refine thn_n ?_
          refine w_ret ?_
          have e : DefP.findP B f a = (n, far) := by first | exact he.trans (DefP.findGo_end (by omega)) | exact he.trans (DefP.findGo_stop (by omega) (.inl (by assumption))) | exact he.trans (DefP.findGo_stop (by omega) (.inr (by omega)))
          rw [e]
          exact ret_ok (G := [Cel bf 405 [.slice p B.length c, .slice (some ⟨bh, 0, none⟩) 8192 8192, .slice (some ⟨bn, 0, none⟩) B.length B.length], Row I3 (some ⟨bh, 0, none⟩) 8192 8192 f.hd, Row I3 (some ⟨bn, 0, none⟩) B.length B.length f.nx, R]) (res2 rfl rfl) ⟨rfl, rfl⟩ (sub (.cons (by repeat first | exact .head | apply Rem.tail) (.cons (by repeat first | exact .head | apply Rem.tail) (.cons (by repeat first | exact .head | apply Rem.tail) (.cons (by repeat first | exact .head | apply Rem.tail) .nil)))) (by repeat first | exact .refl | apply Drop.skip))
        ·
          refine w_skip ?_
          refine thn_n ?_
          refine w_seq ?_
          refine w_seq ?_
          obtain ⟨o, rfl⟩ : ∃ o : Nat, old = (o : Int) := ⟨old.toNat, by omega⟩
          have hnx := hf.x o (by omega)
          have hgx : I3.g f.nx (o : Int) = f.nx.getD o 0 := rfl
          have hnl := hf.nl
          refine w_region ?_
          refine o_val (v_move rfl) rfl ?_
          refine o_val (v_move rfl) rfl ?_
          refine o_val (v_move rfl) rfl ?_
          refine o_call (f_alike bf bh bn p c B R hR hB hl o a (by omega) ha) V.b371  rfl (.cons (by repeat first | exact .head | apply Rem.tail) (.cons (by repeat first | exact .head | apply Rem.tail) .nil)) rfl ?_
          rintro _ _ ⟨rfl, rfl⟩
          refine o_val (v_assign rfl) rfl ?_
          refine o_nil ?_
          refine thn_n ?_
          refine w_seq ?_
          refine w_region ?_
          refine o_val (v_move rfl) rfl ?_
          refine o_val (v_move rfl) rfl ?_
          refine o_val (v_gtr rfl rfl) rfl ?_
          refine o_nil ?_
          refine thn_n ?_
          first | refine w_condD rfl (fun h43 => ?_) (fun h43 => ?_) | refine w_cond rfl (fun h43 => ?_) (fun h43 => ?_)
          ·
            refine w_region ?_
            refine o_val (v_move rfl) rfl ?_
            refine o_val (v_move rfl) rfl ?_
            refine o_val (v_move rfl) rfl ?_
            refine o_val (v_sub rfl rfl (wrapI (by omega) (by omega))) rfl ?_
            refine o_val (v_assign rfl) rfl ?_
            refine o_val (v_assign rfl) rfl ?_
            refine o_nil ?_
            refine thn_n ?_
            refine w_region ?_
            refine o_val (v_move rfl) rfl ?_
            refine o_val (v_nil rfl) rfl ?_
            refine o_val (v_fieldAddr V.f405_2 rfl) rfl ?_
            refine o_val (v_load V.s78 rfl (by repeat first | exact .head _ | apply List.Mem.tail) rfl) rfl ?_
            refine o_val (v_move rfl) rfl ?_
            refine o_val (r_index (c := (I3)) V.sl78 rfl rfl (by first | exact own mm0 | exact own mm1 | exact own mm2 | exact own mm3 | exact own mm4 | exact own mm5 | exact own mm6 | exact own mm7 | exact own mm8 | exact own mm9 | exact own mm10 | exact own mm11 | exact rdH hR mm0 | exact rdH hR mm1 | exact rdH hR mm2 | exact rdH hR mm3 | exact rdH hR mm4 | exact rdH hR mm5 | exact rdH hR mm6 | exact rdH hR mm7 | exact rdH hR mm8 | exact rdH hR mm9 | exact rdH hR mm10 | exact rdH hR mm11) (by omega) (by omega)) rfl ?_
            refine o_val (r_load (c := (I3)) V.s3 rfl (by first | exact own mm0 | exact own mm1 | exact own mm2 | exact own mm3 | exact own mm4 | exact own mm5 | exact own mm6 | exact own mm7 | exact own mm8 | exact own mm9 | exact own mm10 | exact own mm11 | exact rdH hR mm0 | exact rdH hR mm1 | exact rdH hR mm2 | exact rdH hR mm3 | exact rdH hR mm4 | exact rdH hR mm5 | exact rdH hR mm6 | exact rdH hR mm7 | exact rdH hR mm8 | exact rdH hR mm9 | exact rdH hR mm10 | exact rdH hR mm11) (by omega) (by omega) rfl rfl) rfl ?_
            refine o_val (v_assign rfl) rfl ?_
            refine o_nil ?_
            refine blk_n ?_
            refine thn_n ?_
            refine w_region ?_
            refine o_val (v_add rfl rfl (wrapI (by omega) (by omega))) rfl ?_
            refine o_val (v_move rfl) rfl ?_
            refine o_nil ?_
            first
            | exact j4 (k + 1) _ _ _ ⟨⟨by omega, he.trans (DefP.findGo_yes (by omega) (by assumption) (by omega) (by assumption)), by omega, by omega⟩, by omega⟩ (.cons rfl (.cons rfl (.cons rfl (.cons rfl (.cons rfl (.cons rfl (.nil _))))))) (sub (.cons (by repeat first | exact .head | apply Rem.tail) (.cons (by repeat first | exact .head | apply Rem.tail) (.cons (by repeat first | exact .head | apply Rem.tail) (.cons (by repeat first | exact .head | apply Rem.tail) .nil)))) (by repeat first | exact .refl | apply Drop.skip))
            | exact j4 (k + 1) _ _ _ ⟨⟨by omega, he.trans (DefP.findGo_no (by omega) (by assumption) (by omega) (by assumption)), by omega, by omega⟩, by omega⟩ (.cons rfl (.cons rfl (.cons rfl (.cons rfl (.cons rfl (.cons rfl (.nil _))))))) (sub (.cons (by repeat first | exact .head | apply Rem.tail) (.cons (by repeat first | exact .head | apply Rem.tail) (.cons (by repeat first | exact .head | apply Rem.tail) (.cons (by repeat first | exact .head | apply Rem.tail) .nil)))) (by repeat first | exact .refl | apply Drop.skip))
          ·
            refine w_skip ?_
            refine thn_n ?_
            refine w_region ?_
            refine o_val (v_move rfl) rfl ?_
            refine o_val (v_nil rfl) rfl ?_
            refine o_val (v_fieldAddr V.f405_2 rfl) rfl ?_
            refine o_val (v_load V.s78 rfl (by repeat first | exact .head _ | apply List.Mem.tail) rfl) rfl ?_
            refine o_val (v_move rfl) rfl ?_
            refine o_val (r_index (c := (I3)) V.sl78 rfl rfl (by first | exact own mm0 | exact own mm1 | exact own mm2 | exact own mm3 | exact own mm4 | exact own mm5 | exact own mm6 | exact own mm7 | exact own mm8 | exact own mm9 | exact own mm10 | exact own mm11 | exact rdH hR mm0 | exact rdH hR mm1 | exact rdH hR mm2 | exact rdH hR mm3 | exact rdH hR mm4 | exact rdH hR mm5 | exact rdH hR mm6 | exact rdH hR mm7 | exact rdH hR mm8 | exact rdH hR mm9 | exact rdH hR mm10 | exact rdH hR mm11) (by omega) (by omega)) rfl ?_
            refine o_val (r_load (c := (I3)) V.s3 rfl (by first | exact own mm0 | exact own mm1 | exact own mm2 | exact own mm3 | exact own mm4 | exact own mm5 | exact own mm6 | exact own mm7 | exact own mm8 | exact own mm9 | exact own mm10 | exact own mm11 | exact rdH hR mm0 | exact rdH hR mm1 | exact rdH hR mm2 | exact rdH hR mm3 | exact rdH hR mm4 | exact rdH hR mm5 | exact rdH hR mm6 | exact rdH hR mm7 | exact rdH hR mm8 | exact rdH hR mm9 | exact rdH hR mm10 | exact rdH hR mm11) (by omega) (by omega) rfl rfl) rfl ?_
            refine o_val (v_assign rfl) rfl ?_
            refine o_nil ?_
            refine blk_n ?_
            refine thn_n ?_
            refine w_region ?_
            refine o_val (v_add rfl rfl (wrapI (by omega) (by omega))) rfl ?_
            refine o_val (v_move rfl) rfl ?_
            refine o_nil ?_
            first
            | exact j4 (k + 1) _ _ _ ⟨⟨by omega, he.trans (DefP.findGo_yes (by omega) (by assumption) (by omega) (by assumption)), by omega, by omega⟩, by omega⟩ (.cons rfl (.cons rfl (.cons rfl (.cons rfl (.cons rfl (.cons rfl (.nil _))))))) (sub (.cons (by repeat first | exact .head | apply Rem.tail) (.cons (by repeat first | exact .head | apply Rem.tail) (.cons (by repeat first | exact .head | apply Rem.tail) (.cons (by repeat first | exact .head | apply Rem.tail) .nil)))) (by repeat first | exact .refl | apply Drop.skip))
            | exact j4 (k + 1) _ _ _ ⟨⟨by omega, he.trans (DefP.findGo_no (by omega) (by assumption) (by omega) (by assumption)), by omega, by omega⟩, by omega⟩ (.cons rfl (.cons rfl (.cons rfl (.cons rfl (.cons rfl (.cons rfl (.nil _))))))) (sub (.cons (by repeat first | exact .head | apply Rem.tail) (.cons (by repeat first | exact .head | apply Rem.tail) (.cons (by repeat first | exact .head | apply Rem.tail) (.cons (by repeat first | exact .head | apply Rem.tail) .nil)))) (by repeat first | exact .refl | apply Drop.skip))
    ·
      refine w_exit ?_
      refine thn_e ?_
      refine thn_e ?_
      refine blk_x ?_
      refine thn_n ?_
      refine w_seq ?_
      refine w_region ?_
      refine o_val (v_move rfl) rfl ?_
      refine o_val (v_move rfl) rfl ?_
      refine o_val (v_assign rfl) rfl ?_
      refine o_val (v_assign rfl) rfl ?_
      refine o_nil ?_
      refine thn_n ?_
      refine w_ret ?_
      have e : DefP.findP B f a = (n, far) := by first | exact he.trans (DefP.findGo_end (by omega)) | exact he.trans (DefP.findGo_stop (by omega) (.inl (by assumption))) | exact he.trans (DefP.findGo_stop (by omega) (.inr (by omega)))
      rw [e]
      exact ret_ok (G := [Cel bf 405 [.slice p B.length c, .slice (some ⟨bh, 0, none⟩) 8192 8192, .slice (some ⟨bn, 0, none⟩) B.length B.length], Row I3 (some ⟨bh, 0, none⟩) 8192 8192 f.hd, Row I3 (some ⟨bn, 0, none⟩) B.length B.length f.nx, R]) (res2 rfl rfl) ⟨rfl, rfl⟩ (sub (.cons (by repeat first | exact .head | apply Rem.tail) (.cons (by repeat first | exact .head | apply Rem.tail) (.cons (by repeat first | exact .head | apply Rem.tail) (.cons (by repeat first | exact .head | apply Rem.tail) .nil)))) (by repeat first | exact .refl | apply Drop.skip))
theorem fill_tk (t : DefP.Tok) : Instr.fill (fun i => some (i * 3, 3)) ((List.replicate 1 [.int .i64 0, .int .i64 0, .int .i64 0]).flatten.toArray) [(0, .agg #[.int .i64 t.lit, .int .i64 t.n, .int .i64 t.far])] = some ([t].flatMap TK.e).toArray := by simp [Instr.fill, Value.cells, List.replicate]
set_option maxHeartbeats 4000000 in
theorem f_tokens (p : Option Addr) (c : Nat) (B : List Int) (R : HProp) (hR : ∀ w0 h, R w0 h → RdR U5 p B.length B w0 h) (hB : BitP.Byt B) (hl : B.length ≤ 4194304) : Ctr Tryz.prog 339 [.slice p B.length c] [R] (Ret fun v G => ∃ q cq, v = .slice q (DefP.toks B).length cq ∧ G = [Row TK q (DefP.toks B).length cq (DefP.toks B), R]) := by
  refine spec_of [(0, _)] Tryz.func339 rfl Tryz.ntmps339 rfl rfl ?_
  intro w0 F
  refine w_seq ?_
  refine w_region ?_
  refine o_val (v_assign rfl) rfl ?_
  refine o_nil ?_
  refine thn_n ?_
  refine w_seq ?_
  refine w_net [⟨[], [], [0], 0, 0⟩, ⟨[], [], [], 0, 0⟩, ⟨[], [], [0], 0, 0⟩, ⟨[2], [2], [], 0, 0⟩, ⟨[2, 3], [3], [], 0, 0⟩, ⟨[0, 1, 2, 3, 4], [0, 1, 4], [], 0, 0⟩, ⟨[0, 1, 2, 3, 4, 5], [5], [], 0, 0⟩, ⟨[0, 1, 2, 3, 4, 5, 6], [6], [], 0, 0⟩] [⟨fun y => R, none, none, []⟩, ⟨fun y => Row (I3) (some ⟨(blk' (slP (y 1))), 0, none⟩) 8192 8192 (List.replicate 8192 (I3).d), some 1, none, []⟩, ⟨fun y => Row (I3) (some ⟨(blk' (slP (y 4))), 0, none⟩) B.length B.length (List.replicate B.length (I3).d), some 4, none, []⟩, ⟨fun y => Cel (ptB (y 6)) 405 [.slice p B.length c, .slice (some ⟨(blk' (slP (y 1))), 0, none⟩) 8192 8192, .slice (some ⟨(blk' (slP (y 4))), 0, none⟩) B.length B.length], some 6, none, []⟩] F V.mixed (by kernel_rfl) rfl (fun _ => .refl _) (locT_0 _ (locT_1 [] rfl (by intro y y2 h; simp only [h 1 (.inl rfl)]) (locT_1 [2, 3] rfl (by intro y y2 h; simp only [h 4 (.inl rfl)]) (locT_1 [0, 1, 2, 3, 4, 5] rfl (by intro y y2 h; simp only [h 1 (.inr (by decide)), h 4 (.inr (by decide)), h 6 (.inl rfl)]) locT_nil)))) ?_
  refine net_pure (fun y => [(0, _)]) (fun y => rfl) rfl rfl rfl (fun y hA L => st_v (v_move rfl) ⟨rfl, rfl⟩) (by intros; rfl) (by intro y y2 h; rfl) ?_
  refine net_new (fun y v => .slice (some ⟨blk' (slP v), 0, none⟩) 8192 8192) (fun y v => True) (fun y => []) (fun y => []) (fun y v => [Row (I3) (some ⟨(blk' (slP v)), 0, none⟩) 8192 8192 (List.replicate 8192 (I3).d)]) (fun y => []) (fun y => rfl) (fun y => rfl) (fun y => rfl) (fun y => rfl) (fun y FF hA => st_newN ?_) (by intros; rfl) (by intros; rfl) (by intros; rfl) (by intro y y2 h; simp only [h 1 (.inl rfl)]) (by intro y y2 h; rfl) ?_
  · refine r_makeNX (by_ := 8) (k1 := .i64) (k2 := .i64) (zs := [.int .i64 0]) (i1 := 8192) (i2 := 8192) 8192 8192 (I3) ?_ ?_ ?_ ?_ ?_ ?_ ?_ ?_ ?_ ?_ ?_
    · decide
    · decide
    · exact V.sl78
    · exact V.z3
    · rfl
    · rfl
    · rfl
    · rfl
    · omega
    · omega
    · rfl
  refine net_pure (fun y => [(0, _)]) (fun y => rfl) rfl rfl rfl (fun y hA L => st_v (v_move rfl) ⟨rfl, rfl⟩) (by intros; rfl) (by intro y y2 h; rfl) ?_
  refine net_pure (fun y => [(11, _)]) (fun y => rfl) rfl rfl rfl (fun y hA L => st_v (v_len (ty' := 0) Tryz.underlying28 rfl) ⟨rfl, rfl⟩) (by intros; rfl) (by intro y y2 h; rfl) ?_
  refine net_new (fun y v => .slice (some ⟨blk' (slP v), 0, none⟩) B.length B.length) (fun y v => True) (fun y => []) (fun y => []) (fun y v => [Row (I3) (some ⟨(blk' (slP v)), 0, none⟩) B.length B.length (List.replicate B.length (I3).d)]) (fun y => [(12, _)]) (fun y => rfl) (fun y => rfl) (fun y => rfl) (fun y => rfl) (fun y FF hA => st_newN (r_makeNX B.length B.length (I3) rfl rfl V.sl78 V.z3 rfl rfl rfl rfl (by omega) (by omega) rfl)) (by intros; rfl) (by intros; rfl) (by intros; rfl) (by intro y y2 h; simp only [h 4 (.inl rfl)]) (by intro y y2 h; rfl) ?_
  refine net_pure (fun y => [(9, _), (10, _), (13, _)]) (fun y => rfl) rfl rfl rfl (fun y hA L => st_v (v_to (v := .agg #[.slice p B.length c, .slice (some ⟨(blk' (slP (y 1))), 0, none⟩) 8192 8192, .slice (some ⟨(blk' (slP (y 4))), 0, none⟩) B.length B.length]) (v_build V.pl405 V.z405 rfl (cs := [_, _, _]) rfl) rfl) ⟨rfl, rfl⟩) (by intros; rfl) (by intro y y2 h; first | rfl | simp only [h 1 (.inr (by decide)), h 4 (.inr (by decide))]) ?_
  refine net_new (fun y v => .pointer (some ⟨ptB v, 0, none⟩)) (fun y v => True) (fun y => []) (fun y => []) (fun y v => [Cel (ptB v) 405 [.slice p B.length c, .slice (some ⟨(blk' (slP (y 1))), 0, none⟩) 8192 8192, .slice (some ⟨(blk' (slP (y 4))), 0, none⟩) B.length B.length]]) (fun y => [(14, _)]) (fun y => rfl) (fun y => rfl) (fun y => rfl) (fun y => rfl) (fun y FF hA => st_allocN (x_boxN rfl rfl)) (by intros; rfl) (by intros; rfl) (by intros; rfl) (by intro y y2 h; simp only [h 1 (.inr (by decide)), h 4 (.inr (by decide)), h 6 (.inl rfl)]) (by intro y y2 h; rfl) ?_
  refine net_pure (fun y => [(15, _)]) (fun y => rfl) rfl rfl rfl (fun y hA L => st_v (v_assign rfl) ⟨rfl, rfl⟩) (by intros; rfl) (by intro y y2 h; first | rfl | simp only [h 6 (.inr (by decide))]) ?_
  refine net_nil ?_
  intro y hA
  clear hA
  refine thn_n ?_
  refine w_keep [(0, .slice p B.length c), (3, .pointer (some ⟨(ptB (y 6)), 0, none⟩))] (.cons (d := 0) rfl (.cons (d := 3) rfl (.nil _))) ?_
  refine w_sub (M := R :: Row (I3) (some ⟨(blk' (slP (y 1))), 0, none⟩) 8192 8192 (List.replicate 8192 (I3).d) :: Row (I3) (some ⟨(blk' (slP (y 4))), 0, none⟩) B.length B.length (List.replicate B.length (I3).d) :: Cel (ptB (y 6)) 405 [.slice p B.length c, .slice (some ⟨(blk' (slP (y 1))), 0, none⟩) 8192 8192, .slice (some ⟨(blk' (slP (y 4))), 0, none⟩) B.length B.length] :: F) (fun _ _ h => h) ?_
  generalize (blk' (slP (y 1))) = b10
  generalize (blk' (slP (y 4))) = b13
  generalize (ptB (y 6)) = b15
  refine w_seq ?_
  refine w_seq ?_
  refine w_region ?_
  refine o_val (v_move rfl) rfl ?_
  refine o_val (v_nil rfl) rfl ?_
  refine o_val (v_fieldAddr V.f405_1 rfl) rfl ?_
  refine o_val (v_load V.s78 rfl (by repeat first | exact .head _ | apply List.Mem.tail) rfl) rfl ?_
  refine o_val (v_len (ty' := 0) Tryz.underlying78 rfl) rfl ?_
  refine o_val (v_move rfl) rfl ?_
  refine o_nil ?_
  refine thn_n ?_
  refine w_block ?_
  rw [show List.replicate 8192 I3.d = List.replicate 0 (-1) ++ List.replicate (8192 - 0) 0 from by rw [List.replicate_zero, List.nil_append]]
  refine w_loop1 (fun (i : Nat) => [(0, .slice p B.length c), (3, .pointer (some ⟨b15, 0, none⟩)), (20, .int .i64 8192), (21, .int .i64 (i : Int))]) (fun (i : Nat) => Cel b15 405 [.slice p B.length c, .slice (some ⟨b10, 0, none⟩) 8192 8192, .slice (some ⟨b13, 0, none⟩) B.length B.length] :: Row I3 (some ⟨b10, 0, none⟩) 8192 8192 (List.replicate i (-1) ++ List.replicate (8192 - i) 0) :: Row I3 (some ⟨b13, 0, none⟩) B.length B.length (List.replicate B.length 0) :: R :: F) (fun (i : Nat) => i ≤ 8192) (fun (i : Nat) => 8192 - i) (i1 (0) ?_ (.cons rfl (.cons rfl (.cons rfl (.cons rfl (.nil _))))) (sub (.cons (by repeat first | exact .head | apply Rem.tail) (.cons (by repeat first | exact .head | apply Rem.tail) (.cons (by repeat first | exact .head | apply Rem.tail) (.cons (by repeat first | exact .head | apply Rem.tail) .nil)))) (by repeat first | exact .refl | apply Drop.skip))) ?_
  ·
    exact Nat.zero_le _
  intro i
  rintro hi
  refine w_seq ?_
  refine w_region ?_
  refine o_val (v_lss rfl rfl) rfl ?_
  refine o_nil ?_
  refine thn_n ?_
  refine w_seq ?_
  first | refine w_condD rfl (fun h22 => ?_) (fun h22 => ?_) | refine w_cond rfl (fun h22 => ?_) (fun h22 => ?_)
  ·
    refine w_skip ?_
    refine thn_n ?_
    refine w_seq ?_
    refine w_block ?_
    refine w_seq ?_
    refine w_region ?_
    refine o_val (v_move rfl) rfl ?_
    refine o_val (v_assign rfl) rfl ?_
    refine o_nil ?_
    refine thn_n ?_
    refine w_region ?_
    refine o_val (v_move rfl) rfl ?_
    refine o_val (v_nil rfl) rfl ?_
    refine o_val (v_fieldAddr V.f405_1 rfl) rfl ?_
    refine o_val (v_load V.s78 rfl (by repeat first | exact .head _ | apply List.Mem.tail) rfl) rfl ?_
    refine o_val (v_move rfl) rfl ?_
    refine o_val (r_index (c := (I3)) V.sl78 rfl rfl (by first | exact own mm0 | exact own mm1 | exact own mm2 | exact own mm3 | exact own mm4 | exact own mm5 | exact own mm6 | exact own mm7 | exact own mm8 | exact own mm9 | exact own mm10 | exact own mm11 | exact rdH hR mm0 | exact rdH hR mm1 | exact rdH hR mm2 | exact rdH hR mm3 | exact rdH hR mm4 | exact rdH hR mm5 | exact rdH hR mm6 | exact rdH hR mm7 | exact rdH hR mm8 | exact rdH hR mm9 | exact rdH hR mm10 | exact rdH hR mm11) (by omega) (by omega)) rfl ?_
    refine o_eff (r_store (c := (I3)) (_) V.s3 rfl rfl rfl (by repeat first | exact .head | apply Rep.tail) (by omega) (by omega) rfl rfl) ?_
    refine o_nil ?_
    refine blk_n ?_
    refine thn_n ?_
    refine w_region ?_
    refine o_val (v_add rfl rfl (wrapI (by omega) (by omega))) rfl ?_
    refine o_val (v_move rfl) rfl ?_
    refine o_nil ?_
    rw [show ((i : Int)).toNat = i from rfl, DefP.rep_step (by omega)]
    refine j1 (i + 1) ?_ (.cons rfl (.cons rfl (.cons rfl (.cons rfl (.nil _))))) (sub (.cons (by repeat first | exact .head | apply Rem.tail) (.cons (by repeat first | exact .head | apply Rem.tail) (.cons (by repeat first | exact .head | apply Rem.tail) (.cons (by repeat first | exact .head | apply Rem.tail) .nil)))) (by repeat first | exact .refl | apply Drop.skip))
    exact ⟨by omega, by omega⟩
  ·
    refine w_exit ?_
    refine thn_e ?_
    refine thn_e ?_
    refine blk_x ?_
    refine thn_n ?_
    refine w_seq ?_
    refine w_region ?_
    refine o_val (v_assign rfl) rfl ?_
    refine o_nil ?_
    refine thn_n ?_
    refine w_seq ?_
    refine w_seq ?_
    refine w_region ?_
    refine o_val (v_assign rfl) rfl ?_
    refine o_nil ?_
    refine thn_n ?_
    refine w_block ?_
    obtain rfl : i = 8192 := by omega
    rw [Nat.sub_self, List.replicate_zero, List.append_nil]
    refine w_add0 (Row TK none 0 0 []) (Row.nil _ _ _) ?_
    refine w_loop5 (fun (a : Nat) (f : DefP.Fd) (q : Option Addr) (cq : Nat) (l : List DefP.Tok) => [(0, .slice p B.length c), (3, .pointer (some ⟨b15, 0, none⟩)), (5, .slice q l.length cq), (6, .int .i64 (a : Int))]) (fun (a : Nat) (f : DefP.Fd) (q : Option Addr) (cq : Nat) (l : List DefP.Tok) => Row TK q l.length cq l :: Cel b15 405 [.slice p B.length c, .slice (some ⟨b10, 0, none⟩) 8192 8192, .slice (some ⟨b13, 0, none⟩) B.length B.length] :: Row I3 (some ⟨b10, 0, none⟩) 8192 8192 f.hd :: Row I3 (some ⟨b13, 0, none⟩) B.length B.length f.nx :: R :: F) (fun (a : Nat) (f : DefP.Fd) (q : Option Addr) (cq : Nat) (l : List DefP.Tok) => a ≤ B.length ∧ DefP.Fok B a f ∧ l ++ DefP.tokGo B (B.length - a) f a = DefP.toks B ∧ l.length ≤ a) (fun (a : Nat) (f : DefP.Fd) (q : Option Addr) (cq : Nat) (l : List DefP.Tok) => B.length - a) (i5 (0) (DefP.fd0 B) (none) (0) ([]) ?_ (.cons rfl (.cons rfl (.cons rfl (.cons rfl (.nil _))))) (sub (.cons (by repeat first | exact .head | apply Rem.tail) (.cons (by repeat first | exact .head | apply Rem.tail) (.cons (by repeat first | exact .head | apply Rem.tail) (.cons (by repeat first | exact .head | apply Rem.tail) (.cons (by repeat first | exact .head | apply Rem.tail) .nil))))) (by repeat first | exact .refl | apply Drop.skip))) ?_
    ·
      exact ⟨Nat.zero_le _, DefP.Fok.start B, DefP.toks_eq B, Nat.le_refl _⟩
    intro a f q cq l
    rintro ⟨ha, hf, hk, hll⟩
    refine w_seq ?_
    refine w_seq ?_
    refine w_region ?_
    refine o_val (v_move rfl) rfl ?_
    refine o_val (v_move rfl) rfl ?_
    refine o_val (v_len (ty' := 0) Tryz.underlying28 rfl) rfl ?_
    refine o_val (v_lss rfl rfl) rfl ?_
    refine o_nil ?_
    refine thn_n ?_
    first | refine w_condD rfl (fun h34 => ?_) (fun h34 => ?_) | refine w_cond rfl (fun h34 => ?_) (fun h34 => ?_)
    ·
      refine w_skip ?_
      refine thn_n ?_
      refine w_block ?_
      refine w_seq ?_
      refine w_region ?_
      refine o_val (v_move rfl) rfl ?_
      refine o_val (v_move rfl) rfl ?_
      refine o_call (f_find b15 b10 b13 p c B R hR hB hl f a hf (by omega)) V.b351  rfl (.cons (by repeat first | exact .head | apply Rem.tail) (.cons (by repeat first | exact .head | apply Rem.tail) (.cons (by repeat first | exact .head | apply Rem.tail) (.cons (by repeat first | exact .head | apply Rem.tail) .nil)))) rfl ?_
      rintro _ _ ⟨rfl, rfl⟩
      refine o_val (v_move rfl) rfl ?_
      refine o_val (v_extract rfl rfl) rfl ?_
      refine o_val (v_extract rfl rfl) rfl ?_
      refine o_val (v_assign rfl) rfl ?_
      refine o_val (v_assign rfl) rfl ?_
      refine o_nil ?_
      refine thn_n ?_
      refine w_join4 (fun (n : Nat) (q2 : Option Addr) (cq2 : Nat) (l2 : List DefP.Tok) => [(0, .slice p B.length c), (3, .pointer (some ⟨b15, 0, none⟩)), (5, .slice q2 l2.length cq2), (6, .int .i64 (a : Int)), (7, .int .i64 (n : Int))]) (fun (n : Nat) (q2 : Option Addr) (cq2 : Nat) (l2 : List DefP.Tok) => Row TK q2 l2.length cq2 l2 :: Cel b15 405 [.slice p B.length c, .slice (some ⟨b10, 0, none⟩) 8192 8192, .slice (some ⟨b13, 0, none⟩) B.length B.length] :: Row I3 (some ⟨b10, 0, none⟩) 8192 8192 f.hd :: Row I3 (some ⟨b13, 0, none⟩) B.length B.length f.nx :: R :: F) (fun (n : Nat) (q2 : Option Addr) (cq2 : Nat) (l2 : List DefP.Tok) => 1 ≤ n ∧ n ≤ 258 ∧ a + n ≤ B.length ∧ l2 ++ DefP.tokGo B (B.length - (a + n)) (DefP.putsP B f a n) (a + n) = DefP.toks B ∧ l2.length ≤ a + n) ?_ ?_
      ·
        refine w_seq ?_
        refine w_region ?_
        refine o_val (v_move rfl) rfl ?_
        refine o_val (v_lss rfl rfl) rfl ?_
        refine o_nil ?_
        refine thn_n ?_
        first | refine w_condD rfl (fun h42 => ?_) (fun h42 => ?_) | refine w_cond rfl (fun h42 => ?_) (fun h42 => ?_)
        ·
          refine w_seq ?_
          have hlt : a < B.length := by omega
          have hby := hB.get a
          refine w_region ?_
          refine o_val (v_move rfl) rfl ?_
          refine o_val (v_move rfl) rfl ?_
          refine o_val (v_move rfl) rfl ?_
          refine o_val (r_index (c := (U5)) V.sl28 rfl rfl (by first | exact own mm0 | exact own mm1 | exact own mm2 | exact own mm3 | exact own mm4 | exact own mm5 | exact own mm6 | exact own mm7 | exact own mm8 | exact own mm9 | exact own mm10 | exact own mm11 | exact rdH hR mm0 | exact rdH hR mm1 | exact rdH hR mm2 | exact rdH hR mm3 | exact rdH hR mm4 | exact rdH hR mm5 | exact rdH hR mm6 | exact rdH hR mm7 | exact rdH hR mm8 | exact rdH hR mm9 | exact rdH hR mm10 | exact rdH hR mm11) (by omega) (by omega)) rfl ?_
          refine o_val (r_load (c := (U5)) V.s5 rfl (by first | exact own mm0 | exact own mm1 | exact own mm2 | exact own mm3 | exact own mm4 | exact own mm5 | exact own mm6 | exact own mm7 | exact own mm8 | exact own mm9 | exact own mm10 | exact own mm11 | exact rdH hR mm0 | exact rdH hR mm1 | exact rdH hR mm2 | exact rdH hR mm3 | exact rdH hR mm4 | exact rdH hR mm5 | exact rdH hR mm6 | exact rdH hR mm7 | exact rdH hR mm8 | exact rdH hR mm9 | exact rdH hR mm10 | exact rdH hR mm11) (by omega) (by omega) rfl rfl) rfl ?_
          rw [show U5.g B (a : Int) = B.getD a 0 from rfl]
          refine o_val (v_conv V.u5 Tryz.underlying3 rfl (wrapI (by omega) (by omega))) rfl ?_
          refine o_val (v_to (v := .agg #[.int .i64 (B.getD a 0), .int .i64 0, .int .i64 0]) (v_build V.pl408 V.z408 rfl (cs := [_, _, _]) rfl) rfl) rfl ?_
          refine r_build TK [(DefP.Tok.mk (B.getD a 0) 0 0)] V.sl396 V.z408 rfl rfl rfl (fill_tk (DefP.Tok.mk (B.getD a 0) 0 0)) rfl rfl ?_
          intro b50
          refine r_append (c := (TK)) V.sl396 V.z408 rfl rfl rfl rfl (by repeat first | exact .head | apply Rem.tail) (by first | exact own mm0 | exact own mm1 | exact own mm2 | exact own mm3 | exact own mm4 | exact own mm5 | exact own mm6 | exact own mm7 | exact own mm8 | exact own mm9 | exact own mm10 | exact own mm11 | exact rdH hR mm0 | exact rdH hR mm1 | exact rdH hR mm2 | exact rdH hR mm3 | exact rdH hR mm4 | exact rdH hR mm5 | exact rdH hR mm6 | exact rdH hR mm7 | exact rdH hR mm8 | exact rdH hR mm9 | exact rdH hR mm10 | exact rdH hR mm11) (by omega) rfl ?_
          intro p51 c51
          refine o_val (v_assign rfl) rfl ?_
          refine o_nil ?_
          refine thn_n ?_
          refine w_region ?_
          refine o_val (v_assign rfl) rfl ?_
          refine o_nil ?_
          first
          | (rw [show l.length + 1 = (l ++ [(DefP.Tok.mk (B.getD a 0) 0 0)]).length from by rw [List.length_append]; rfl]; exact j4 1 _ _ (l ++ [(DefP.Tok.mk (B.getD a 0) 0 0)]) ⟨Nat.le_refl _, by omega, by omega, by rw [List.append_assoc, List.singleton_append, ← DefP.tokGo_lit hlt (by assumption)]; exact hk, by rw [List.length_append]; exact Nat.succ_le_succ hll⟩ (.cons rfl (.cons rfl (.cons rfl (.cons rfl (.cons rfl (.nil _)))))) (sub (.cons (by repeat first | exact .head | apply Rem.tail) (.cons (by repeat first | exact .head | apply Rem.tail) (.cons (by repeat first | exact .head | apply Rem.tail) (.cons (by repeat first | exact .head | apply Rem.tail) (.cons (by repeat first | exact .head | apply Rem.tail) .nil))))) (by repeat first | exact .refl | apply Drop.skip)))
          | (rw [show l.length + 1 = (l ++ [(DefP.Tok.mk 0 (DefP.findP B f a).1 (DefP.findP B f a).2)]).length from by rw [List.length_append]; rfl, show Value.int .i64 (DefP.findP B f a).1 = .int .i64 (m : Int) from by rw [em]]; exact j4 m _ _ (l ++ [(DefP.Tok.mk 0 (DefP.findP B f a).1 (DefP.findP B f a).2)]) ⟨by omega, by omega, by omega, by rw [List.append_assoc, List.singleton_append, ← DefP.tokGo_cp (by omega) (by assumption) em]; exact hk, by rw [List.length_append]; simp; omega⟩ (.cons rfl (.cons rfl (.cons rfl (.cons rfl (.cons rfl (.nil _)))))) (sub (.cons (by repeat first | exact .head | apply Rem.tail) (.cons (by repeat first | exact .head | apply Rem.tail) (.cons (by repeat first | exact .head | apply Rem.tail) (.cons (by repeat first | exact .head | apply Rem.tail) (.cons (by repeat first | exact .head | apply Rem.tail) .nil))))) (by repeat first | exact .refl | apply Drop.skip)))
        ·
          obtain ⟨m, dd, em, ed, m1, m2, m3⟩ := DefP.find_big hf (by omega)
          refine w_region ?_
          refine o_val (v_move rfl) rfl ?_
          refine o_val (v_move rfl) rfl ?_
          refine o_val (v_move rfl) rfl ?_
          refine o_val (v_to (v := .agg #[.int .i64 0, .int .i64 (DefP.findP B f a).1, .int .i64 (DefP.findP B f a).2]) (v_build V.pl408 V.z408 rfl (cs := [_, _, _]) rfl) rfl) rfl ?_
          refine r_build TK [(DefP.Tok.mk 0 (DefP.findP B f a).1 (DefP.findP B f a).2)] V.sl396 V.z408 rfl rfl rfl (fill_tk (DefP.Tok.mk 0 (DefP.findP B f a).1 (DefP.findP B f a).2)) rfl rfl ?_
          intro b56
          refine r_append (c := (TK)) V.sl396 V.z408 rfl rfl rfl rfl (by repeat first | exact .head | apply Rem.tail) (by first | exact own mm0 | exact own mm1 | exact own mm2 | exact own mm3 | exact own mm4 | exact own mm5 | exact own mm6 | exact own mm7 | exact own mm8 | exact own mm9 | exact own mm10 | exact own mm11 | exact rdH hR mm0 | exact rdH hR mm1 | exact rdH hR mm2 | exact rdH hR mm3 | exact rdH hR mm4 | exact rdH hR mm5 | exact rdH hR mm6 | exact rdH hR mm7 | exact rdH hR mm8 | exact rdH hR mm9 | exact rdH hR mm10 | exact rdH hR mm11) (by omega) rfl ?_
          intro p57 c57
          refine o_val (v_assign rfl) rfl ?_
          refine o_nil ?_
          first
          | (rw [show l.length + 1 = (l ++ [(DefP.Tok.mk (B.getD a 0) 0 0)]).length from by rw [List.length_append]; rfl]; exact j4 1 _ _ (l ++ [(DefP.Tok.mk (B.getD a 0) 0 0)]) ⟨Nat.le_refl _, by omega, by omega, by rw [List.append_assoc, List.singleton_append, ← DefP.tokGo_lit hlt (by assumption)]; exact hk, by rw [List.length_append]; exact Nat.succ_le_succ hll⟩ (.cons rfl (.cons rfl (.cons rfl (.cons rfl (.cons rfl (.nil _)))))) (sub (.cons (by repeat first | exact .head | apply Rem.tail) (.cons (by repeat first | exact .head | apply Rem.tail) (.cons (by repeat first | exact .head | apply Rem.tail) (.cons (by repeat first | exact .head | apply Rem.tail) (.cons (by repeat first | exact .head | apply Rem.tail) .nil))))) (by repeat first | exact .refl | apply Drop.skip)))
          | (rw [show l.length + 1 = (l ++ [(DefP.Tok.mk 0 (DefP.findP B f a).1 (DefP.findP B f a).2)]).length from by rw [List.length_append]; rfl, show Value.int .i64 (DefP.findP B f a).1 = .int .i64 (m : Int) from by rw [em]]; exact j4 m _ _ (l ++ [(DefP.Tok.mk 0 (DefP.findP B f a).1 (DefP.findP B f a).2)]) ⟨by omega, by omega, by omega, by rw [List.append_assoc, List.singleton_append, ← DefP.tokGo_cp (by omega) (by assumption) em]; exact hk, by rw [List.length_append]; simp; omega⟩ (.cons rfl (.cons rfl (.cons rfl (.cons rfl (.cons rfl (.nil _)))))) (sub (.cons (by repeat first | exact .head | apply Rem.tail) (.cons (by repeat first | exact .head | apply Rem.tail) (.cons (by repeat first | exact .head | apply Rem.tail) (.cons (by repeat first | exact .head | apply Rem.tail) (.cons (by repeat first | exact .head | apply Rem.tail) .nil))))) (by repeat first | exact .refl | apply Drop.skip)))
      ·
        intro n q2 cq2 l2
        rintro ⟨hn1, hn2, hn3, hn4, hn5⟩
        refine w_seq ?_
        refine w_region ?_
        refine o_val (v_move rfl) rfl ?_
        refine o_val (v_move rfl) rfl ?_
        refine o_nil ?_
        refine thn_n ?_
        refine w_block ?_
        rw [show ((6 : Nat), Value.int .i64 (a : Int)) = (6, .int .i64 ((a : Int) + ((0 : Nat) : Int))) from by simp]
        refine w_loop1 (fun (j : Nat) => [(0, .slice p B.length c), (3, .pointer (some ⟨b15, 0, none⟩)), (5, .slice q2 l2.length cq2), (6, .int .i64 ((a : Int) + (j : Int))), (58, .int .i64 (n : Int)), (59, .int .i64 (j : Int))]) (fun (j : Nat) => Cel b15 405 [.slice p B.length c, .slice (some ⟨b10, 0, none⟩) 8192 8192, .slice (some ⟨b13, 0, none⟩) B.length B.length] :: Row I3 (some ⟨b10, 0, none⟩) 8192 8192 (DefP.putsP B f a j).hd :: Row I3 (some ⟨b13, 0, none⟩) B.length B.length (DefP.putsP B f a j).nx :: R :: Row TK q2 l2.length cq2 l2 :: F) (fun (j : Nat) => j ≤ n) (fun (j : Nat) => n - j) (i1 (0) ?_ (.cons rfl (.cons rfl (.cons rfl (.cons rfl (.cons rfl (.cons rfl (.nil _))))))) (sub (.cons (by repeat first | exact .head | apply Rem.tail) (.cons (by repeat first | exact .head | apply Rem.tail) (.cons (by repeat first | exact .head | apply Rem.tail) (.cons (by repeat first | exact .head | apply Rem.tail) (.cons (by repeat first | exact .head | apply Rem.tail) .nil))))) (by repeat first | exact .refl | apply Drop.skip))) ?_
        ·
          exact Nat.zero_le _
        intro j
        rintro hj
        refine w_seq ?_
        refine w_region ?_
        refine o_val (v_lss rfl rfl) rfl ?_
        refine o_nil ?_
        refine thn_n ?_
        refine w_seq ?_
        first | refine w_condD rfl (fun h60 => ?_) (fun h60 => ?_) | refine w_cond rfl (fun h60 => ?_) (fun h60 => ?_)
        ·
          refine w_skip ?_
          refine thn_n ?_
          refine w_seq ?_
          refine w_block ?_
          refine w_seq ?_
          refine w_region ?_
          refine o_val (v_move rfl) rfl ?_
          refine o_val (v_move rfl) rfl ?_
          refine o_call (f_put b15 b10 b13 p c B R hR hB hl (DefP.putsP B f a j) (a + j) (hf.puts j) (by omega)) V.b352  rfl (.cons (by repeat first | exact .head | apply Rem.tail) (.cons (by repeat first | exact .head | apply Rem.tail) (.cons (by repeat first | exact .head | apply Rem.tail) (.cons (by repeat first | exact .head | apply Rem.tail) .nil)))) rfl ?_
          rintro _ _ ⟨rfl, rfl⟩
          refine o_nil ?_
          refine thn_n ?_
          refine w_region ?_
          refine o_val (v_move rfl) rfl ?_
          refine o_val (v_add rfl rfl (wrapI (by omega) (by omega))) rfl ?_
          refine o_val (v_assign rfl) rfl ?_
          refine o_nil ?_
          refine blk_n ?_
          refine thn_n ?_
          refine w_region ?_
          refine o_val (v_add rfl rfl (wrapI (by omega) (by omega))) rfl ?_
          refine o_val (v_move rfl) rfl ?_
          refine o_nil ?_
          rw [show (a : Int) + (j : Int) + 1 = (a : Int) + ((j + 1 : Nat) : Int) from by omega]
          refine j1 (j + 1) ?_ (.cons rfl (.cons rfl (.cons rfl (.cons rfl (.cons rfl (.cons rfl (.nil _))))))) (sub (.cons (by repeat first | exact .head | apply Rem.tail) (.cons (by repeat first | exact .head | apply Rem.tail) (.cons (by repeat first | exact .head | apply Rem.tail) (.cons (by repeat first | exact .head | apply Rem.tail) (.cons (by repeat first | exact .head | apply Rem.tail) .nil))))) (by repeat first | exact .refl | apply Drop.skip))
          exact ⟨by omega, by omega⟩
        ·
          refine w_exit ?_
          refine thn_e ?_
          refine thn_e ?_
          refine blk_x ?_
          refine blk_n ?_
          obtain rfl : j = n := by omega
          rw [show (a : Int) + (j : Int) = ((a + j : Nat) : Int) from rfl]
          exact j5 (a + j) (DefP.putsP B f a j) _ _ _ ⟨⟨hn3, hf.puts j, hn4, hn5⟩, by omega⟩ (.cons rfl (.cons rfl (.cons rfl (.cons rfl (.nil _))))) (sub (.cons (by repeat first | exact .head | apply Rem.tail) (.cons (by repeat first | exact .head | apply Rem.tail) (.cons (by repeat first | exact .head | apply Rem.tail) (.cons (by repeat first | exact .head | apply Rem.tail) (.cons (by repeat first | exact .head | apply Rem.tail) .nil))))) (by repeat first | exact .refl | apply Drop.skip))
    ·
      refine w_exit ?_
      refine thn_e ?_
      refine thn_e ?_
      refine blk_x ?_
      refine thn_n ?_
      refine w_seq ?_
      refine w_region ?_
      refine o_val (v_move rfl) rfl ?_
      refine o_val (v_assign rfl) rfl ?_
      refine o_nil ?_
      refine thn_n ?_
      refine w_ret ?_
      obtain rfl : a = B.length := by omega
      have hk2 : l = DefP.toks B := by rw [← hk]; simp [DefP.tokGo]
      subst hk2
      exact ret_ok (G := [Row TK q (DefP.toks B).length cq (DefP.toks B), R]) (res1 rfl) ⟨q, cq, rfl, rfl⟩ (sub (.cons (by repeat first | exact .head | apply Rem.tail) (.cons (by repeat first | exact .head | apply Rem.tail) .nil)) (by repeat first | exact .refl | apply Drop.skip))
end Go.Proofs.YtookicfejdbddaaGreat

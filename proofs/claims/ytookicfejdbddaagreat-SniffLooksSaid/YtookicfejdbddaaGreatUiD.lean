/- Walks of functions that the law reaches, and what they lean on; no conditions. -/
import Derived.Test.YtookicfejdbddaaGreatM8
import Derived.Test.YtookicfejdbddaaGreatUiFacts
import Derived.Test.YtookicfejdbddaaGreatM7
import Derived.Test.YtookicfejdbddaaGreatM3
set_option linter.unusedVariables false
set_option linter.unusedSimpArgs false
set_option linter.unnecessarySimpa false
set_option maxRecDepth 100000
namespace Go.Proofs.YtookicfejdbddaaGreat
open Go.Sl 
attribute [local irreducible] HuffP.ord HuffP.wordsK HuffP.posn HuffP.cntL HuffP.mostL HuffP.words HuffP.wordOf HuffP.lenOf HuffP.newE HuffP.wholeB
attribute [local irreducible] HuffP.cntZ HuffP.sy
set_option maxHeartbeats 2000000 in
theorem r_new (p : Option Addr) (cap : Nat) (ls : List Int) (R : HProp) (hR : ∀ w0 h, R w0 h → RdR I3 p ls.length ls w0 h) : Ctr Tryz.prog 202 [.slice p ls.length cap] [R] (Ret fun v G => (HuffP.newE ls = 0 ∧ ∃ b, v = .tuple #[.pointer (some ⟨b, 0, none⟩), .int .i64 0] ∧ G = [RC b ls, R]) ∨ (HuffP.newE ls ≠ 0 ∧ v = .tuple #[.pointer none, .int .i64 (HuffP.newE ls)] ∧ G = [R])) := by
  refine spec_of [(0, _)] Tryz.func202 rfl Tryz.ntmps202 rfl rfl ?_
  intro w0 F
  refine w_seq ?_
  refine w_region ?_
  refine o_val (v_assign rfl) rfl ?_
  refine o_val (v_assign rfl) rfl ?_
  refine o_nil ?_
  refine thn_n ?_
  refine w_seq ?_
  refine w_seq ?_
  refine w_region ?_
  refine o_val (v_move rfl) rfl ?_
  refine o_val (v_len (ty' := 0) Tryz.underlying78 rfl) rfl ?_
  refine o_val (v_gtr rfl rfl) rfl ?_
  refine o_nil ?_
  refine thn_n ?_
  first | refine w_condD rfl (fun h13 => ?_) (fun h13 => ?_) | refine w_cond rfl (fun h13 => ?_) (fun h13 => ?_)
  ·
    refine w_seq ?_
    refine w_region ?_
    refine o_val (v_assign rfl) rfl ?_
    refine o_val (v_assign rfl) rfl ?_
    refine o_nil ?_
    refine thn_n ?_
    refine w_ret ?_
    refine (thn_r ?_)
    exact ret_ok (G := [R]) (res2 rfl rfl) (.inr ⟨by rw [HuffP.newE_long (by omega)]; decide, by rw [HuffP.newE_long (by omega)], rfl⟩) (sub (.cons (by repeat first | exact .head | apply Rem.tail) .nil) (by repeat first | exact .refl | apply Drop.skip))
  ·
    refine w_skip ?_
    refine thn_n ?_
    refine w_seq ?_
    refine w_region ?_
    refine o_val (v_build V.pl286 V.z286 rfl (cs := [_, _, _, _, _, _, _, _, _, _, _, _, _, _, _, _, _, _]) rfl) rfl ?_
    refine o_box rfl (show _ = CA [] .i64 (HuffP.cntZ (ls.take 0)) [.slice none 0 0, .slice none 0 0] from by rw [List.take_zero, HuffP.cntZ_nil]; rfl) rfl ?_
    intro b15
    refine o_val (v_assign rfl) rfl ?_
    refine o_nil ?_
    refine thn_n ?_
    refine w_seq ?_
    refine w_region ?_
    refine o_val (v_assign rfl) rfl ?_
    refine o_nil ?_
    refine thn_n ?_
    refine w_seq ?_
    refine w_seq ?_
    refine w_region ?_
    refine o_val (v_assign rfl) rfl ?_
    refine o_nil ?_
    refine thn_n ?_
    refine w_block ?_
    refine w_add0 (Row I3 none 0 0 (ls.take 0)) (Row.nil _ _ _) ?_
    rw [show ((5 : Nat), Value.int .i64 0) = (5, .int .i64 ((HuffP.posn (ls.take 0)).length : Int)) from by rw [List.take_zero, HuffP.posn_nil]; rfl]
    refine w_loop3 (fun (k : Nat) (pl : Option Addr) (cl : Nat) => [(0, .slice p ls.length cap), (4, .pointer (some ⟨b15, 0, none⟩)), (5, .int .i64 ((HuffP.posn (ls.take k)).length : Int)), (6, .int .i64 (k : Int))]) (fun (k : Nat) (pl : Option Addr) (cl : Nat) => Cel b15 286 (CA [] .i64 (HuffP.cntZ (ls.take k)) [.slice none 0 0, .slice pl k cl]) :: Row I3 pl k cl (ls.take k) :: R :: F) (fun (k : Nat) (pl : Option Addr) (cl : Nat) => k ≤ ls.length ∧ ∀ i, i < k → 0 ≤ ls.getD i 0 ∧ ls.getD i 0 ≤ 15) (fun (k : Nat) (pl : Option Addr) (cl : Nat) => ls.length - k) (i3 (0) (none) (0) ?_ (.cons rfl (.cons rfl (.cons rfl (.cons rfl (.nil _))))) (sub (.cons (by repeat first | exact .head | apply Rem.tail) (.cons (by repeat first | exact .head | apply Rem.tail) (.cons (by repeat first | exact .head | apply Rem.tail) .nil))) (by repeat first | exact .refl | apply Drop.skip))) ?_
    ·
      exact ⟨by omega, fun i hi => by omega⟩
    intro k pl cl
    rintro ⟨hk, hok⟩
    refine w_seq ?_
    refine w_seq ?_
    refine w_region ?_
    refine o_val (v_move rfl) rfl ?_
    refine o_val (v_move rfl) rfl ?_
    refine o_val (v_len (ty' := 0) Tryz.underlying78 rfl) rfl ?_
    refine o_val (v_lss rfl rfl) rfl ?_
    refine o_nil ?_
    refine thn_n ?_
    first | refine w_condD rfl (fun h19 => ?_) (fun h19 => ?_) | refine w_cond rfl (fun h19 => ?_) (fun h19 => ?_)
    ·
      refine w_skip ?_
      refine thn_n ?_
      refine w_seq ?_
      refine w_block ?_
      refine w_seq ?_
      refine w_seq ?_
      have hk2 : k < ls.length := by omega
      have hg : I3.g ls (k : Int) = ls.getD k 0 := by simp [Ec.g]
      have hg2 : ls.getD k 0 = ls[k] := by simp [hk2]
      have htk : (ls.take k).length = k := by rw [List.length_take]; omega
      have hcl := HuffP.cntZ_len (ls.take k)
      have hcb := HuffP.cntZ_bound (ls := ls.take k) (by omega) (I3.g ls (k : Int)).toNat
      have hpl2 := HuffP.posn_le (ls.take k)
      refine w_region ?_
      refine o_val (v_move rfl) rfl ?_
      refine o_val (v_move rfl) rfl ?_
      refine o_val (r_index (c := (I3)) V.sl78 rfl rfl (by first | exact own mm0 | exact own mm1 | exact own mm2 | exact own mm3 | exact own mm4 | exact own mm5 | exact own mm6 | exact own mm7 | exact own mm8 | exact own mm9 | exact own mm10 | exact own mm11 | exact rdH hR mm0 | exact rdH hR mm1 | exact rdH hR mm2 | exact rdH hR mm3 | exact rdH hR mm4 | exact rdH hR mm5 | exact rdH hR mm6 | exact rdH hR mm7 | exact rdH hR mm8 | exact rdH hR mm9 | exact rdH hR mm10 | exact rdH hR mm11) (by omega) (by omega)) rfl ?_
      refine o_val (r_load (c := (I3)) V.s3 rfl (by first | exact own mm0 | exact own mm1 | exact own mm2 | exact own mm3 | exact own mm4 | exact own mm5 | exact own mm6 | exact own mm7 | exact own mm8 | exact own mm9 | exact own mm10 | exact own mm11 | exact rdH hR mm0 | exact rdH hR mm1 | exact rdH hR mm2 | exact rdH hR mm3 | exact rdH hR mm4 | exact rdH hR mm5 | exact rdH hR mm6 | exact rdH hR mm7 | exact rdH hR mm8 | exact rdH hR mm9 | exact rdH hR mm10 | exact rdH hR mm11) (by omega) (by omega) rfl rfl) rfl ?_
      refine o_val (v_lss rfl rfl) rfl ?_
      refine o_val (v_move rfl) rfl ?_
      first | refine o_boolD 27 rfl (fun h27 => ?_) (fun h27 => ?_) | refine o_bool 27 rfl (fun h27 => ?_) (fun h27 => ?_)
      ·
        refine o_pass rfl rfl rfl ?_
        refine o_pass rfl rfl rfl ?_
        refine o_pass rfl rfl rfl ?_
        refine o_pass rfl rfl rfl ?_
        refine o_pass rfl rfl rfl ?_
        refine o_val (v_pickT rfl rfl) rfl ?_
        refine o_nil ?_
        refine thn_n ?_
        refine w_condT rfl ?_
        refine w_seq ?_
        refine w_region ?_
        refine o_val (v_assign rfl) rfl ?_
        refine o_val (v_assign rfl) rfl ?_
        refine o_nil ?_
        refine thn_n ?_
        refine w_ret ?_
        refine (thn_r (blk_r (thn_r (thn_r (blk_r (thn_r ?_))))))
        exact ret_ok (G := [R]) (res2 rfl rfl) (.inr ⟨by rw [HuffP.newE_bad (by omega) hk2 (by omega)]; decide, by rw [HuffP.newE_bad (by omega) hk2 (by omega)], rfl⟩) (sub (.cons (by repeat first | exact .head | apply Rem.tail) .nil) (by repeat first | exact .refl | apply Drop.skip))
      ·
        refine o_want rfl ?_
        refine o_val (v_move rfl) rfl ?_
        refine o_want rfl ?_
        refine o_val (v_move rfl) rfl ?_
        refine o_want rfl ?_
        refine o_val (r_index (c := (I3)) V.sl78 rfl rfl (by first | exact own mm0 | exact own mm1 | exact own mm2 | exact own mm3 | exact own mm4 | exact own mm5 | exact own mm6 | exact own mm7 | exact own mm8 | exact own mm9 | exact own mm10 | exact own mm11 | exact rdH hR mm0 | exact rdH hR mm1 | exact rdH hR mm2 | exact rdH hR mm3 | exact rdH hR mm4 | exact rdH hR mm5 | exact rdH hR mm6 | exact rdH hR mm7 | exact rdH hR mm8 | exact rdH hR mm9 | exact rdH hR mm10 | exact rdH hR mm11) (by omega) (by omega)) rfl ?_
        refine o_want rfl ?_
        refine o_val (r_load (c := (I3)) V.s3 rfl (by first | exact own mm0 | exact own mm1 | exact own mm2 | exact own mm3 | exact own mm4 | exact own mm5 | exact own mm6 | exact own mm7 | exact own mm8 | exact own mm9 | exact own mm10 | exact own mm11 | exact rdH hR mm0 | exact rdH hR mm1 | exact rdH hR mm2 | exact rdH hR mm3 | exact rdH hR mm4 | exact rdH hR mm5 | exact rdH hR mm6 | exact rdH hR mm7 | exact rdH hR mm8 | exact rdH hR mm9 | exact rdH hR mm10 | exact rdH hR mm11) (by omega) (by omega) rfl rfl) rfl ?_
        refine o_want rfl ?_
        refine o_val (v_gtr rfl rfl) rfl ?_
        refine o_val (v_pickF rfl rfl) rfl ?_
        refine o_nil ?_
        refine thn_n ?_
        first | refine w_condD rfl (fun h33 => ?_) (fun h33 => ?_) | refine w_cond rfl (fun h33 => ?_) (fun h33 => ?_)
        ·
          refine w_seq ?_
          refine w_region ?_
          refine o_val (v_assign rfl) rfl ?_
          refine o_val (v_assign rfl) rfl ?_
          refine o_nil ?_
          refine thn_n ?_
          refine w_ret ?_
          refine (thn_r (blk_r (thn_r (thn_r (blk_r (thn_r ?_))))))
          exact ret_ok (G := [R]) (res2 rfl rfl) (.inr ⟨by rw [HuffP.newE_bad (by omega) hk2 (by omega)]; decide, by rw [HuffP.newE_bad (by omega) hk2 (by omega)], rfl⟩) (sub (.cons (by repeat first | exact .head | apply Rem.tail) .nil) (by repeat first | exact .refl | apply Drop.skip))
        ·
          refine w_skip ?_
          refine thn_n ?_
          refine w_seq ?_
          refine w_net [⟨[], [], [4], 0, 0⟩, ⟨[], [], [0], 0, 0⟩, ⟨[], [], [6], 0, 0⟩, ⟨[1, 2], [1, 2], [], 0, 0⟩, ⟨[1, 2, 3], [3], [], 0, 0⟩, ⟨[0], [0], [], 0, 0⟩, ⟨[0, 5], [5], [], 0, 0⟩, ⟨[0, 1, 2, 3, 4, 5, 6], [6, 4], [], 0, 0⟩, ⟨[0, 1, 2, 3, 4, 5, 6, 7], [7], [], 0, 0⟩, ⟨[0, 1, 2, 3, 4, 5, 6, 7, 8], [8], [], 0, 0⟩, ⟨[0], [0], [], 0, 0⟩, ⟨[0, 10], [10], [], 0, 0⟩, ⟨[0, 1, 2, 3, 4, 5, 6, 7, 8, 9, 10, 11], [11, 4], [], 0, 0⟩, ⟨[0, 1, 2, 3, 4, 5, 6, 7, 8, 9, 10, 11, 12], [12, 9], [], 0, 0⟩] [⟨fun y => Cel b15 286 (CA [] .i64 (HuffP.cntZ (ls.take k)) [.slice none 0 0, .slice pl k cl]), none, some 13, [8]⟩, ⟨fun y => Row I3 pl k cl (ls.take k), none, none, []⟩, ⟨fun y => R, none, none, [3, 4]⟩, ⟨fun y => Cel b15 286 (CA [] .i64 ((HuffP.cntZ (ls.take k)).set ((((I3).g ls (k : Int))).toNat) (((HuffP.cntZ (ls.take k)).getD ((((I3).g ls (k : Int))).toNat) 0) + 1)) [.slice none 0 0, .slice pl k cl]), some 13, none, []⟩] F V.mixed (by kernel_rfl) rfl (fun _ => .refl _) (locT_0 _ (locT_0 _ (locT_0 _ (locT_1 [0, 1, 2, 3, 4, 5, 6, 7, 8, 9, 10, 11, 12] rfl (by intro y y2 h; rfl) locT_nil)))) ?_
          refine net_pure (fun y => [(4, _)]) (fun y => rfl) rfl rfl rfl (fun y hA L => st_v (v_move rfl) ⟨rfl, rfl⟩) (by intros; rfl) (by intro y y2 h; rfl) ?_
          refine net_pure (fun y => [(0, _)]) (fun y => rfl) rfl rfl rfl (fun y hA L => st_v (v_move rfl) ⟨rfl, rfl⟩) (by intros; rfl) (by intro y y2 h; rfl) ?_
          refine net_pure (fun y => [(6, _)]) (fun y => rfl) rfl rfl rfl (fun y hA L => st_v (v_move rfl) ⟨rfl, rfl⟩) (by intros; rfl) (by intro y y2 h; rfl) ?_
          refine net_read (fun y => [R]) (fun y => [(35, _), (36, _)]) (fun y => rfl) rfl (fun y => rfl) rfl (fun y FF hA => st_v (r_index (c := (I3)) V.sl78 rfl rfl (by first | exact own mm0 | exact own mm1 | exact own mm2 | exact own mm3 | exact own mm4 | exact own mm5 | exact own mm6 | exact own mm7 | exact own mm8 | exact own mm9 | exact own mm10 | exact own mm11 | exact rdH hR mm0 | exact rdH hR mm1 | exact rdH hR mm2 | exact rdH hR mm3 | exact rdH hR mm4 | exact rdH hR mm5 | exact rdH hR mm6 | exact rdH hR mm7 | exact rdH hR mm8 | exact rdH hR mm9 | exact rdH hR mm10 | exact rdH hR mm11) (by omega) (by omega)) ⟨rfl, rfl⟩) (by intros; rfl) (by intro y y2 h; rfl) ?_
          refine net_read (fun y => [R]) (fun y => [(37, _)]) (fun y => rfl) rfl (fun y => rfl) rfl (fun y FF hA => st_v (r_load (c := (I3)) V.s3 rfl (by first | exact own mm0 | exact own mm1 | exact own mm2 | exact own mm3 | exact own mm4 | exact own mm5 | exact own mm6 | exact own mm7 | exact own mm8 | exact own mm9 | exact own mm10 | exact own mm11 | exact rdH hR mm0 | exact rdH hR mm1 | exact rdH hR mm2 | exact rdH hR mm3 | exact rdH hR mm4 | exact rdH hR mm5 | exact rdH hR mm6 | exact rdH hR mm7 | exact rdH hR mm8 | exact rdH hR mm9 | exact rdH hR mm10 | exact rdH hR mm11) (by omega) (by omega) rfl rfl) ⟨rfl, rfl⟩) (by intros; rfl) (by intro y y2 h; rfl) ?_
          refine net_pure (fun y => [(34, _)]) (fun y => rfl) rfl rfl rfl (fun y hA L => st_v (v_nil rfl) ⟨rfl, rfl⟩) (by intros; rfl) (by intro y y2 h; rfl) ?_
          refine net_pure (fun y => [(39, _)]) (fun y => rfl) rfl rfl rfl (fun y hA L => st_v (v_fieldAddr V.f286_0 rfl) ⟨rfl, rfl⟩) (by intros; rfl) (by intro y y2 h; rfl) ?_
          refine net_pure (fun y => [(40, _), (38, _)]) (fun y => rfl) rfl rfl rfl (fun y hA L => st_v (v_indexA ((((I3).g ls (k : Int))).toNat) (by omega) V.ar284 rfl rfl (by omega)) ⟨rfl, rfl⟩) (by intros; rfl) (by intro y y2 h; rfl) ?_
          refine net_read (fun y => [Cel b15 286 (CA [] .i64 (HuffP.cntZ (ls.take k)) [.slice none 0 0, .slice pl k cl])]) (fun y => [(41, _)]) (fun y => rfl) rfl (fun y => rfl) rfl (fun y FF hA => st_v (a_load ((I3).g ls (k : Int)) V.s3 rfl (by repeat first | exact .head _ | apply List.Mem.tail) (by first | (simp only [List.length_cons, List.length_nil]; omega) | omega) (by omega) (by first | omega | (simp only [List.length_set]; omega))) ⟨rfl, rfl⟩) (by intros; rfl) (by intro y y2 h; rfl) ?_
          refine net_pure (fun y => [(42, _)]) (fun y => rfl) rfl rfl rfl (fun y hA L => st_v (v_add rfl rfl (wrapI (by omega) (by omega))) ⟨rfl, rfl⟩) (by intros; rfl) (by intro y y2 h; rfl) ?_
          refine net_pure (fun y => [(34, _)]) (fun y => rfl) rfl rfl rfl (fun y hA L => st_v (v_nil rfl) ⟨rfl, rfl⟩) (by intros; rfl) (by intro y y2 h; rfl) ?_
          refine net_pure (fun y => [(44, _)]) (fun y => rfl) rfl rfl rfl (fun y hA L => st_v (v_fieldAddr V.f286_0 rfl) ⟨rfl, rfl⟩) (by intros; rfl) (by intro y y2 h; rfl) ?_
          refine net_pure (fun y => [(45, _), (38, _)]) (fun y => rfl) rfl rfl rfl (fun y hA L => st_v (v_indexA ((((I3).g ls (k : Int))).toNat) (by omega) V.ar284 rfl rfl (by omega)) ⟨rfl, rfl⟩) (by intros; rfl) (by intro y y2 h; rfl) ?_
          refine net_eff (fun y => [Cel b15 286 (CA [] .i64 (HuffP.cntZ (ls.take k)) [.slice none 0 0, .slice pl k cl])]) (fun y => []) (fun y => [Cel b15 286 (CA [] .i64 ((HuffP.cntZ (ls.take k)).set ((((I3).g ls (k : Int))).toNat) (((HuffP.cntZ (ls.take k)).getD ((((I3).g ls (k : Int))).toNat) 0) + 1)) [.slice none 0 0, .slice pl k cl])]) (fun y => [(46, _), (43, _)]) (fun y => rfl) (fun y => rfl) (fun y => rfl) (fun y => rfl) (fun y FF hA => st_v (a_store ((I3).g ls (k : Int)) V.s3 rfl rfl (by repeat first | exact .head | apply Rep.tail) (by first | (simp only [List.length_cons, List.length_nil]; omega) | omega) (by omega) (by first | omega | (simp only [List.length_set]; omega))) ⟨rfl, .refl _⟩) (by intros; rfl) (by intros; rfl) (by intro y y2 h; rfl) ?_
          refine net_nil ?_
          intro y hA
          clear hA
          refine thn_n ?_
          refine w_keep _ (.cons (d := 0) rfl (.cons (d := 4) rfl (.cons (d := 5) rfl (.cons (d := 6) rfl (.nil _))))) ?_
          refine w_sub (M := Row I3 pl k cl (ls.take k) :: R :: Cel b15 286 (CA [] .i64 ((HuffP.cntZ (ls.take k)).set ((((I3).g ls (k : Int))).toNat) (((HuffP.cntZ (ls.take k)).getD ((((I3).g ls (k : Int))).toNat) 0) + 1)) [.slice none 0 0, .slice pl k cl]) :: F) (fun _ _ h => h) ?_
          refine w_seq ?_
          refine w_seq ?_
          refine w_region ?_
          refine o_val (v_move rfl) rfl ?_
          refine o_val (v_move rfl) rfl ?_
          refine o_val (r_index (c := (I3)) V.sl78 rfl rfl (by first | exact own mm0 | exact own mm1 | exact own mm2 | exact own mm3 | exact own mm4 | exact own mm5 | exact own mm6 | exact own mm7 | exact own mm8 | exact own mm9 | exact own mm10 | exact own mm11 | exact rdH hR mm0 | exact rdH hR mm1 | exact rdH hR mm2 | exact rdH hR mm3 | exact rdH hR mm4 | exact rdH hR mm5 | exact rdH hR mm6 | exact rdH hR mm7 | exact rdH hR mm8 | exact rdH hR mm9 | exact rdH hR mm10 | exact rdH hR mm11) (by omega) (by omega)) rfl ?_
          refine o_val (r_load (c := (I3)) V.s3 rfl (by first | exact own mm0 | exact own mm1 | exact own mm2 | exact own mm3 | exact own mm4 | exact own mm5 | exact own mm6 | exact own mm7 | exact own mm8 | exact own mm9 | exact own mm10 | exact own mm11 | exact rdH hR mm0 | exact rdH hR mm1 | exact rdH hR mm2 | exact rdH hR mm3 | exact rdH hR mm4 | exact rdH hR mm5 | exact rdH hR mm6 | exact rdH hR mm7 | exact rdH hR mm8 | exact rdH hR mm9 | exact rdH hR mm10 | exact rdH hR mm11) (by omega) (by omega) rfl rfl) rfl ?_
          refine o_val (v_gtr rfl rfl) rfl ?_
          refine o_nil ?_
          refine thn_n ?_
          first | refine w_condD rfl (fun h51 => ?_) (fun h51 => ?_) | refine w_cond rfl (fun h51 => ?_) (fun h51 => ?_)
          ·
            refine w_region ?_
            refine o_val (v_move rfl) rfl ?_
            refine o_val (v_add rfl rfl (wrapI (by omega) (by omega))) rfl ?_
            refine o_val (v_assign rfl) rfl ?_
            refine o_nil ?_
            refine thn_n ?_
            refine w_net [⟨[], [], [4], 0, 0⟩, ⟨[], [], [4], 0, 0⟩, ⟨[1], [1], [], 0, 0⟩, ⟨[1, 2], [2], [], 0, 0⟩, ⟨[1, 2, 3], [3], [], 0, 0⟩, ⟨[], [], [0], 0, 0⟩, ⟨[], [], [6], 0, 0⟩, ⟨[5, 6], [5, 6], [], 0, 0⟩, ⟨[5, 6, 7], [7], [], 0, 0⟩, ⟨[5, 6, 7, 8], [8], [], 0, 0⟩, ⟨[1, 2, 3, 4, 5, 6, 7, 8, 9], [4, 9], [], 0, 0⟩, ⟨[0, 1, 2, 3, 4, 5, 6, 7, 8, 9, 10], [0], [], 0, 0⟩, ⟨[0, 1, 2, 3, 4, 5, 6, 7, 8, 9, 10, 11], [11], [], 0, 0⟩, ⟨[0, 1, 2, 3, 4, 5, 6, 7, 8, 9, 10, 11, 12], [12, 10], [], 0, 0⟩] [⟨fun y => Row I3 pl k cl (ls.take k), none, some 10, []⟩, ⟨fun y => R, none, none, [7, 8]⟩, ⟨fun y => Cel b15 286 (CA [] .i64 ((HuffP.cntZ (ls.take k)).set ((((I3).g ls (k : Int))).toNat) (((HuffP.cntZ (ls.take k)).getD ((((I3).g ls (k : Int))).toNat) 0) + 1)) [.slice none 0 0, .slice pl k cl]), none, some 13, [4]⟩, ⟨fun y => Row (I3) (some ⟨(blk' (slP (y 9))), 0, none⟩) 1 1 [((I3).g ls (k : Int))], some 9, none, [10]⟩, ⟨fun y => Row (I3) (slP (y 10)) (k + 1) (slC (y 10)) ((ls.take k) ++ [((I3).g ls (k : Int))]), some 10, none, []⟩, ⟨fun y => Cel b15 286 (CA [] .i64 ((HuffP.cntZ (ls.take k)).set ((((I3).g ls (k : Int))).toNat) (((HuffP.cntZ (ls.take k)).getD ((((I3).g ls (k : Int))).toNat) 0) + 1)) [.slice none 0 0, .slice (slP (y 10)) (k + 1) (slC (y 10))]), some 13, none, []⟩] F V.mixed (by kernel_rfl) rfl (fun _ => .refl _) (locT_0 _ (locT_0 _ (locT_0 _ (locT_1 [5, 6, 7, 8] rfl (by intro y y2 h; simp only [h 9 (.inl rfl)]) (locT_1 [1, 2, 3, 4, 5, 6, 7, 8, 9] rfl (by intro y y2 h; simp only [h 10 (.inl rfl)]) (locT_1 [0, 1, 2, 3, 4, 5, 6, 7, 8, 9, 10, 11, 12] rfl (by intro y y2 h; simp only [h 10 (.inr (by decide))]) locT_nil)))))) ?_
            refine net_pure (fun y => [(4, _)]) (fun y => rfl) rfl rfl rfl (fun y hA L => st_v (v_move rfl) ⟨rfl, rfl⟩) (by intros; rfl) (by intro y y2 h; rfl) ?_
            refine net_pure (fun y => [(4, _)]) (fun y => rfl) rfl rfl rfl (fun y hA L => st_v (v_move rfl) ⟨rfl, rfl⟩) (by intros; rfl) (by intro y y2 h; rfl) ?_
            refine net_pure (fun y => [(55, _)]) (fun y => rfl) rfl rfl rfl (fun y hA L => st_v (v_nil rfl) ⟨rfl, rfl⟩) (by intros; rfl) (by intro y y2 h; rfl) ?_
            refine net_pure (fun y => [(56, _)]) (fun y => rfl) rfl rfl rfl (fun y hA L => st_v (v_fieldAddr V.f286_2 rfl) ⟨rfl, rfl⟩) (by intros; rfl) (by intro y y2 h; rfl) ?_
            refine net_read (fun y => [Cel b15 286 (CA [] .i64 ((HuffP.cntZ (ls.take k)).set ((((I3).g ls (k : Int))).toNat) (((HuffP.cntZ (ls.take k)).getD ((((I3).g ls (k : Int))).toNat) 0) + 1)) [.slice none 0 0, .slice pl k cl])]) (fun y => [(57, _)]) (fun y => rfl) rfl (fun y => rfl) rfl (fun y FF hA => st_v (a_loadP (n := 16) 1 V.s78 rfl (by repeat first | exact .head _ | apply List.Mem.tail) (by first | omega | (simp only [List.length_set]; omega)) rfl rfl) ⟨rfl, rfl⟩) (by intros; rfl) (by intro y y2 h; rfl) ?_
            refine net_pure (fun y => [(0, _)]) (fun y => rfl) rfl rfl rfl (fun y hA L => st_v (v_move rfl) ⟨rfl, rfl⟩) (by intros; rfl) (by intro y y2 h; rfl) ?_
            refine net_pure (fun y => [(6, _)]) (fun y => rfl) rfl rfl rfl (fun y hA L => st_v (v_move rfl) ⟨rfl, rfl⟩) (by intros; rfl) (by intro y y2 h; rfl) ?_
            refine net_read (fun y => [R]) (fun y => [(59, _), (60, _)]) (fun y => rfl) rfl (fun y => rfl) rfl (fun y FF hA => st_v (r_index (c := (I3)) V.sl78 rfl rfl (by first | exact own mm0 | exact own mm1 | exact own mm2 | exact own mm3 | exact own mm4 | exact own mm5 | exact own mm6 | exact own mm7 | exact own mm8 | exact own mm9 | exact own mm10 | exact own mm11 | exact rdH hR mm0 | exact rdH hR mm1 | exact rdH hR mm2 | exact rdH hR mm3 | exact rdH hR mm4 | exact rdH hR mm5 | exact rdH hR mm6 | exact rdH hR mm7 | exact rdH hR mm8 | exact rdH hR mm9 | exact rdH hR mm10 | exact rdH hR mm11) (by omega) (by omega)) ⟨rfl, rfl⟩) (by intros; rfl) (by intro y y2 h; rfl) ?_
            refine net_read (fun y => [R]) (fun y => [(61, _)]) (fun y => rfl) rfl (fun y => rfl) rfl (fun y FF hA => st_v (r_load (c := (I3)) V.s3 rfl (by first | exact own mm0 | exact own mm1 | exact own mm2 | exact own mm3 | exact own mm4 | exact own mm5 | exact own mm6 | exact own mm7 | exact own mm8 | exact own mm9 | exact own mm10 | exact own mm11 | exact rdH hR mm0 | exact rdH hR mm1 | exact rdH hR mm2 | exact rdH hR mm3 | exact rdH hR mm4 | exact rdH hR mm5 | exact rdH hR mm6 | exact rdH hR mm7 | exact rdH hR mm8 | exact rdH hR mm9 | exact rdH hR mm10 | exact rdH hR mm11) (by omega) (by omega) rfl rfl) ⟨rfl, rfl⟩) (by intros; rfl) (by intro y y2 h; rfl) ?_
            refine net_new (fun y v => .slice (some ⟨blk' (slP v), 0, none⟩) 1 1) (fun y v => True) (fun y => []) (fun y => []) (fun y v => [Row (I3) (some ⟨(blk' (slP v)), 0, none⟩) 1 1 [((I3).g ls (k : Int))]]) (fun y => [(62, _)]) (fun y => rfl) (fun y => rfl) (fun y => rfl) (fun y => rfl) (fun y FF hA => st_newN (r_buildX (I3) ([((I3).g ls (k : Int))]) V.sl78 V.z3 rfl rfl rfl rfl rfl)) (by intros; rfl) (by intros; rfl) (by intros; rfl) (by intro y y2 h; simp only [h 9 (.inl rfl)]) (by intro y y2 h; rfl) ?_
            refine net_new (fun y v => .slice (slP v) (k + 1) (slC v)) (fun y v => True) (fun y => [Row I3 pl k cl (ls.take k)]) (fun y => [Row (I3) (some ⟨(blk' (slP (y 9))), 0, none⟩) 1 1 [((I3).g ls (k : Int))]]) (fun y v => [Row (I3) (slP v) (k + 1) (slC v) ((ls.take k) ++ [((I3).g ls (k : Int))])]) (fun y => [(58, _), (63, _)]) (fun y => rfl) (fun y => rfl) (fun y => rfl) (fun y => rfl) (fun y FF hA => st_appN (r_appendX (c := (I3)) V.sl78 V.z3 rfl rfl rfl rfl rr0 (by first | exact own mm0 | exact own mm1 | exact own mm2 | exact own mm3 | exact own mm4 | exact own mm5 | exact own mm6 | exact own mm7 | exact own mm8 | exact own mm9 | exact own mm10 | exact own mm11 | exact rdH hR mm0 | exact rdH hR mm1 | exact rdH hR mm2 | exact rdH hR mm3 | exact rdH hR mm4 | exact rdH hR mm5 | exact rdH hR mm6 | exact rdH hR mm7 | exact rdH hR mm8 | exact rdH hR mm9 | exact rdH hR mm10 | exact rdH hR mm11) (by omega)) (.refl _)) (by intros; rfl) (by intros; rfl) (by intros; rfl) (by intro y y2 h; simp only [h 9 (.inr (by decide)), h 10 (.inl rfl)]) (by intro y y2 h; rfl) ?_
            refine net_pure (fun y => [(54, _)]) (fun y => rfl) rfl rfl rfl (fun y hA L => st_v (v_nil rfl) ⟨rfl, rfl⟩) (by intros; rfl) (by intro y y2 h; rfl) ?_
            refine net_pure (fun y => [(65, _)]) (fun y => rfl) rfl rfl rfl (fun y hA L => st_v (v_fieldAddr V.f286_2 rfl) ⟨rfl, rfl⟩) (by intros; rfl) (by intro y y2 h; rfl) ?_
            refine net_eff (fun y => [Cel b15 286 (CA [] .i64 ((HuffP.cntZ (ls.take k)).set ((((I3).g ls (k : Int))).toNat) (((HuffP.cntZ (ls.take k)).getD ((((I3).g ls (k : Int))).toNat) 0) + 1)) [.slice none 0 0, .slice pl k cl])]) (fun y => []) (fun y => [Cel b15 286 (CA [] .i64 ((HuffP.cntZ (ls.take k)).set ((((I3).g ls (k : Int))).toNat) (((HuffP.cntZ (ls.take k)).getD ((((I3).g ls (k : Int))).toNat) 0) + 1)) [.slice none 0 0, .slice (slP (y 10)) (k + 1) (slC (y 10))])]) (fun y => [(66, _), (64, _)]) (fun y => rfl) (fun y => rfl) (fun y => rfl) (fun y => rfl) (fun y FF hA => st_v (a_storeP (n := 16) 1 V.s78 rfl rfl rfl (by repeat first | exact .head | apply Rep.tail) (by first | omega | (simp only [List.length_set]; omega)) rfl (by exact Nat.le_of_ble_eq_true rfl) rfl) ⟨rfl, .refl _⟩) (by intros; rfl) (by intros; rfl) (by intro y y2 h; first | rfl | simp only [h 10 (.inr (by decide))]) ?_
            refine net_nil ?_
            intro y hA
            clear hA
            show blk _ _ _ _ (R :: Row (I3) (some ⟨(blk' (slP (y 9))), 0, none⟩) 1 1 [((I3).g ls (k : Int))] :: Row (I3) (slP (y 10)) (k + 1) (slC (y 10)) ((ls.take k) ++ [((I3).g ls (k : Int))]) :: Cel b15 286 (CA [] .i64 ((HuffP.cntZ (ls.take k)).set ((((I3).g ls (k : Int))).toNat) (((HuffP.cntZ (ls.take k)).getD ((((I3).g ls (k : Int))).toNat) 0) + 1)) [.slice none 0 0, .slice (slP (y 10)) (k + 1) (slC (y 10))]) :: F)
            generalize (blk' (slP (y 9))) = b63
            generalize (slP (y 10)) = p64
            generalize (slC (y 10)) = c64
            refine blk_n ?_
            refine thn_n ?_
            refine w_region ?_
            refine o_val (v_move rfl) rfl ?_
            refine o_val (v_add rfl rfl (wrapI (by omega) (by omega))) rfl ?_
            refine o_val (v_assign rfl) rfl ?_
            refine o_nil ?_
            have hok2 := HuffP.ok_snoc hok (by omega)
            rw [HuffP.cntZ_snoc hk2 (hg.trans hg2) (by omega) (by omega), HuffP.take_snoc hk2 (hg.trans hg2)]
            first
            | (rw [HuffP.many_pos hk2 (hg.trans hg2) (by omega)]; exact j3 (k + 1) _ _ ⟨⟨by omega, hok2⟩, by omega⟩ (.cons rfl (.cons rfl (.cons rfl (.cons rfl (.nil _))))) (sub (.cons (by repeat first | exact .head | apply Rem.tail) (.cons (by repeat first | exact .head | apply Rem.tail) (.cons (by repeat first | exact .head | apply Rem.tail) .nil))) (by repeat first | exact .refl | apply Drop.skip)))
            | (rw [HuffP.many_zero hk2 (hg.trans hg2) (by omega)]; exact j3 (k + 1) _ _ ⟨⟨by omega, hok2⟩, by omega⟩ (.cons rfl (.cons rfl (.cons rfl (.cons rfl (.nil _))))) (sub (.cons (by repeat first | exact .head | apply Rem.tail) (.cons (by repeat first | exact .head | apply Rem.tail) (.cons (by repeat first | exact .head | apply Rem.tail) .nil))) (by repeat first | exact .refl | apply Drop.skip)))
          ·
            refine w_skip ?_
            refine thn_n ?_
            refine w_net [⟨[], [], [4], 0, 0⟩, ⟨[], [], [4], 0, 0⟩, ⟨[1], [1], [], 0, 0⟩, ⟨[1, 2], [2], [], 0, 0⟩, ⟨[1, 2, 3], [3], [], 0, 0⟩, ⟨[], [], [0], 0, 0⟩, ⟨[], [], [6], 0, 0⟩, ⟨[5, 6], [5, 6], [], 0, 0⟩, ⟨[5, 6, 7], [7], [], 0, 0⟩, ⟨[5, 6, 7, 8], [8], [], 0, 0⟩, ⟨[1, 2, 3, 4, 5, 6, 7, 8, 9], [4, 9], [], 0, 0⟩, ⟨[0, 1, 2, 3, 4, 5, 6, 7, 8, 9, 10], [0], [], 0, 0⟩, ⟨[0, 1, 2, 3, 4, 5, 6, 7, 8, 9, 10, 11], [11], [], 0, 0⟩, ⟨[0, 1, 2, 3, 4, 5, 6, 7, 8, 9, 10, 11, 12], [12, 10], [], 0, 0⟩] [⟨fun y => Row I3 pl k cl (ls.take k), none, some 10, []⟩, ⟨fun y => R, none, none, [7, 8]⟩, ⟨fun y => Cel b15 286 (CA [] .i64 ((HuffP.cntZ (ls.take k)).set ((((I3).g ls (k : Int))).toNat) (((HuffP.cntZ (ls.take k)).getD ((((I3).g ls (k : Int))).toNat) 0) + 1)) [.slice none 0 0, .slice pl k cl]), none, some 13, [4]⟩, ⟨fun y => Row (I3) (some ⟨(blk' (slP (y 9))), 0, none⟩) 1 1 [((I3).g ls (k : Int))], some 9, none, [10]⟩, ⟨fun y => Row (I3) (slP (y 10)) (k + 1) (slC (y 10)) ((ls.take k) ++ [((I3).g ls (k : Int))]), some 10, none, []⟩, ⟨fun y => Cel b15 286 (CA [] .i64 ((HuffP.cntZ (ls.take k)).set ((((I3).g ls (k : Int))).toNat) (((HuffP.cntZ (ls.take k)).getD ((((I3).g ls (k : Int))).toNat) 0) + 1)) [.slice none 0 0, .slice (slP (y 10)) (k + 1) (slC (y 10))]), some 13, none, []⟩] F V.mixed (by kernel_rfl) rfl (fun _ => .refl _) (locT_0 _ (locT_0 _ (locT_0 _ (locT_1 [5, 6, 7, 8] rfl (by intro y y2 h; simp only [h 9 (.inl rfl)]) (locT_1 [1, 2, 3, 4, 5, 6, 7, 8, 9] rfl (by intro y y2 h; simp only [h 10 (.inl rfl)]) (locT_1 [0, 1, 2, 3, 4, 5, 6, 7, 8, 9, 10, 11, 12] rfl (by intro y y2 h; simp only [h 10 (.inr (by decide))]) locT_nil)))))) ?_
            refine net_pure (fun y => [(4, _)]) (fun y => rfl) rfl rfl rfl (fun y hA L => st_v (v_move rfl) ⟨rfl, rfl⟩) (by intros; rfl) (by intro y y2 h; rfl) ?_
            refine net_pure (fun y => [(4, _)]) (fun y => rfl) rfl rfl rfl (fun y hA L => st_v (v_move rfl) ⟨rfl, rfl⟩) (by intros; rfl) (by intro y y2 h; rfl) ?_
            refine net_pure (fun y => [(55, _)]) (fun y => rfl) rfl rfl rfl (fun y hA L => st_v (v_nil rfl) ⟨rfl, rfl⟩) (by intros; rfl) (by intro y y2 h; rfl) ?_
            refine net_pure (fun y => [(56, _)]) (fun y => rfl) rfl rfl rfl (fun y hA L => st_v (v_fieldAddr V.f286_2 rfl) ⟨rfl, rfl⟩) (by intros; rfl) (by intro y y2 h; rfl) ?_
            refine net_read (fun y => [Cel b15 286 (CA [] .i64 ((HuffP.cntZ (ls.take k)).set ((((I3).g ls (k : Int))).toNat) (((HuffP.cntZ (ls.take k)).getD ((((I3).g ls (k : Int))).toNat) 0) + 1)) [.slice none 0 0, .slice pl k cl])]) (fun y => [(57, _)]) (fun y => rfl) rfl (fun y => rfl) rfl (fun y FF hA => st_v (a_loadP (n := 16) 1 V.s78 rfl (by repeat first | exact .head _ | apply List.Mem.tail) (by first | omega | (simp only [List.length_set]; omega)) rfl rfl) ⟨rfl, rfl⟩) (by intros; rfl) (by intro y y2 h; rfl) ?_
            refine net_pure (fun y => [(0, _)]) (fun y => rfl) rfl rfl rfl (fun y hA L => st_v (v_move rfl) ⟨rfl, rfl⟩) (by intros; rfl) (by intro y y2 h; rfl) ?_
            refine net_pure (fun y => [(6, _)]) (fun y => rfl) rfl rfl rfl (fun y hA L => st_v (v_move rfl) ⟨rfl, rfl⟩) (by intros; rfl) (by intro y y2 h; rfl) ?_
            refine net_read (fun y => [R]) (fun y => [(59, _), (60, _)]) (fun y => rfl) rfl (fun y => rfl) rfl (fun y FF hA => st_v (r_index (c := (I3)) V.sl78 rfl rfl (by first | exact own mm0 | exact own mm1 | exact own mm2 | exact own mm3 | exact own mm4 | exact own mm5 | exact own mm6 | exact own mm7 | exact own mm8 | exact own mm9 | exact own mm10 | exact own mm11 | exact rdH hR mm0 | exact rdH hR mm1 | exact rdH hR mm2 | exact rdH hR mm3 | exact rdH hR mm4 | exact rdH hR mm5 | exact rdH hR mm6 | exact rdH hR mm7 | exact rdH hR mm8 | exact rdH hR mm9 | exact rdH hR mm10 | exact rdH hR mm11) (by omega) (by omega)) ⟨rfl, rfl⟩) (by intros; rfl) (by intro y y2 h; rfl) ?_
            refine net_read (fun y => [R]) (fun y => [(61, _)]) (fun y => rfl) rfl (fun y => rfl) rfl (fun y FF hA => st_v (r_load (c := (I3)) V.s3 rfl (by first | exact own mm0 | exact own mm1 | exact own mm2 | exact own mm3 | exact own mm4 | exact own mm5 | exact own mm6 | exact own mm7 | exact own mm8 | exact own mm9 | exact own mm10 | exact own mm11 | exact rdH hR mm0 | exact rdH hR mm1 | exact rdH hR mm2 | exact rdH hR mm3 | exact rdH hR mm4 | exact rdH hR mm5 | exact rdH hR mm6 | exact rdH hR mm7 | exact rdH hR mm8 | exact rdH hR mm9 | exact rdH hR mm10 | exact rdH hR mm11) (by omega) (by omega) rfl rfl) ⟨rfl, rfl⟩) (by intros; rfl) (by intro y y2 h; rfl) ?_
            refine net_new (fun y v => .slice (some ⟨blk' (slP v), 0, none⟩) 1 1) (fun y v => True) (fun y => []) (fun y => []) (fun y v => [Row (I3) (some ⟨(blk' (slP v)), 0, none⟩) 1 1 [((I3).g ls (k : Int))]]) (fun y => [(62, _)]) (fun y => rfl) (fun y => rfl) (fun y => rfl) (fun y => rfl) (fun y FF hA => st_newN (r_buildX (I3) ([((I3).g ls (k : Int))]) V.sl78 V.z3 rfl rfl rfl rfl rfl)) (by intros; rfl) (by intros; rfl) (by intros; rfl) (by intro y y2 h; simp only [h 9 (.inl rfl)]) (by intro y y2 h; rfl) ?_
            refine net_new (fun y v => .slice (slP v) (k + 1) (slC v)) (fun y v => True) (fun y => [Row I3 pl k cl (ls.take k)]) (fun y => [Row (I3) (some ⟨(blk' (slP (y 9))), 0, none⟩) 1 1 [((I3).g ls (k : Int))]]) (fun y v => [Row (I3) (slP v) (k + 1) (slC v) ((ls.take k) ++ [((I3).g ls (k : Int))])]) (fun y => [(58, _), (63, _)]) (fun y => rfl) (fun y => rfl) (fun y => rfl) (fun y => rfl) (fun y FF hA => st_appN (r_appendX (c := (I3)) V.sl78 V.z3 rfl rfl rfl rfl rr0 (by first | exact own mm0 | exact own mm1 | exact own mm2 | exact own mm3 | exact own mm4 | exact own mm5 | exact own mm6 | exact own mm7 | exact own mm8 | exact own mm9 | exact own mm10 | exact own mm11 | exact rdH hR mm0 | exact rdH hR mm1 | exact rdH hR mm2 | exact rdH hR mm3 | exact rdH hR mm4 | exact rdH hR mm5 | exact rdH hR mm6 | exact rdH hR mm7 | exact rdH hR mm8 | exact rdH hR mm9 | exact rdH hR mm10 | exact rdH hR mm11) (by omega)) (.refl _)) (by intros; rfl) (by intros; rfl) (by intros; rfl) (by intro y y2 h; simp only [h 9 (.inr (by decide)), h 10 (.inl rfl)]) (by intro y y2 h; rfl) ?_
            refine net_pure (fun y => [(54, _)]) (fun y => rfl) rfl rfl rfl (fun y hA L => st_v (v_nil rfl) ⟨rfl, rfl⟩) (by intros; rfl) (by intro y y2 h; rfl) ?_
            refine net_pure (fun y => [(65, _)]) (fun y => rfl) rfl rfl rfl (fun y hA L => st_v (v_fieldAddr V.f286_2 rfl) ⟨rfl, rfl⟩) (by intros; rfl) (by intro y y2 h; rfl) ?_
            refine net_eff (fun y => [Cel b15 286 (CA [] .i64 ((HuffP.cntZ (ls.take k)).set ((((I3).g ls (k : Int))).toNat) (((HuffP.cntZ (ls.take k)).getD ((((I3).g ls (k : Int))).toNat) 0) + 1)) [.slice none 0 0, .slice pl k cl])]) (fun y => []) (fun y => [Cel b15 286 (CA [] .i64 ((HuffP.cntZ (ls.take k)).set ((((I3).g ls (k : Int))).toNat) (((HuffP.cntZ (ls.take k)).getD ((((I3).g ls (k : Int))).toNat) 0) + 1)) [.slice none 0 0, .slice (slP (y 10)) (k + 1) (slC (y 10))])]) (fun y => [(66, _), (64, _)]) (fun y => rfl) (fun y => rfl) (fun y => rfl) (fun y => rfl) (fun y FF hA => st_v (a_storeP (n := 16) 1 V.s78 rfl rfl rfl (by repeat first | exact .head | apply Rep.tail) (by first | omega | (simp only [List.length_set]; omega)) rfl (by exact Nat.le_of_ble_eq_true rfl) rfl) ⟨rfl, .refl _⟩) (by intros; rfl) (by intros; rfl) (by intro y y2 h; first | rfl | simp only [h 10 (.inr (by decide))]) ?_
            refine net_nil ?_
            intro y hA
            clear hA
            show blk _ _ _ _ (R :: Row (I3) (some ⟨(blk' (slP (y 9))), 0, none⟩) 1 1 [((I3).g ls (k : Int))] :: Row (I3) (slP (y 10)) (k + 1) (slC (y 10)) ((ls.take k) ++ [((I3).g ls (k : Int))]) :: Cel b15 286 (CA [] .i64 ((HuffP.cntZ (ls.take k)).set ((((I3).g ls (k : Int))).toNat) (((HuffP.cntZ (ls.take k)).getD ((((I3).g ls (k : Int))).toNat) 0) + 1)) [.slice none 0 0, .slice (slP (y 10)) (k + 1) (slC (y 10))]) :: F)
            generalize (blk' (slP (y 9))) = b63
            generalize (slP (y 10)) = p64
            generalize (slC (y 10)) = c64
            refine blk_n ?_
            refine thn_n ?_
            refine w_region ?_
            refine o_val (v_move rfl) rfl ?_
            refine o_val (v_add rfl rfl (wrapI (by omega) (by omega))) rfl ?_
            refine o_val (v_assign rfl) rfl ?_
            refine o_nil ?_
            have hok2 := HuffP.ok_snoc hok (by omega)
            rw [HuffP.cntZ_snoc hk2 (hg.trans hg2) (by omega) (by omega), HuffP.take_snoc hk2 (hg.trans hg2)]
            first
            | (rw [HuffP.many_pos hk2 (hg.trans hg2) (by omega)]; exact j3 (k + 1) _ _ ⟨⟨by omega, hok2⟩, by omega⟩ (.cons rfl (.cons rfl (.cons rfl (.cons rfl (.nil _))))) (sub (.cons (by repeat first | exact .head | apply Rem.tail) (.cons (by repeat first | exact .head | apply Rem.tail) (.cons (by repeat first | exact .head | apply Rem.tail) .nil))) (by repeat first | exact .refl | apply Drop.skip)))
            | (rw [HuffP.many_zero hk2 (hg.trans hg2) (by omega)]; exact j3 (k + 1) _ _ ⟨⟨by omega, hok2⟩, by omega⟩ (.cons rfl (.cons rfl (.cons rfl (.cons rfl (.nil _))))) (sub (.cons (by repeat first | exact .head | apply Rem.tail) (.cons (by repeat first | exact .head | apply Rem.tail) (.cons (by repeat first | exact .head | apply Rem.tail) .nil))) (by repeat first | exact .refl | apply Drop.skip)))
    ·
      refine w_exit ?_
      refine thn_e ?_
      refine thn_e ?_
      refine blk_x ?_
      refine thn_n ?_
      refine w_seq ?_
      have hkn : k = ls.length := by omega
      subst hkn
      rw [List.take_length] at *
      have hvv := HuffP.ok_take hok (Nat.le_refl _)
      have hcl := HuffP.cntZ_len ls
      have hcl2 := HuffP.cntL_len ls
      have hE0 := HuffP.newE_ok (by omega) hvv
      have hCb := HuffP.cntL_bound (ls := ls) (by omega)
      refine w_region ?_
      refine o_val (v_move rfl) rfl ?_
      refine o_val (v_nil rfl) rfl ?_
      refine o_val (v_fieldAddr V.f286_0 rfl) rfl ?_
      refine o_val (v_indexA 0 rfl V.ar284 rfl rfl (by omega)) rfl ?_
      refine o_eff (a_store (0 : Int) V.s3 rfl rfl (by repeat first | exact .head | apply Rep.tail) (by first | (simp only [List.length_cons, List.length_nil]; omega) | omega) (by omega) (by first | omega | (simp only [List.length_set]; omega))) ?_
      refine o_nil ?_
      refine thn_n ?_
      refine w_seq ?_
      rw [HuffP.cntZ_set]
      refine w_region ?_
      refine o_val (v_assign rfl) rfl ?_
      refine o_nil ?_
      refine thn_n ?_
      refine w_seq ?_
      refine w_seq ?_
      refine w_region ?_
      refine o_val (v_assign rfl) rfl ?_
      refine o_nil ?_
      refine thn_n ?_
      refine w_block ?_
      refine w_loop1 (fun (k : Nat) => [(0, .slice p ls.length cap), (4, .pointer (some ⟨b15, 0, none⟩)), (5, .int .i64 ((HuffP.posn ls).length : Int)), (7, .int .i64 (HuffP.left (HuffP.cntL ls) k)), (8, .int .i64 ((k : Int) + 1))]) (fun (k : Nat) => Cel b15 286 (CA [] .i64 (HuffP.cntL ls) [.slice none 0 0, .slice pl ls.length cl]) :: Row I3 pl ls.length cl ls :: R :: F) (fun (k : Nat) => k ≤ 15 ∧ ∀ m, 1 ≤ m → m ≤ k → 0 ≤ HuffP.left (HuffP.cntL ls) m) (fun (k : Nat) => 15 - k) (i1 (0) ?_ (.cons rfl (.cons rfl (.cons rfl (.cons rfl (.cons rfl (.nil _)))))) (sub (.cons (by repeat first | exact .head | apply Rem.tail) (.cons (by repeat first | exact .head | apply Rem.tail) (.cons (by repeat first | exact .head | apply Rem.tail) .nil))) (by repeat first | exact .refl | apply Drop.skip))) ?_
      ·
        exact ⟨by omega, fun m h1 h2 => by omega⟩
      intro k
      rintro ⟨hk, hno⟩
      have hcc := hCb ((k : Int) + 1).toNat
      have hc1 := hCb (Int.toNat 1)
      have hlb := HuffP.left_bound (fun i => (hCb i).1) hk
      have hl0 := HuffP.left_nn hno
      refine w_seq ?_
      refine w_seq ?_
      refine w_region ?_
      refine o_val (v_move rfl) rfl ?_
      refine o_val (v_leq rfl rfl) rfl ?_
      refine o_nil ?_
      refine thn_n ?_
      first | refine w_condD rfl (fun h72 => ?_) (fun h72 => ?_) | refine w_cond rfl (fun h72 => ?_) (fun h72 => ?_)
      ·
        refine w_skip ?_
        refine thn_n ?_
        refine w_seq ?_
        refine w_block ?_
        refine w_seq ?_
        refine w_region ?_
        refine o_val (v_move rfl) rfl ?_
        refine o_val (v_mul rfl rfl (wrapI (by omega) (by omega))) rfl ?_
        refine o_val (v_move rfl) rfl ?_
        refine o_val (v_move rfl) rfl ?_
        refine o_val (v_nil rfl) rfl ?_
        refine o_val (v_fieldAddr V.f286_0 rfl) rfl ?_
        refine o_val (v_indexA (k + 1) rfl V.ar284 rfl rfl (by omega)) rfl ?_
        refine o_val (a_load ((k : Int) + 1) V.s3 rfl (by repeat first | exact .head _ | apply List.Mem.tail) (by first | (simp only [List.length_cons, List.length_nil]; omega) | omega) (by omega) (by first | omega | (simp only [List.length_set]; omega))) rfl ?_
        refine o_val (v_sub rfl rfl (wrapI (by omega) (by omega))) rfl ?_
        refine o_val (v_assign rfl) rfl ?_
        refine o_nil ?_
        refine thn_n ?_
        refine w_seq ?_
        refine w_region ?_
        refine o_val (v_move rfl) rfl ?_
        refine o_val (v_lss rfl rfl) rfl ?_
        refine o_nil ?_
        refine thn_n ?_
        first | refine w_condD rfl (fun h85 => ?_) (fun h85 => ?_) | refine w_cond rfl (fun h85 => ?_) (fun h85 => ?_)
        ·
          refine w_seq ?_
          refine w_region ?_
          refine o_val (v_assign rfl) rfl ?_
          refine o_val (v_assign rfl) rfl ?_
          refine o_nil ?_
          refine thn_n ?_
          refine w_ret ?_
          refine (blk_r (thn_r (thn_r (blk_r (thn_r ?_)))))
          have hE : HuffP.newE ls = 4 := by rw [hE0, HuffP.whole_no (n := k + 1) (by omega) (by omega) (by rw [← HuffP.left_next]; exact h85)]; rfl
          exact ret_ok (G := [R]) (res2 rfl rfl) (.inr ⟨by rw [hE]; decide, by rw [hE], rfl⟩) (sub (.cons (by repeat first | exact .head | apply Rem.tail) .nil) (by repeat first | exact .refl | apply Drop.skip))
        ·
          refine w_skip ?_
          refine blk_n ?_
          refine thn_n ?_
          refine w_region ?_
          refine o_val (v_move rfl) rfl ?_
          refine o_val (v_add rfl rfl (wrapI (by omega) (by omega))) rfl ?_
          refine o_val (v_assign rfl) rfl ?_
          refine o_nil ?_
          have hno2 := HuffP.left_more hno h85
          rw [HuffP.left_next]
          exact j1 (k + 1) ⟨⟨by omega, hno2⟩, by omega⟩ (.cons rfl (.cons rfl (.cons rfl (.cons rfl (.cons rfl (.nil _)))))) (sub (.cons (by repeat first | exact .head | apply Rem.tail) (.cons (by repeat first | exact .head | apply Rem.tail) (.cons (by repeat first | exact .head | apply Rem.tail) .nil))) (by repeat first | exact .refl | apply Drop.skip))
      ·
        refine w_exit ?_
        refine thn_e ?_
        refine thn_e ?_
        refine blk_x ?_
        refine thn_n ?_
        refine w_seq ?_
        refine w_seq ?_
        refine w_region ?_
        refine o_val (v_move rfl) rfl ?_
        refine o_val (v_gtr rfl rfl) rfl ?_
        refine o_val (v_move rfl) rfl ?_
        first | refine o_boolD 88 rfl (fun h88 => ?_) (fun h88 => ?_) | refine o_bool 88 rfl (fun h88 => ?_) (fun h88 => ?_)
        ·
          refine o_want rfl ?_
          refine o_val (v_move rfl) rfl ?_
          refine o_want rfl ?_
          refine o_val (v_eql rfl rfl) rfl ?_
          refine o_want rfl ?_
          refine o_val (v_move rfl) rfl ?_
          first | refine o_boolD 91 rfl (fun h91 => ?_) (fun h91 => ?_) | refine o_bool 91 rfl (fun h91 => ?_) (fun h91 => ?_)
          ·
            refine o_pass rfl rfl rfl ?_
            refine o_pass rfl rfl rfl ?_
            refine o_pass rfl rfl rfl ?_
            refine o_passU rfl rfl rfl rfl ?_
            refine o_passU rfl rfl rfl rfl ?_
            refine o_passU rfl rfl rfl rfl ?_
            refine o_passU rfl rfl rfl rfl ?_
            refine o_passU rfl rfl rfl rfl ?_
            refine o_passU rfl rfl rfl rfl ?_
            refine o_pass rfl rfl rfl ?_
            refine o_want rfl ?_
            refine o_val (v_pickT rfl rfl) rfl ?_
            refine o_want rfl ?_
            refine o_val (v_to (v := .bool false) (v_not rfl) rfl) rfl ?_
            refine o_val (v_pickT rfl rfl) rfl ?_
            refine o_nil ?_
            refine thn_n ?_
            refine w_condF rfl ?_
            refine w_skip ?_
            refine thn_n ?_
            refine w_seq ?_
            refine w_seq ?_
            have hE : HuffP.newE ls = 0 := by rw [hE0, HuffP.whole_end hk h72 hno]; simp only [Bool.or_eq_true, Bool.and_eq_true, decide_eq_true_eq]; rw [if_pos (by omega)]
            refine w_region ?_
            refine o_val (v_assign rfl) rfl ?_
            refine o_nil ?_
            refine thn_n ?_
            refine w_block ?_
            refine w_add0 (Row I3 none 0 0 (HuffP.ordN ls 0)) (Row.nil _ _ _) ?_
            refine w_loop3 (fun (m : Nat) (ps : Option Addr) (cs : Nat) => [(0, .slice p ls.length cap), (4, .pointer (some ⟨b15, 0, none⟩)), (9, .int .i64 ((m : Int) + 1))]) (fun (m : Nat) (ps : Option Addr) (cs : Nat) => Cel b15 286 (CA [] .i64 (HuffP.cntL ls) [.slice ps (HuffP.ordN ls m).length cs, .slice pl ls.length cl]) :: Row I3 ps (HuffP.ordN ls m).length cs (HuffP.ordN ls m) :: Row I3 pl ls.length cl ls :: R :: F) (fun (m : Nat) (ps : Option Addr) (cs : Nat) => m ≤ 15) (fun (m : Nat) (ps : Option Addr) (cs : Nat) => 15 - m) (i3 (0) (none) (0) ?_ (.cons rfl (.cons rfl (.cons rfl (.nil _)))) (sub (.cons (by repeat first | exact .head | apply Rem.tail) (.cons (by repeat first | exact .head | apply Rem.tail) (.cons (by repeat first | exact .head | apply Rem.tail) (.cons (by repeat first | exact .head | apply Rem.tail) .nil)))) (by repeat first | exact .refl | apply Drop.skip))) ?_
            ·
              exact Nat.zero_le _
            intro m ps cs
            rintro hm
            refine w_seq ?_
            refine w_seq ?_
            refine w_region ?_
            refine o_val (v_move rfl) rfl ?_
            refine o_val (v_leq rfl rfl) rfl ?_
            refine o_nil ?_
            refine thn_n ?_
            first | refine w_condD rfl (fun h106 => ?_) (fun h106 => ?_) | refine w_cond rfl (fun h106 => ?_) (fun h106 => ?_)
            ·
              refine w_skip ?_
              refine thn_n ?_
              refine w_seq ?_
              refine w_block ?_
              refine w_seq ?_
              refine w_region ?_
              refine o_val (v_assign rfl) rfl ?_
              refine o_nil ?_
              refine thn_n ?_
              refine w_block ?_
              rw [← HuffP.sy_zero]
              refine w_loop3 (fun (i : Nat) (ps : Option Addr) (cs : Nat) => [(0, .slice p ls.length cap), (4, .pointer (some ⟨b15, 0, none⟩)), (9, .int .i64 ((m : Int) + 1)), (10, .int .i64 (i : Int))]) (fun (i : Nat) (ps : Option Addr) (cs : Nat) => Cel b15 286 (CA [] .i64 (HuffP.cntL ls) [.slice ps (HuffP.sy ls m i).length cs, .slice pl ls.length cl]) :: Row I3 ps (HuffP.sy ls m i).length cs (HuffP.sy ls m i) :: Row I3 pl ls.length cl ls :: R :: F) (fun (i : Nat) (ps : Option Addr) (cs : Nat) => i ≤ ls.length) (fun (i : Nat) (ps : Option Addr) (cs : Nat) => ls.length - i) (i3 (0) (_) (_) ?_ (.cons rfl (.cons rfl (.cons rfl (.cons rfl (.nil _))))) (sub (.cons (by repeat first | exact .head | apply Rem.tail) (.cons (by repeat first | exact .head | apply Rem.tail) (.cons (by repeat first | exact .head | apply Rem.tail) (.cons (by repeat first | exact .head | apply Rem.tail) .nil)))) (by repeat first | exact .refl | apply Drop.skip))) ?_
              ·
                exact Nat.zero_le _
              intro i ps cs
              rintro hi
              refine w_seq ?_
              refine w_seq ?_
              refine w_region ?_
              refine o_val (v_move rfl) rfl ?_
              refine o_val (v_move rfl) rfl ?_
              refine o_val (v_len (ty' := 0) Tryz.underlying78 rfl) rfl ?_
              refine o_val (v_lss rfl rfl) rfl ?_
              refine o_nil ?_
              refine thn_n ?_
              first | refine w_condD rfl (fun h112 => ?_) (fun h112 => ?_) | refine w_cond rfl (fun h112 => ?_) (fun h112 => ?_)
              ·
                refine w_skip ?_
                refine thn_n ?_
                refine w_seq ?_
                refine w_block ?_
                refine w_seq ?_
                have hi2 : i < ls.length := by omega
                have hg : I3.g ls (i : Int) = ls.getD i 0 := by simp [Ec.g]
                have hg2 : ls.getD i 0 = ls[i] := by simp [hi2]
                have hsy := HuffP.sy_le (ls := ls) (m := m) (i := i) (by omega) (by omega)
                refine w_region ?_
                refine o_val (v_move rfl) rfl ?_
                refine o_val (v_move rfl) rfl ?_
                refine o_val (r_index (c := (I3)) V.sl78 rfl rfl (by first | exact own mm0 | exact own mm1 | exact own mm2 | exact own mm3 | exact own mm4 | exact own mm5 | exact own mm6 | exact own mm7 | exact own mm8 | exact own mm9 | exact own mm10 | exact own mm11 | exact rdH hR mm0 | exact rdH hR mm1 | exact rdH hR mm2 | exact rdH hR mm3 | exact rdH hR mm4 | exact rdH hR mm5 | exact rdH hR mm6 | exact rdH hR mm7 | exact rdH hR mm8 | exact rdH hR mm9 | exact rdH hR mm10 | exact rdH hR mm11) (by omega) (by omega)) rfl ?_
                refine o_val (r_load (c := (I3)) V.s3 rfl (by first | exact own mm0 | exact own mm1 | exact own mm2 | exact own mm3 | exact own mm4 | exact own mm5 | exact own mm6 | exact own mm7 | exact own mm8 | exact own mm9 | exact own mm10 | exact own mm11 | exact rdH hR mm0 | exact rdH hR mm1 | exact rdH hR mm2 | exact rdH hR mm3 | exact rdH hR mm4 | exact rdH hR mm5 | exact rdH hR mm6 | exact rdH hR mm7 | exact rdH hR mm8 | exact rdH hR mm9 | exact rdH hR mm10 | exact rdH hR mm11) (by omega) (by omega) rfl rfl) rfl ?_
                refine o_val (v_move rfl) rfl ?_
                refine o_val (v_eql rfl rfl) rfl ?_
                refine o_nil ?_
                refine thn_n ?_
                first | refine w_condD rfl (fun h120 => ?_) (fun h120 => ?_) | refine w_cond rfl (fun h120 => ?_) (fun h120 => ?_)
                ·
                  refine w_region ?_
                  refine o_val (v_move rfl) rfl ?_
                  refine o_val (v_move rfl) rfl ?_
                  refine o_val (v_nil rfl) rfl ?_
                  refine o_val (v_fieldAddr V.f286_1 rfl) rfl ?_
                  refine o_val (a_loadP (n := 16) 0 V.s78 rfl (by repeat first | exact .head _ | apply List.Mem.tail) (by first | omega | (simp only [List.length_set]; omega)) rfl rfl) rfl ?_
                  refine o_val (v_move rfl) rfl ?_
                  refine r_build (I3) [(i : Int)] V.sl78 V.z3 rfl rfl rfl rfl rfl rfl ?_
                  intro b127
                  refine r_append (c := (I3)) V.sl78 V.z3 rfl rfl rfl rfl (by repeat first | exact .head | apply Rem.tail) (by first | exact own mm0 | exact own mm1 | exact own mm2 | exact own mm3 | exact own mm4 | exact own mm5 | exact own mm6 | exact own mm7 | exact own mm8 | exact own mm9 | exact own mm10 | exact own mm11 | exact rdH hR mm0 | exact rdH hR mm1 | exact rdH hR mm2 | exact rdH hR mm3 | exact rdH hR mm4 | exact rdH hR mm5 | exact rdH hR mm6 | exact rdH hR mm7 | exact rdH hR mm8 | exact rdH hR mm9 | exact rdH hR mm10 | exact rdH hR mm11) (by omega) rfl ?_
                  intro p128 c128
                  refine o_val (v_nil rfl) rfl ?_
                  refine o_val (v_fieldAddr V.f286_1 rfl) rfl ?_
                  refine o_eff (a_storeP (n := 16) 0 V.s78 rfl rfl rfl (by repeat first | exact .head | apply Rep.tail) (by first | omega | (simp only [List.length_set]; omega)) rfl (by exact Nat.le_of_ble_eq_true rfl) rfl) ?_
                  refine o_nil ?_
                  refine blk_n ?_
                  refine thn_n ?_
                  refine w_region ?_
                  refine o_val (v_move rfl) rfl ?_
                  refine o_val (v_add rfl rfl (wrapI (by omega) (by omega))) rfl ?_
                  refine o_val (v_assign rfl) rfl ?_
                  refine o_nil ?_
                  first
                  | (rw [HuffP.sy_no hi2 (hg.trans hg2) (by omega)]; exact j3 (i + 1) _ _ ⟨by omega, by omega⟩ (.cons rfl (.cons rfl (.cons rfl (.cons rfl (.nil _))))) (sub (.cons (by repeat first | exact .head | apply Rem.tail) (.cons (by repeat first | exact .head | apply Rem.tail) (.cons (by repeat first | exact .head | apply Rem.tail) (.cons (by repeat first | exact .head | apply Rem.tail) .nil)))) (by repeat first | exact .refl | apply Drop.skip)))
                  | (rw [HuffP.sy_yes hi2 (hg.trans hg2) (by omega), HuffP.sy_len hi2 (hg.trans hg2) (by omega)]; exact j3 (i + 1) _ _ ⟨by omega, by omega⟩ (.cons rfl (.cons rfl (.cons rfl (.cons rfl (.nil _))))) (sub (.cons (by repeat first | exact .head | apply Rem.tail) (.cons (by repeat first | exact .head | apply Rem.tail) (.cons (by repeat first | exact .head | apply Rem.tail) (.cons (by repeat first | exact .head | apply Rem.tail) .nil)))) (by repeat first | exact .refl | apply Drop.skip)))
                ·
                  refine w_skip ?_
                  refine blk_n ?_
                  refine thn_n ?_
                  refine w_region ?_
                  refine o_val (v_move rfl) rfl ?_
                  refine o_val (v_add rfl rfl (wrapI (by omega) (by omega))) rfl ?_
                  refine o_val (v_assign rfl) rfl ?_
                  refine o_nil ?_
                  first
                  | (rw [HuffP.sy_no hi2 (hg.trans hg2) (by omega)]; exact j3 (i + 1) _ _ ⟨by omega, by omega⟩ (.cons rfl (.cons rfl (.cons rfl (.cons rfl (.nil _))))) (sub (.cons (by repeat first | exact .head | apply Rem.tail) (.cons (by repeat first | exact .head | apply Rem.tail) (.cons (by repeat first | exact .head | apply Rem.tail) (.cons (by repeat first | exact .head | apply Rem.tail) .nil)))) (by repeat first | exact .refl | apply Drop.skip)))
                  | (rw [HuffP.sy_yes hi2 (hg.trans hg2) (by omega), HuffP.sy_len hi2 (hg.trans hg2) (by omega)]; exact j3 (i + 1) _ _ ⟨by omega, by omega⟩ (.cons rfl (.cons rfl (.cons rfl (.cons rfl (.nil _))))) (sub (.cons (by repeat first | exact .head | apply Rem.tail) (.cons (by repeat first | exact .head | apply Rem.tail) (.cons (by repeat first | exact .head | apply Rem.tail) (.cons (by repeat first | exact .head | apply Rem.tail) .nil)))) (by repeat first | exact .refl | apply Drop.skip)))
              ·
                refine w_exit ?_
                refine thn_e ?_
                refine thn_e ?_
                refine blk_x ?_
                refine blk_n ?_
                refine thn_n ?_
                refine w_region ?_
                refine o_val (v_move rfl) rfl ?_
                refine o_val (v_add rfl rfl (wrapI (by omega) (by omega))) rfl ?_
                refine o_val (v_assign rfl) rfl ?_
                refine o_nil ?_
                rw [HuffP.sy_all (by omega)]
                refine j3 (m + 1) (_) (_) ?_ (.cons rfl (.cons rfl (.cons rfl (.nil _)))) (sub (.cons (by repeat first | exact .head | apply Rem.tail) (.cons (by repeat first | exact .head | apply Rem.tail) (.cons (by repeat first | exact .head | apply Rem.tail) (.cons (by repeat first | exact .head | apply Rem.tail) .nil)))) (by repeat first | exact .refl | apply Drop.skip))
                exact ⟨by omega, by omega⟩
            ·
              refine w_exit ?_
              refine thn_e ?_
              refine thn_e ?_
              refine blk_x ?_
              refine thn_n ?_
              refine w_seq ?_
              refine w_region ?_
              refine o_val (v_move rfl) rfl ?_
              refine o_val (v_assign rfl) rfl ?_
              refine o_val (v_assign rfl) rfl ?_
              refine o_nil ?_
              refine thn_n ?_
              refine w_ret ?_
              have hm15 : m = 15 := by omega
              subst hm15
              rw [HuffP.ord15]
              exact ret_ok (G := [RC b15 ls, R]) (res2 rfl rfl) (.inl ⟨hE, b15, rfl, rfl⟩) ((fold' (.cons (by repeat first | exact .head | apply Rem.tail) (.cons (by repeat first | exact .head | apply Rem.tail) (.cons (by repeat first | exact .head | apply Rem.tail) .nil))) (by repeat first | exact .refl | apply Drop.skip) (fun w0 h hh => rc_close hh)).trans (sub (.cons (by repeat first | exact .head | apply Rem.tail) (.cons (by repeat first | exact .head | apply Rem.tail) .nil)) (by repeat first | exact .refl | apply Drop.skip)))
          ·
            refine o_want rfl ?_
            refine o_val (v_move rfl) rfl ?_
            refine o_want rfl ?_
            refine o_val (v_eql rfl rfl) rfl ?_
            refine o_want rfl ?_
            refine o_val (v_move rfl) rfl ?_
            first | refine o_boolD 94 rfl (fun h94 => ?_) (fun h94 => ?_) | refine o_bool 94 rfl (fun h94 => ?_) (fun h94 => ?_)
            ·
              refine o_want rfl ?_
              refine o_val (v_move rfl) rfl ?_
              refine o_want rfl ?_
              refine o_val (v_nil rfl) rfl ?_
              refine o_want rfl ?_
              refine o_val (v_fieldAddr V.f286_0 rfl) rfl ?_
              refine o_want rfl ?_
              refine o_val (v_indexA 1 rfl V.ar284 rfl rfl (by omega)) rfl ?_
              refine o_want rfl ?_
              refine o_val (a_load (1 : Int) V.s3 rfl (by repeat first | exact .head _ | apply List.Mem.tail) (by first | (simp only [List.length_cons, List.length_nil]; omega) | omega) (by omega) (by first | omega | (simp only [List.length_set]; omega))) rfl ?_
              refine o_want rfl ?_
              refine o_val (v_eql rfl rfl) rfl ?_
              refine o_want rfl ?_
              refine o_val (v_pickT rfl rfl) rfl ?_
              refine o_want rfl ?_
              refine o_val (v_pickF rfl rfl) rfl ?_
              refine o_want rfl ?_
              refine o_val (v_notD rfl) rfl ?_
              refine o_val (v_pickT rfl rfl) rfl ?_
              refine o_nil ?_
              refine thn_n ?_
              first | refine w_condD rfl (fun h104 => ?_) (fun h104 => ?_) | refine w_cond rfl (fun h104 => ?_) (fun h104 => ?_)
              ·
                refine w_seq ?_
                refine w_region ?_
                refine o_val (v_assign rfl) rfl ?_
                refine o_val (v_assign rfl) rfl ?_
                refine o_nil ?_
                refine thn_n ?_
                refine w_ret ?_
                refine (thn_r ?_)
                have hE : HuffP.newE ls = 4 := by rw [hE0, HuffP.whole_end hk h72 hno]; simp only [Bool.or_eq_true, Bool.and_eq_true, decide_eq_true_eq]; rw [if_neg (by omega)]
                exact ret_ok (G := [R]) (res2 rfl rfl) (.inr ⟨by rw [hE]; decide, by rw [hE], rfl⟩) (sub (.cons (by repeat first | exact .head | apply Rem.tail) .nil) (by repeat first | exact .refl | apply Drop.skip))
              ·
                refine w_skip ?_
                refine thn_n ?_
                refine w_seq ?_
                refine w_seq ?_
                have hE : HuffP.newE ls = 0 := by rw [hE0, HuffP.whole_end hk h72 hno]; simp only [Bool.or_eq_true, Bool.and_eq_true, decide_eq_true_eq]; rw [if_pos (by omega)]
                refine w_region ?_
                refine o_val (v_assign rfl) rfl ?_
                refine o_nil ?_
                refine thn_n ?_
                refine w_block ?_
                refine w_add0 (Row I3 none 0 0 (HuffP.ordN ls 0)) (Row.nil _ _ _) ?_
                refine w_loop3 (fun (m : Nat) (ps : Option Addr) (cs : Nat) => [(0, .slice p ls.length cap), (4, .pointer (some ⟨b15, 0, none⟩)), (9, .int .i64 ((m : Int) + 1))]) (fun (m : Nat) (ps : Option Addr) (cs : Nat) => Cel b15 286 (CA [] .i64 (HuffP.cntL ls) [.slice ps (HuffP.ordN ls m).length cs, .slice pl ls.length cl]) :: Row I3 ps (HuffP.ordN ls m).length cs (HuffP.ordN ls m) :: Row I3 pl ls.length cl ls :: R :: F) (fun (m : Nat) (ps : Option Addr) (cs : Nat) => m ≤ 15) (fun (m : Nat) (ps : Option Addr) (cs : Nat) => 15 - m) (i3 (0) (none) (0) ?_ (.cons rfl (.cons rfl (.cons rfl (.nil _)))) (sub (.cons (by repeat first | exact .head | apply Rem.tail) (.cons (by repeat first | exact .head | apply Rem.tail) (.cons (by repeat first | exact .head | apply Rem.tail) (.cons (by repeat first | exact .head | apply Rem.tail) .nil)))) (by repeat first | exact .refl | apply Drop.skip))) ?_
                ·
                  exact Nat.zero_le _
                intro m ps cs
                rintro hm
                refine w_seq ?_
                refine w_seq ?_
                refine w_region ?_
                refine o_val (v_move rfl) rfl ?_
                refine o_val (v_leq rfl rfl) rfl ?_
                refine o_nil ?_
                refine thn_n ?_
                first | refine w_condD rfl (fun h106 => ?_) (fun h106 => ?_) | refine w_cond rfl (fun h106 => ?_) (fun h106 => ?_)
                ·
                  refine w_skip ?_
                  refine thn_n ?_
                  refine w_seq ?_
                  refine w_block ?_
                  refine w_seq ?_
                  refine w_region ?_
                  refine o_val (v_assign rfl) rfl ?_
                  refine o_nil ?_
                  refine thn_n ?_
                  refine w_block ?_
                  rw [← HuffP.sy_zero]
                  refine w_loop3 (fun (i : Nat) (ps : Option Addr) (cs : Nat) => [(0, .slice p ls.length cap), (4, .pointer (some ⟨b15, 0, none⟩)), (9, .int .i64 ((m : Int) + 1)), (10, .int .i64 (i : Int))]) (fun (i : Nat) (ps : Option Addr) (cs : Nat) => Cel b15 286 (CA [] .i64 (HuffP.cntL ls) [.slice ps (HuffP.sy ls m i).length cs, .slice pl ls.length cl]) :: Row I3 ps (HuffP.sy ls m i).length cs (HuffP.sy ls m i) :: Row I3 pl ls.length cl ls :: R :: F) (fun (i : Nat) (ps : Option Addr) (cs : Nat) => i ≤ ls.length) (fun (i : Nat) (ps : Option Addr) (cs : Nat) => ls.length - i) (i3 (0) (_) (_) ?_ (.cons rfl (.cons rfl (.cons rfl (.cons rfl (.nil _))))) (sub (.cons (by repeat first | exact .head | apply Rem.tail) (.cons (by repeat first | exact .head | apply Rem.tail) (.cons (by repeat first | exact .head | apply Rem.tail) (.cons (by repeat first | exact .head | apply Rem.tail) .nil)))) (by repeat first | exact .refl | apply Drop.skip))) ?_
                  ·
                    exact Nat.zero_le _
                  intro i ps cs
                  rintro hi
                  refine w_seq ?_
                  refine w_seq ?_
                  refine w_region ?_
                  refine o_val (v_move rfl) rfl ?_
                  refine o_val (v_move rfl) rfl ?_
                  refine o_val (v_len (ty' := 0) Tryz.underlying78 rfl) rfl ?_
                  refine o_val (v_lss rfl rfl) rfl ?_
                  refine o_nil ?_
                  refine thn_n ?_
                  first | refine w_condD rfl (fun h112 => ?_) (fun h112 => ?_) | refine w_cond rfl (fun h112 => ?_) (fun h112 => ?_)
                  ·
                    refine w_skip ?_
                    refine thn_n ?_
                    refine w_seq ?_
                    refine w_block ?_
                    refine w_seq ?_
                    have hi2 : i < ls.length := by omega
                    have hg : I3.g ls (i : Int) = ls.getD i 0 := by simp [Ec.g]
                    have hg2 : ls.getD i 0 = ls[i] := by simp [hi2]
                    have hsy := HuffP.sy_le (ls := ls) (m := m) (i := i) (by omega) (by omega)
                    refine w_region ?_
                    refine o_val (v_move rfl) rfl ?_
                    refine o_val (v_move rfl) rfl ?_
                    refine o_val (r_index (c := (I3)) V.sl78 rfl rfl (by first | exact own mm0 | exact own mm1 | exact own mm2 | exact own mm3 | exact own mm4 | exact own mm5 | exact own mm6 | exact own mm7 | exact own mm8 | exact own mm9 | exact own mm10 | exact own mm11 | exact rdH hR mm0 | exact rdH hR mm1 | exact rdH hR mm2 | exact rdH hR mm3 | exact rdH hR mm4 | exact rdH hR mm5 | exact rdH hR mm6 | exact rdH hR mm7 | exact rdH hR mm8 | exact rdH hR mm9 | exact rdH hR mm10 | exact rdH hR mm11) (by omega) (by omega)) rfl ?_
                    refine o_val (r_load (c := (I3)) V.s3 rfl (by first | exact own mm0 | exact own mm1 | exact own mm2 | exact own mm3 | exact own mm4 | exact own mm5 | exact own mm6 | exact own mm7 | exact own mm8 | exact own mm9 | exact own mm10 | exact own mm11 | exact rdH hR mm0 | exact rdH hR mm1 | exact rdH hR mm2 | exact rdH hR mm3 | exact rdH hR mm4 | exact rdH hR mm5 | exact rdH hR mm6 | exact rdH hR mm7 | exact rdH hR mm8 | exact rdH hR mm9 | exact rdH hR mm10 | exact rdH hR mm11) (by omega) (by omega) rfl rfl) rfl ?_
                    refine o_val (v_move rfl) rfl ?_
                    refine o_val (v_eql rfl rfl) rfl ?_
                    refine o_nil ?_
                    refine thn_n ?_
                    first | refine w_condD rfl (fun h120 => ?_) (fun h120 => ?_) | refine w_cond rfl (fun h120 => ?_) (fun h120 => ?_)
                    ·
                      refine w_region ?_
                      refine o_val (v_move rfl) rfl ?_
                      refine o_val (v_move rfl) rfl ?_
                      refine o_val (v_nil rfl) rfl ?_
                      refine o_val (v_fieldAddr V.f286_1 rfl) rfl ?_
                      refine o_val (a_loadP (n := 16) 0 V.s78 rfl (by repeat first | exact .head _ | apply List.Mem.tail) (by first | omega | (simp only [List.length_set]; omega)) rfl rfl) rfl ?_
                      refine o_val (v_move rfl) rfl ?_
                      refine r_build (I3) [(i : Int)] V.sl78 V.z3 rfl rfl rfl rfl rfl rfl ?_
                      intro b127
                      refine r_append (c := (I3)) V.sl78 V.z3 rfl rfl rfl rfl (by repeat first | exact .head | apply Rem.tail) (by first | exact own mm0 | exact own mm1 | exact own mm2 | exact own mm3 | exact own mm4 | exact own mm5 | exact own mm6 | exact own mm7 | exact own mm8 | exact own mm9 | exact own mm10 | exact own mm11 | exact rdH hR mm0 | exact rdH hR mm1 | exact rdH hR mm2 | exact rdH hR mm3 | exact rdH hR mm4 | exact rdH hR mm5 | exact rdH hR mm6 | exact rdH hR mm7 | exact rdH hR mm8 | exact rdH hR mm9 | exact rdH hR mm10 | exact rdH hR mm11) (by omega) rfl ?_
                      intro p128 c128
                      refine o_val (v_nil rfl) rfl ?_
                      refine o_val (v_fieldAddr V.f286_1 rfl) rfl ?_
                      refine o_eff (a_storeP (n := 16) 0 V.s78 rfl rfl rfl (by repeat first | exact .head | apply Rep.tail) (by first | omega | (simp only [List.length_set]; omega)) rfl (by exact Nat.le_of_ble_eq_true rfl) rfl) ?_
                      refine o_nil ?_
                      refine blk_n ?_
                      refine thn_n ?_
                      refine w_region ?_
                      refine o_val (v_move rfl) rfl ?_
                      refine o_val (v_add rfl rfl (wrapI (by omega) (by omega))) rfl ?_
                      refine o_val (v_assign rfl) rfl ?_
                      refine o_nil ?_
                      first
                      | (rw [HuffP.sy_no hi2 (hg.trans hg2) (by omega)]; exact j3 (i + 1) _ _ ⟨by omega, by omega⟩ (.cons rfl (.cons rfl (.cons rfl (.cons rfl (.nil _))))) (sub (.cons (by repeat first | exact .head | apply Rem.tail) (.cons (by repeat first | exact .head | apply Rem.tail) (.cons (by repeat first | exact .head | apply Rem.tail) (.cons (by repeat first | exact .head | apply Rem.tail) .nil)))) (by repeat first | exact .refl | apply Drop.skip)))
                      | (rw [HuffP.sy_yes hi2 (hg.trans hg2) (by omega), HuffP.sy_len hi2 (hg.trans hg2) (by omega)]; exact j3 (i + 1) _ _ ⟨by omega, by omega⟩ (.cons rfl (.cons rfl (.cons rfl (.cons rfl (.nil _))))) (sub (.cons (by repeat first | exact .head | apply Rem.tail) (.cons (by repeat first | exact .head | apply Rem.tail) (.cons (by repeat first | exact .head | apply Rem.tail) (.cons (by repeat first | exact .head | apply Rem.tail) .nil)))) (by repeat first | exact .refl | apply Drop.skip)))
                    ·
                      refine w_skip ?_
                      refine blk_n ?_
                      refine thn_n ?_
                      refine w_region ?_
                      refine o_val (v_move rfl) rfl ?_
                      refine o_val (v_add rfl rfl (wrapI (by omega) (by omega))) rfl ?_
                      refine o_val (v_assign rfl) rfl ?_
                      refine o_nil ?_
                      first
                      | (rw [HuffP.sy_no hi2 (hg.trans hg2) (by omega)]; exact j3 (i + 1) _ _ ⟨by omega, by omega⟩ (.cons rfl (.cons rfl (.cons rfl (.cons rfl (.nil _))))) (sub (.cons (by repeat first | exact .head | apply Rem.tail) (.cons (by repeat first | exact .head | apply Rem.tail) (.cons (by repeat first | exact .head | apply Rem.tail) (.cons (by repeat first | exact .head | apply Rem.tail) .nil)))) (by repeat first | exact .refl | apply Drop.skip)))
                      | (rw [HuffP.sy_yes hi2 (hg.trans hg2) (by omega), HuffP.sy_len hi2 (hg.trans hg2) (by omega)]; exact j3 (i + 1) _ _ ⟨by omega, by omega⟩ (.cons rfl (.cons rfl (.cons rfl (.cons rfl (.nil _))))) (sub (.cons (by repeat first | exact .head | apply Rem.tail) (.cons (by repeat first | exact .head | apply Rem.tail) (.cons (by repeat first | exact .head | apply Rem.tail) (.cons (by repeat first | exact .head | apply Rem.tail) .nil)))) (by repeat first | exact .refl | apply Drop.skip)))
                  ·
                    refine w_exit ?_
                    refine thn_e ?_
                    refine thn_e ?_
                    refine blk_x ?_
                    refine blk_n ?_
                    refine thn_n ?_
                    refine w_region ?_
                    refine o_val (v_move rfl) rfl ?_
                    refine o_val (v_add rfl rfl (wrapI (by omega) (by omega))) rfl ?_
                    refine o_val (v_assign rfl) rfl ?_
                    refine o_nil ?_
                    rw [HuffP.sy_all (by omega)]
                    refine j3 (m + 1) (_) (_) ?_ (.cons rfl (.cons rfl (.cons rfl (.nil _)))) (sub (.cons (by repeat first | exact .head | apply Rem.tail) (.cons (by repeat first | exact .head | apply Rem.tail) (.cons (by repeat first | exact .head | apply Rem.tail) (.cons (by repeat first | exact .head | apply Rem.tail) .nil)))) (by repeat first | exact .refl | apply Drop.skip))
                    exact ⟨by omega, by omega⟩
                ·
                  refine w_exit ?_
                  refine thn_e ?_
                  refine thn_e ?_
                  refine blk_x ?_
                  refine thn_n ?_
                  refine w_seq ?_
                  refine w_region ?_
                  refine o_val (v_move rfl) rfl ?_
                  refine o_val (v_assign rfl) rfl ?_
                  refine o_val (v_assign rfl) rfl ?_
                  refine o_nil ?_
                  refine thn_n ?_
                  refine w_ret ?_
                  have hm15 : m = 15 := by omega
                  subst hm15
                  rw [HuffP.ord15]
                  exact ret_ok (G := [RC b15 ls, R]) (res2 rfl rfl) (.inl ⟨hE, b15, rfl, rfl⟩) ((fold' (.cons (by repeat first | exact .head | apply Rem.tail) (.cons (by repeat first | exact .head | apply Rem.tail) (.cons (by repeat first | exact .head | apply Rem.tail) .nil))) (by repeat first | exact .refl | apply Drop.skip) (fun w0 h hh => rc_close hh)).trans (sub (.cons (by repeat first | exact .head | apply Rem.tail) (.cons (by repeat first | exact .head | apply Rem.tail) .nil)) (by repeat first | exact .refl | apply Drop.skip)))
            ·
              refine o_pass rfl rfl rfl ?_
              refine o_pass rfl rfl rfl ?_
              refine o_pass rfl rfl rfl ?_
              refine o_pass rfl rfl rfl ?_
              refine o_pass rfl rfl rfl ?_
              refine o_pass rfl rfl rfl ?_
              refine o_want rfl ?_
              refine o_val (v_pickF rfl rfl) rfl ?_
              refine o_want rfl ?_
              refine o_val (v_pickF rfl rfl) rfl ?_
              refine o_want rfl ?_
              refine o_val (v_to (v := .bool true) (v_not rfl) rfl) rfl ?_
              refine o_val (v_pickT rfl rfl) rfl ?_
              refine o_nil ?_
              refine thn_n ?_
              refine w_condT rfl ?_
              refine w_seq ?_
              refine w_region ?_
              refine o_val (v_assign rfl) rfl ?_
              refine o_val (v_assign rfl) rfl ?_
              refine o_nil ?_
              refine thn_n ?_
              refine w_ret ?_
              refine (thn_r ?_)
              have hE : HuffP.newE ls = 4 := by rw [hE0, HuffP.whole_end hk h72 hno]; simp only [Bool.or_eq_true, Bool.and_eq_true, decide_eq_true_eq]; rw [if_neg (by omega)]
              exact ret_ok (G := [R]) (res2 rfl rfl) (.inr ⟨by rw [hE]; decide, by rw [hE], rfl⟩) (sub (.cons (by repeat first | exact .head | apply Rem.tail) .nil) (by repeat first | exact .refl | apply Drop.skip))
        ·
          refine o_pass rfl rfl rfl ?_
          refine o_pass rfl rfl rfl ?_
          refine o_pass rfl rfl rfl ?_
          refine o_passU rfl rfl rfl rfl ?_
          refine o_passU rfl rfl rfl rfl ?_
          refine o_passU rfl rfl rfl rfl ?_
          refine o_passU rfl rfl rfl rfl ?_
          refine o_passU rfl rfl rfl rfl ?_
          refine o_passU rfl rfl rfl rfl ?_
          refine o_passU rfl rfl rfl rfl ?_
          refine o_passU rfl rfl rfl rfl ?_
          refine o_passU rfl rfl rfl rfl ?_
          refine o_passU rfl rfl rfl rfl ?_
          refine o_pass rfl rfl rfl ?_
          refine o_pass rfl rfl rfl ?_
          refine o_val (v_pickF rfl rfl) rfl ?_
          refine o_nil ?_
          refine thn_n ?_
          refine w_condF rfl ?_
          refine w_skip ?_
          refine thn_n ?_
          refine w_seq ?_
          refine w_seq ?_
          have hE : HuffP.newE ls = 0 := by rw [hE0, HuffP.whole_end hk h72 hno]; simp only [Bool.or_eq_true, Bool.and_eq_true, decide_eq_true_eq]; rw [if_pos (by omega)]
          refine w_region ?_
          refine o_val (v_assign rfl) rfl ?_
          refine o_nil ?_
          refine thn_n ?_
          refine w_block ?_
          refine w_add0 (Row I3 none 0 0 (HuffP.ordN ls 0)) (Row.nil _ _ _) ?_
          refine w_loop3 (fun (m : Nat) (ps : Option Addr) (cs : Nat) => [(0, .slice p ls.length cap), (4, .pointer (some ⟨b15, 0, none⟩)), (9, .int .i64 ((m : Int) + 1))]) (fun (m : Nat) (ps : Option Addr) (cs : Nat) => Cel b15 286 (CA [] .i64 (HuffP.cntL ls) [.slice ps (HuffP.ordN ls m).length cs, .slice pl ls.length cl]) :: Row I3 ps (HuffP.ordN ls m).length cs (HuffP.ordN ls m) :: Row I3 pl ls.length cl ls :: R :: F) (fun (m : Nat) (ps : Option Addr) (cs : Nat) => m ≤ 15) (fun (m : Nat) (ps : Option Addr) (cs : Nat) => 15 - m) (i3 (0) (none) (0) ?_ (.cons rfl (.cons rfl (.cons rfl (.nil _)))) (sub (.cons (by repeat first | exact .head | apply Rem.tail) (.cons (by repeat first | exact .head | apply Rem.tail) (.cons (by repeat first | exact .head | apply Rem.tail) (.cons (by repeat first | exact .head | apply Rem.tail) .nil)))) (by repeat first | exact .refl | apply Drop.skip))) ?_
          ·
            exact Nat.zero_le _
          intro m ps cs
          rintro hm
          refine w_seq ?_
          refine w_seq ?_
          refine w_region ?_
          refine o_val (v_move rfl) rfl ?_
          refine o_val (v_leq rfl rfl) rfl ?_
          refine o_nil ?_
          refine thn_n ?_
          first | refine w_condD rfl (fun h106 => ?_) (fun h106 => ?_) | refine w_cond rfl (fun h106 => ?_) (fun h106 => ?_)
          ·
            refine w_skip ?_
            refine thn_n ?_
            refine w_seq ?_
            refine w_block ?_
            refine w_seq ?_
            refine w_region ?_
            refine o_val (v_assign rfl) rfl ?_
            refine o_nil ?_
            refine thn_n ?_
            refine w_block ?_
            rw [← HuffP.sy_zero]
            refine w_loop3 (fun (i : Nat) (ps : Option Addr) (cs : Nat) => [(0, .slice p ls.length cap), (4, .pointer (some ⟨b15, 0, none⟩)), (9, .int .i64 ((m : Int) + 1)), (10, .int .i64 (i : Int))]) (fun (i : Nat) (ps : Option Addr) (cs : Nat) => Cel b15 286 (CA [] .i64 (HuffP.cntL ls) [.slice ps (HuffP.sy ls m i).length cs, .slice pl ls.length cl]) :: Row I3 ps (HuffP.sy ls m i).length cs (HuffP.sy ls m i) :: Row I3 pl ls.length cl ls :: R :: F) (fun (i : Nat) (ps : Option Addr) (cs : Nat) => i ≤ ls.length) (fun (i : Nat) (ps : Option Addr) (cs : Nat) => ls.length - i) (i3 (0) (_) (_) ?_ (.cons rfl (.cons rfl (.cons rfl (.cons rfl (.nil _))))) (sub (.cons (by repeat first | exact .head | apply Rem.tail) (.cons (by repeat first | exact .head | apply Rem.tail) (.cons (by repeat first | exact .head | apply Rem.tail) (.cons (by repeat first | exact .head | apply Rem.tail) .nil)))) (by repeat first | exact .refl | apply Drop.skip))) ?_
            ·
              exact Nat.zero_le _
            intro i ps cs
            rintro hi
            refine w_seq ?_
            refine w_seq ?_
            refine w_region ?_
            refine o_val (v_move rfl) rfl ?_
            refine o_val (v_move rfl) rfl ?_
            refine o_val (v_len (ty' := 0) Tryz.underlying78 rfl) rfl ?_
            refine o_val (v_lss rfl rfl) rfl ?_
            refine o_nil ?_
            refine thn_n ?_
            first | refine w_condD rfl (fun h112 => ?_) (fun h112 => ?_) | refine w_cond rfl (fun h112 => ?_) (fun h112 => ?_)
            ·
              refine w_skip ?_
              refine thn_n ?_
              refine w_seq ?_
              refine w_block ?_
              refine w_seq ?_
              have hi2 : i < ls.length := by omega
              have hg : I3.g ls (i : Int) = ls.getD i 0 := by simp [Ec.g]
              have hg2 : ls.getD i 0 = ls[i] := by simp [hi2]
              have hsy := HuffP.sy_le (ls := ls) (m := m) (i := i) (by omega) (by omega)
              refine w_region ?_
              refine o_val (v_move rfl) rfl ?_
              refine o_val (v_move rfl) rfl ?_
              refine o_val (r_index (c := (I3)) V.sl78 rfl rfl (by first | exact own mm0 | exact own mm1 | exact own mm2 | exact own mm3 | exact own mm4 | exact own mm5 | exact own mm6 | exact own mm7 | exact own mm8 | exact own mm9 | exact own mm10 | exact own mm11 | exact rdH hR mm0 | exact rdH hR mm1 | exact rdH hR mm2 | exact rdH hR mm3 | exact rdH hR mm4 | exact rdH hR mm5 | exact rdH hR mm6 | exact rdH hR mm7 | exact rdH hR mm8 | exact rdH hR mm9 | exact rdH hR mm10 | exact rdH hR mm11) (by omega) (by omega)) rfl ?_
              refine o_val (r_load (c := (I3)) V.s3 rfl (by first | exact own mm0 | exact own mm1 | exact own mm2 | exact own mm3 | exact own mm4 | exact own mm5 | exact own mm6 | exact own mm7 | exact own mm8 | exact own mm9 | exact own mm10 | exact own mm11 | exact rdH hR mm0 | exact rdH hR mm1 | exact rdH hR mm2 | exact rdH hR mm3 | exact rdH hR mm4 | exact rdH hR mm5 | exact rdH hR mm6 | exact rdH hR mm7 | exact rdH hR mm8 | exact rdH hR mm9 | exact rdH hR mm10 | exact rdH hR mm11) (by omega) (by omega) rfl rfl) rfl ?_
              refine o_val (v_move rfl) rfl ?_
              refine o_val (v_eql rfl rfl) rfl ?_
              refine o_nil ?_
              refine thn_n ?_
              first | refine w_condD rfl (fun h120 => ?_) (fun h120 => ?_) | refine w_cond rfl (fun h120 => ?_) (fun h120 => ?_)
              ·
                refine w_region ?_
                refine o_val (v_move rfl) rfl ?_
                refine o_val (v_move rfl) rfl ?_
                refine o_val (v_nil rfl) rfl ?_
                refine o_val (v_fieldAddr V.f286_1 rfl) rfl ?_
                refine o_val (a_loadP (n := 16) 0 V.s78 rfl (by repeat first | exact .head _ | apply List.Mem.tail) (by first | omega | (simp only [List.length_set]; omega)) rfl rfl) rfl ?_
                refine o_val (v_move rfl) rfl ?_
                refine r_build (I3) [(i : Int)] V.sl78 V.z3 rfl rfl rfl rfl rfl rfl ?_
                intro b127
                refine r_append (c := (I3)) V.sl78 V.z3 rfl rfl rfl rfl (by repeat first | exact .head | apply Rem.tail) (by first | exact own mm0 | exact own mm1 | exact own mm2 | exact own mm3 | exact own mm4 | exact own mm5 | exact own mm6 | exact own mm7 | exact own mm8 | exact own mm9 | exact own mm10 | exact own mm11 | exact rdH hR mm0 | exact rdH hR mm1 | exact rdH hR mm2 | exact rdH hR mm3 | exact rdH hR mm4 | exact rdH hR mm5 | exact rdH hR mm6 | exact rdH hR mm7 | exact rdH hR mm8 | exact rdH hR mm9 | exact rdH hR mm10 | exact rdH hR mm11) (by omega) rfl ?_
                intro p128 c128
                refine o_val (v_nil rfl) rfl ?_
                refine o_val (v_fieldAddr V.f286_1 rfl) rfl ?_
                refine o_eff (a_storeP (n := 16) 0 V.s78 rfl rfl rfl (by repeat first | exact .head | apply Rep.tail) (by first | omega | (simp only [List.length_set]; omega)) rfl (by exact Nat.le_of_ble_eq_true rfl) rfl) ?_
                refine o_nil ?_
                refine blk_n ?_
                refine thn_n ?_
                refine w_region ?_
                refine o_val (v_move rfl) rfl ?_
                refine o_val (v_add rfl rfl (wrapI (by omega) (by omega))) rfl ?_
                refine o_val (v_assign rfl) rfl ?_
                refine o_nil ?_
                first
                | (rw [HuffP.sy_no hi2 (hg.trans hg2) (by omega)]; exact j3 (i + 1) _ _ ⟨by omega, by omega⟩ (.cons rfl (.cons rfl (.cons rfl (.cons rfl (.nil _))))) (sub (.cons (by repeat first | exact .head | apply Rem.tail) (.cons (by repeat first | exact .head | apply Rem.tail) (.cons (by repeat first | exact .head | apply Rem.tail) (.cons (by repeat first | exact .head | apply Rem.tail) .nil)))) (by repeat first | exact .refl | apply Drop.skip)))
                | (rw [HuffP.sy_yes hi2 (hg.trans hg2) (by omega), HuffP.sy_len hi2 (hg.trans hg2) (by omega)]; exact j3 (i + 1) _ _ ⟨by omega, by omega⟩ (.cons rfl (.cons rfl (.cons rfl (.cons rfl (.nil _))))) (sub (.cons (by repeat first | exact .head | apply Rem.tail) (.cons (by repeat first | exact .head | apply Rem.tail) (.cons (by repeat first | exact .head | apply Rem.tail) (.cons (by repeat first | exact .head | apply Rem.tail) .nil)))) (by repeat first | exact .refl | apply Drop.skip)))
              ·
                refine w_skip ?_
                refine blk_n ?_
                refine thn_n ?_
                refine w_region ?_
                refine o_val (v_move rfl) rfl ?_
                refine o_val (v_add rfl rfl (wrapI (by omega) (by omega))) rfl ?_
                refine o_val (v_assign rfl) rfl ?_
                refine o_nil ?_
                first
                | (rw [HuffP.sy_no hi2 (hg.trans hg2) (by omega)]; exact j3 (i + 1) _ _ ⟨by omega, by omega⟩ (.cons rfl (.cons rfl (.cons rfl (.cons rfl (.nil _))))) (sub (.cons (by repeat first | exact .head | apply Rem.tail) (.cons (by repeat first | exact .head | apply Rem.tail) (.cons (by repeat first | exact .head | apply Rem.tail) (.cons (by repeat first | exact .head | apply Rem.tail) .nil)))) (by repeat first | exact .refl | apply Drop.skip)))
                | (rw [HuffP.sy_yes hi2 (hg.trans hg2) (by omega), HuffP.sy_len hi2 (hg.trans hg2) (by omega)]; exact j3 (i + 1) _ _ ⟨by omega, by omega⟩ (.cons rfl (.cons rfl (.cons rfl (.cons rfl (.nil _))))) (sub (.cons (by repeat first | exact .head | apply Rem.tail) (.cons (by repeat first | exact .head | apply Rem.tail) (.cons (by repeat first | exact .head | apply Rem.tail) (.cons (by repeat first | exact .head | apply Rem.tail) .nil)))) (by repeat first | exact .refl | apply Drop.skip)))
            ·
              refine w_exit ?_
              refine thn_e ?_
              refine thn_e ?_
              refine blk_x ?_
              refine blk_n ?_
              refine thn_n ?_
              refine w_region ?_
              refine o_val (v_move rfl) rfl ?_
              refine o_val (v_add rfl rfl (wrapI (by omega) (by omega))) rfl ?_
              refine o_val (v_assign rfl) rfl ?_
              refine o_nil ?_
              rw [HuffP.sy_all (by omega)]
              refine j3 (m + 1) (_) (_) ?_ (.cons rfl (.cons rfl (.cons rfl (.nil _)))) (sub (.cons (by repeat first | exact .head | apply Rem.tail) (.cons (by repeat first | exact .head | apply Rem.tail) (.cons (by repeat first | exact .head | apply Rem.tail) (.cons (by repeat first | exact .head | apply Rem.tail) .nil)))) (by repeat first | exact .refl | apply Drop.skip))
              exact ⟨by omega, by omega⟩
          ·
            refine w_exit ?_
            refine thn_e ?_
            refine thn_e ?_
            refine blk_x ?_
            refine thn_n ?_
            refine w_seq ?_
            refine w_region ?_
            refine o_val (v_move rfl) rfl ?_
            refine o_val (v_assign rfl) rfl ?_
            refine o_val (v_assign rfl) rfl ?_
            refine o_nil ?_
            refine thn_n ?_
            refine w_ret ?_
            have hm15 : m = 15 := by omega
            subst hm15
            rw [HuffP.ord15]
            exact ret_ok (G := [RC b15 ls, R]) (res2 rfl rfl) (.inl ⟨hE, b15, rfl, rfl⟩) ((fold' (.cons (by repeat first | exact .head | apply Rem.tail) (.cons (by repeat first | exact .head | apply Rem.tail) (.cons (by repeat first | exact .head | apply Rem.tail) .nil))) (by repeat first | exact .refl | apply Drop.skip) (fun w0 h hh => rc_close hh)).trans (sub (.cons (by repeat first | exact .head | apply Rem.tail) (.cons (by repeat first | exact .head | apply Rem.tail) .nil)) (by repeat first | exact .refl | apply Drop.skip)))
end Go.Proofs.YtookicfejdbddaaGreat

/- Walks of functions that the law reaches, and what they lean on; no conditions. -/
import Derived.Test.YtmbljkghkcgejaaGreatM30
import Derived.Test.YtmbljkghkcgejaaGreatSl22
import Derived.KernelRfl
import Derived.Test.YtmbljkghkcgejaaGreatM37
import Derived.Test.YtmbljkghkcgejaaGreatM38
import Derived.Test.YtmbljkghkcgejaaGreatM32
set_option linter.unusedVariables false
set_option linter.unusedSimpArgs false
set_option maxRecDepth 100000
namespace Go.Proofs.YtmbljkghkcgejaaGreat
open Go.Sl 
theorem TTZiD : okT Tryz.prog ⟨[77], [(96, 0, 0), (96, 1, 16)]⟩ = true := by kernel_rfl
attribute [local irreducible] HuffP.ord HuffP.wordsK HuffP.posn HuffP.cntL HuffP.mostL HuffP.words HuffP.wordOf HuffP.lenOf HuffP.newE HuffP.wholeB
attribute [local irreducible] HuffP.cntZ HuffP.sy
set_option maxHeartbeats 2000000 in
theorem r_new (p : Option Addr) (cap : Nat) (ls : List Int) (R : HProp) (hR : ∀ w0 h, R w0 h → RdR I3 p ls.length ls w0 h) : Ctr Tryz.prog 45 [.slice p ls.length cap] [R] (Ret fun v G => (HuffP.newE ls = 0 ∧ ∃ b, v = .tuple #[.pointer (some ⟨b, 0, none⟩), .int .i64 0] ∧ G = [RC b ls, R]) ∨ (HuffP.newE ls ≠ 0 ∧ v = .tuple #[.pointer none, .int .i64 (HuffP.newE ls)] ∧ G = [R])) := by
 refine spec_of [(0, _)] Tryz.func45 rfl Tryz.ntmps45 rfl rfl ?_
 intro w0 F
 refine rT TTZiD 14 rfl ?_
 refine w_condD rfl (fun h13 => ?_) (fun h13 => ?_)
 ·refine rC TTZiD 8 rfl ?_
  exact ret_ok (res2 rfl rfl) (.inr ⟨by rw [HuffP.newE_long (by omega)]; decide, by rw [HuffP.newE_long (by omega)], rfl⟩) (sub (rz1 .nil) dd0)
 ·refine rC TTZiD 4 rfl ?_
  refine oV (v_build V.pl96 V.z96 rfl (cs := [_, _, _, _, _, _, _, _, _, _, _, _, _, _, _, _, _, _]) rfl) ?_
  refine o_box rfl (show _ = CA [] .i64 (HuffP.cntZ (ls.take 0)) [.slice none 0 0, .slice none 0 0] from by rw [List.take_zero, HuffP.cntZ_nil]; rfl) rfl ?_
  intro b15
  refine rO TTZiD 15 rfl ?_
  refine w_add0 (Row I3 none 0 0 (ls.take 0)) (Row.nil _ _ _) ?_
  rw [show ((5 : Nat), Value.int .i64 0) = (5, .int .i64 ((HuffP.posn (ls.take 0)).length : Int)) from by rw [List.take_zero, HuffP.posn_nil]; rfl]
  refine w_loop3 (fun (k : Nat) (pl : Option Addr) (cl : Nat) => [(0, .slice p ls.length cap), (4, .pointer (some ⟨b15, 0, none⟩)), (5, .int .i64 ((HuffP.posn (ls.take k)).length : Int)), (6, .int .i64 (k : Int))]) (fun (k : Nat) (pl : Option Addr) (cl : Nat) => Cel b15 96 (CA [] .i64 (HuffP.cntZ (ls.take k)) [.slice none 0 0, .slice pl k cl]) :: Row I3 pl k cl (ls.take k) :: R :: F) (fun (k : Nat) (pl : Option Addr) (cl : Nat) => k ≤ ls.length ∧ ∀ i, i < k → 0 ≤ ls.getD i 0 ∧ ls.getD i 0 ≤ 15) (fun (k : Nat) (pl : Option Addr) (cl : Nat) => ls.length - k) (i3 (0) (none) (0) ?_ (lc4 ln) (sub (.cons rr1 (rz2 .nil)) dd0)) ?_
  ·exact ⟨by omega, fun i hi => by omega⟩
  intro k pl cl
  rintro ⟨hk, hok⟩
  refine rL TTZiD 9 rfl ?_
  refine w_condD rfl (fun h19 => ?_) (fun h19 => ?_)
  ·refine rC TTZiD 6 rfl ?_
   have hk2 : k < ls.length := by omega
   have hg : I3.g ls (k : Int) = ls.getD k 0 := by simp [Ec.g]
   have hg2 : ls.getD k 0 = ls[k] := by simp [hk2]
   have htk : (ls.take k).length = k := by rw [List.length_take]; omega
   have hcl := HuffP.cntZ_len (ls.take k)
   have hcb := HuffP.cntZ_bound (ls := ls.take k) (by omega) (I3.g ls (k : Int)).toNat
   have hpl2 := HuffP.posn_le (ls.take k)
   refine rC TTZiD 3 rfl ?_
   refine oV (xI V.sl77 (by exact rdH hR mm2)) ?_
   refine oV (xL V.s3 (by exact rdH hR mm2)) ?_
   refine rO TTZiD 2 rfl ?_
   refine o_boolD 27 rfl (fun h27 => ?_) (fun h27 => ?_)
   ·refine rO TTZiD 22 rfl ?_
    exact ret_ok (res2 rfl rfl) (.inr ⟨by rw [HuffP.newE_bad (by omega) hk2 (by omega)]; decide, by rw [HuffP.newE_bad (by omega) hk2 (by omega)], rfl⟩) (sub (.cons rr2 .nil) dd2)
   ·refine rO TTZiD 2 rfl ?_
    refine o_want rfl ?_
    refine oV (xI V.sl77 (by exact rdH hR mm2)) ?_
    refine o_want rfl ?_
    refine oV (xL V.s3 (by exact rdH hR mm2)) ?_
    refine rO TTZiD 4 rfl ?_
    refine w_condD rfl (fun h33 => ?_) (fun h33 => ?_)
    ·refine rC TTZiD 13 rfl ?_
     exact ret_ok (res2 rfl rfl) (.inr ⟨by rw [HuffP.newE_bad (by omega) hk2 (by omega)]; decide, by rw [HuffP.newE_bad (by omega) hk2 (by omega)], rfl⟩) (sub (.cons rr2 .nil) dd2)
    ·refine rC TTZiD 3 rfl ?_
     refine wN [pz 0 [] [4], pz 0 [] [0], pz 0 [] [6], pz 6 [1, 2] [], pz 14 [3] [], pz 1 [0] [], pz 33 [5] [], pz 127 [6, 4] [], pz 255 [7] [], pz 511 [8] [], pz 1 [0] [], pz 1025 [10] [], pz 4095 [11, 4] [], pz 8191 [12, 9] []] [⟨fun y => Cel b15 96 (CA [] .i64 (HuffP.cntZ (ls.take k)) [.slice none 0 0, .slice pl k cl]), none, some 13, [8]⟩, ⟨fun y => Row I3 pl k cl (ls.take k), none, none, []⟩, ⟨fun y => R, none, none, [3, 4]⟩, ⟨fun y => Cel b15 96 (CA [] .i64 ((HuffP.cntZ (ls.take k)).set ((((I3).g ls (k : Int))).toNat) (((HuffP.cntZ (ls.take k)).getD ((((I3).g ls (k : Int))).toNat) 0) + 1)) [.slice none 0 0, .slice pl k cl]), some 13, none, []⟩] F V.mixed ?_
     iterate 3 refine nM ?_
     refine nR (fun y FF hA => xI V.sl77 (by exact rdH hR mm0)) ?_
     refine nR (fun y FF hA => xL V.s3 (by exact rdH hR mm0)) ?_
     refine nN ?_
     refine nG V.f96_0 ?_
     refine nV (fun y hA L => v_indexA ((((I3).g ls (k : Int))).toNat) (by omega) V.ar94 rfl rfl (by omega)) ?_
     refine nR (fun y FF hA => a_load ((I3).g ls (k : Int)) V.s3 rfl mm0 (by (simp only [List.length_cons, List.length_nil]; omega)) (by omega) (by omega)) ?_
     refine nV (fun y hA L => v_add rfl rfl wI) ?_
     refine nN ?_
     refine nG V.f96_0 ?_
     refine nV (fun y hA L => v_indexA ((((I3).g ls (k : Int))).toNat) (by omega) V.ar94 rfl rfl (by omega)) ?_
     refine nE (fun y FF hA => st_v (a_store ((I3).g ls (k : Int)) V.s3 rfl rfl (by exact pp0) (by (simp only [List.length_cons, List.length_nil]; omega)) (by omega) (by omega)) ⟨rfl, .refl _⟩) ?_
     refine net_nil ?_
     intro y hA
     clear hA
     refine thn_n ?_
     refine w_keep _ (.cons (d := 0) rfl (.cons (d := 4) rfl (.cons (d := 5) rfl (.cons (d := 6) rfl (.nil _))))) ?_
     refine w_sub (M := Row I3 pl k cl (ls.take k) :: R :: Cel b15 96 (CA [] .i64 ((HuffP.cntZ (ls.take k)).set ((((I3).g ls (k : Int))).toNat) (((HuffP.cntZ (ls.take k)).getD ((((I3).g ls (k : Int))).toNat) 0) + 1)) [.slice none 0 0, .slice pl k cl]) :: F) (fun _ _ h => h) ?_
     refine rC TTZiD 5 rfl ?_
     refine oV (xI V.sl77 (by exact rdH hR mm1)) ?_
     refine oV (xL V.s3 (by exact rdH hR mm1)) ?_
     refine rO TTZiD 3 rfl ?_
     refine w_condD rfl (fun h51 => ?_) (fun h51 => ?_)
     ·refine rCs TTZiD 6 rfl (by omega) ?_
      refine w_net [pz 0 [] [4], pz 0 [] [4], pz 2 [1] [], pz 6 [2] [], pz 14 [3] [], pz 0 [] [0], pz 0 [] [6], pz 96 [5, 6] [], pz 224 [7] [], pz 480 [8] [], pz 1022 [4, 9] [], pz 2047 [0] [], pz 4095 [11] [], pz 8191 [12, 10] []] [⟨fun y => Row I3 pl k cl (ls.take k), none, some 10, []⟩, ⟨fun y => R, none, none, [7, 8]⟩, ⟨fun y => Cel b15 96 (CA [] .i64 ((HuffP.cntZ (ls.take k)).set ((((I3).g ls (k : Int))).toNat) (((HuffP.cntZ (ls.take k)).getD ((((I3).g ls (k : Int))).toNat) 0) + 1)) [.slice none 0 0, .slice pl k cl]), none, some 13, [4]⟩, ⟨fun y => Row (I3) (some ⟨(blk' (slP (y 9))), 0, none⟩) 1 1 [((I3).g ls (k : Int))], some 9, none, [10]⟩, ⟨fun y => Row (I3) (slP (y 10)) (k + 1) (slC (y 10)) ((ls.take k) ++ [((I3).g ls (k : Int))]), some 10, none, []⟩, ⟨fun y => Cel b15 96 (CA [] .i64 ((HuffP.cntZ (ls.take k)).set ((((I3).g ls (k : Int))).toNat) (((HuffP.cntZ (ls.take k)).getD ((((I3).g ls (k : Int))).toNat) 0) + 1)) [.slice none 0 0, .slice (slP (y 10)) (k + 1) (slC (y 10))]), some 13, none, []⟩] F V.mixed (by kernel_rfl) rfl (fun _ => .refl _) (locT_0 _ (locT_0 _ (locT_0 _ (locT_1 _ rfl (by intro y y2 h; simp only [h 9 (.inl rfl)]) (locT_1 _ rfl (by intro y y2 h; simp only [h 10 (.inl rfl)]) (locT_1 _ rfl (by intro y y2 h; simp only [h 10 (.inr (by decide))]) locT_nil)))))) ?_
      iterate 2 refine nM ?_
      refine nN ?_
      refine nG V.f96_2 ?_
      refine nR (fun y FF hA => a_loadP (n := 16) 1 V.s77 rfl mm0 (by (simp only [List.length_set]; omega)) rfl rfl) ?_
      iterate 2 refine nM ?_
      refine nR (fun y FF hA => xI V.sl77 (by exact rdH hR mm0)) ?_
      refine nR (fun y FF hA => xL V.s3 (by exact rdH hR mm0)) ?_
      refine net_new (fun y v => .slice (some ⟨blk' (slP v), 0, none⟩) 1 1) (fun y v => True) _ _ (fun y v => [Row (I3) (some ⟨(blk' (slP v)), 0, none⟩) 1 1 [((I3).g ls (k : Int))]]) _ (fun y => rfl) (fun y => rfl) (fun y => rfl) (fun y => rfl) (fun y FF hA => st_newN (r_buildX (I3) ([((I3).g ls (k : Int))]) V.sl77 V.z3 rfl rfl rfl rfl rfl)) (by intros; rfl) (by intros; rfl) (by intros; rfl) (by intro y y2 h; simp only [h 9 (.inl rfl)]) (by intro y y2 h; rfl) ?_
      refine net_new (fun y v => .slice (slP v) (k + 1) (slC v)) (fun y v => True) _ _ (fun y v => [Row (I3) (slP v) (k + 1) (slC v) ((ls.take k) ++ [((I3).g ls (k : Int))])]) _ (fun y => rfl) (fun y => rfl) (fun y => rfl) (fun y => rfl) (fun y FF hA => st_appN (r_appendX (c := (I3)) V.sl77 V.z3 rfl rfl rfl rfl rr0 (own mm1) (by omega)) (.refl _)) (by intros; rfl) (by intros; rfl) (by intros; rfl) (by intro y y2 h; simp only [h 9 (.inr (by decide)), h 10 (.inl rfl)]) (by intro y y2 h; rfl) ?_
      refine nN ?_
      refine nG V.f96_2 ?_
      refine nE (fun y FF hA => st_v (a_storeP (n := 16) 1 V.s77 rfl rfl rfl (by exact pp0) (by (simp only [List.length_set]; omega)) rfl (by exact Nat.le_of_ble_eq_true rfl) rfl) ⟨rfl, .refl _⟩) ?_
      refine net_nil ?_
      intro y hA
      clear hA
      show blk _ _ _ _ (R :: Row (I3) (some ⟨(blk' (slP (y 9))), 0, none⟩) 1 1 [((I3).g ls (k : Int))] :: Row (I3) (slP (y 10)) (k + 1) (slC (y 10)) ((ls.take k) ++ [((I3).g ls (k : Int))]) :: Cel b15 96 (CA [] .i64 ((HuffP.cntZ (ls.take k)).set ((((I3).g ls (k : Int))).toNat) (((HuffP.cntZ (ls.take k)).getD ((((I3).g ls (k : Int))).toNat) 0) + 1)) [.slice none 0 0, .slice (slP (y 10)) (k + 1) (slC (y 10))]) :: F)
      generalize (blk' (slP (y 9))) = b63
      generalize (slP (y 10)) = p64
      generalize (slC (y 10)) = c64
      refine blk_n ?_
      refine thn_n ?_
      refine w_region ?_
      refine oV (v_move rfl) ?_
      refine oV (v_add rfl rfl wI) ?_
      refine oV (v_assign rfl) ?_
      refine o_nil ?_
      have hok2 := HuffP.ok_snoc hok (by omega)
      rw [HuffP.cntZ_snoc hk2 (hg.trans hg2) (by omega) (by omega), HuffP.take_snoc hk2 (hg.trans hg2)]
      (rw [HuffP.many_pos hk2 (hg.trans hg2) (by omega)]; exact j3 (k + 1) _ _ ⟨⟨by omega, hok2⟩, by omega⟩ (lc4 ln) (sub (.cons rr3 (.cons rr2 (rz1 .nil))) dd1))
     ·refine rC TTZiD 2 rfl ?_
      refine w_net [pz 0 [] [4], pz 0 [] [4], pz 2 [1] [], pz 6 [2] [], pz 14 [3] [], pz 0 [] [0], pz 0 [] [6], pz 96 [5, 6] [], pz 224 [7] [], pz 480 [8] [], pz 1022 [4, 9] [], pz 2047 [0] [], pz 4095 [11] [], pz 8191 [12, 10] []] [⟨fun y => Row I3 pl k cl (ls.take k), none, some 10, []⟩, ⟨fun y => R, none, none, [7, 8]⟩, ⟨fun y => Cel b15 96 (CA [] .i64 ((HuffP.cntZ (ls.take k)).set ((((I3).g ls (k : Int))).toNat) (((HuffP.cntZ (ls.take k)).getD ((((I3).g ls (k : Int))).toNat) 0) + 1)) [.slice none 0 0, .slice pl k cl]), none, some 13, [4]⟩, ⟨fun y => Row (I3) (some ⟨(blk' (slP (y 9))), 0, none⟩) 1 1 [((I3).g ls (k : Int))], some 9, none, [10]⟩, ⟨fun y => Row (I3) (slP (y 10)) (k + 1) (slC (y 10)) ((ls.take k) ++ [((I3).g ls (k : Int))]), some 10, none, []⟩, ⟨fun y => Cel b15 96 (CA [] .i64 ((HuffP.cntZ (ls.take k)).set ((((I3).g ls (k : Int))).toNat) (((HuffP.cntZ (ls.take k)).getD ((((I3).g ls (k : Int))).toNat) 0) + 1)) [.slice none 0 0, .slice (slP (y 10)) (k + 1) (slC (y 10))]), some 13, none, []⟩] F V.mixed (by kernel_rfl) rfl (fun _ => .refl _) (locT_0 _ (locT_0 _ (locT_0 _ (locT_1 _ rfl (by intro y y2 h; simp only [h 9 (.inl rfl)]) (locT_1 _ rfl (by intro y y2 h; simp only [h 10 (.inl rfl)]) (locT_1 _ rfl (by intro y y2 h; simp only [h 10 (.inr (by decide))]) locT_nil)))))) ?_
      iterate 2 refine nM ?_
      refine nN ?_
      refine nG V.f96_2 ?_
      refine nR (fun y FF hA => a_loadP (n := 16) 1 V.s77 rfl mm0 (by (simp only [List.length_set]; omega)) rfl rfl) ?_
      iterate 2 refine nM ?_
      refine nR (fun y FF hA => xI V.sl77 (by exact rdH hR mm0)) ?_
      refine nR (fun y FF hA => xL V.s3 (by exact rdH hR mm0)) ?_
      refine net_new (fun y v => .slice (some ⟨blk' (slP v), 0, none⟩) 1 1) (fun y v => True) _ _ (fun y v => [Row (I3) (some ⟨(blk' (slP v)), 0, none⟩) 1 1 [((I3).g ls (k : Int))]]) _ (fun y => rfl) (fun y => rfl) (fun y => rfl) (fun y => rfl) (fun y FF hA => st_newN (r_buildX (I3) ([((I3).g ls (k : Int))]) V.sl77 V.z3 rfl rfl rfl rfl rfl)) (by intros; rfl) (by intros; rfl) (by intros; rfl) (by intro y y2 h; simp only [h 9 (.inl rfl)]) (by intro y y2 h; rfl) ?_
      refine net_new (fun y v => .slice (slP v) (k + 1) (slC v)) (fun y v => True) _ _ (fun y v => [Row (I3) (slP v) (k + 1) (slC v) ((ls.take k) ++ [((I3).g ls (k : Int))])]) _ (fun y => rfl) (fun y => rfl) (fun y => rfl) (fun y => rfl) (fun y FF hA => st_appN (r_appendX (c := (I3)) V.sl77 V.z3 rfl rfl rfl rfl rr0 (own mm1) (by omega)) (.refl _)) (by intros; rfl) (by intros; rfl) (by intros; rfl) (by intro y y2 h; simp only [h 9 (.inr (by decide)), h 10 (.inl rfl)]) (by intro y y2 h; rfl) ?_
      refine nN ?_
      refine nG V.f96_2 ?_
      refine nE (fun y FF hA => st_v (a_storeP (n := 16) 1 V.s77 rfl rfl rfl (by exact pp0) (by (simp only [List.length_set]; omega)) rfl (by exact Nat.le_of_ble_eq_true rfl) rfl) ⟨rfl, .refl _⟩) ?_
      refine net_nil ?_
      intro y hA
      clear hA
      show blk _ _ _ _ (R :: Row (I3) (some ⟨(blk' (slP (y 9))), 0, none⟩) 1 1 [((I3).g ls (k : Int))] :: Row (I3) (slP (y 10)) (k + 1) (slC (y 10)) ((ls.take k) ++ [((I3).g ls (k : Int))]) :: Cel b15 96 (CA [] .i64 ((HuffP.cntZ (ls.take k)).set ((((I3).g ls (k : Int))).toNat) (((HuffP.cntZ (ls.take k)).getD ((((I3).g ls (k : Int))).toNat) 0) + 1)) [.slice none 0 0, .slice (slP (y 10)) (k + 1) (slC (y 10))]) :: F)
      generalize (blk' (slP (y 9))) = b63
      generalize (slP (y 10)) = p64
      generalize (slC (y 10)) = c64
      refine blk_n ?_
      refine thn_n ?_
      refine w_region ?_
      refine oV (v_move rfl) ?_
      refine oV (v_add rfl rfl wI) ?_
      refine oV (v_assign rfl) ?_
      refine o_nil ?_
      have hok2 := HuffP.ok_snoc hok (by omega)
      rw [HuffP.cntZ_snoc hk2 (hg.trans hg2) (by omega) (by omega), HuffP.take_snoc hk2 (hg.trans hg2)]
      (rw [HuffP.many_zero hk2 (hg.trans hg2) (by omega)]; exact j3 (k + 1) _ _ ⟨⟨by omega, hok2⟩, by omega⟩ (lc4 ln) (sub (.cons rr3 (.cons rr2 (rz1 .nil))) dd1))
  ·refine rC TTZiD 6 rfl ?_
   have hkn : k = ls.length := by omega
   subst hkn
   rw [List.take_length] at *
   have hvv := HuffP.ok_take hok (Nat.le_refl _)
   have hcl := HuffP.cntZ_len ls
   have hcl2 := HuffP.cntL_len ls
   have hE0 := HuffP.newE_ok (by omega) hvv
   have hCb := HuffP.cntL_bound (ls := ls) (by omega)
   refine rC TTZiD 4 rfl ?_
   refine oV (v_indexA 0 rfl V.ar94 rfl rfl (by omega)) ?_
   refine o_eff (a_store (0 : Int) V.s3 rfl rfl (by exact pp0) (by (simp only [List.length_cons, List.length_nil]; omega)) (by omega) (by omega)) ?_
   refine rO TTZiD 3 rfl ?_
   rw [HuffP.cntZ_set]
   refine rC TTZiD 11 rfl ?_
   refine w_loop1 (fun (k : Nat) => [(0, .slice p ls.length cap), (4, .pointer (some ⟨b15, 0, none⟩)), (5, .int .i64 ((HuffP.posn ls).length : Int)), (7, .int .i64 (HuffP.left (HuffP.cntL ls) k)), (8, .int .i64 ((k : Int) + 1))]) (fun (k : Nat) => Cel b15 96 (CA [] .i64 (HuffP.cntL ls) [.slice none 0 0, .slice pl ls.length cl]) :: Row I3 pl ls.length cl ls :: R :: F) (fun (k : Nat) => k ≤ 15 ∧ ∀ m, 1 ≤ m → m ≤ k → 0 ≤ HuffP.left (HuffP.cntL ls) m) (fun (k : Nat) => 15 - k) (i1 (0) ?_ (lc5 ln) (sub (rz3 .nil) dd0)) ?_
   ·exact ⟨by omega, fun m h1 h2 => by omega⟩
   intro k
   rintro ⟨hk, hno⟩
   have hcc := hCb ((k : Int) + 1).toNat
   have hc1 := hCb (Int.toNat 1)
   have hlb := HuffP.left_bound (fun i => (hCb i).1) hk
   have hl0 := HuffP.left_nn hno
   refine rL TTZiD 7 rfl ?_
   refine w_condD rfl (fun h72 => ?_) (fun h72 => ?_)
   ·refine rCs TTZiD 12 rfl (by omega) ?_
    refine oV (v_indexA (k + 1) rfl V.ar94 rfl rfl (by omega)) ?_
    refine oV (a_load ((k : Int) + 1) V.s3 rfl mm0 (by (simp only [List.length_cons, List.length_nil]; omega)) (by omega) (by omega)) ?_
    refine rOs TTZiD 10 rfl (by omega) ?_
    refine w_condD rfl (fun h85 => ?_) (fun h85 => ?_)
    ·refine rC TTZiD 12 rfl ?_
     have hE : HuffP.newE ls = 4 := by rw [hE0, HuffP.whole_no (n := k + 1) (by omega) (by omega) (by rw [← HuffP.left_next]; exact h85)]; rfl
     exact ret_ok (res2 rfl rfl) (.inr ⟨by rw [hE]; decide, by rw [hE], rfl⟩) (sub (.cons rr2 .nil) dd2)
    ·refine rCs TTZiD 8 rfl (by omega) ?_
     have hno2 := HuffP.left_more hno h85
     rw [HuffP.left_next]
     exact j1 (k + 1) ⟨⟨by omega, hno2⟩, by omega⟩ (lc5 ln) (sub (rz3 .nil) dd0)
   ·refine rC TTZiD 11 rfl ?_
    refine o_boolD 88 rfl (fun h88 => ?_) (fun h88 => ?_)
    ·refine rO TTZiD 3 rfl ?_
     refine o_boolD 91 rfl (fun h91 => ?_) (fun h91 => ?_)
     ·refine rO TTZiD 20 rfl ?_
      have hE : HuffP.newE ls = 0 := by rw [hE0, HuffP.whole_end hk h72 hno]; simp only [Bool.or_eq_true, Bool.and_eq_true, decide_eq_true_eq]; rw [if_pos (by omega)]
      refine rC TTZiD 5 rfl ?_
      refine w_add0 (Row I3 none 0 0 (HuffP.ordN ls 0)) (Row.nil _ _ _) ?_
      refine w_loop3 (fun (m : Nat) (ps : Option Addr) (cs : Nat) => [(0, .slice p ls.length cap), (4, .pointer (some ⟨b15, 0, none⟩)), (9, .int .i64 ((m : Int) + 1))]) (fun (m : Nat) (ps : Option Addr) (cs : Nat) => Cel b15 96 (CA [] .i64 (HuffP.cntL ls) [.slice ps (HuffP.ordN ls m).length cs, .slice pl ls.length cl]) :: Row I3 ps (HuffP.ordN ls m).length cs (HuffP.ordN ls m) :: Row I3 pl ls.length cl ls :: R :: F) (fun (m : Nat) (ps : Option Addr) (cs : Nat) => m ≤ 15) (fun (m : Nat) (ps : Option Addr) (cs : Nat) => 15 - m) (i3 (0) (none) (0) ?_ (lc3 ln) (sub (.cons rr1 (rz3 .nil)) dd0)) ?_
      ·exact Nat.zero_le _
      intro m ps cs
      rintro hm
      refine rL TTZiD 7 rfl ?_
      refine w_condD rfl (fun h106 => ?_) (fun h106 => ?_)
      ·refine rC TTZiD 10 rfl ?_
       rw [← HuffP.sy_zero]
       refine w_loop3 (fun (i : Nat) (ps : Option Addr) (cs : Nat) => [(0, .slice p ls.length cap), (4, .pointer (some ⟨b15, 0, none⟩)), (9, .int .i64 ((m : Int) + 1)), (10, .int .i64 (i : Int))]) (fun (i : Nat) (ps : Option Addr) (cs : Nat) => Cel b15 96 (CA [] .i64 (HuffP.cntL ls) [.slice ps (HuffP.sy ls m i).length cs, .slice pl ls.length cl]) :: Row I3 ps (HuffP.sy ls m i).length cs (HuffP.sy ls m i) :: Row I3 pl ls.length cl ls :: R :: F) (fun (i : Nat) (ps : Option Addr) (cs : Nat) => i ≤ ls.length) (fun (i : Nat) (ps : Option Addr) (cs : Nat) => ls.length - i) (i3 (0) (_) (_) ?_ (lc4 ln) (sub (rz4 .nil) dd0)) ?_
       ·exact Nat.zero_le _
       intro i ps cs
       rintro hi
       refine rL TTZiD 9 rfl ?_
       refine w_condD rfl (fun h112 => ?_) (fun h112 => ?_)
       ·refine rC TTZiD 5 rfl ?_
        have hi2 : i < ls.length := by omega
        have hg : I3.g ls (i : Int) = ls.getD i 0 := by simp [Ec.g]
        have hg2 : ls.getD i 0 = ls[i] := by simp [hi2]
        have hsy := HuffP.sy_le (ls := ls) (m := m) (i := i) (by omega) (by omega)
        refine rC TTZiD 3 rfl ?_
        refine oV (xI V.sl77 (by exact rdH hR mm3)) ?_
        refine oV (xL V.s3 (by exact rdH hR mm3)) ?_
        refine rO TTZiD 4 rfl ?_
        refine w_condD rfl (fun h120 => ?_) (fun h120 => ?_)
        ·refine rC TTZiD 5 rfl ?_
         refine oV (a_loadP (n := 16) 0 V.s77 rfl mm0 (by omega) rfl rfl) ?_
         refine oV (v_move rfl) ?_
         refine r_build (I3) [(i : Int)] V.sl77 V.z3 rfl rfl rfl rfl rfl rfl ?_
         intro b127
         refine r_append (c := (I3)) V.sl77 V.z3 rfl rfl rfl rfl rr2 (own mm0) (by omega) rfl ?_
         intro p128 c128
         refine rO TTZiD 2 rfl ?_
         refine o_eff (a_storeP (n := 16) 0 V.s77 rfl rfl rfl (by exact pp2) (by omega) rfl (by exact Nat.le_of_ble_eq_true rfl) rfl) ?_
         refine rOs TTZiD 8 rfl (by omega) ?_
         (rw [HuffP.sy_yes hi2 (hg.trans hg2) (by omega), HuffP.sy_len hi2 (hg.trans hg2) (by omega)]; exact j3 (i + 1) _ _ ⟨by omega, by omega⟩ (lc4 ln) (sub (.cons rr2 (rz1 (.cons rr1 (.cons rr1 .nil)))) dd1))
        ·refine rCs TTZiD 8 rfl (by omega) ?_
         (rw [HuffP.sy_no hi2 (hg.trans hg2) (by omega)]; exact j3 (i + 1) _ _ ⟨by omega, by omega⟩ (lc4 ln) (sub (rz4 .nil) dd0))
       ·refine rCs TTZiD 11 rfl (by omega) ?_
        rw [HuffP.sy_all (by omega)]
        refine j3 (m + 1) (_) (_) ?_ (lc3 ln) (sub (rz4 .nil) dd0)
        exact ⟨by omega, by omega⟩
      ·refine rC TTZiD 13 rfl ?_
       have hm15 : m = 15 := by omega
       subst hm15
       rw [HuffP.ord15]
       exact ret_ok (res2 rfl rfl) (.inl ⟨hE, b15, rfl, rfl⟩) ((fold' (rz3 .nil) dd0 (fun w0 h hh => rc_close hh)).trans (sub (rz2 .nil) dd0))
     ·refine rO TTZiD 3 rfl ?_
      refine o_boolD 94 rfl (fun h94 => ?_) (fun h94 => ?_)
      ·refine rO TTZiD 3 rfl ?_
       refine o_want rfl ?_
       refine oV (v_indexA 1 rfl V.ar94 rfl rfl (by omega)) ?_
       refine o_want rfl ?_
       refine oV (a_load (1 : Int) V.s3 rfl mm0 (by (simp only [List.length_cons, List.length_nil]; omega)) (by omega) (by omega)) ?_
       refine rO TTZiD 3 rfl ?_
       refine o_want rfl ?_
       refine oV (v_notD rfl) ?_
       refine rO TTZiD 3 rfl ?_
       refine w_condD rfl (fun h104 => ?_) (fun h104 => ?_)
       ·refine rC TTZiD 8 rfl ?_
        have hE : HuffP.newE ls = 4 := by rw [hE0, HuffP.whole_end hk h72 hno]; simp only [Bool.or_eq_true, Bool.and_eq_true, decide_eq_true_eq]; rw [if_neg (by omega)]
        exact ret_ok (res2 rfl rfl) (.inr ⟨by rw [hE]; decide, by rw [hE], rfl⟩) (sub (.cons rr2 .nil) dd2)
       ·refine rC TTZiD 4 rfl ?_
        have hE : HuffP.newE ls = 0 := by rw [hE0, HuffP.whole_end hk h72 hno]; simp only [Bool.or_eq_true, Bool.and_eq_true, decide_eq_true_eq]; rw [if_pos (by omega)]
        refine rC TTZiD 5 rfl ?_
        refine w_add0 (Row I3 none 0 0 (HuffP.ordN ls 0)) (Row.nil _ _ _) ?_
        refine w_loop3 (fun (m : Nat) (ps : Option Addr) (cs : Nat) => [(0, .slice p ls.length cap), (4, .pointer (some ⟨b15, 0, none⟩)), (9, .int .i64 ((m : Int) + 1))]) (fun (m : Nat) (ps : Option Addr) (cs : Nat) => Cel b15 96 (CA [] .i64 (HuffP.cntL ls) [.slice ps (HuffP.ordN ls m).length cs, .slice pl ls.length cl]) :: Row I3 ps (HuffP.ordN ls m).length cs (HuffP.ordN ls m) :: Row I3 pl ls.length cl ls :: R :: F) (fun (m : Nat) (ps : Option Addr) (cs : Nat) => m ≤ 15) (fun (m : Nat) (ps : Option Addr) (cs : Nat) => 15 - m) (i3 (0) (none) (0) ?_ (lc3 ln) (sub (.cons rr1 (rz3 .nil)) dd0)) ?_
        ·exact Nat.zero_le _
        intro m ps cs
        rintro hm
        refine rL TTZiD 7 rfl ?_
        refine w_condD rfl (fun h106 => ?_) (fun h106 => ?_)
        ·refine rC TTZiD 10 rfl ?_
         rw [← HuffP.sy_zero]
         refine w_loop3 (fun (i : Nat) (ps : Option Addr) (cs : Nat) => [(0, .slice p ls.length cap), (4, .pointer (some ⟨b15, 0, none⟩)), (9, .int .i64 ((m : Int) + 1)), (10, .int .i64 (i : Int))]) (fun (i : Nat) (ps : Option Addr) (cs : Nat) => Cel b15 96 (CA [] .i64 (HuffP.cntL ls) [.slice ps (HuffP.sy ls m i).length cs, .slice pl ls.length cl]) :: Row I3 ps (HuffP.sy ls m i).length cs (HuffP.sy ls m i) :: Row I3 pl ls.length cl ls :: R :: F) (fun (i : Nat) (ps : Option Addr) (cs : Nat) => i ≤ ls.length) (fun (i : Nat) (ps : Option Addr) (cs : Nat) => ls.length - i) (i3 (0) (_) (_) ?_ (lc4 ln) (sub (rz4 .nil) dd0)) ?_
         ·exact Nat.zero_le _
         intro i ps cs
         rintro hi
         refine rL TTZiD 9 rfl ?_
         refine w_condD rfl (fun h112 => ?_) (fun h112 => ?_)
         ·refine rC TTZiD 5 rfl ?_
          have hi2 : i < ls.length := by omega
          have hg : I3.g ls (i : Int) = ls.getD i 0 := by simp [Ec.g]
          have hg2 : ls.getD i 0 = ls[i] := by simp [hi2]
          have hsy := HuffP.sy_le (ls := ls) (m := m) (i := i) (by omega) (by omega)
          refine rC TTZiD 3 rfl ?_
          refine oV (xI V.sl77 (by exact rdH hR mm3)) ?_
          refine oV (xL V.s3 (by exact rdH hR mm3)) ?_
          refine rO TTZiD 4 rfl ?_
          refine w_condD rfl (fun h120 => ?_) (fun h120 => ?_)
          ·refine rC TTZiD 5 rfl ?_
           refine oV (a_loadP (n := 16) 0 V.s77 rfl mm0 (by omega) rfl rfl) ?_
           refine oV (v_move rfl) ?_
           refine r_build (I3) [(i : Int)] V.sl77 V.z3 rfl rfl rfl rfl rfl rfl ?_
           intro b127
           refine r_append (c := (I3)) V.sl77 V.z3 rfl rfl rfl rfl rr2 (own mm0) (by omega) rfl ?_
           intro p128 c128
           refine rO TTZiD 2 rfl ?_
           refine o_eff (a_storeP (n := 16) 0 V.s77 rfl rfl rfl (by exact pp2) (by omega) rfl (by exact Nat.le_of_ble_eq_true rfl) rfl) ?_
           refine rOs TTZiD 8 rfl (by omega) ?_
           (rw [HuffP.sy_yes hi2 (hg.trans hg2) (by omega), HuffP.sy_len hi2 (hg.trans hg2) (by omega)]; exact j3 (i + 1) _ _ ⟨by omega, by omega⟩ (lc4 ln) (sub (.cons rr2 (rz1 (.cons rr1 (.cons rr1 .nil)))) dd1))
          ·refine rCs TTZiD 8 rfl (by omega) ?_
           (rw [HuffP.sy_no hi2 (hg.trans hg2) (by omega)]; exact j3 (i + 1) _ _ ⟨by omega, by omega⟩ (lc4 ln) (sub (rz4 .nil) dd0))
         ·refine rCs TTZiD 11 rfl (by omega) ?_
          rw [HuffP.sy_all (by omega)]
          refine j3 (m + 1) (_) (_) ?_ (lc3 ln) (sub (rz4 .nil) dd0)
          exact ⟨by omega, by omega⟩
        ·refine rC TTZiD 13 rfl ?_
         have hm15 : m = 15 := by omega
         subst hm15
         rw [HuffP.ord15]
         exact ret_ok (res2 rfl rfl) (.inl ⟨hE, b15, rfl, rfl⟩) ((fold' (rz3 .nil) dd0 (fun w0 h hh => rc_close hh)).trans (sub (rz2 .nil) dd0))
      ·refine rO TTZiD 21 rfl ?_
       have hE : HuffP.newE ls = 4 := by rw [hE0, HuffP.whole_end hk h72 hno]; simp only [Bool.or_eq_true, Bool.and_eq_true, decide_eq_true_eq]; rw [if_neg (by omega)]
       exact ret_ok (res2 rfl rfl) (.inr ⟨by rw [hE]; decide, by rw [hE], rfl⟩) (sub (.cons rr2 .nil) dd2)
    ·refine rO TTZiD 23 rfl ?_
     have hE : HuffP.newE ls = 0 := by rw [hE0, HuffP.whole_end hk h72 hno]; simp only [Bool.or_eq_true, Bool.and_eq_true, decide_eq_true_eq]; rw [if_pos (by omega)]
     refine rC TTZiD 5 rfl ?_
     refine w_add0 (Row I3 none 0 0 (HuffP.ordN ls 0)) (Row.nil _ _ _) ?_
     refine w_loop3 (fun (m : Nat) (ps : Option Addr) (cs : Nat) => [(0, .slice p ls.length cap), (4, .pointer (some ⟨b15, 0, none⟩)), (9, .int .i64 ((m : Int) + 1))]) (fun (m : Nat) (ps : Option Addr) (cs : Nat) => Cel b15 96 (CA [] .i64 (HuffP.cntL ls) [.slice ps (HuffP.ordN ls m).length cs, .slice pl ls.length cl]) :: Row I3 ps (HuffP.ordN ls m).length cs (HuffP.ordN ls m) :: Row I3 pl ls.length cl ls :: R :: F) (fun (m : Nat) (ps : Option Addr) (cs : Nat) => m ≤ 15) (fun (m : Nat) (ps : Option Addr) (cs : Nat) => 15 - m) (i3 (0) (none) (0) ?_ (lc3 ln) (sub (.cons rr1 (rz3 .nil)) dd0)) ?_
     ·exact Nat.zero_le _
     intro m ps cs
     rintro hm
     refine rL TTZiD 7 rfl ?_
     refine w_condD rfl (fun h106 => ?_) (fun h106 => ?_)
     ·refine rC TTZiD 10 rfl ?_
      rw [← HuffP.sy_zero]
      refine w_loop3 (fun (i : Nat) (ps : Option Addr) (cs : Nat) => [(0, .slice p ls.length cap), (4, .pointer (some ⟨b15, 0, none⟩)), (9, .int .i64 ((m : Int) + 1)), (10, .int .i64 (i : Int))]) (fun (i : Nat) (ps : Option Addr) (cs : Nat) => Cel b15 96 (CA [] .i64 (HuffP.cntL ls) [.slice ps (HuffP.sy ls m i).length cs, .slice pl ls.length cl]) :: Row I3 ps (HuffP.sy ls m i).length cs (HuffP.sy ls m i) :: Row I3 pl ls.length cl ls :: R :: F) (fun (i : Nat) (ps : Option Addr) (cs : Nat) => i ≤ ls.length) (fun (i : Nat) (ps : Option Addr) (cs : Nat) => ls.length - i) (i3 (0) (_) (_) ?_ (lc4 ln) (sub (rz4 .nil) dd0)) ?_
      ·exact Nat.zero_le _
      intro i ps cs
      rintro hi
      refine rL TTZiD 9 rfl ?_
      refine w_condD rfl (fun h112 => ?_) (fun h112 => ?_)
      ·refine rC TTZiD 5 rfl ?_
       have hi2 : i < ls.length := by omega
       have hg : I3.g ls (i : Int) = ls.getD i 0 := by simp [Ec.g]
       have hg2 : ls.getD i 0 = ls[i] := by simp [hi2]
       have hsy := HuffP.sy_le (ls := ls) (m := m) (i := i) (by omega) (by omega)
       refine rC TTZiD 3 rfl ?_
       refine oV (xI V.sl77 (by exact rdH hR mm3)) ?_
       refine oV (xL V.s3 (by exact rdH hR mm3)) ?_
       refine rO TTZiD 4 rfl ?_
       refine w_condD rfl (fun h120 => ?_) (fun h120 => ?_)
       ·refine rC TTZiD 5 rfl ?_
        refine oV (a_loadP (n := 16) 0 V.s77 rfl mm0 (by omega) rfl rfl) ?_
        refine oV (v_move rfl) ?_
        refine r_build (I3) [(i : Int)] V.sl77 V.z3 rfl rfl rfl rfl rfl rfl ?_
        intro b127
        refine r_append (c := (I3)) V.sl77 V.z3 rfl rfl rfl rfl rr2 (own mm0) (by omega) rfl ?_
        intro p128 c128
        refine rO TTZiD 2 rfl ?_
        refine o_eff (a_storeP (n := 16) 0 V.s77 rfl rfl rfl (by exact pp2) (by omega) rfl (by exact Nat.le_of_ble_eq_true rfl) rfl) ?_
        refine rOs TTZiD 8 rfl (by omega) ?_
        (rw [HuffP.sy_yes hi2 (hg.trans hg2) (by omega), HuffP.sy_len hi2 (hg.trans hg2) (by omega)]; exact j3 (i + 1) _ _ ⟨by omega, by omega⟩ (lc4 ln) (sub (.cons rr2 (rz1 (.cons rr1 (.cons rr1 .nil)))) dd1))
       ·refine rCs TTZiD 8 rfl (by omega) ?_
        (rw [HuffP.sy_no hi2 (hg.trans hg2) (by omega)]; exact j3 (i + 1) _ _ ⟨by omega, by omega⟩ (lc4 ln) (sub (rz4 .nil) dd0))
      ·refine rCs TTZiD 11 rfl (by omega) ?_
       rw [HuffP.sy_all (by omega)]
       refine j3 (m + 1) (_) (_) ?_ (lc3 ln) (sub (rz4 .nil) dd0)
       exact ⟨by omega, by omega⟩
     ·refine rC TTZiD 13 rfl ?_
      have hm15 : m = 15 := by omega
      subst hm15
      rw [HuffP.ord15]
      exact ret_ok (res2 rfl rfl) (.inl ⟨hE, b15, rfl, rfl⟩) ((fold' (rz3 .nil) dd0 (fun w0 h hh => rc_close hh)).trans (sub (rz2 .nil) dd0))
end Go.Proofs.YtmbljkghkcgejaaGreat
namespace Go.Proofs.YtmbljkghkcgejaaGreat
open Go.Sl 
theorem TTZiK : okT Tryz.prog ⟨[77], [(96, 0, 0), (96, 1, 16), (129, 1, 1), (129, 2, 17), (129, 3, 18)]⟩ = true := by kernel_rfl
attribute [local irreducible] HuffP.ord HuffP.wordsK HuffP.posn HuffP.cntL HuffP.mostL HuffP.words HuffP.wordOf HuffP.lenOf HuffP.newE HuffP.wholeB HuffP.wd HuffP.lkW HuffP.lkN HuffP.lkB HuffP.cls HuffP.off HuffP.tk
set_option maxHeartbeats 2000000 in
theorem h_take (b : Nat) (ls : List Int) (b2 : Nat) (B : List Int) (at_ : Nat) (out : List Int) (free : Int) (hE : HuffP.newE ls = 0) (hl : B.length < 500000000) (hB : BitP.Byt B) (ha : at_ ≤ 8 * B.length) : Ctr Tryz.prog 66 [.pointer (some ⟨b, 0, none⟩), .pointer (some ⟨b2, 0, none⟩)] [HC b ls, LW b2 B at_ out free] (RetPan (fun v G => ∃ n s, HuffP.tk ls B at_ = .hit n s ∧ v = .int .i64 s ∧ G = [HC b ls, LW b2 B (at_ + n) out free]) (fun ch G => (∃ n, HuffP.tk ls B at_ = .short n ∧ ch = pan1 91 (.agg #[]) ∧ G = [HC b ls, LW b2 B (at_ + n) out free]) ∨ (∃ n, HuffP.tk ls B at_ = .none_ n ∧ ch = pan1 92 (.agg #[]) ∧ G = [HC b ls, LW b2 B (at_ + n) out free]))) := by
 refine spec_of [(0, _), (1, _)] Tryz.func66 rfl Tryz.ntmps66 rfl rfl ?_
 intro w0 F
 have hV := (HuffP.newE_vl hE).1
 have hW := (HuffP.newE_vl hE).2
 have hcl := HuffP.cntL_len ls
 have hCb := HuffP.cntL_bound hV.1
 have hm15 := HuffP.mst_le hV
 have hme := HuffP.mst_eq ls
 refine w_opn (fun h hh => hh) ?_
 rintro ⟨p1, c1, p2, c2⟩ _
 dsimp only
 rw [hme]
 refine rT TTZiK 19 rfl ?_
 rw [show ((7 : Nat), Value.int .i64 0) = (7, .int .i64 (HuffP.off ls (0 + 1) : Int)) from by unfold HuffP.off; rfl]
 refine w_loop1 (fun (m : Nat) => [(0, .pointer (some ⟨b, 0, none⟩)), (1, .pointer (some ⟨b2, 0, none⟩)), (5, .int .i64 (BitP.acc B at_ m)), (6, .int .i64 (HuffP.base ls m + HuffP.cnt ls m)), (7, .int .i64 (HuffP.off ls (m + 1) : Int)), (8, .int .i64 ((m : Int) + 1))]) (fun (m : Nat) => Cel b 129 (CA [.slice p1 ls.length c1] .i64 (HuffP.cntL ls) [.slice p2 (HuffP.ord ls).length c2, .int .i64 (HuffP.mst ls : Int)]) :: Row W63 p1 ls.length c1 (HuffP.words ls) :: Row I3 p2 (HuffP.ord ls).length c2 (HuffP.ord ls) :: LW b2 B (at_ + m) out free :: F) (fun (m : Nat) => HuffP.Tk ls B at_ m) (fun (m : Nat) => HuffP.mst ls - m) (i1 (0) ?_ (lc1 (lc5 ln)) (sub (rz4 .nil) dd0)) ?_
 ·exact HuffP.tk_start ha
 intro m
 rintro ht
 have htl := ht.le
 refine rL TTZiK 7 rfl ?_
 refine oV (a_loadP (n := 16) 1 V.s3 rfl mm0 (by omega) rfl rfl) ?_
 refine rO TTZiK 3 rfl ?_
 refine w_condD rfl (fun h14 => ?_) (fun h14 => ?_)
 ·have hcn := HuffP.cntL_i (ls := ls) (m := m) (by omega)
  have hbf := HuffP.full_le hW (n := m + 1) (by omega)
  have hbn := HuffP.base_nn ls (m + 1)
  have hc1 := HuffP.cnt_nonneg ls (m + 1)
  have hof := HuffP.off_16 hV (m := m) (by omega)
  have hac := BitP.acc_bound B at_ (m + 1)
  have hac0 := BitP.acc_bound B at_ m
  have hp15 := HuffP.pow_15 (show m + 1 ≤ 15 by omega)
  have hp14 := HuffP.pow_15 (show m ≤ 15 by omega)
  have hb := BitP.bitL_01 B (at_ + m)
  have hnn := ht.nn
  refine rC TTZiK 4 rfl ?_
  rcases (Nat.lt_or_ge (at_ + m) (8 * B.length)) with hx | hx
  ·refine rC TTZiK 3 rfl ?_
   refine oV (v_shl (r := 2 * BitP.acc B at_ m) rfl rfl (by decide) (BitP.shl1 hac0.1 (by omega))) ?_
   refine oV (v_move rfl) ?_
   refine o_call (c_take b2 B (at_ + m) out free 1 hl hB (by omega) (by omega)) V.b56  rfl (.cons rr3 .nil) rfl ?_
   rintro _ _ ⟨rfl, rfl⟩
   rw [BitP.numL_one]
   refine oV (v_or (r := BitP.acc B at_ (m + 1)) rfl rfl (BitP.or_low hac0.1 (by omega) hb)) ?_
   refine rO TTZiK 6 rfl ?_
   refine oV (v_shl (r := HuffP.base ls (m + 1)) rfl rfl (by decide) (shl_base hW (by omega))) ?_
   refine rOs TTZiK 13 rfl (by omega) ?_
   refine oV (v_indexA (m + 1) rfl V.ar94 rfl rfl (by omega)) ?_
   refine oV (a_load ((m : Int) + 1) V.s3 rfl mm1 (by (simp only [List.length_cons, List.length_nil]; omega)) (by omega) (by omega)) ?_
   refine rO TTZiK 3 rfl ?_
   refine w_condD rfl (fun h33 => ?_) (fun h33 => ?_)
   ·refine rC TTZiK 1 rfl ?_
    have hlt : BitP.acc B at_ (m + 1) - HuffP.base ls (m + 1) < HuffP.cnt ls (m + 1) := by rw [← hcn]; exact h33
    have hat := HuffP.hit_at (by omega) hnn hlt
    have hol : (HuffP.ord ls).length ≤ 320 := by rw [HuffP.ord_len]; exact HuffP.off_16 hV (m := 15) (by omega)
    refine rC TTZiK 4 rfl ?_
    refine oV (a_loadP (n := 16) 0 V.s77 rfl mm1 (by omega) rfl rfl) ?_
    refine rOs TTZiK 5 rfl (by omega) ?_
    refine oV (xI V.sl77 (own mm3)) ?_
    refine oV (xL V.s3 (own mm3)) ?_
    refine rO TTZiK 10 rfl ?_
    rw [← hme]
    exact rp_ret (G := [HC b ls, LW b2 B (at_ + (m + 1)) out free]) (res1 rfl) ⟨m + 1, _, ht.hit (by omega) hx hlt, by rw [← gE (c := I3) (e := (HuffP.off ls (m + 1) : Int) + BitP.acc B at_ (m + 1) - HuffP.base ls (m + 1)) _ (by omega)], rfl⟩ ((fold' (.cons rr1 (.cons rr1 (.cons rr1 .nil))) dd0 (fun w0 h hh => hc_close rfl hh)).trans (sub (rz2 .nil) dd0))
   ·refine rC TTZiK 9 rfl ?_
    refine oV (v_indexA (m + 1) rfl V.ar94 rfl rfl (by omega)) ?_
    refine oV (a_load ((m : Int) + 1) V.s3 rfl mm1 (by (simp only [List.length_cons, List.length_nil]; omega)) (by omega) (by omega)) ?_
    refine rOs TTZiK 10 rfl (by omega) ?_
    refine oV (v_indexA (m + 1) rfl V.ar94 rfl rfl (by omega)) ?_
    refine oV (a_load ((m : Int) + 1) V.s3 rfl mm1 (by (simp only [List.length_cons, List.length_nil]; omega)) (by omega) (by omega)) ?_
    refine rOs TTZiK 10 rfl (by omega) ?_
    rw [hcn, ← HuffP.off_cnt ls (m + 1), show (m : Int) + 1 = ((m + 1 : Nat) : Int) from by omega]
    refine j1 (m + 1) ?_ (lc1 (lc5 ln)) (sub (.cons rr1 (.cons rr1 (.cons rr1 (rz1 .nil)))) dd0)
    exact ⟨ht.miss (by omega) hx (by rw [← hcn]; assumption), by omega⟩
  ·refine rC TTZiK 3 rfl ?_
   refine oV (v_shl (r := 2 * BitP.acc B at_ m) rfl rfl (by decide) (BitP.shl1 hac0.1 (by omega))) ?_
   refine oV (v_move rfl) ?_
   refine o_callE (c_takeE b2 B (at_ + m) out free 1 hl hB (by omega) ht.room (by omega)) V.b56 rfl (.cons rr3 .nil) ?_
   rintro _ _ ⟨rfl, rfl⟩
   refine (thn_p (blk_p (thn_p (thn_p (blk_p (thn_p ?_))))))
   rw [← hme]
   exact rp_pan (G := [HC b ls, LW b2 B (at_ + m) out free]) (.inl ⟨m, ht.short (by omega) (by omega), rfl, rfl⟩) ((fold' (.cons rr1 (.cons rr1 (.cons rr1 .nil))) dd0 (fun w0 h hh => hc_close rfl hh)).trans (sub (rz2 .nil) dd0))
 ·refine rC TTZiK 6 rfl ?_
  refine oV (v_build V.pl92 V.z92 rfl (cs := []) rfl) ?_
  refine oV (v_iface V.c92 rfl) ?_
  refine o_panic rfl ?_
  skip
  rw [← hme]
  exact rp_pan (G := [HC b ls, LW b2 B (at_ + m) out free]) (.inr ⟨m, ht.none (by omega), rfl, rfl⟩) ((fold' (rz3 .nil) dd0 (fun w0 h hh => hc_close rfl hh)).trans (sub (rz2 .nil) dd0))
set_option maxHeartbeats 2000000 in
theorem r_take (b : Nat) (ls : List Int) (b2 : Nat) (p : Option Addr) (cap : Nat) (B : List Int) (R : HProp) (hR : ∀ w0 h, R w0 h → RdR U5 p B.length B w0 h) (at_ : Nat) (sh : Bool) (hE : HuffP.newE ls = 0) (hl : B.length < 500000000) (hB : BitP.Byt B) (ha : at_ ≤ 8 * B.length) : Ctr Tryz.prog 46 [.pointer (some ⟨b, 0, none⟩), .pointer (some ⟨b2, 0, none⟩)] [RC b ls, Cel b2 59 [.slice p B.length cap, .int .i64 (at_ : Int), .bool false, .bool sh], R] (Ret fun v G => (∃ n s, HuffP.tk ls B at_ = .hit n s ∧ v = .tuple #[.int .i64 s, .int .i64 0] ∧ G = [RC b ls, Cel b2 59 [.slice p B.length cap, .int .i64 ((at_ + n : Nat) : Int), .bool false, .bool sh], R]) ∨ (∃ n, HuffP.tk ls B at_ = .short n ∧ v = .tuple #[.int .i64 0, .int .i64 2] ∧ G = [RC b ls, Cel b2 59 [.slice p B.length cap, .int .i64 ((at_ + n : Nat) : Int), .bool false, .bool true], R]) ∨ (∃ n, HuffP.tk ls B at_ = .none_ n ∧ v = .tuple #[.int .i64 0, .int .i64 4] ∧ G = [RC b ls, Cel b2 59 [.slice p B.length cap, .int .i64 ((at_ + n : Nat) : Int), .bool false, .bool sh], R])) := by
 refine spec_of [(0, _), (1, _)] Tryz.func46 rfl Tryz.ntmps46 rfl rfl ?_
 intro w0 F
 have hV := (HuffP.newE_vl hE).1
 have hW := (HuffP.newE_vl hE).2
 have hcl := HuffP.cntL_len ls
 have hCb := HuffP.cntL_bound hV.1
 have hm15 := HuffP.mst_le hV
 have hme := HuffP.mst_eq ls
 refine w_opn (fun h hh => hh) ?_
 rintro ⟨p1, c1, p2, c2⟩ _
 dsimp only
 refine rT TTZiK 12 rfl ?_
 refine oV (a_loadP (n := 16) 0 V.s77 rfl mm0 (by omega) rfl rfl) ?_
 refine rO TTZiK 4 rfl ?_
 refine w_condD rfl (fun h17 => ?_) (fun h17 => ?_)
 ·refine rC TTZiK 8 rfl ?_
  exact ret_ok (res2 rfl rfl) (.inr (.inr ⟨0, (HuffP.tk_start ha).none (by rw [HuffP.mst_zero hV (by omega)]; omega), rfl, rfl⟩)) ((fold' (rz3 .nil) dd0 (fun w0 h hh => rc_close hh)).trans (sub (rz3 .nil) dd0))
 ·refine rC TTZiK 3 rfl ?_
  have hol0 : (HuffP.ord ls).length ≠ 0 := by omega
  have hol : (HuffP.ord ls).length ≤ 320 := by rw [HuffP.ord_len]; exact HuffP.off_16 hV (m := 15) (by omega)
  have hmp := HuffP.mst_pos hV (by omega)
  refine rC TTZiK 13 rfl ?_
  rw [show ((8 : Nat), Value.int .i64 0) = (8, .int .i64 (HuffP.off ls (0 + 1) : Int)) from by unfold HuffP.off; rfl]
  refine w_loop1 (fun (m : Nat) => [(0, .pointer (some ⟨b, 0, none⟩)), (1, .pointer (some ⟨b2, 0, none⟩)), (6, .int .i64 (BitP.acc B at_ m)), (7, .int .i64 (HuffP.base ls m + HuffP.cnt ls m)), (8, .int .i64 (HuffP.off ls (m + 1) : Int)), (9, .int .i64 ((m : Int) + 1))]) (fun (m : Nat) => Cel b 96 (CA [] .i64 (HuffP.cntL ls) [.slice p1 (HuffP.ord ls).length c1, .slice p2 ls.length c2]) :: Row I3 p1 (HuffP.ord ls).length c1 (HuffP.ord ls) :: Row I3 p2 ls.length c2 ls :: Cel b2 59 [.slice p B.length cap, .int .i64 ((at_ + m : Nat) : Int), .bool false, .bool sh] :: R :: F) (fun (m : Nat) => HuffP.Tk ls B at_ m ∧ m < HuffP.mst ls) (fun (m : Nat) => 15 - m) (i1 (0) ?_ (lc1 (lc5 ln)) (sub (rz5 .nil) dd0)) ?_
  ·exact ⟨HuffP.tk_start ha, hmp⟩
  intro m
  rintro ⟨ht, htl⟩
  have hcn := HuffP.cntL_i (ls := ls) (m := m) (by omega)
  have hbf := HuffP.full_le hW (n := m + 1) (by omega)
  have hbn := HuffP.base_nn ls (m + 1)
  have hc1 := HuffP.cnt_nonneg ls (m + 1)
  have hof := HuffP.off_16 hV (m := m) (by omega)
  have hac := BitP.acc_bound B at_ (m + 1)
  have hac0 := BitP.acc_bound B at_ m
  have hp15 := HuffP.pow_15 (show m + 1 ≤ 15 by omega)
  have hp14 := HuffP.pow_15 (show m ≤ 15 by omega)
  have hb := BitP.bitL_01 B (at_ + m)
  have hnn := ht.nn
  refine rL TTZiK 4 rfl ?_
  refine oV (v_T (v_leq rfl rfl) (by omega)) ?_
  refine rO TTZiK 7 rfl ?_
  rcases (Nat.lt_or_ge (at_ + m) (8 * B.length)) with hx | hx
  ·refine rC TTZiK 3 rfl ?_
   refine o_call (d_take b2 p cap B R hR (at_ + m) sh 1 hl hB (by omega) (by omega)) V.b28  rfl (.cons rr3 (.cons rr3 .nil)) rfl ?_
   rintro _ _ ⟨rfl, rfl⟩
   rw [BitP.numL_one]
   refine rO TTZiK 20 rfl ?_
   refine oV (v_shl (r := 2 * BitP.acc B at_ m) rfl rfl (by decide) (BitP.shl1 hac0.1 (by omega))) ?_
   refine oV (v_move rfl) ?_
   refine oV (v_or (r := BitP.acc B at_ (m + 1)) rfl rfl (BitP.or_low hac0.1 (by omega) hb)) ?_
   refine oV (v_move rfl) ?_
   refine oV (v_shl (r := HuffP.base ls (m + 1)) rfl rfl (by decide) (shl_base hW (by omega))) ?_
   refine rOs TTZiK 14 rfl (by omega) ?_
   refine oV (v_indexA (m + 1) rfl V.ar94 rfl rfl (by omega)) ?_
   refine oV (a_load ((m : Int) + 1) V.s3 rfl mm2 (by (simp only [List.length_cons, List.length_nil]; omega)) (by omega) (by omega)) ?_
   refine rO TTZiK 3 rfl ?_
   refine w_condD rfl (fun h44 => ?_) (fun h44 => ?_)
   ·refine rC TTZiK 1 rfl ?_
    have hlt : BitP.acc B at_ (m + 1) - HuffP.base ls (m + 1) < HuffP.cnt ls (m + 1) := by rw [← hcn]; exact h44
    have hat := HuffP.hit_at (by omega) hnn hlt
    refine rC TTZiK 4 rfl ?_
    refine oV (a_loadP (n := 16) 0 V.s77 rfl mm2 (by omega) rfl rfl) ?_
    refine rOs TTZiK 5 rfl (by omega) ?_
    refine oV (xI V.sl77 (own mm3)) ?_
    refine oV (xL V.s3 (own mm3)) ?_
    refine rO TTZiK 11 rfl ?_
    exact ret_ok (res2 rfl rfl) (.inl ⟨m + 1, _, ht.hit (by omega) hx hlt, by rw [← gE (c := I3) (e := (HuffP.off ls (m + 1) : Int) + BitP.acc B at_ (m + 1) - HuffP.base ls (m + 1)) _ (by omega)], rfl⟩) ((fold' (.cons rr2 (.cons rr2 (.cons rr2 .nil))) dd0 (fun w0 h hh => rc_close hh)).trans (sub (rz3 .nil) dd0))
   ·refine rC TTZiK 4 rfl ?_
    have hms := ht.miss (by omega) hx (by rw [← hcn]; exact h44)
    refine rC TTZiK 4 rfl ?_
    refine oV (a_loadP (n := 16) 0 V.s77 rfl mm2 (by omega) rfl rfl) ?_
    refine rO TTZiK 4 rfl ?_
    refine w_condD rfl (fun h61 => ?_) (fun h61 => ?_)
    ·refine rC TTZiK 1 rfl ?_
     have hm1 := HuffP.mst_one hE (by omega)
     refine rC TTZiK 12 rfl ?_
     exact ret_ok (res2 rfl rfl) (.inr (.inr ⟨m + 1, hms.none (by omega), rfl, rfl⟩)) ((fold' (.cons rr2 (.cons rr2 (.cons rr2 .nil))) dd0 (fun w0 h hh => rc_close hh)).trans (sub (rz3 .nil) dd0))
    ·refine rC TTZiK 2 rfl ?_
     refine wN [pz 0 [] [8], pz 0 [] [0], pz 0 [] [9], pz 2 [1] [], pz 10 [3] [], pz 30 [4, 2] [], pz 62 [5] [], pz 127 [0, 6] [], pz 0 [] [7], pz 0 [] [0], pz 0 [] [9], pz 512 [9] [], pz 2560 [11] [], pz 7680 [12, 10] [], pz 15872 [13] [], pz 32512 [8, 14] [], pz 255 [7] [], pz 131071 [15] []] [⟨fun y => Cel b2 59 [.slice p B.length cap, .int .i64 ((at_ + m + 1 : Nat) : Int), .bool false, .bool sh], none, none, []⟩, ⟨fun y => R, none, none, []⟩, ⟨fun y => Cel b 96 (CA [] .i64 (HuffP.cntL ls) [.slice p1 (HuffP.ord ls).length c1, .slice p2 ls.length c2]), none, none, [6, 14]⟩, ⟨fun y => Row I3 p1 (HuffP.ord ls).length c1 (HuffP.ord ls), none, none, []⟩, ⟨fun y => Row I3 p2 ls.length c2 ls, none, none, []⟩] F V.mixed ?_
     iterate 3 refine nM ?_
     refine nN ?_
     refine nG V.f96_0 ?_
     refine nV (fun y hA L => v_indexA (m + 1) rfl V.ar94 rfl rfl (by omega)) ?_
     refine nR (fun y FF hA => a_load ((m : Int) + 1) V.s3 rfl mm0 (by (simp only [List.length_cons, List.length_nil]; omega)) (by omega) (by omega)) ?_
     refine nV (fun y hA L => v_add rfl rfl wI) ?_
     iterate 3 refine nM ?_
     refine nN ?_
     refine nG V.f96_0 ?_
     refine nV (fun y hA L => v_indexA (m + 1) rfl V.ar94 rfl rfl (by omega)) ?_
     refine nR (fun y FF hA => a_load ((m : Int) + 1) V.s3 rfl mm0 (by (simp only [List.length_cons, List.length_nil]; omega)) (by omega) (by omega)) ?_
     refine nV (fun y hA L => v_add rfl rfl wI) ?_
     iterate 2 refine nA ?_
     refine net_nil ?_
     intro y hA
     clear hA
     show blk _ _ _ _ (Cel b2 59 [.slice p B.length cap, .int .i64 ((at_ + m + 1 : Nat) : Int), .bool false, .bool sh] :: R :: Cel b 96 (CA [] .i64 (HuffP.cntL ls) [.slice p1 (HuffP.ord ls).length c1, .slice p2 ls.length c2]) :: Row I3 p1 (HuffP.ord ls).length c1 (HuffP.ord ls) :: Row I3 p2 ls.length c2 ls :: F)
     refine blk_n ?_
     refine thn_n ?_
     refine w_region ?_
     refine oV (v_move rfl) ?_
     refine oV (v_add rfl rfl wI) ?_
     refine oV (v_assign rfl) ?_
     refine o_nil ?_
     rw [hcn, ← HuffP.off_cnt ls (m + 1), show (m : Int) + 1 = ((m + 1 : Nat) : Int) from by omega]
     refine j1 (m + 1) ?_ (lc1 (lc5 ln)) (sub (.cons rr2 (.cons rr2 (.cons rr2 (rz2 .nil)))) dd0)
     exact ⟨⟨hms, HuffP.tk_full hE (by omega) (by omega) hms.ge⟩, by omega⟩
  ·refine rC TTZiK 3 rfl ?_
   refine o_call (d_takeE b2 p cap B R hR (at_ + m) sh 1 hl hB (by omega) ht.room (by omega)) V.b28  rfl (.cons rr3 (.cons rr3 .nil)) rfl ?_
   rintro _ _ ⟨rfl, rfl⟩
   refine rO TTZiK 28 rfl ?_
   exact ret_ok (res2 rfl rfl) (.inr (.inl ⟨m, ht.short (by omega) (by omega), rfl, rfl⟩)) ((fold' (.cons rr2 (.cons rr2 (.cons rr2 .nil))) dd0 (fun w0 h hh => rc_close hh)).trans (sub (rz3 .nil) dd0))
end Go.Proofs.YtmbljkghkcgejaaGreat
namespace Go.Proofs.YtmbljkghkcgejaaGreat
open Go.Sl 
theorem h_new_yes (p : Option Addr) (cap : Nat) (ls : List Int) (R : HProp) (hR : ∀ w0 h, R w0 h → RdR I3 p ls.length ls w0 h) (hE : HuffP.newE ls = 0) : Ctr Tryz.prog 80 [.slice p ls.length cap] [R] (Ret fun v G => ∃ b, v = .tuple #[.pointer (some ⟨b, 0, none⟩), .int .i64 0] ∧ G = [HC b ls, R]) := by
  refine (h_new p cap ls R hR).mono ?_
  rintro e G ⟨v, rfl, h⟩
  rcases h with ⟨_, b, h1, h2⟩ | ⟨h, _⟩
  · exact ⟨v, rfl, b, h1, h2⟩
  · exact absurd hE h
theorem h_new_no (p : Option Addr) (cap : Nat) (ls : List Int) (R : HProp) (hR : ∀ w0 h, R w0 h → RdR I3 p ls.length ls w0 h) (hE : ¬ HuffP.newE ls = 0) : Ctr Tryz.prog 80 [.slice p ls.length cap] [R] (Ret fun v G => v = .tuple #[.pointer none, .int .i64 (HuffP.newE ls)] ∧ G = [R]) := by
  refine (h_new p cap ls R hR).mono ?_
  rintro e G ⟨v, rfl, h⟩
  rcases h with ⟨h, _⟩ | ⟨_, h1, h2⟩
  · exact absurd h hE
  · exact ⟨v, rfl, h1, h2⟩
theorem r_new_yes (p : Option Addr) (cap : Nat) (ls : List Int) (R : HProp) (hR : ∀ w0 h, R w0 h → RdR I3 p ls.length ls w0 h) (hE : HuffP.newE ls = 0) : Ctr Tryz.prog 45 [.slice p ls.length cap] [R] (Ret fun v G => ∃ b, v = .tuple #[.pointer (some ⟨b, 0, none⟩), .int .i64 0] ∧ G = [RC b ls, R]) := by
  refine (r_new p cap ls R hR).mono ?_
  rintro e G ⟨v, rfl, h⟩
  rcases h with ⟨_, b, h1, h2⟩ | ⟨h, _⟩
  · exact ⟨v, rfl, b, h1, h2⟩
  · exact absurd hE h
theorem r_new_no (p : Option Addr) (cap : Nat) (ls : List Int) (R : HProp) (hR : ∀ w0 h, R w0 h → RdR I3 p ls.length ls w0 h) (hE : ¬ HuffP.newE ls = 0) : Ctr Tryz.prog 45 [.slice p ls.length cap] [R] (Ret fun v G => v = .tuple #[.pointer none, .int .i64 (HuffP.newE ls)] ∧ G = [R]) := by
  refine (r_new p cap ls R hR).mono ?_
  rintro e G ⟨v, rfl, h⟩
  rcases h with ⟨h, _⟩ | ⟨_, h1, h2⟩
  · exact absurd h hE
  · exact ⟨v, rfl, h1, h2⟩
end Go.Proofs.YtmbljkghkcgejaaGreat

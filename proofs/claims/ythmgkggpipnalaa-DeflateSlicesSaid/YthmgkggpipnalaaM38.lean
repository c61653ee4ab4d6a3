/- Steps of the proof: the walks of the functions that the statement reaches; printed by a program of ours. -/
import Derived.Test.YthmgkggpipnalaaSl22
import Derived.KernelRfl
import Derived.Test.YthmgkggpipnalaaM35
/-
  Steps of the proof: walks of functions that the statement reaches; printed by a program of ours.
-/
namespace Go.Proofs.Ythmgkggpipnalaa
open Go.Sl 
set_option linter.unusedVariables false
theorem TTDiD : okT Try.prog ⟨[34], [(73, 0, 0), (73, 1, 16)]⟩ = true := by kernel_rfl
set_option linter.unusedSimpArgs false

attribute [local irreducible] HuffP.ord HuffP.wordsK HuffP.posn HuffP.cntL HuffP.mostL HuffP.words HuffP.wordOf HuffP.lenOf HuffP.newE HuffP.wholeB
attribute [local irreducible] HuffP.cntZ HuffP.sy

set_option maxHeartbeats 2000000 in
set_option maxRecDepth 100000 in
theorem r_new (p : Option Addr) (cap : Nat) (ls : List Int) (R : HProp) (hR : ∀ w0 h, R w0 h → RdR I3 p ls.length ls w0 h) : Ctr Try.prog 28 [.slice p ls.length cap] [R] (Ret fun v G => (HuffP.newE ls = 0 ∧ ∃ b, v = .tuple #[.pointer (some ⟨b, 0, none⟩), .int .i64 0] ∧ G = [RC b ls, R]) ∨ (HuffP.newE ls ≠ 0 ∧ v = .tuple #[.pointer none, .int .i64 (HuffP.newE ls)] ∧ G = [R])) := by
  refine spec_of [(0, _)] Try.func28 rfl Try.ntmps28 rfl rfl ?_
  intro w0 F
  refine rT TTDiD 14 rfl ?_
  refine w_condD rfl (fun h13 => ?_) (fun h13 => ?_)
  ·
    refine rC TTDiD 8 rfl ?_
    exact ret_ok (G := [R]) (res2 rfl rfl) (.inr ⟨by rw [HuffP.newE_long (by omega)]; decide, by rw [HuffP.newE_long (by omega)], rfl⟩) (sub (.cons (by exact rr0) .nil) (by exact dd0))
  ·
    refine rC TTDiD 4 rfl ?_
    refine o_val (v_build V.pl73 V.z73 rfl (cs := [_, _, _, _, _, _, _, _, _, _, _, _, _, _, _, _, _, _]) rfl) rfl ?_
    refine o_box rfl (show _ = CA [] .i64 (HuffP.cntZ (ls.take 0)) [.slice none 0 0, .slice none 0 0] from by rw [List.take_zero, HuffP.cntZ_nil]; rfl) rfl ?_
    intro b15
    refine rO TTDiD 15 rfl ?_
    refine w_add0 (Row I3 none 0 0 (ls.take 0)) (Row.nil _ _ _) ?_
    rw [show ((5 : Nat), Value.int .i64 0) = (5, .int .i64 ((HuffP.posn (ls.take 0)).length : Int)) from by rw [List.take_zero, HuffP.posn_nil]; rfl]
    refine w_loop3 (fun (k : Nat) (pl : Option Addr) (cl : Nat) => [(0, .slice p ls.length cap), (4, .pointer (some ⟨b15, 0, none⟩)), (5, .int .i64 ((HuffP.posn (ls.take k)).length : Int)), (6, .int .i64 (k : Int))]) (fun (k : Nat) (pl : Option Addr) (cl : Nat) => Cel b15 73 (CA [] .i64 (HuffP.cntZ (ls.take k)) [.slice none 0 0, .slice pl k cl]) :: Row I3 pl k cl (ls.take k) :: R :: F) (fun (k : Nat) (pl : Option Addr) (cl : Nat) => k ≤ ls.length ∧ ∀ i, i < k → 0 ≤ ls.getD i 0 ∧ ls.getD i 0 ≤ 15) (fun (k : Nat) (pl : Option Addr) (cl : Nat) => ls.length - k) (i3 (0) (none) (0) ?_ (.cons rfl (.cons rfl (.cons rfl (.cons rfl (.nil _))))) (sub (.cons (by exact rr1) (.cons (by exact rr0) (.cons (by exact rr0) .nil))) (by exact dd0))) ?_
    ·
      exact ⟨by omega, fun i hi => by omega⟩
    intro k pl cl
    rintro ⟨hk, hok⟩
    refine rL TTDiD 9 rfl ?_
    refine w_condD rfl (fun h19 => ?_) (fun h19 => ?_)
    ·
      refine rC TTDiD 6 rfl ?_
      have hk2 : k < ls.length := by omega
      have hg : I3.g ls (k : Int) = ls.getD k 0 := by simp [Ec.g]
      have hg2 : ls.getD k 0 = ls[k] := by simp [hk2]
      have htk : (ls.take k).length = k := by rw [List.length_take]; omega
      have hcl := HuffP.cntZ_len (ls.take k)
      have hcb := HuffP.cntZ_bound (ls := ls.take k) (by omega) (I3.g ls (k : Int)).toNat
      have hpl2 := HuffP.posn_le (ls.take k)
      refine rC TTDiD 3 rfl ?_
      refine o_val (r_index (c := (I3)) V.sl34 rfl rfl (by exact rdH hR mm2) (by omega) (by omega)) rfl ?_
      refine o_val (r_load (c := (I3)) V.s3 rfl (by exact rdH hR mm2) (by omega) (by omega) rfl rfl) rfl ?_
      refine rO TTDiD 2 rfl ?_
      refine o_boolD 27 rfl (fun h27 => ?_) (fun h27 => ?_)
      ·
        refine rO TTDiD 22 rfl ?_
        exact ret_ok (G := [R]) (res2 rfl rfl) (.inr ⟨by rw [HuffP.newE_bad (by omega) hk2 (by omega)]; decide, by rw [HuffP.newE_bad (by omega) hk2 (by omega)], rfl⟩) (sub (.cons (by exact rr2) .nil) (by exact dd2))
      ·
        refine rO TTDiD 2 rfl ?_
        refine o_want rfl ?_
        refine o_val (r_index (c := (I3)) V.sl34 rfl rfl (by exact rdH hR mm2) (by omega) (by omega)) rfl ?_
        refine o_want rfl ?_
        refine o_val (r_load (c := (I3)) V.s3 rfl (by exact rdH hR mm2) (by omega) (by omega) rfl rfl) rfl ?_
        refine rO TTDiD 4 rfl ?_
        refine w_condD rfl (fun h33 => ?_) (fun h33 => ?_)
        ·
          refine rC TTDiD 13 rfl ?_
          exact ret_ok (G := [R]) (res2 rfl rfl) (.inr ⟨by rw [HuffP.newE_bad (by omega) hk2 (by omega)]; decide, by rw [HuffP.newE_bad (by omega) hk2 (by omega)], rfl⟩) (sub (.cons (by exact rr2) .nil) (by exact dd2))
        ·
          refine rC TTDiD 3 rfl ?_
          refine w_net [⟨[], [], [4], 0, 0⟩, ⟨[], [], [0], 0, 0⟩, ⟨[], [], [6], 0, 0⟩, ⟨[1, 2], [1, 2], [], 0, 0⟩, ⟨[1, 2, 3], [3], [], 0, 0⟩, ⟨[0], [0], [], 0, 0⟩, ⟨[0, 5], [5], [], 0, 0⟩, ⟨[0, 1, 2, 3, 4, 5, 6], [6, 4], [], 0, 0⟩, ⟨[0, 1, 2, 3, 4, 5, 6, 7], [7], [], 0, 0⟩, ⟨[0, 1, 2, 3, 4, 5, 6, 7, 8], [8], [], 0, 0⟩, ⟨[0], [0], [], 0, 0⟩, ⟨[0, 10], [10], [], 0, 0⟩, ⟨[0, 1, 2, 3, 4, 5, 6, 7, 8, 9, 10, 11], [11, 4], [], 0, 0⟩, ⟨[0, 1, 2, 3, 4, 5, 6, 7, 8, 9, 10, 11, 12], [12, 9], [], 0, 0⟩] [⟨fun y => Cel b15 73 (CA [] .i64 (HuffP.cntZ (ls.take k)) [.slice none 0 0, .slice pl k cl]), none, some 13, [8]⟩, ⟨fun y => Row I3 pl k cl (ls.take k), none, none, []⟩, ⟨fun y => R, none, none, [3, 4]⟩, ⟨fun y => Cel b15 73 (CA [] .i64 ((HuffP.cntZ (ls.take k)).set ((((I3).g ls (k : Int))).toNat) (((HuffP.cntZ (ls.take k)).getD ((((I3).g ls (k : Int))).toNat) 0) + 1)) [.slice none 0 0, .slice pl k cl]), some 13, none, []⟩] F V.mixed (by kernel_rfl) rfl (fun _ => .refl _) (locT_0 _ (locT_0 _ (locT_0 _ (locT_1 [0, 1, 2, 3, 4, 5, 6, 7, 8, 9, 10, 11, 12] rfl (by intro y y2 h; rfl) locT_nil)))) ?_
          refine net_pure (fun y => [(4, _)]) (fun y => rfl) rfl rfl rfl (fun y hA L => st_v (v_move rfl) ⟨rfl, rfl⟩) (by intros; rfl) (by intro y y2 h; rfl) ?_
          refine net_pure (fun y => [(0, _)]) (fun y => rfl) rfl rfl rfl (fun y hA L => st_v (v_move rfl) ⟨rfl, rfl⟩) (by intros; rfl) (by intro y y2 h; rfl) ?_
          refine net_pure (fun y => [(6, _)]) (fun y => rfl) rfl rfl rfl (fun y hA L => st_v (v_move rfl) ⟨rfl, rfl⟩) (by intros; rfl) (by intro y y2 h; rfl) ?_
          refine net_read (fun y => [R]) (fun y => [(35, _), (36, _)]) (fun y => rfl) rfl (fun y => rfl) rfl (fun y FF hA => st_v (r_index (c := (I3)) V.sl34 rfl rfl (by exact rdH hR mm0) (by omega) (by omega)) ⟨rfl, rfl⟩) (by intros; rfl) (by intro y y2 h; rfl) ?_
          refine net_read (fun y => [R]) (fun y => [(37, _)]) (fun y => rfl) rfl (fun y => rfl) rfl (fun y FF hA => st_v (r_load (c := (I3)) V.s3 rfl (by exact rdH hR mm0) (by omega) (by omega) rfl rfl) ⟨rfl, rfl⟩) (by intros; rfl) (by intro y y2 h; rfl) ?_
          refine net_pure (fun y => [(34, _)]) (fun y => rfl) rfl rfl rfl (fun y hA L => st_v (v_nil rfl) ⟨rfl, rfl⟩) (by intros; rfl) (by intro y y2 h; rfl) ?_
          refine net_pure (fun y => [(39, _)]) (fun y => rfl) rfl rfl rfl (fun y hA L => st_v (v_fieldAddr V.f73_0 rfl) ⟨rfl, rfl⟩) (by intros; rfl) (by intro y y2 h; rfl) ?_
          refine net_pure (fun y => [(40, _), (38, _)]) (fun y => rfl) rfl rfl rfl (fun y hA L => st_v (v_indexA ((((I3).g ls (k : Int))).toNat) (by omega) V.ar71 rfl rfl (by omega)) ⟨rfl, rfl⟩) (by intros; rfl) (by intro y y2 h; rfl) ?_
          refine net_read (fun y => [Cel b15 73 (CA [] .i64 (HuffP.cntZ (ls.take k)) [.slice none 0 0, .slice pl k cl])]) (fun y => [(41, _)]) (fun y => rfl) rfl (fun y => rfl) rfl (fun y FF hA => st_v (a_load ((I3).g ls (k : Int)) V.s3 rfl (by exact mm0) (by (simp only [List.length_cons, List.length_nil]; omega)) (by omega) (by omega)) ⟨rfl, rfl⟩) (by intros; rfl) (by intro y y2 h; rfl) ?_
          refine net_pure (fun y => [(42, _)]) (fun y => rfl) rfl rfl rfl (fun y hA L => st_v (v_add rfl rfl (wrapI (by omega) (by omega))) ⟨rfl, rfl⟩) (by intros; rfl) (by intro y y2 h; rfl) ?_
          refine net_pure (fun y => [(34, _)]) (fun y => rfl) rfl rfl rfl (fun y hA L => st_v (v_nil rfl) ⟨rfl, rfl⟩) (by intros; rfl) (by intro y y2 h; rfl) ?_
          refine net_pure (fun y => [(44, _)]) (fun y => rfl) rfl rfl rfl (fun y hA L => st_v (v_fieldAddr V.f73_0 rfl) ⟨rfl, rfl⟩) (by intros; rfl) (by intro y y2 h; rfl) ?_
          refine net_pure (fun y => [(45, _), (38, _)]) (fun y => rfl) rfl rfl rfl (fun y hA L => st_v (v_indexA ((((I3).g ls (k : Int))).toNat) (by omega) V.ar71 rfl rfl (by omega)) ⟨rfl, rfl⟩) (by intros; rfl) (by intro y y2 h; rfl) ?_
          refine net_eff (fun y => [Cel b15 73 (CA [] .i64 (HuffP.cntZ (ls.take k)) [.slice none 0 0, .slice pl k cl])]) (fun y => []) (fun y => [Cel b15 73 (CA [] .i64 ((HuffP.cntZ (ls.take k)).set ((((I3).g ls (k : Int))).toNat) (((HuffP.cntZ (ls.take k)).getD ((((I3).g ls (k : Int))).toNat) 0) + 1)) [.slice none 0 0, .slice pl k cl])]) (fun y => [(46, _), (43, _)]) (fun y => rfl) (fun y => rfl) (fun y => rfl) (fun y => rfl) (fun y FF hA => st_v (a_store ((I3).g ls (k : Int)) V.s3 rfl rfl (by exact pp0) (by (simp only [List.length_cons, List.length_nil]; omega)) (by omega) (by omega)) ⟨rfl, .refl _⟩) (by intros; rfl) (by intros; rfl) (by intro y y2 h; rfl) ?_
          refine net_nil ?_
          intro y hA
          clear hA
          refine thn_n ?_
          refine w_keep _ (.cons (d := 0) rfl (.cons (d := 4) rfl (.cons (d := 5) rfl (.cons (d := 6) rfl (.nil _))))) ?_
          refine w_sub (M := Row I3 pl k cl (ls.take k) :: R :: Cel b15 73 (CA [] .i64 ((HuffP.cntZ (ls.take k)).set ((((I3).g ls (k : Int))).toNat) (((HuffP.cntZ (ls.take k)).getD ((((I3).g ls (k : Int))).toNat) 0) + 1)) [.slice none 0 0, .slice pl k cl]) :: F) (fun _ _ h => h) ?_
          refine rC TTDiD 5 rfl ?_
          refine o_val (r_index (c := (I3)) V.sl34 rfl rfl (by exact rdH hR mm1) (by omega) (by omega)) rfl ?_
          refine o_val (r_load (c := (I3)) V.s3 rfl (by exact rdH hR mm1) (by omega) (by omega) rfl rfl) rfl ?_
          refine rO TTDiD 3 rfl ?_
          refine w_condD rfl (fun h51 => ?_) (fun h51 => ?_)
          ·
            refine rCs TTDiD 6 rfl (by omega) ?_
            refine w_net [⟨[], [], [4], 0, 0⟩, ⟨[], [], [4], 0, 0⟩, ⟨[1], [1], [], 0, 0⟩, ⟨[1, 2], [2], [], 0, 0⟩, ⟨[1, 2, 3], [3], [], 0, 0⟩, ⟨[], [], [0], 0, 0⟩, ⟨[], [], [6], 0, 0⟩, ⟨[5, 6], [5, 6], [], 0, 0⟩, ⟨[5, 6, 7], [7], [], 0, 0⟩, ⟨[5, 6, 7, 8], [8], [], 0, 0⟩, ⟨[1, 2, 3, 4, 5, 6, 7, 8, 9], [4, 9], [], 0, 0⟩, ⟨[0, 1, 2, 3, 4, 5, 6, 7, 8, 9, 10], [0], [], 0, 0⟩, ⟨[0, 1, 2, 3, 4, 5, 6, 7, 8, 9, 10, 11], [11], [], 0, 0⟩, ⟨[0, 1, 2, 3, 4, 5, 6, 7, 8, 9, 10, 11, 12], [12, 10], [], 0, 0⟩] [⟨fun y => Row I3 pl k cl (ls.take k), none, some 10, []⟩, ⟨fun y => R, none, none, [7, 8]⟩, ⟨fun y => Cel b15 73 (CA [] .i64 ((HuffP.cntZ (ls.take k)).set ((((I3).g ls (k : Int))).toNat) (((HuffP.cntZ (ls.take k)).getD ((((I3).g ls (k : Int))).toNat) 0) + 1)) [.slice none 0 0, .slice pl k cl]), none, some 13, [4]⟩, ⟨fun y => Row (I3) (some ⟨(blk' (slP (y 9))), 0, none⟩) 1 1 [((I3).g ls (k : Int))], some 9, none, [10]⟩, ⟨fun y => Row (I3) (slP (y 10)) (k + 1) (slC (y 10)) ((ls.take k) ++ [((I3).g ls (k : Int))]), some 10, none, []⟩, ⟨fun y => Cel b15 73 (CA [] .i64 ((HuffP.cntZ (ls.take k)).set ((((I3).g ls (k : Int))).toNat) (((HuffP.cntZ (ls.take k)).getD ((((I3).g ls (k : Int))).toNat) 0) + 1)) [.slice none 0 0, .slice (slP (y 10)) (k + 1) (slC (y 10))]), some 13, none, []⟩] F V.mixed (by kernel_rfl) rfl (fun _ => .refl _) (locT_0 _ (locT_0 _ (locT_0 _ (locT_1 [5, 6, 7, 8] rfl (by intro y y2 h; simp only [h 9 (.inl rfl)]) (locT_1 [1, 2, 3, 4, 5, 6, 7, 8, 9] rfl (by intro y y2 h; simp only [h 10 (.inl rfl)]) (locT_1 [0, 1, 2, 3, 4, 5, 6, 7, 8, 9, 10, 11, 12] rfl (by intro y y2 h; simp only [h 10 (.inr (by decide))]) locT_nil)))))) ?_
            refine net_pure (fun y => [(4, _)]) (fun y => rfl) rfl rfl rfl (fun y hA L => st_v (v_move rfl) ⟨rfl, rfl⟩) (by intros; rfl) (by intro y y2 h; rfl) ?_
            refine net_pure (fun y => [(4, _)]) (fun y => rfl) rfl rfl rfl (fun y hA L => st_v (v_move rfl) ⟨rfl, rfl⟩) (by intros; rfl) (by intro y y2 h; rfl) ?_
            refine net_pure (fun y => [(55, _)]) (fun y => rfl) rfl rfl rfl (fun y hA L => st_v (v_nil rfl) ⟨rfl, rfl⟩) (by intros; rfl) (by intro y y2 h; rfl) ?_
            refine net_pure (fun y => [(56, _)]) (fun y => rfl) rfl rfl rfl (fun y hA L => st_v (v_fieldAddr V.f73_2 rfl) ⟨rfl, rfl⟩) (by intros; rfl) (by intro y y2 h; rfl) ?_
            refine net_read (fun y => [Cel b15 73 (CA [] .i64 ((HuffP.cntZ (ls.take k)).set ((((I3).g ls (k : Int))).toNat) (((HuffP.cntZ (ls.take k)).getD ((((I3).g ls (k : Int))).toNat) 0) + 1)) [.slice none 0 0, .slice pl k cl])]) (fun y => [(57, _)]) (fun y => rfl) rfl (fun y => rfl) rfl (fun y FF hA => st_v (a_loadP (n := 16) 1 V.s34 rfl (by exact mm0) (by (simp only [List.length_set]; omega)) rfl rfl) ⟨rfl, rfl⟩) (by intros; rfl) (by intro y y2 h; rfl) ?_
            refine net_pure (fun y => [(0, _)]) (fun y => rfl) rfl rfl rfl (fun y hA L => st_v (v_move rfl) ⟨rfl, rfl⟩) (by intros; rfl) (by intro y y2 h; rfl) ?_
            refine net_pure (fun y => [(6, _)]) (fun y => rfl) rfl rfl rfl (fun y hA L => st_v (v_move rfl) ⟨rfl, rfl⟩) (by intros; rfl) (by intro y y2 h; rfl) ?_
            refine net_read (fun y => [R]) (fun y => [(59, _), (60, _)]) (fun y => rfl) rfl (fun y => rfl) rfl (fun y FF hA => st_v (r_index (c := (I3)) V.sl34 rfl rfl (by exact rdH hR mm0) (by omega) (by omega)) ⟨rfl, rfl⟩) (by intros; rfl) (by intro y y2 h; rfl) ?_
            refine net_read (fun y => [R]) (fun y => [(61, _)]) (fun y => rfl) rfl (fun y => rfl) rfl (fun y FF hA => st_v (r_load (c := (I3)) V.s3 rfl (by exact rdH hR mm0) (by omega) (by omega) rfl rfl) ⟨rfl, rfl⟩) (by intros; rfl) (by intro y y2 h; rfl) ?_
            refine net_new (fun y v => .slice (some ⟨blk' (slP v), 0, none⟩) 1 1) (fun y v => True) (fun y => []) (fun y => []) (fun y v => [Row (I3) (some ⟨(blk' (slP v)), 0, none⟩) 1 1 [((I3).g ls (k : Int))]]) (fun y => [(62, _)]) (fun y => rfl) (fun y => rfl) (fun y => rfl) (fun y => rfl) (fun y FF hA => st_newN (r_buildX (I3) ([((I3).g ls (k : Int))]) V.sl34 V.z3 rfl rfl rfl rfl rfl)) (by intros; rfl) (by intros; rfl) (by intros; rfl) (by intro y y2 h; simp only [h 9 (.inl rfl)]) (by intro y y2 h; rfl) ?_
            refine net_new (fun y v => .slice (slP v) (k + 1) (slC v)) (fun y v => True) (fun y => [Row I3 pl k cl (ls.take k)]) (fun y => [Row (I3) (some ⟨(blk' (slP (y 9))), 0, none⟩) 1 1 [((I3).g ls (k : Int))]]) (fun y v => [Row (I3) (slP v) (k + 1) (slC v) ((ls.take k) ++ [((I3).g ls (k : Int))])]) (fun y => [(58, _), (63, _)]) (fun y => rfl) (fun y => rfl) (fun y => rfl) (fun y => rfl) (fun y FF hA => st_appN (r_appendX (c := (I3)) V.sl34 V.z3 rfl rfl rfl rfl rr0 (by exact own mm1) (by omega)) (.refl _)) (by intros; rfl) (by intros; rfl) (by intros; rfl) (by intro y y2 h; simp only [h 9 (.inr (by decide)), h 10 (.inl rfl)]) (by intro y y2 h; rfl) ?_
            refine net_pure (fun y => [(54, _)]) (fun y => rfl) rfl rfl rfl (fun y hA L => st_v (v_nil rfl) ⟨rfl, rfl⟩) (by intros; rfl) (by intro y y2 h; rfl) ?_
            refine net_pure (fun y => [(65, _)]) (fun y => rfl) rfl rfl rfl (fun y hA L => st_v (v_fieldAddr V.f73_2 rfl) ⟨rfl, rfl⟩) (by intros; rfl) (by intro y y2 h; rfl) ?_
            refine net_eff (fun y => [Cel b15 73 (CA [] .i64 ((HuffP.cntZ (ls.take k)).set ((((I3).g ls (k : Int))).toNat) (((HuffP.cntZ (ls.take k)).getD ((((I3).g ls (k : Int))).toNat) 0) + 1)) [.slice none 0 0, .slice pl k cl])]) (fun y => []) (fun y => [Cel b15 73 (CA [] .i64 ((HuffP.cntZ (ls.take k)).set ((((I3).g ls (k : Int))).toNat) (((HuffP.cntZ (ls.take k)).getD ((((I3).g ls (k : Int))).toNat) 0) + 1)) [.slice none 0 0, .slice (slP (y 10)) (k + 1) (slC (y 10))])]) (fun y => [(66, _), (64, _)]) (fun y => rfl) (fun y => rfl) (fun y => rfl) (fun y => rfl) (fun y FF hA => st_v (a_storeP (n := 16) 1 V.s34 rfl rfl rfl (by exact pp0) (by (simp only [List.length_set]; omega)) rfl (by exact Nat.le_of_ble_eq_true rfl) rfl) ⟨rfl, .refl _⟩) (by intros; rfl) (by intros; rfl) (by intro y y2 h; rfl) ?_
            refine net_nil ?_
            intro y hA
            clear hA
            show blk _ _ _ _ (R :: Row (I3) (some ⟨(blk' (slP (y 9))), 0, none⟩) 1 1 [((I3).g ls (k : Int))] :: Row (I3) (slP (y 10)) (k + 1) (slC (y 10)) ((ls.take k) ++ [((I3).g ls (k : Int))]) :: Cel b15 73 (CA [] .i64 ((HuffP.cntZ (ls.take k)).set ((((I3).g ls (k : Int))).toNat) (((HuffP.cntZ (ls.take k)).getD ((((I3).g ls (k : Int))).toNat) 0) + 1)) [.slice none 0 0, .slice (slP (y 10)) (k + 1) (slC (y 10))]) :: F)
            generalize (blk' (slP (y 9))) = b63
            generalize (slP (y 10)) = p64
            generalize (slC (y 10)) = c64
            refine blk_n ?_
            refine thn_n ?_
            refine w_region ?_
            refine o_val (v_move rfl) rfl ?_
            refine o_val (v_add rfl rfl (wrapI (by omega) (by omega))) rfl ?_
            refine o_val (v_assign rfl) rfl ?_
            refine o_nil ?_
            have hok2 := HuffP.ok_snoc hok (by omega)
            rw [HuffP.cntZ_snoc hk2 (hg.trans hg2) (by omega) (by omega), HuffP.take_snoc hk2 (hg.trans hg2)]
            (rw [HuffP.many_pos hk2 (hg.trans hg2) (by omega)]; exact j3 (k + 1) _ _ ⟨⟨by omega, hok2⟩, by omega⟩ (.cons rfl (.cons rfl (.cons rfl (.cons rfl (.nil _))))) (sub (.cons (by exact rr3) (.cons (by exact rr2) (.cons (by exact rr0) .nil))) (by exact dd1)))
          ·
            refine rC TTDiD 2 rfl ?_
            refine w_net [⟨[], [], [4], 0, 0⟩, ⟨[], [], [4], 0, 0⟩, ⟨[1], [1], [], 0, 0⟩, ⟨[1, 2], [2], [], 0, 0⟩, ⟨[1, 2, 3], [3], [], 0, 0⟩, ⟨[], [], [0], 0, 0⟩, ⟨[], [], [6], 0, 0⟩, ⟨[5, 6], [5, 6], [], 0, 0⟩, ⟨[5, 6, 7], [7], [], 0, 0⟩, ⟨[5, 6, 7, 8], [8], [], 0, 0⟩, ⟨[1, 2, 3, 4, 5, 6, 7, 8, 9], [4, 9], [], 0, 0⟩, ⟨[0, 1, 2, 3, 4, 5, 6, 7, 8, 9, 10], [0], [], 0, 0⟩, ⟨[0, 1, 2, 3, 4, 5, 6, 7, 8, 9, 10, 11], [11], [], 0, 0⟩, ⟨[0, 1, 2, 3, 4, 5, 6, 7, 8, 9, 10, 11, 12], [12, 10], [], 0, 0⟩] [⟨fun y => Row I3 pl k cl (ls.take k), none, some 10, []⟩, ⟨fun y => R, none, none, [7, 8]⟩, ⟨fun y => Cel b15 73 (CA [] .i64 ((HuffP.cntZ (ls.take k)).set ((((I3).g ls (k : Int))).toNat) (((HuffP.cntZ (ls.take k)).getD ((((I3).g ls (k : Int))).toNat) 0) + 1)) [.slice none 0 0, .slice pl k cl]), none, some 13, [4]⟩, ⟨fun y => Row (I3) (some ⟨(blk' (slP (y 9))), 0, none⟩) 1 1 [((I3).g ls (k : Int))], some 9, none, [10]⟩, ⟨fun y => Row (I3) (slP (y 10)) (k + 1) (slC (y 10)) ((ls.take k) ++ [((I3).g ls (k : Int))]), some 10, none, []⟩, ⟨fun y => Cel b15 73 (CA [] .i64 ((HuffP.cntZ (ls.take k)).set ((((I3).g ls (k : Int))).toNat) (((HuffP.cntZ (ls.take k)).getD ((((I3).g ls (k : Int))).toNat) 0) + 1)) [.slice none 0 0, .slice (slP (y 10)) (k + 1) (slC (y 10))]), some 13, none, []⟩] F V.mixed (by kernel_rfl) rfl (fun _ => .refl _) (locT_0 _ (locT_0 _ (locT_0 _ (locT_1 [5, 6, 7, 8] rfl (by intro y y2 h; simp only [h 9 (.inl rfl)]) (locT_1 [1, 2, 3, 4, 5, 6, 7, 8, 9] rfl (by intro y y2 h; simp only [h 10 (.inl rfl)]) (locT_1 [0, 1, 2, 3, 4, 5, 6, 7, 8, 9, 10, 11, 12] rfl (by intro y y2 h; simp only [h 10 (.inr (by decide))]) locT_nil)))))) ?_
            refine net_pure (fun y => [(4, _)]) (fun y => rfl) rfl rfl rfl (fun y hA L => st_v (v_move rfl) ⟨rfl, rfl⟩) (by intros; rfl) (by intro y y2 h; rfl) ?_
            refine net_pure (fun y => [(4, _)]) (fun y => rfl) rfl rfl rfl (fun y hA L => st_v (v_move rfl) ⟨rfl, rfl⟩) (by intros; rfl) (by intro y y2 h; rfl) ?_
            refine net_pure (fun y => [(55, _)]) (fun y => rfl) rfl rfl rfl (fun y hA L => st_v (v_nil rfl) ⟨rfl, rfl⟩) (by intros; rfl) (by intro y y2 h; rfl) ?_
            refine net_pure (fun y => [(56, _)]) (fun y => rfl) rfl rfl rfl (fun y hA L => st_v (v_fieldAddr V.f73_2 rfl) ⟨rfl, rfl⟩) (by intros; rfl) (by intro y y2 h; rfl) ?_
            refine net_read (fun y => [Cel b15 73 (CA [] .i64 ((HuffP.cntZ (ls.take k)).set ((((I3).g ls (k : Int))).toNat) (((HuffP.cntZ (ls.take k)).getD ((((I3).g ls (k : Int))).toNat) 0) + 1)) [.slice none 0 0, .slice pl k cl])]) (fun y => [(57, _)]) (fun y => rfl) rfl (fun y => rfl) rfl (fun y FF hA => st_v (a_loadP (n := 16) 1 V.s34 rfl (by exact mm0) (by (simp only [List.length_set]; omega)) rfl rfl) ⟨rfl, rfl⟩) (by intros; rfl) (by intro y y2 h; rfl) ?_
            refine net_pure (fun y => [(0, _)]) (fun y => rfl) rfl rfl rfl (fun y hA L => st_v (v_move rfl) ⟨rfl, rfl⟩) (by intros; rfl) (by intro y y2 h; rfl) ?_
            refine net_pure (fun y => [(6, _)]) (fun y => rfl) rfl rfl rfl (fun y hA L => st_v (v_move rfl) ⟨rfl, rfl⟩) (by intros; rfl) (by intro y y2 h; rfl) ?_
            refine net_read (fun y => [R]) (fun y => [(59, _), (60, _)]) (fun y => rfl) rfl (fun y => rfl) rfl (fun y FF hA => st_v (r_index (c := (I3)) V.sl34 rfl rfl (by exact rdH hR mm0) (by omega) (by omega)) ⟨rfl, rfl⟩) (by intros; rfl) (by intro y y2 h; rfl) ?_
            refine net_read (fun y => [R]) (fun y => [(61, _)]) (fun y => rfl) rfl (fun y => rfl) rfl (fun y FF hA => st_v (r_load (c := (I3)) V.s3 rfl (by exact rdH hR mm0) (by omega) (by omega) rfl rfl) ⟨rfl, rfl⟩) (by intros; rfl) (by intro y y2 h; rfl) ?_
            refine net_new (fun y v => .slice (some ⟨blk' (slP v), 0, none⟩) 1 1) (fun y v => True) (fun y => []) (fun y => []) (fun y v => [Row (I3) (some ⟨(blk' (slP v)), 0, none⟩) 1 1 [((I3).g ls (k : Int))]]) (fun y => [(62, _)]) (fun y => rfl) (fun y => rfl) (fun y => rfl) (fun y => rfl) (fun y FF hA => st_newN (r_buildX (I3) ([((I3).g ls (k : Int))]) V.sl34 V.z3 rfl rfl rfl rfl rfl)) (by intros; rfl) (by intros; rfl) (by intros; rfl) (by intro y y2 h; simp only [h 9 (.inl rfl)]) (by intro y y2 h; rfl) ?_
            refine net_new (fun y v => .slice (slP v) (k + 1) (slC v)) (fun y v => True) (fun y => [Row I3 pl k cl (ls.take k)]) (fun y => [Row (I3) (some ⟨(blk' (slP (y 9))), 0, none⟩) 1 1 [((I3).g ls (k : Int))]]) (fun y v => [Row (I3) (slP v) (k + 1) (slC v) ((ls.take k) ++ [((I3).g ls (k : Int))])]) (fun y => [(58, _), (63, _)]) (fun y => rfl) (fun y => rfl) (fun y => rfl) (fun y => rfl) (fun y FF hA => st_appN (r_appendX (c := (I3)) V.sl34 V.z3 rfl rfl rfl rfl rr0 (by exact own mm1) (by omega)) (.refl _)) (by intros; rfl) (by intros; rfl) (by intros; rfl) (by intro y y2 h; simp only [h 9 (.inr (by decide)), h 10 (.inl rfl)]) (by intro y y2 h; rfl) ?_
            refine net_pure (fun y => [(54, _)]) (fun y => rfl) rfl rfl rfl (fun y hA L => st_v (v_nil rfl) ⟨rfl, rfl⟩) (by intros; rfl) (by intro y y2 h; rfl) ?_
            refine net_pure (fun y => [(65, _)]) (fun y => rfl) rfl rfl rfl (fun y hA L => st_v (v_fieldAddr V.f73_2 rfl) ⟨rfl, rfl⟩) (by intros; rfl) (by intro y y2 h; rfl) ?_
            refine net_eff (fun y => [Cel b15 73 (CA [] .i64 ((HuffP.cntZ (ls.take k)).set ((((I3).g ls (k : Int))).toNat) (((HuffP.cntZ (ls.take k)).getD ((((I3).g ls (k : Int))).toNat) 0) + 1)) [.slice none 0 0, .slice pl k cl])]) (fun y => []) (fun y => [Cel b15 73 (CA [] .i64 ((HuffP.cntZ (ls.take k)).set ((((I3).g ls (k : Int))).toNat) (((HuffP.cntZ (ls.take k)).getD ((((I3).g ls (k : Int))).toNat) 0) + 1)) [.slice none 0 0, .slice (slP (y 10)) (k + 1) (slC (y 10))])]) (fun y => [(66, _), (64, _)]) (fun y => rfl) (fun y => rfl) (fun y => rfl) (fun y => rfl) (fun y FF hA => st_v (a_storeP (n := 16) 1 V.s34 rfl rfl rfl (by exact pp0) (by (simp only [List.length_set]; omega)) rfl (by exact Nat.le_of_ble_eq_true rfl) rfl) ⟨rfl, .refl _⟩) (by intros; rfl) (by intros; rfl) (by intro y y2 h; rfl) ?_
            refine net_nil ?_
            intro y hA
            clear hA
            show blk _ _ _ _ (R :: Row (I3) (some ⟨(blk' (slP (y 9))), 0, none⟩) 1 1 [((I3).g ls (k : Int))] :: Row (I3) (slP (y 10)) (k + 1) (slC (y 10)) ((ls.take k) ++ [((I3).g ls (k : Int))]) :: Cel b15 73 (CA [] .i64 ((HuffP.cntZ (ls.take k)).set ((((I3).g ls (k : Int))).toNat) (((HuffP.cntZ (ls.take k)).getD ((((I3).g ls (k : Int))).toNat) 0) + 1)) [.slice none 0 0, .slice (slP (y 10)) (k + 1) (slC (y 10))]) :: F)
            generalize (blk' (slP (y 9))) = b63
            generalize (slP (y 10)) = p64
            generalize (slC (y 10)) = c64
            refine blk_n ?_
            refine thn_n ?_
            refine w_region ?_
            refine o_val (v_move rfl) rfl ?_
            refine o_val (v_add rfl rfl (wrapI (by omega) (by omega))) rfl ?_
            refine o_val (v_assign rfl) rfl ?_
            refine o_nil ?_
            have hok2 := HuffP.ok_snoc hok (by omega)
            rw [HuffP.cntZ_snoc hk2 (hg.trans hg2) (by omega) (by omega), HuffP.take_snoc hk2 (hg.trans hg2)]
            (rw [HuffP.many_zero hk2 (hg.trans hg2) (by omega)]; exact j3 (k + 1) _ _ ⟨⟨by omega, hok2⟩, by omega⟩ (.cons rfl (.cons rfl (.cons rfl (.cons rfl (.nil _))))) (sub (.cons (by exact rr3) (.cons (by exact rr2) (.cons (by exact rr0) .nil))) (by exact dd1)))
    ·
      refine rC TTDiD 6 rfl ?_
      have hkn : k = ls.length := by omega
      subst hkn
      rw [List.take_length] at *
      have hvv := HuffP.ok_take hok (Nat.le_refl _)
      have hcl := HuffP.cntZ_len ls
      have hcl2 := HuffP.cntL_len ls
      have hE0 := HuffP.newE_ok (by omega) hvv
      have hCb := HuffP.cntL_bound (ls := ls) (by omega)
      refine rC TTDiD 4 rfl ?_
      refine o_val (v_indexA 0 rfl V.ar71 rfl rfl (by omega)) rfl ?_
      refine o_eff (a_store (0 : Int) V.s3 rfl rfl (by exact pp0) (by (simp only [List.length_cons, List.length_nil]; omega)) (by omega) (by omega)) ?_
      refine rO TTDiD 3 rfl ?_
      rw [HuffP.cntZ_set]
      refine rC TTDiD 11 rfl ?_
      refine w_loop1 (fun (k : Nat) => [(0, .slice p ls.length cap), (4, .pointer (some ⟨b15, 0, none⟩)), (5, .int .i64 ((HuffP.posn ls).length : Int)), (7, .int .i64 (HuffP.left (HuffP.cntL ls) k)), (8, .int .i64 ((k : Int) + 1))]) (fun (k : Nat) => Cel b15 73 (CA [] .i64 (HuffP.cntL ls) [.slice none 0 0, .slice pl ls.length cl]) :: Row I3 pl ls.length cl ls :: R :: F) (fun (k : Nat) => k ≤ 15 ∧ ∀ m, 1 ≤ m → m ≤ k → 0 ≤ HuffP.left (HuffP.cntL ls) m) (fun (k : Nat) => 15 - k) (i1 (0) ?_ (.cons rfl (.cons rfl (.cons rfl (.cons rfl (.cons rfl (.nil _)))))) (sub (.cons (by exact rr0) (.cons (by exact rr0) (.cons (by exact rr0) .nil))) (by exact dd0))) ?_
      ·
        exact ⟨by omega, fun m h1 h2 => by omega⟩
      intro k
      rintro ⟨hk, hno⟩
      have hcc := hCb ((k : Int) + 1).toNat
      have hc1 := hCb (Int.toNat 1)
      have hlb := HuffP.left_bound (fun i => (hCb i).1) hk
      have hl0 := HuffP.left_nn hno
      refine rL TTDiD 7 rfl ?_
      refine w_condD rfl (fun h72 => ?_) (fun h72 => ?_)
      ·
        refine rCs TTDiD 12 rfl (by omega) ?_
        refine o_val (v_indexA (k + 1) rfl V.ar71 rfl rfl (by omega)) rfl ?_
        refine o_val (a_load ((k : Int) + 1) V.s3 rfl (by exact mm0) (by (simp only [List.length_cons, List.length_nil]; omega)) (by omega) (by omega)) rfl ?_
        refine rOs TTDiD 10 rfl (by omega) ?_
        refine w_condD rfl (fun h85 => ?_) (fun h85 => ?_)
        ·
          refine rC TTDiD 12 rfl ?_
          have hE : HuffP.newE ls = 4 := by rw [hE0, HuffP.whole_no (n := k + 1) (by omega) (by omega) (by rw [← HuffP.left_next]; exact h85)]; rfl
          exact ret_ok (G := [R]) (res2 rfl rfl) (.inr ⟨by rw [hE]; decide, by rw [hE], rfl⟩) (sub (.cons (by exact rr2) .nil) (by exact dd2))
        ·
          refine rCs TTDiD 8 rfl (by omega) ?_
          have hno2 := HuffP.left_more hno h85
          rw [HuffP.left_next]
          exact j1 (k + 1) ⟨⟨by omega, hno2⟩, by omega⟩ (.cons rfl (.cons rfl (.cons rfl (.cons rfl (.cons rfl (.nil _)))))) (sub (.cons (by exact rr0) (.cons (by exact rr0) (.cons (by exact rr0) .nil))) (by exact dd0))
      ·
        refine rC TTDiD 11 rfl ?_
        refine o_boolD 88 rfl (fun h88 => ?_) (fun h88 => ?_)
        ·
          refine rO TTDiD 3 rfl ?_
          refine o_boolD 91 rfl (fun h91 => ?_) (fun h91 => ?_)
          ·
            refine rO TTDiD 20 rfl ?_
            have hE : HuffP.newE ls = 0 := by rw [hE0, HuffP.whole_end hk h72 hno]; simp only [Bool.or_eq_true, Bool.and_eq_true, decide_eq_true_eq]; rw [if_pos (by omega)]
            refine rC TTDiD 5 rfl ?_
            refine w_add0 (Row I3 none 0 0 (HuffP.ordN ls 0)) (Row.nil _ _ _) ?_
            refine w_loop3 (fun (m : Nat) (ps : Option Addr) (cs : Nat) => [(0, .slice p ls.length cap), (4, .pointer (some ⟨b15, 0, none⟩)), (9, .int .i64 ((m : Int) + 1))]) (fun (m : Nat) (ps : Option Addr) (cs : Nat) => Cel b15 73 (CA [] .i64 (HuffP.cntL ls) [.slice ps (HuffP.ordN ls m).length cs, .slice pl ls.length cl]) :: Row I3 ps (HuffP.ordN ls m).length cs (HuffP.ordN ls m) :: Row I3 pl ls.length cl ls :: R :: F) (fun (m : Nat) (ps : Option Addr) (cs : Nat) => m ≤ 15) (fun (m : Nat) (ps : Option Addr) (cs : Nat) => 15 - m) (i3 (0) (none) (0) ?_ (.cons rfl (.cons rfl (.cons rfl (.nil _)))) (sub (.cons (by exact rr1) (.cons (by exact rr0) (.cons (by exact rr0) (.cons (by exact rr0) .nil)))) (by exact dd0))) ?_
            ·
              exact Nat.zero_le _
            intro m ps cs
            rintro hm
            refine rL TTDiD 7 rfl ?_
            refine w_condD rfl (fun h106 => ?_) (fun h106 => ?_)
            ·
              refine rC TTDiD 10 rfl ?_
              rw [← HuffP.sy_zero]
              refine w_loop3 (fun (i : Nat) (ps : Option Addr) (cs : Nat) => [(0, .slice p ls.length cap), (4, .pointer (some ⟨b15, 0, none⟩)), (9, .int .i64 ((m : Int) + 1)), (10, .int .i64 (i : Int))]) (fun (i : Nat) (ps : Option Addr) (cs : Nat) => Cel b15 73 (CA [] .i64 (HuffP.cntL ls) [.slice ps (HuffP.sy ls m i).length cs, .slice pl ls.length cl]) :: Row I3 ps (HuffP.sy ls m i).length cs (HuffP.sy ls m i) :: Row I3 pl ls.length cl ls :: R :: F) (fun (i : Nat) (ps : Option Addr) (cs : Nat) => i ≤ ls.length) (fun (i : Nat) (ps : Option Addr) (cs : Nat) => ls.length - i) (i3 (0) (_) (_) ?_ (.cons rfl (.cons rfl (.cons rfl (.cons rfl (.nil _))))) (sub (.cons (by exact rr0) (.cons (by exact rr0) (.cons (by exact rr0) (.cons (by exact rr0) .nil)))) (by exact dd0))) ?_
              ·
                exact Nat.zero_le _
              intro i ps cs
              rintro hi
              refine rL TTDiD 9 rfl ?_
              refine w_condD rfl (fun h112 => ?_) (fun h112 => ?_)
              ·
                refine rC TTDiD 5 rfl ?_
                have hi2 : i < ls.length := by omega
                have hg : I3.g ls (i : Int) = ls.getD i 0 := by simp [Ec.g]
                have hg2 : ls.getD i 0 = ls[i] := by simp [hi2]
                have hsy := HuffP.sy_le (ls := ls) (m := m) (i := i) (by omega) (by omega)
                refine rC TTDiD 3 rfl ?_
                refine o_val (r_index (c := (I3)) V.sl34 rfl rfl (by exact rdH hR mm3) (by omega) (by omega)) rfl ?_
                refine o_val (r_load (c := (I3)) V.s3 rfl (by exact rdH hR mm3) (by omega) (by omega) rfl rfl) rfl ?_
                refine rO TTDiD 4 rfl ?_
                refine w_condD rfl (fun h120 => ?_) (fun h120 => ?_)
                ·
                  refine rC TTDiD 5 rfl ?_
                  refine o_val (a_loadP (n := 16) 0 V.s34 rfl (by exact mm0) (by omega) rfl rfl) rfl ?_
                  refine o_val (v_move rfl) rfl ?_
                  refine r_build (I3) [(i : Int)] V.sl34 V.z3 rfl rfl rfl rfl rfl rfl ?_
                  intro b127
                  refine r_append (c := (I3)) V.sl34 V.z3 rfl rfl rfl rfl (by exact rr2) (by exact own mm0) (by omega) rfl ?_
                  intro p128 c128
                  refine rO TTDiD 2 rfl ?_
                  refine o_eff (a_storeP (n := 16) 0 V.s34 rfl rfl rfl (by exact pp2) (by omega) rfl (by exact Nat.le_of_ble_eq_true rfl) rfl) ?_
                  refine rOs TTDiD 8 rfl (by omega) ?_
                  (rw [HuffP.sy_yes hi2 (hg.trans hg2) (by omega), HuffP.sy_len hi2 (hg.trans hg2) (by omega)]; exact j3 (i + 1) _ _ ⟨by omega, by omega⟩ (.cons rfl (.cons rfl (.cons rfl (.cons rfl (.nil _))))) (sub (.cons (by exact rr2) (.cons (by exact rr0) (.cons (by exact rr1) (.cons (by exact rr1) .nil)))) (by exact dd1)))
                ·
                  refine rCs TTDiD 8 rfl (by omega) ?_
                  (rw [HuffP.sy_no hi2 (hg.trans hg2) (by omega)]; exact j3 (i + 1) _ _ ⟨by omega, by omega⟩ (.cons rfl (.cons rfl (.cons rfl (.cons rfl (.nil _))))) (sub (.cons (by exact rr0) (.cons (by exact rr0) (.cons (by exact rr0) (.cons (by exact rr0) .nil)))) (by exact dd0)))
              ·
                refine rCs TTDiD 11 rfl (by omega) ?_
                rw [HuffP.sy_all (by omega)]
                refine j3 (m + 1) (_) (_) ?_ (.cons rfl (.cons rfl (.cons rfl (.nil _)))) (sub (.cons (by exact rr0) (.cons (by exact rr0) (.cons (by exact rr0) (.cons (by exact rr0) .nil)))) (by exact dd0))
                exact ⟨by omega, by omega⟩
            ·
              refine rC TTDiD 13 rfl ?_
              have hm15 : m = 15 := by omega
              subst hm15
              rw [HuffP.ord15]
              exact ret_ok (G := [RC b15 ls, R]) (res2 rfl rfl) (.inl ⟨hE, b15, rfl, rfl⟩) ((fold' (.cons (by exact rr0) (.cons (by exact rr0) (.cons (by exact rr0) .nil))) (by exact dd0) (fun w0 h hh => rc_close hh)).trans (sub (.cons (by exact rr0) (.cons (by exact rr0) .nil)) (by exact dd0)))
          ·
            refine rO TTDiD 3 rfl ?_
            refine o_boolD 94 rfl (fun h94 => ?_) (fun h94 => ?_)
            ·
              refine rO TTDiD 3 rfl ?_
              refine o_want rfl ?_
              refine o_val (v_indexA 1 rfl V.ar71 rfl rfl (by omega)) rfl ?_
              refine o_want rfl ?_
              refine o_val (a_load (1 : Int) V.s3 rfl (by exact mm0) (by (simp only [List.length_cons, List.length_nil]; omega)) (by omega) (by omega)) rfl ?_
              refine rO TTDiD 3 rfl ?_
              refine o_want rfl ?_
              refine o_val (v_notD rfl) rfl ?_
              refine rO TTDiD 3 rfl ?_
              refine w_condD rfl (fun h104 => ?_) (fun h104 => ?_)
              ·
                refine rC TTDiD 8 rfl ?_
                have hE : HuffP.newE ls = 4 := by rw [hE0, HuffP.whole_end hk h72 hno]; simp only [Bool.or_eq_true, Bool.and_eq_true, decide_eq_true_eq]; rw [if_neg (by omega)]
                exact ret_ok (G := [R]) (res2 rfl rfl) (.inr ⟨by rw [hE]; decide, by rw [hE], rfl⟩) (sub (.cons (by exact rr2) .nil) (by exact dd2))
              ·
                refine rC TTDiD 4 rfl ?_
                have hE : HuffP.newE ls = 0 := by rw [hE0, HuffP.whole_end hk h72 hno]; simp only [Bool.or_eq_true, Bool.and_eq_true, decide_eq_true_eq]; rw [if_pos (by omega)]
                refine rC TTDiD 5 rfl ?_
                refine w_add0 (Row I3 none 0 0 (HuffP.ordN ls 0)) (Row.nil _ _ _) ?_
                refine w_loop3 (fun (m : Nat) (ps : Option Addr) (cs : Nat) => [(0, .slice p ls.length cap), (4, .pointer (some ⟨b15, 0, none⟩)), (9, .int .i64 ((m : Int) + 1))]) (fun (m : Nat) (ps : Option Addr) (cs : Nat) => Cel b15 73 (CA [] .i64 (HuffP.cntL ls) [.slice ps (HuffP.ordN ls m).length cs, .slice pl ls.length cl]) :: Row I3 ps (HuffP.ordN ls m).length cs (HuffP.ordN ls m) :: Row I3 pl ls.length cl ls :: R :: F) (fun (m : Nat) (ps : Option Addr) (cs : Nat) => m ≤ 15) (fun (m : Nat) (ps : Option Addr) (cs : Nat) => 15 - m) (i3 (0) (none) (0) ?_ (.cons rfl (.cons rfl (.cons rfl (.nil _)))) (sub (.cons (by exact rr1) (.cons (by exact rr0) (.cons (by exact rr0) (.cons (by exact rr0) .nil)))) (by exact dd0))) ?_
                ·
                  exact Nat.zero_le _
                intro m ps cs
                rintro hm
                refine rL TTDiD 7 rfl ?_
                refine w_condD rfl (fun h106 => ?_) (fun h106 => ?_)
                ·
                  refine rC TTDiD 10 rfl ?_
                  rw [← HuffP.sy_zero]
                  refine w_loop3 (fun (i : Nat) (ps : Option Addr) (cs : Nat) => [(0, .slice p ls.length cap), (4, .pointer (some ⟨b15, 0, none⟩)), (9, .int .i64 ((m : Int) + 1)), (10, .int .i64 (i : Int))]) (fun (i : Nat) (ps : Option Addr) (cs : Nat) => Cel b15 73 (CA [] .i64 (HuffP.cntL ls) [.slice ps (HuffP.sy ls m i).length cs, .slice pl ls.length cl]) :: Row I3 ps (HuffP.sy ls m i).length cs (HuffP.sy ls m i) :: Row I3 pl ls.length cl ls :: R :: F) (fun (i : Nat) (ps : Option Addr) (cs : Nat) => i ≤ ls.length) (fun (i : Nat) (ps : Option Addr) (cs : Nat) => ls.length - i) (i3 (0) (_) (_) ?_ (.cons rfl (.cons rfl (.cons rfl (.cons rfl (.nil _))))) (sub (.cons (by exact rr0) (.cons (by exact rr0) (.cons (by exact rr0) (.cons (by exact rr0) .nil)))) (by exact dd0))) ?_
                  ·
                    exact Nat.zero_le _
                  intro i ps cs
                  rintro hi
                  refine rL TTDiD 9 rfl ?_
                  refine w_condD rfl (fun h112 => ?_) (fun h112 => ?_)
                  ·
                    refine rC TTDiD 5 rfl ?_
                    have hi2 : i < ls.length := by omega
                    have hg : I3.g ls (i : Int) = ls.getD i 0 := by simp [Ec.g]
                    have hg2 : ls.getD i 0 = ls[i] := by simp [hi2]
                    have hsy := HuffP.sy_le (ls := ls) (m := m) (i := i) (by omega) (by omega)
                    refine rC TTDiD 3 rfl ?_
                    refine o_val (r_index (c := (I3)) V.sl34 rfl rfl (by exact rdH hR mm3) (by omega) (by omega)) rfl ?_
                    refine o_val (r_load (c := (I3)) V.s3 rfl (by exact rdH hR mm3) (by omega) (by omega) rfl rfl) rfl ?_
                    refine rO TTDiD 4 rfl ?_
                    refine w_condD rfl (fun h120 => ?_) (fun h120 => ?_)
                    ·
                      refine rC TTDiD 5 rfl ?_
                      refine o_val (a_loadP (n := 16) 0 V.s34 rfl (by exact mm0) (by omega) rfl rfl) rfl ?_
                      refine o_val (v_move rfl) rfl ?_
                      refine r_build (I3) [(i : Int)] V.sl34 V.z3 rfl rfl rfl rfl rfl rfl ?_
                      intro b127
                      refine r_append (c := (I3)) V.sl34 V.z3 rfl rfl rfl rfl (by exact rr2) (by exact own mm0) (by omega) rfl ?_
                      intro p128 c128
                      refine rO TTDiD 2 rfl ?_
                      refine o_eff (a_storeP (n := 16) 0 V.s34 rfl rfl rfl (by exact pp2) (by omega) rfl (by exact Nat.le_of_ble_eq_true rfl) rfl) ?_
                      refine rOs TTDiD 8 rfl (by omega) ?_
                      (rw [HuffP.sy_yes hi2 (hg.trans hg2) (by omega), HuffP.sy_len hi2 (hg.trans hg2) (by omega)]; exact j3 (i + 1) _ _ ⟨by omega, by omega⟩ (.cons rfl (.cons rfl (.cons rfl (.cons rfl (.nil _))))) (sub (.cons (by exact rr2) (.cons (by exact rr0) (.cons (by exact rr1) (.cons (by exact rr1) .nil)))) (by exact dd1)))
                    ·
                      refine rCs TTDiD 8 rfl (by omega) ?_
                      (rw [HuffP.sy_no hi2 (hg.trans hg2) (by omega)]; exact j3 (i + 1) _ _ ⟨by omega, by omega⟩ (.cons rfl (.cons rfl (.cons rfl (.cons rfl (.nil _))))) (sub (.cons (by exact rr0) (.cons (by exact rr0) (.cons (by exact rr0) (.cons (by exact rr0) .nil)))) (by exact dd0)))
                  ·
                    refine rCs TTDiD 11 rfl (by omega) ?_
                    rw [HuffP.sy_all (by omega)]
                    refine j3 (m + 1) (_) (_) ?_ (.cons rfl (.cons rfl (.cons rfl (.nil _)))) (sub (.cons (by exact rr0) (.cons (by exact rr0) (.cons (by exact rr0) (.cons (by exact rr0) .nil)))) (by exact dd0))
                    exact ⟨by omega, by omega⟩
                ·
                  refine rC TTDiD 13 rfl ?_
                  have hm15 : m = 15 := by omega
                  subst hm15
                  rw [HuffP.ord15]
                  exact ret_ok (G := [RC b15 ls, R]) (res2 rfl rfl) (.inl ⟨hE, b15, rfl, rfl⟩) ((fold' (.cons (by exact rr0) (.cons (by exact rr0) (.cons (by exact rr0) .nil))) (by exact dd0) (fun w0 h hh => rc_close hh)).trans (sub (.cons (by exact rr0) (.cons (by exact rr0) .nil)) (by exact dd0)))
            ·
              refine rO TTDiD 21 rfl ?_
              have hE : HuffP.newE ls = 4 := by rw [hE0, HuffP.whole_end hk h72 hno]; simp only [Bool.or_eq_true, Bool.and_eq_true, decide_eq_true_eq]; rw [if_neg (by omega)]
              exact ret_ok (G := [R]) (res2 rfl rfl) (.inr ⟨by rw [hE]; decide, by rw [hE], rfl⟩) (sub (.cons (by exact rr2) .nil) (by exact dd2))
        ·
          refine rO TTDiD 23 rfl ?_
          have hE : HuffP.newE ls = 0 := by rw [hE0, HuffP.whole_end hk h72 hno]; simp only [Bool.or_eq_true, Bool.and_eq_true, decide_eq_true_eq]; rw [if_pos (by omega)]
          refine rC TTDiD 5 rfl ?_
          refine w_add0 (Row I3 none 0 0 (HuffP.ordN ls 0)) (Row.nil _ _ _) ?_
          refine w_loop3 (fun (m : Nat) (ps : Option Addr) (cs : Nat) => [(0, .slice p ls.length cap), (4, .pointer (some ⟨b15, 0, none⟩)), (9, .int .i64 ((m : Int) + 1))]) (fun (m : Nat) (ps : Option Addr) (cs : Nat) => Cel b15 73 (CA [] .i64 (HuffP.cntL ls) [.slice ps (HuffP.ordN ls m).length cs, .slice pl ls.length cl]) :: Row I3 ps (HuffP.ordN ls m).length cs (HuffP.ordN ls m) :: Row I3 pl ls.length cl ls :: R :: F) (fun (m : Nat) (ps : Option Addr) (cs : Nat) => m ≤ 15) (fun (m : Nat) (ps : Option Addr) (cs : Nat) => 15 - m) (i3 (0) (none) (0) ?_ (.cons rfl (.cons rfl (.cons rfl (.nil _)))) (sub (.cons (by exact rr1) (.cons (by exact rr0) (.cons (by exact rr0) (.cons (by exact rr0) .nil)))) (by exact dd0))) ?_
          ·
            exact Nat.zero_le _
          intro m ps cs
          rintro hm
          refine rL TTDiD 7 rfl ?_
          refine w_condD rfl (fun h106 => ?_) (fun h106 => ?_)
          ·
            refine rC TTDiD 10 rfl ?_
            rw [← HuffP.sy_zero]
            refine w_loop3 (fun (i : Nat) (ps : Option Addr) (cs : Nat) => [(0, .slice p ls.length cap), (4, .pointer (some ⟨b15, 0, none⟩)), (9, .int .i64 ((m : Int) + 1)), (10, .int .i64 (i : Int))]) (fun (i : Nat) (ps : Option Addr) (cs : Nat) => Cel b15 73 (CA [] .i64 (HuffP.cntL ls) [.slice ps (HuffP.sy ls m i).length cs, .slice pl ls.length cl]) :: Row I3 ps (HuffP.sy ls m i).length cs (HuffP.sy ls m i) :: Row I3 pl ls.length cl ls :: R :: F) (fun (i : Nat) (ps : Option Addr) (cs : Nat) => i ≤ ls.length) (fun (i : Nat) (ps : Option Addr) (cs : Nat) => ls.length - i) (i3 (0) (_) (_) ?_ (.cons rfl (.cons rfl (.cons rfl (.cons rfl (.nil _))))) (sub (.cons (by exact rr0) (.cons (by exact rr0) (.cons (by exact rr0) (.cons (by exact rr0) .nil)))) (by exact dd0))) ?_
            ·
              exact Nat.zero_le _
            intro i ps cs
            rintro hi
            refine rL TTDiD 9 rfl ?_
            refine w_condD rfl (fun h112 => ?_) (fun h112 => ?_)
            ·
              refine rC TTDiD 5 rfl ?_
              have hi2 : i < ls.length := by omega
              have hg : I3.g ls (i : Int) = ls.getD i 0 := by simp [Ec.g]
              have hg2 : ls.getD i 0 = ls[i] := by simp [hi2]
              have hsy := HuffP.sy_le (ls := ls) (m := m) (i := i) (by omega) (by omega)
              refine rC TTDiD 3 rfl ?_
              refine o_val (r_index (c := (I3)) V.sl34 rfl rfl (by exact rdH hR mm3) (by omega) (by omega)) rfl ?_
              refine o_val (r_load (c := (I3)) V.s3 rfl (by exact rdH hR mm3) (by omega) (by omega) rfl rfl) rfl ?_
              refine rO TTDiD 4 rfl ?_
              refine w_condD rfl (fun h120 => ?_) (fun h120 => ?_)
              ·
                refine rC TTDiD 5 rfl ?_
                refine o_val (a_loadP (n := 16) 0 V.s34 rfl (by exact mm0) (by omega) rfl rfl) rfl ?_
                refine o_val (v_move rfl) rfl ?_
                refine r_build (I3) [(i : Int)] V.sl34 V.z3 rfl rfl rfl rfl rfl rfl ?_
                intro b127
                refine r_append (c := (I3)) V.sl34 V.z3 rfl rfl rfl rfl (by exact rr2) (by exact own mm0) (by omega) rfl ?_
                intro p128 c128
                refine rO TTDiD 2 rfl ?_
                refine o_eff (a_storeP (n := 16) 0 V.s34 rfl rfl rfl (by exact pp2) (by omega) rfl (by exact Nat.le_of_ble_eq_true rfl) rfl) ?_
                refine rOs TTDiD 8 rfl (by omega) ?_
                (rw [HuffP.sy_yes hi2 (hg.trans hg2) (by omega), HuffP.sy_len hi2 (hg.trans hg2) (by omega)]; exact j3 (i + 1) _ _ ⟨by omega, by omega⟩ (.cons rfl (.cons rfl (.cons rfl (.cons rfl (.nil _))))) (sub (.cons (by exact rr2) (.cons (by exact rr0) (.cons (by exact rr1) (.cons (by exact rr1) .nil)))) (by exact dd1)))
              ·
                refine rCs TTDiD 8 rfl (by omega) ?_
                (rw [HuffP.sy_no hi2 (hg.trans hg2) (by omega)]; exact j3 (i + 1) _ _ ⟨by omega, by omega⟩ (.cons rfl (.cons rfl (.cons rfl (.cons rfl (.nil _))))) (sub (.cons (by exact rr0) (.cons (by exact rr0) (.cons (by exact rr0) (.cons (by exact rr0) .nil)))) (by exact dd0)))
            ·
              refine rCs TTDiD 11 rfl (by omega) ?_
              rw [HuffP.sy_all (by omega)]
              refine j3 (m + 1) (_) (_) ?_ (.cons rfl (.cons rfl (.cons rfl (.nil _)))) (sub (.cons (by exact rr0) (.cons (by exact rr0) (.cons (by exact rr0) (.cons (by exact rr0) .nil)))) (by exact dd0))
              exact ⟨by omega, by omega⟩
          ·
            refine rC TTDiD 13 rfl ?_
            have hm15 : m = 15 := by omega
            subst hm15
            rw [HuffP.ord15]
            exact ret_ok (G := [RC b15 ls, R]) (res2 rfl rfl) (.inl ⟨hE, b15, rfl, rfl⟩) ((fold' (.cons (by exact rr0) (.cons (by exact rr0) (.cons (by exact rr0) .nil))) (by exact dd0) (fun w0 h hh => rc_close hh)).trans (sub (.cons (by exact rr0) (.cons (by exact rr0) .nil)) (by exact dd0)))
end Go.Proofs.Ythmgkggpipnalaa

/-
  Steps of the proof: walks of functions that the statement reaches; printed by a program of ours.
-/
namespace Go.Proofs.Ythmgkggpipnalaa
open Go.Sl 
set_option linter.unusedVariables false
set_option linter.unusedSimpArgs false


theorem h_new_yes (p : Option Addr) (cap : Nat) (ls : List Int) (R : HProp) (hR : ∀ w0 h, R w0 h → RdR I3 p ls.length ls w0 h) (hE : HuffP.newE ls = 0) : Ctr Try.prog 45 [.slice p ls.length cap] [R] (Ret fun v G => ∃ b, v = .tuple #[.pointer (some ⟨b, 0, none⟩), .int .i64 0] ∧ G = [HC b ls, R]) := by
  refine (h_new p cap ls R hR).mono ?_
  rintro e G ⟨v, rfl, h⟩
  rcases h with ⟨_, b, h1, h2⟩ | ⟨h, _⟩
  · exact ⟨v, rfl, b, h1, h2⟩
  · exact absurd hE h
theorem r_new_yes (p : Option Addr) (cap : Nat) (ls : List Int) (R : HProp) (hR : ∀ w0 h, R w0 h → RdR I3 p ls.length ls w0 h) (hE : HuffP.newE ls = 0) : Ctr Try.prog 28 [.slice p ls.length cap] [R] (Ret fun v G => ∃ b, v = .tuple #[.pointer (some ⟨b, 0, none⟩), .int .i64 0] ∧ G = [RC b ls, R]) := by
  refine (r_new p cap ls R hR).mono ?_
  rintro e G ⟨v, rfl, h⟩
  rcases h with ⟨_, b, h1, h2⟩ | ⟨h, _⟩
  · exact ⟨v, rfl, b, h1, h2⟩
  · exact absurd hE h
theorem r_new_no (p : Option Addr) (cap : Nat) (ls : List Int) (R : HProp) (hR : ∀ w0 h, R w0 h → RdR I3 p ls.length ls w0 h) (hE : ¬ HuffP.newE ls = 0) : Ctr Try.prog 28 [.slice p ls.length cap] [R] (Ret fun v G => v = .tuple #[.pointer none, .int .i64 (HuffP.newE ls)] ∧ G = [R]) := by
  refine (r_new p cap ls R hR).mono ?_
  rintro e G ⟨v, rfl, h⟩
  rcases h with ⟨h, _⟩ | ⟨_, h1, h2⟩
  · exact absurd h hE
  · exact ⟨v, rfl, h1, h2⟩

end Go.Proofs.Ythmgkggpipnalaa

/- Walks of functions that the law reaches, and what they lean on; no conditions. -/
import Derived.Test.YtmbljkghkcgejaaGreatM30
import Derived.Test.YtmbljkghkcgejaaGreatSl22
import Derived.KernelRfl
import Derived.Test.YtmbljkghkcgejaaGreatZiSort
import Derived.Test.YtmbljkghkcgejaaGreatM32
set_option linter.unusedVariables false
set_option linter.unusedSimpArgs false
set_option maxRecDepth 100000
namespace Go.Proofs.YtmbljkghkcgejaaGreat
open Go.Sl 
theorem TTZiA : okT Tryz.prog ⟨[], []⟩ = true := by kernel_rfl
theorem c_isNaN (x : Int) : Ctr Tryz.prog 108 [.int .i64 x] [] (Ret fun v G => v = .bool false ∧ G = []) := by
 refine spec_of [(0, _)] Tryz.func108 rfl Tryz.ntmps108 rfl rfl ?_
 intro w0 F
 refine rT TTZiA 14 rfl ?_
 exact ret_ok (res1 rfl) ⟨by simp, rfl⟩ (sub .nil dd0)
theorem c_compare (x y : Int) : Ctr Tryz.prog 100 [.int .i64 x, .int .i64 y] [] (Ret fun v G => v = .int .i64 (cmpI x y) ∧ G = []) := by
 refine spec_of [(0, _), (1, _)] Tryz.func100 rfl Tryz.ntmps100 rfl rfl ?_
 intro w0 F
 refine rT TTZiA 8 rfl ?_
 refine o_call (c_isNaN x) V.b108  rfl .nil rfl ?_
 rintro _ _ ⟨rfl, rfl⟩
 refine rO TTZiA 6 rfl ?_
 refine o_call (c_isNaN y) V.b108  rfl .nil rfl ?_
 rintro _ _ ⟨rfl, rfl⟩
 refine rO TTZiA 29 rfl ?_
 refine w_condD rfl (fun h16 => ?_) (fun h16 => ?_)
 ·refine rC TTZiA 7 rfl ?_
  exact ret_ok (res1 rfl) ⟨by rw [cmpI, if_pos (by assumption)], rfl⟩ (sub .nil dd0)
 ·refine rC TTZiA 10 rfl ?_
  refine w_condD rfl (fun h19 => ?_) (fun h19 => ?_)
  ·refine rC TTZiA 7 rfl ?_
   exact ret_ok (res1 rfl) ⟨by rw [cmpI, if_neg (by assumption), if_pos (by omega)], rfl⟩ (sub .nil dd0)
  ·refine rC TTZiA 8 rfl ?_
   exact ret_ok (res1 rfl) ⟨by rw [cmpI, if_neg (by assumption), if_neg (by omega)], rfl⟩ (sub .nil dd0)
theorem c_less (p : Option Addr) (n cap : Nat) (ls : List Int) (R : HProp) (hR : ∀ w0 h, R w0 h → RdR I3 p n ls w0 h) (bL : Nat) (x y : Int) (hx : 0 ≤ x ∧ x < n) (hy : 0 ≤ y ∧ y < n) : Ctr Tryz.prog 99 [.int .i64 x, .int .i64 y, .pointer (some ⟨bL, 0, none⟩)] [Cel bL 77 [.slice p n cap], R] (Ret fun v G => v = .int .i64 (cmpI (ls.getD x.toNat 0) (ls.getD y.toNat 0)) ∧ G = [Cel bL 77 [.slice p n cap], R]) := by
 refine spec_of [(0, _), (1, _), (2, _)] Tryz.func99 rfl Tryz.ntmps99 rfl rfl ?_
 intro w0 F
 refine rT TTZiA 6 rfl ?_
 refine wN [pz 0 [] [2], pz 0 [] [0], pz 3 [0, 1] [], pz 7 [2] [], pz 0 [] [2], pz 0 [] [1], pz 48 [4, 5] [], pz 112 [6] [], pz 255 [3, 7] [], pz 511 [8] []] [⟨fun y => Cel bL 77 [.slice p n cap], none, none, [0, 4]⟩, ⟨fun y => R, none, none, [2, 3, 6, 7]⟩] F V.mixed ?_
 refine nR (fun y FF hA => v_load V.s77 rfl mm0 rfl) ?_
 refine nM ?_
 refine nR (fun y FF hA => xI V.sl77 (by exact rdH hR mm0)) ?_
 refine nR (fun y FF hA => xL V.s3 (by exact rdH hR mm0)) ?_
 refine nR (fun y FF hA => v_load V.s77 rfl mm0 rfl) ?_
 refine nM ?_
 refine nR (fun y FF hA => xI V.sl77 (by exact rdH hR mm0)) ?_
 refine nR (fun y FF hA => xL V.s3 (by exact rdH hR mm0)) ?_
 refine nE (fun y FF hA => st_callN (Post := []) (c_compare _ _) V.b100 rfl .nil (fun v G h => by rcases h with ⟨rfl, rfl⟩; exact ⟨rfl, .refl _⟩)) ?_
 refine nA ?_
 refine net_nil ?_
 intro y hA
 clear hA
 refine thn_n ?_
 refine w_keep _ (.cons (d := 5) rfl (.nil _)) ?_
 refine w_sub (M := Cel bL 77 [.slice p n cap] :: R :: F) (fun _ _ h => h) ?_
 refine rC TTZiA 1 rfl ?_
 exact ret_ok (res1 rfl) ⟨rfl, rfl⟩ (sub (rz2 .nil) dd0)
theorem c_whole (C : List Int) (all : Int) (hl : C.length = 16) (hC : ∀ i, 0 ≤ C.getD i 0 ∧ C.getD i 0 ≤ 320) : Ctr Tryz.prog 97 [.agg (ints .i64 C).toArray, .int .i64 all] [] (Ret fun v G => v = .bool (HuffP.wholeB C all) ∧ G = []) := by
 refine spec_of [(0, _), (1, _)] Tryz.func97 rfl Tryz.ntmps97 rfl rfl ?_
 intro w0 F
 refine rT TTZiA 2 rfl ?_
 refine o_box rfl (agg_ints _ _) rfl ?_
 intro b2
 refine rO TTZiA 15 rfl ?_
 refine w_loop1 (fun (k : Nat) => [(1, .int .i64 all), (2, .pointer (some ⟨b2, 0, none⟩)), (5, .int .i64 (HuffP.left C k)), (6, .int .i64 ((k : Int) + 1))]) (fun (k : Nat) => Cel b2 94 (CA [] .i64 C []) :: F) (fun (k : Nat) => k ≤ 15 ∧ ∀ m, 1 ≤ m → m ≤ k → 0 ≤ HuffP.left C m) (fun (k : Nat) => 15 - k) (i1 (0) ?_ (lc4 ln) (sub (rz1 .nil) dd0)) ?_
 ·exact ⟨by omega, fun m h1 h2 => by omega⟩
 intro k
 rintro ⟨hk, hno⟩
 have hcc := hC ((k : Int) + 1).toNat
 have hlb := HuffP.left_bound (fun i => (hC i).1) hk
 have hl0 := HuffP.left_nn hno
 have hlen : C.length = 16 := hl
 refine rL TTZiA 7 rfl ?_
 refine w_condD rfl (fun h8 => ?_) (fun h8 => ?_)
 ·refine rCs TTZiA 9 rfl (by omega) ?_
  refine oV (v_indexA (k + 1) rfl V.ar94 rfl rfl (by omega)) ?_
  refine oV (a_load ((k : Int) + 1) V.s3 rfl mm0 (by (simp only [List.length_cons, List.length_nil]; omega)) (by omega) (by omega)) ?_
  refine rOs TTZiA 10 rfl (by omega) ?_
  refine w_condD rfl (fun h18 => ?_) (fun h18 => ?_)
  ·refine rC TTZiA 11 rfl ?_
   exact ret_ok (res1 rfl) ⟨by rw [HuffP.whole_no (n := k + 1) (by omega) (by omega) (by rw [← HuffP.left_next]; exact h18)], rfl⟩ (sub .nil dd1)
  ·refine rCs TTZiA 8 rfl (by omega) ?_
   have hno2 := HuffP.left_more hno h18
   rw [HuffP.left_next]
   exact j1 (k + 1) ⟨⟨by omega, hno2⟩, by omega⟩ (lc4 ln) (sub (rz1 .nil) dd0)
 ·refine rC TTZiA 10 rfl ?_
  refine o_boolD 21 rfl (fun h21 => ?_) (fun h21 => ?_)
  ·refine rO TTZiA 16 rfl ?_
   exact ret_ok (res1 rfl) ⟨by rw [HuffP.whole_end hk h8 hno]; (simp [h21]; done), rfl⟩ (sub .nil dd1)
  ·refine rO TTZiA 4 rfl ?_
   refine o_boolD 25 rfl (fun h25 => ?_) (fun h25 => ?_)
   ·refine rO TTZiA 12 rfl ?_
    exact ret_ok (res1 rfl) ⟨by rw [HuffP.whole_end hk h8 hno]; (simp [h21, h25]; done), rfl⟩ (sub .nil dd1)
   ·refine rO TTZiA 3 rfl ?_
    refine o_boolD 28 rfl (fun h28 => ?_) (fun h28 => ?_)
    ·refine o_want rfl ?_
     refine oV (v_indexA 1 rfl V.ar94 rfl rfl (by omega)) ?_
     refine o_want rfl ?_
     refine oV (a_load (1 : Int) V.s3 rfl mm0 (by (simp only [List.length_cons, List.length_nil]; omega)) (by omega) (by omega)) ?_
     refine rO TTZiA 7 rfl ?_
     exact ret_ok (res1 rfl) ⟨by rw [HuffP.whole_end hk h8 hno]; (simp [h21, h25, h28]; done), rfl⟩ (sub .nil dd1)
    ·refine rO TTZiA 9 rfl ?_
     exact ret_ok (res1 rfl) ⟨by rw [HuffP.whole_end hk h8 hno]; (simp [h21, h25, h28]; done), rfl⟩ (sub .nil dd1)
end Go.Proofs.YtmbljkghkcgejaaGreat
namespace Go.Proofs.YtmbljkghkcgejaaGreat
open Go.Sl 
theorem TTZiB : okT Tryz.prog ⟨[77], [(129, 0, 0), (129, 2, 17), (129, 3, 18)]⟩ = true := by kernel_rfl
attribute [local irreducible] HuffP.ord HuffP.wordsK HuffP.posn HuffP.cntL HuffP.mostL HuffP.words HuffP.wordOf HuffP.lenOf HuffP.newE HuffP.left HuffP.wholeB
set_option maxHeartbeats 1000000 in
theorem h_new (p : Option Addr) (cap : Nat) (ls : List Int) (R : HProp) (hR : ∀ w0 h, R w0 h → RdR I3 p ls.length ls w0 h) : Ctr Tryz.prog 80 [.slice p ls.length cap] [R] (Ret fun v G => (HuffP.newE ls = 0 ∧ ∃ b, v = .tuple #[.pointer (some ⟨b, 0, none⟩), .int .i64 0] ∧ G = [HC b ls, R]) ∨ (HuffP.newE ls ≠ 0 ∧ v = .tuple #[.pointer none, .int .i64 (HuffP.newE ls)] ∧ G = [R])) := by
 refine spec_of [(0, _)] Tryz.func80 rfl Tryz.ntmps80 rfl rfl ?_
 intro w0 F
 refine rT TTZiB 2 rfl ?_
 refine o_box rfl (cs := [_]) rfl rfl ?_
 intro b1
 refine rO TTZiB 7 rfl ?_
 refine oV (v_load V.s77 rfl mm0 rfl) ?_
 refine rO TTZiB 4 rfl ?_
 refine w_condD rfl (fun h13 => ?_) (fun h13 => ?_)
 ·refine rC TTZiB 8 rfl ?_
  exact ret_ok (res2 rfl rfl) (.inr ⟨by rw [HuffP.newE_long (by omega)]; decide, by rw [HuffP.newE_long (by omega)], rfl⟩) (sub (.cons rr1 .nil) dd1)
 ·refine rC TTZiB 4 rfl ?_
  refine oV (v_load V.s77 rfl mm0 rfl) ?_
  refine oV (v_len (ty' := 0) Tryz.underlying77 rfl) ?_
  refine r_makeN ls.length ls.length (W63) rfl rfl V.sl127 V.z145 rfl rfl rfl rfl (by omega) (by omega) rfl rfl ?_
  intro b16
  refine oV (v_build V.pl129 V.z129 rfl (cs := [_, _, _, _, _, _, _, _, _, _, _, _, _, _, _, _, _, _, _]) rfl) ?_
  refine o_box rfl (show _ = CA [.slice (some ⟨b16, 0, none⟩) ls.length ls.length] .i64 (HuffP.cntL (ls.take 0)) [.slice none (HuffP.posn (ls.take 0)).length 0, .int .i64 (HuffP.mostL (ls.take 0))] from by rw [List.take_zero, HuffP.cntL_nil, HuffP.posn_nil, HuffP.most_nil]; rfl) rfl ?_
  intro b18
  refine rO TTZiB 6 rfl ?_
  refine oV (v_load V.s77 rfl mm2 rfl) ?_
  refine rO TTZiB 5 rfl ?_
  refine w_add0 (Row I3 none (HuffP.posn (ls.take 0)).length 0 (HuffP.posn (ls.take 0))) (by rw [List.take_zero, HuffP.posn_nil]; exact Row.nil _ _ _) ?_
  refine w_loop3 (fun (k : Nat) (po : Option Addr) (co : Nat) => [(1, .pointer (some ⟨b1, 0, none⟩)), (4, .pointer (some ⟨b18, 0, none⟩)), (19, .slice p ls.length cap), (20, .int .i64 (ls.length : Int)), (21, .int .i64 (k : Int))]) (fun (k : Nat) (po : Option Addr) (co : Nat) => Cel b18 129 (CA [.slice (some ⟨b16, 0, none⟩) ls.length ls.length] .i64 (HuffP.cntL (ls.take k)) [.slice po (HuffP.posn (ls.take k)).length co, .int .i64 (HuffP.mostL (ls.take k))]) :: Row I3 po (HuffP.posn (ls.take k)).length co (HuffP.posn (ls.take k)) :: Row W63 (some ⟨b16, 0, none⟩) ls.length ls.length (List.replicate ls.length (0, 0)) :: Cel b1 77 [.slice p ls.length cap] :: R :: F) (fun (k : Nat) (po : Option Addr) (co : Nat) => k ≤ ls.length ∧ ∀ i, i < k → 0 ≤ ls.getD i 0 ∧ ls.getD i 0 ≤ 15) (fun (k : Nat) (po : Option Addr) (co : Nat) => ls.length - k) (i3 (0) (none) (0) ?_ (lc5 ln) (sub (.cons rr1 (rz4 .nil)) dd0)) ?_
  ·exact ⟨by omega, fun i hi => by omega⟩
  intro k po co
  rintro ⟨hk, hok⟩
  refine rL TTZiB 6 rfl ?_
  refine w_condD rfl (fun h22 => ?_) (fun h22 => ?_)
  ·refine rC TTZiB 7 rfl ?_
   refine oV (xI V.sl77 (by exact rdH hR mm4)) ?_
   refine oV (xL V.s3 (by exact rdH hR mm4)) ?_
   refine rO TTZiB 6 rfl ?_
   have hk2 : k < ls.length := by omega
   have hg : I3.g ls (k : Int) = ls.getD k 0 := by simp [Ec.g]
   have hg2 : ls.getD k 0 = ls[k] := by simp [hk2]
   have htk : (ls.take k).length = k := by rw [List.length_take]; omega
   have hcl := HuffP.cntL_len (ls.take k)
   have hcb := HuffP.cntL_bound (ls := ls.take k) (by omega) (I3.g ls (k : Int)).toNat
   have hpl2 := HuffP.posn_le (ls.take k)
   refine rC TTZiB 4 rfl ?_
   refine o_boolD 28 rfl (fun h28 => ?_) (fun h28 => ?_)
   ·refine rO TTZiB 19 rfl ?_
    exact ret_ok (res2 rfl rfl) (.inr ⟨by rw [HuffP.newE_bad (by omega) hk2 (by omega)]; decide, by rw [HuffP.newE_bad (by omega) hk2 (by omega)], rfl⟩) (sub (.cons rr4 .nil) dd4)
   ·refine rO TTZiB 5 rfl ?_
    refine w_condD rfl (fun h31 => ?_) (fun h31 => ?_)
    ·refine rC TTZiB 13 rfl ?_
     exact ret_ok (res2 rfl rfl) (.inr ⟨by rw [HuffP.newE_bad (by omega) hk2 (by omega)]; decide, by rw [HuffP.newE_bad (by omega) hk2 (by omega)], rfl⟩) (sub (.cons rr4 .nil) dd4)
    ·refine rC TTZiB 8 rfl ?_
     refine w_condD rfl (fun h33 => ?_) (fun h33 => ?_)
     ·refine rC TTZiB 1 rfl ?_
      refine wN [pz 0 [] [4], pz 0 [] [6], pz 1 [0] [], pz 5 [2] [], pz 15 [3, 1] [], pz 31 [4] [], pz 63 [5] [], pz 1 [0] [], pz 129 [7] [], pz 511 [8, 1] [], pz 1023 [9, 6] []] [⟨fun y => Cel b18 129 (CA [.slice (some ⟨b16, 0, none⟩) ls.length ls.length] .i64 (HuffP.cntL (ls.take k)) [.slice po (HuffP.posn (ls.take k)).length co, .int .i64 (HuffP.mostL (ls.take k))]), none, some 10, [5]⟩, ⟨fun y => Row I3 po (HuffP.posn (ls.take k)).length co (HuffP.posn (ls.take k)), none, none, []⟩, ⟨fun y => Row W63 (some ⟨b16, 0, none⟩) ls.length ls.length (List.replicate ls.length (0, 0)), none, none, []⟩, ⟨fun y => Cel b1 77 [.slice p ls.length cap], none, none, []⟩, ⟨fun y => R, none, none, []⟩, ⟨fun y => Cel b18 129 (CA [.slice (some ⟨b16, 0, none⟩) ls.length ls.length] .i64 ((HuffP.cntL (ls.take k)).set (((I3.g ls (k : Int))).toNat) (((HuffP.cntL (ls.take k)).getD (((I3.g ls (k : Int))).toNat) 0) + 1)) [.slice po (HuffP.posn (ls.take k)).length co, .int .i64 (HuffP.mostL (ls.take k))]), some 10, none, []⟩] F V.mixed ?_
      iterate 2 refine nM ?_
      refine nN ?_
      refine nG V.f129_1 ?_
      refine nV (fun y hA L => v_indexA (((I3.g ls (k : Int))).toNat) (by omega) V.ar94 rfl rfl (by omega)) ?_
      refine nR (fun y FF hA => a_load (I3.g ls (k : Int)) V.s3 rfl mm0 (by (simp only [List.length_cons, List.length_nil]; omega)) (by omega) (by omega)) ?_
      refine nV (fun y hA L => v_add rfl rfl wI) ?_
      refine nN ?_
      refine nG V.f129_1 ?_
      refine nV (fun y hA L => v_indexA (((I3.g ls (k : Int))).toNat) (by omega) V.ar94 rfl rfl (by omega)) ?_
      refine nE (fun y FF hA => st_v (a_store (I3.g ls (k : Int)) V.s3 rfl rfl (by exact pp0) (by (simp only [List.length_cons, List.length_nil]; omega)) (by omega) (by omega)) ⟨rfl, .refl _⟩) ?_
      refine net_nil ?_
      intro y hA
      clear hA
      refine thn_n ?_
      refine w_keep _ (.cons (d := 1) rfl (.cons (d := 4) rfl (.cons (d := 5) rfl (.cons (d := 6) rfl (.cons (d := 19) rfl (.cons (d := 20) rfl (.cons (d := 21) rfl (.nil _)))))))) ?_
      refine w_sub (M := Row I3 po (HuffP.posn (ls.take k)).length co (HuffP.posn (ls.take k)) :: Row W63 (some ⟨b16, 0, none⟩) ls.length ls.length (List.replicate ls.length (0, 0)) :: Cel b1 77 [.slice p ls.length cap] :: R :: Cel b18 129 (CA [.slice (some ⟨b16, 0, none⟩) ls.length ls.length] .i64 ((HuffP.cntL (ls.take k)).set (((I3.g ls (k : Int))).toNat) (((HuffP.cntL (ls.take k)).getD (((I3.g ls (k : Int))).toNat) 0) + 1)) [.slice po (HuffP.posn (ls.take k)).length co, .int .i64 (HuffP.mostL (ls.take k))]) :: F) (fun _ _ h => h) ?_
      refine rC TTZiB 6 rfl ?_
      refine oV (a_loadP (n := 16) 0 V.s77 rfl mm4 (by (simp only [List.length_set]; omega)) rfl rfl) ?_
      refine oV (v_move rfl) ?_
      refine r_build (I3) [(k : Int)] V.sl77 V.z3 rfl rfl rfl rfl rfl rfl ?_
      intro b50
      refine r_append (c := (I3)) V.sl77 V.z3 rfl rfl rfl rfl rr1 (own mm0) (by omega) rfl ?_
      intro p51 c51
      refine rO TTZiB 2 rfl ?_
      refine o_eff (a_storeP (n := 16) 0 V.s77 rfl rfl rfl (by exact pp5) (by (simp only [List.length_set]; omega)) rfl (by exact Nat.le_of_ble_eq_true rfl) rfl) ?_
      refine rO TTZiB 7 rfl ?_
      refine oV (a_loadP (n := 16) 1 V.s3 rfl mm5 (by (simp only [List.length_set]; omega)) rfl rfl) ?_
      refine oV (v_move rfl) ?_
      refine oV (v_max rfl rfl) ?_
      refine rO TTZiB 2 rfl ?_
      refine o_eff (a_storeP (n := 16) 1 V.s3 rfl rfl rfl (by exact pp5) (by (simp only [List.length_set]; omega)) rfl (by exact Nat.le_of_ble_eq_true rfl) rfl) ?_
      refine rOs TTZiB 7 rfl (by omega) ?_
      have hok2 := HuffP.ok_snoc hok (by omega)
      (obtain ⟨e1, e2, e3, e4⟩ := HuffP.step_pos hk2 (hg.trans hg2) (by omega) (by omega); rw [e1, e2, e3, e4]; exact j3 (k + 1) _ _ ⟨⟨by omega, hok2⟩, by omega⟩ (lc5 ln) (sub (.cons rr5 (rz1 (.cons rr1 (.cons rr1 (.cons rr1 .nil))))) dd1))
     ·refine rCs TTZiB 7 rfl (by omega) ?_
      have hok2 := HuffP.ok_snoc hok (by omega)
      (obtain ⟨e1, e2, e3⟩ := HuffP.step_zero hk2 (hg.trans hg2) (by omega); rw [← e1, ← e2, ← e3]; exact j3 (k + 1) _ _ ⟨⟨by omega, hok2⟩, by omega⟩ (lc5 ln) (sub (rz5 .nil) dd0))
  ·refine rC TTZiB 7 rfl ?_
   have hkn : k = ls.length := by omega
   subst hkn
   rw [List.take_length] at *
   have hvv := HuffP.ok_take hok (Nat.le_refl _)
   have hcl := HuffP.cntL_len ls
   have hE0 := HuffP.newE_ok (by omega) hvv
   refine wN [pz 0 [] [4], pz 1 [0] [], pz 3 [1] [], pz 7 [2] [], pz 0 [] [4], pz 16 [4] [], pz 48 [5] [], pz 112 [6] [], pz 240 [7] [], pz 511 [3, 8] [], pz 1023 [9] []] [⟨fun y => Cel b18 129 (CA [.slice (some ⟨b16, 0, none⟩) ls.length ls.length] .i64 (HuffP.cntL ls) [.slice po (HuffP.posn ls).length co, .int .i64 (HuffP.mostL ls)]), none, none, [3, 7]⟩, ⟨fun y => Row I3 po (HuffP.posn ls).length co (HuffP.posn ls), none, none, []⟩, ⟨fun y => Row W63 (some ⟨b16, 0, none⟩) ls.length ls.length (List.replicate ls.length (0, 0)), none, none, []⟩, ⟨fun y => Cel b1 77 [.slice p ls.length cap], none, none, []⟩, ⟨fun y => R, none, none, []⟩] F V.mixed ?_
   refine nM ?_
   refine nN ?_
   refine nG V.f129_1 ?_
   refine nR (fun y FF hA => a_loadAll V.a94 rfl mm0 (by omega) rfl) ?_
   refine nM ?_
   refine nN ?_
   refine nG V.f129_2 ?_
   refine nR (fun y FF hA => a_loadP (n := 16) 0 V.s77 rfl mm0 (by omega) rfl rfl) ?_
   refine nV (fun y hA L => v_len (ty' := 0) Tryz.underlying77 rfl) ?_
   refine nE (fun y FF hA => st_callN (Post := []) (c_whole (HuffP.cntL ls) _ (HuffP.cntL_len _) (HuffP.cntL_bound (by omega))) V.b97 rfl .nil (fun v G h => by rcases h with ⟨rfl, rfl⟩; exact ⟨rfl, .refl _⟩)) ?_
   refine nV (fun y hA L => v_not rfl) ?_
   refine net_nil ?_
   intro y hA
   clear hA
   refine thn_n ?_
   refine w_keep _ (.cons (d := 1) rfl (.cons (d := 4) rfl (.cons (d := 74) rfl (.nil _)))) ?_
   refine w_sub (M := Cel b18 129 (CA [.slice (some ⟨b16, 0, none⟩) ls.length ls.length] .i64 (HuffP.cntL ls) [.slice po (HuffP.posn ls).length co, .int .i64 (HuffP.mostL ls)]) :: Row I3 po (HuffP.posn ls).length co (HuffP.posn ls) :: Row W63 (some ⟨b16, 0, none⟩) ls.length ls.length (List.replicate ls.length (0, 0)) :: Cel b1 77 [.slice p ls.length cap] :: R :: F) (fun _ _ h => h) ?_
   refine w_cond rfl (fun h74 => ?_) (fun h74 => ?_)
   ·refine rC TTZiB 1 rfl ?_
    have hE : HuffP.newE ls = 4 := by rw [hE0, if_neg (by simpa using h74)]
    refine rC TTZiB 7 rfl ?_
    exact ret_ok (res2 rfl rfl) (.inr ⟨by rw [hE]; decide, by rw [hE], rfl⟩) (sub (.cons rr4 .nil) dd4)
   ·refine rC TTZiB 3 rfl ?_
    have hE : HuffP.newE ls = 0 := by rw [hE0, if_pos (by simpa using h74)]
    have hV := (HuffP.newE_vl hE).1
    have hW := (HuffP.newE_vl hE).2
    have hpl := HuffP.posn_len hV
    have hpn := HuffP.posn_le ls
    refine w_star (A := [Cel b1 77 [.slice p ls.length cap], R]) (.cons rr3 (.cons rr3 .nil)) ?_
    refine rC TTZiB 4 rfl ?_
    refine oV (a_loadP (n := 16) 0 V.s77 rfl mm1 (by omega) rfl rfl) ?_
    refine oV (v_fn (fs := []) (cs := [_]) rfl rfl) ?_
    refine o_call (st_sort po (HuffP.posn ls).length co 99 [] [.pointer (some ⟨b1, 0, none⟩)] (Star [Cel b1 77 [.slice p ls.length cap], R]) (HuffP.key ls) (fun x => 0 ≤ x ∧ x < ls.length) V.b99 (fun x y hx hy => (c_less p ls.length cap ls R hR b1 x y hx hy).star) (HuffP.posn ls) (by omega) (HuffP.posn_at ls)) V.b98  rfl (.cons rr2 (rz1 .nil)) rfl ?_
    rintro _ _ ⟨rfl, l2, hR2, hS2, rfl⟩
    obtain rfl := HuffP.sort_ord hvv hR2 hS2
    refine rO TTZiB 3 rfl ?_
    refine w_unstar rr1 ?_
    rw [hpl]
    refine rC TTZiB 11 rfl ?_
    refine oV (a_loadP (n := 16) 0 V.s77 rfl mm3 (by omega) rfl rfl) ?_
    refine rO TTZiB 5 rfl ?_
    rw [← HuffP.wordsK_zero]
    refine w_loop1 (fun (k : Nat) => [(1, .pointer (some ⟨b1, 0, none⟩)), (4, .pointer (some ⟨b18, 0, none⟩)), (7, .int .i64 (HuffP.nxt ls k)), (8, .int .i64 (HuffP.pln ls k)), (84, .slice po (HuffP.ord ls).length co), (85, .int .i64 ((HuffP.ord ls).length : Int)), (86, .int .i64 (k : Int))]) (fun (k : Nat) => Cel b18 129 (CA [.slice (some ⟨b16, 0, none⟩) ls.length ls.length] .i64 (HuffP.cntL ls) [.slice po (HuffP.ord ls).length co, .int .i64 (HuffP.mostL ls)]) :: Row I3 po (HuffP.ord ls).length co (HuffP.ord ls) :: Row W63 (some ⟨b16, 0, none⟩) ls.length ls.length (HuffP.wordsK ls k) :: Cel b1 77 [.slice p ls.length cap] :: R :: F) (fun (k : Nat) => k ≤ (HuffP.ord ls).length) (fun (k : Nat) => (HuffP.ord ls).length - k) (i1 (0) ?_ (lc2 (lc5 ln)) (sub (.cons rr3 (.cons rr2 (.cons rr2 (rz2 .nil)))) dd0)) ?_
    ·exact Nat.zero_le _
    intro k
    rintro hk
    refine rL TTZiB 6 rfl ?_
    refine w_condD rfl (fun h87 => ?_) (fun h87 => ?_)
    ·refine rC TTZiB 5 rfl ?_
     have hk2 : k < (HuffP.ord ls).length := by omega
     obtain ⟨s, hs⟩ := HuffP.at_k hW hk2
     have hgs : I3.g (HuffP.ord ls) (k : Int) = (s : Int) := by rw [← hs.sym]; simp [Ec.g]
     have hsl := hs.lt
     refine w_region ?_
     refine oV (xI V.sl77 (own mm1)) ?_
     refine oV (xL V.s3 (own mm1)) ?_
     refine rO TTZiB 4 rfl ?_
     rw [hgs]
     have hls : I3.g ls (s : Int) = (HuffP.lenOf ls s : Int) := by rw [← hs.len]; simp [Ec.g]
     have hs1 := hs.top
     have hs2 := hs.nn
     have hs3 := hs.ge
     have hs4 := hs.w0
     have hs5 : HuffP.wordOf ls s < 32768 := by have := HuffP.pow_15 hs.top; have := hs.w1; omega
     refine rC TTZiB 2 rfl ?_
     refine oV (v_load V.s77 rfl mm3 rfl) ?_
     refine oV (v_move rfl) ?_
     refine oV (xI V.sl77 (by exact rdH hR mm4)) ?_
     refine oV (xL V.s3 (by exact rdH hR mm4)) ?_
     refine rOs TTZiB 2 rfl (by omega) ?_
     refine oV (v_shl (r := HuffP.wordOf ls s) rfl rfl (by omega) (shl_word hs hls)) ?_
     refine rO TTZiB 5 rfl ?_
     refine oV (v_load V.s77 rfl mm3 rfl) ?_
     refine oV (v_move rfl) ?_
     refine oV (xI V.sl77 (by exact rdH hR mm4)) ?_
     refine oV (xL V.s3 (by exact rdH hR mm4)) ?_
     refine rO TTZiB 4 rfl ?_
     rw [hls]
     refine rC TTZiB 4 rfl ?_
     refine oV (v_load V.s127 rfl mm0 rfl) ?_
     refine rO TTZiB 3 rfl ?_
     refine oV (v_build V.pl145 V.z145 rfl (cs := [_, _]) rfl) ?_
     refine oV (xI V.sl127 (own mm2)) ?_
     refine o_eff (r_storeA (c := (W63)) ((HuffP.wordOf ls s, (HuffP.lenOf ls s : Int))) V.a145 rfl rfl (by exact pp2) (by omega) (by omega) rfl) ?_
     refine rOs TTZiB 13 rfl (by omega) ?_
     have en : HuffP.wordOf ls s + 1 = HuffP.nxt ls (k + 1) := by simp only [HuffP.nxt]; rw [hs.sym]; simp
     have el : (HuffP.lenOf ls s : Int) = HuffP.pln ls (k + 1) := by simp only [HuffP.pln]; rw [hs.sym]; simp
     rw [Int.toNat_natCast, ← HuffP.wordsK_next hk2 hs, en, el]
     refine j1 (k + 1) ?_ (lc2 (lc5 ln)) (sub (rz5 .nil) dd0)
     exact ⟨by omega, by omega⟩
    ·refine rC TTZiB 13 rfl ?_
     exact ret_ok (res2 rfl rfl) (.inl ⟨hE, b18, rfl, rfl⟩) ((fold' (rz1 (.cons rr1 (.cons rr0 .nil))) dd0 (fun w0 h hh => hc_close (HuffP.wordsK_all hV (by omega)) hh)).trans (sub (rz1 (.cons rr1 .nil)) dd1))
end Go.Proofs.YtmbljkghkcgejaaGreat

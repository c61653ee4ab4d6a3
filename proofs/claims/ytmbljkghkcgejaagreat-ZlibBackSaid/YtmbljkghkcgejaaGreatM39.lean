/- Walks of functions that the law reaches, and what they lean on; no conditions. -/
import Derived.Test.YtmbljkghkcgejaaGreatM30
import Derived.Test.YtmbljkghkcgejaaGreatSl22
import Derived.KernelRfl
import Derived.Test.YtmbljkghkcgejaaGreatM37
import Derived.Test.YtmbljkghkcgejaaGreatM38
import Derived.Test.YtmbljkghkcgejaaGreatM32
set_option linter.unusedVariables false
set_option linter.unusedSimpArgs false
set_option maxRecDepth 100000
namespace Go.Proofs.YtmbljkghkcgejaaGreat
open Go.Sl 
theorem bt : dJ Tryz.prog ⟨[77], [(96, 0, 0), (96, 1, 16)]⟩ = true := by kernel_rfl
attribute [local irreducible] ab.ord ab.iC ab.cG ab.bx ab.cF ab.words ab.ff ab.lenOf ab.aO ab.gb
attribute [local irreducible] ab.eX ab.sy
set_option maxHeartbeats 2000000 in
theorem F9 (p : Option Addr) (cap : Nat) (ls : List Int) (R : ae) (hR : ∀ w0 h, R w0 h → bJ I3 p ls.length ls w0 h) : aD Tryz.prog 45 [.slice p ls.length cap] [R] (aK fun v G => (ab.aO ls = 0 ∧ ∃ b, v = .tuple #[.pointer (some ⟨b, 0, none⟩), .int .i64 0] ∧ G = [RC b ls, R]) ∨ (ab.aO ls ≠ 0 ∧ v = .tuple #[.pointer none, .int .i64 (ab.aO ls)] ∧ G = [R])) := by
 refine ax [(0, _)] Tryz.func45 rfl Tryz.ntmps45 rfl rfl ?_
 intro w0 F
 refine rT bt 14 rfl ?_
 refine aj rfl (fun h13 => ?_) (fun h13 => ?_)
 ·refine rC bt 8 rfl ?_
  exact an (bT rfl rfl) (.inr ⟨by rw [ab.nQ (by omega)]; decide, by rw [ab.nQ (by omega)], rfl⟩) (sub (au .nil) ao)
 ·refine rC bt 4 rfl ?_
  refine oV (eP V.Mq V.No rfl (cs := [_, _, _, _, _, _, _, _, _, _, _, _, _, _, _, _, _, _]) rfl) ?_
  refine fG rfl (show _ = CA [] .i64 (ab.eX (ls.take 0)) [.slice none 0 0, .slice none 0 0] from by rw [List.take_zero, ab.Fg]; rfl) rfl ?_
  intro eU
  refine rO bt 15 rfl ?_
  refine eW (Row I3 none 0 0 (ls.take 0)) (Row.nil _ _ _) ?_
  rw [show ((5 : Nat), Value.int .i64 0) = (5, .int .i64 ((ab.cG (ls.take 0)).length : Int)) from by rw [List.take_zero, ab.se]; rfl]
  refine eJ (fun (k : Nat) (pl : Option Addr) (cl : Nat) => [(0, .slice p ls.length cap), (4, .pointer (some ⟨eU, 0, none⟩)), (5, .int .i64 ((ab.cG (ls.take k)).length : Int)), (6, .int .i64 (k : Int))]) (fun (k : Nat) (pl : Option Addr) (cl : Nat) => av eU 96 (CA [] .i64 (ab.eX (ls.take k)) [.slice none 0 0, .slice pl k cl]) :: Row I3 pl k cl (ls.take k) :: R :: F) (fun (k : Nat) (pl : Option Addr) (cl : Nat) => k ≤ ls.length ∧ ∀ i, i < k → 0 ≤ ls.getD i 0 ∧ ls.getD i 0 ≤ 15) (fun (k : Nat) (pl : Option Addr) (cl : Nat) => ls.length - k) (i3 (0) (none) (0) ?_ (dI ln) (sub (.cons ar (aE .nil)) ao)) ?_
  ·exact ⟨by omega, fun i hi => by omega⟩
  intro k pl cl
  rintro ⟨hk, hok⟩
  refine rL bt 9 rfl ?_
  refine aj rfl (fun h19 => ?_) (fun h19 => ?_)
  ·refine rC bt 6 rfl ?_
   have hk2 : k < ls.length := by omega
   have hg : I3.g ls (k : Int) = ls.getD k 0 := by simp [Ec.g]
   have hg2 : ls.getD k 0 = ls[k] := by simp [hk2]
   have htk : (ls.take k).length = k := by rw [List.length_take]; omega
   have hcl := ab.kb (ls.take k)
   have hcb := ab.Aa (ls := ls.take k) (by omega) (I3.g ls (k : Int)).toNat
   have hpl2 := ab.rQ (ls.take k)
   refine rC bt 3 rfl ?_
   refine oV (xI V.aF (by exact bd hR dE)) ?_
   refine oV (xL V.s3 (by exact bd hR dE)) ?_
   refine rO bt 2 rfl ?_
   refine ee 27 rfl (fun h27 => ?_) (fun h27 => ?_)
   ·refine rO bt 22 rfl ?_
    exact an (bT rfl rfl) (.inr ⟨by rw [ab.jK (by omega) hk2 (by omega)]; decide, by rw [ab.jK (by omega) hk2 (by omega)], rfl⟩) (sub (.cons aS .nil) fg)
   ·refine rO bt 2 rfl ?_
    refine al rfl ?_
    refine oV (xI V.aF (by exact bd hR dE)) ?_
    refine al rfl ?_
    refine oV (xL V.s3 (by exact bd hR dE)) ?_
    refine rO bt 4 rfl ?_
    refine aj rfl (fun h33 => ?_) (fun h33 => ?_)
    ·refine rC bt 13 rfl ?_
     exact an (bT rfl rfl) (.inr ⟨by rw [ab.jK (by omega) hk2 (by omega)]; decide, by rw [ab.jK (by omega) hk2 (by omega)], rfl⟩) (sub (.cons aS .nil) fg)
    ·refine rC bt 3 rfl ?_
     refine wN [pz 0 [] [4], pz 0 [] [0], pz 0 [] [6], pz 6 [1, 2] [], pz 14 [3] [], pz 1 [0] [], pz 33 [5] [], pz 127 [6, 4] [], pz 255 [7] [], pz 511 [8] [], pz 1 [0] [], pz 1025 [10] [], pz 4095 [11, 4] [], pz 8191 [12, 9] []] [⟨fun y => av eU 96 (CA [] .i64 (ab.eX (ls.take k)) [.slice none 0 0, .slice pl k cl]), none, some 13, [8]⟩, ⟨fun y => Row I3 pl k cl (ls.take k), none, none, []⟩, ⟨fun y => R, none, none, [3, 4]⟩, ⟨fun y => av eU 96 (CA [] .i64 ((ab.eX (ls.take k)).set ((((I3).g ls (k : Int))).toNat) (((ab.eX (ls.take k)).getD ((((I3).g ls (k : Int))).toNat) 0) + 1)) [.slice none 0 0, .slice pl k cl]), some 13, none, []⟩] F V.mixed ?_
     iterate 3 refine nM ?_
     refine nR (fun y FF hA => xI V.aF (by exact bd hR ak)) ?_
     refine nR (fun y FF hA => xL V.s3 (by exact bd hR ak)) ?_
     refine nN ?_
     refine nG V.vw ?_
     refine nV (fun y hA L => eA ((((I3).g ls (k : Int))).toNat) (by omega) V.kQ rfl rfl (by omega)) ?_
     refine nR (fun y FF hA => ji ((I3).g ls (k : Int)) V.s3 rfl ak (by (simp only [List.length_cons, List.length_nil]; omega)) (by omega) (by omega)) ?_
     refine nV (fun y hA L => bU rfl rfl wI) ?_
     refine nN ?_
     refine nG V.vw ?_
     refine nV (fun y hA L => eA ((((I3).g ls (k : Int))).toNat) (by omega) V.kQ rfl rfl (by omega)) ?_
     refine nE (fun y FF hA => cu (ug ((I3).g ls (k : Int)) V.s3 rfl rfl (by exact dO) (by (simp only [List.length_cons, List.length_nil]; omega)) (by omega) (by omega)) ⟨rfl, .refl _⟩) ?_
     refine aM ?_
     intro y hA
     clear hA
     refine bp ?_
     refine bW _ (.cons (d := 0) rfl (.cons (d := 4) rfl (.cons (d := 5) rfl (.cons (d := 6) rfl (.nil _))))) ?_
     refine bR (M := Row I3 pl k cl (ls.take k) :: R :: av eU 96 (CA [] .i64 ((ab.eX (ls.take k)).set ((((I3).g ls (k : Int))).toNat) (((ab.eX (ls.take k)).getD ((((I3).g ls (k : Int))).toNat) 0) + 1)) [.slice none 0 0, .slice pl k cl]) :: F) (fun _ _ h => h) ?_
     refine rC bt 5 rfl ?_
     refine oV (xI V.aF (by exact bd hR bB)) ?_
     refine oV (xL V.s3 (by exact bd hR bB)) ?_
     refine rO bt 3 rfl ?_
     refine aj rfl (fun h51 => ?_) (fun h51 => ?_)
     ·refine cy bt 6 rfl (by omega) ?_
      refine mL [pz 0 [] [4], pz 0 [] [4], pz 2 [1] [], pz 6 [2] [], pz 14 [3] [], pz 0 [] [0], pz 0 [] [6], pz 96 [5, 6] [], pz 224 [7] [], pz 480 [8] [], pz 1022 [4, 9] [], pz 2047 [0] [], pz 4095 [11] [], pz 8191 [12, 10] []] [⟨fun y => Row I3 pl k cl (ls.take k), none, some 10, []⟩, ⟨fun y => R, none, none, [7, 8]⟩, ⟨fun y => av eU 96 (CA [] .i64 ((ab.eX (ls.take k)).set ((((I3).g ls (k : Int))).toNat) (((ab.eX (ls.take k)).getD ((((I3).g ls (k : Int))).toNat) 0) + 1)) [.slice none 0 0, .slice pl k cl]), none, some 13, [4]⟩, ⟨fun y => Row (I3) (some ⟨(cK (bY (y 9))), 0, none⟩) 1 1 [((I3).g ls (k : Int))], some 9, none, [10]⟩, ⟨fun y => Row (I3) (bY (y 10)) (k + 1) (fp (y 10)) ((ls.take k) ++ [((I3).g ls (k : Int))]), some 10, none, []⟩, ⟨fun y => av eU 96 (CA [] .i64 ((ab.eX (ls.take k)).set ((((I3).g ls (k : Int))).toNat) (((ab.eX (ls.take k)).getD ((((I3).g ls (k : Int))).toNat) 0) + 1)) [.slice none 0 0, .slice (bY (y 10)) (k + 1) (fp (y 10))]), some 13, none, []⟩] F V.mixed (by kernel_rfl) rfl (fun _ => .refl _) (dV _ (dV _ (dV _ (ea _ rfl (by intro y y2 h; simp only [h 9 (.inl rfl)]) (ea _ rfl (by intro y y2 h; simp only [h 10 (.inl rfl)]) (ea _ rfl (by intro y y2 h; simp only [h 10 (.inr (by decide))]) jb)))))) ?_
      iterate 2 refine nM ?_
      refine nN ?_
      refine nG V.vx ?_
      refine nR (fun y FF hA => gl (n := 16) 1 V.fk rfl ak (by (simp only [List.length_set]; omega)) rfl rfl) ?_
      iterate 2 refine nM ?_
      refine nR (fun y FF hA => xI V.aF (by exact bd hR ak)) ?_
      refine nR (fun y FF hA => xL V.s3 (by exact bd hR ak)) ?_
      refine fD (fun y v => .slice (some ⟨cK (bY v), 0, none⟩) 1 1) (fun y v => True) _ _ (fun y v => [Row (I3) (some ⟨(cK (bY v)), 0, none⟩) 1 1 [((I3).g ls (k : Int))]]) _ (fun y => rfl) (fun y => rfl) (fun y => rfl) (fun y => rfl) (fun y FF hA => kV (nf (I3) ([((I3).g ls (k : Int))]) V.aF V.z3 rfl rfl rfl rfl rfl)) (by intros; rfl) (by intros; rfl) (by intros; rfl) (by intro y y2 h; simp only [h 9 (.inl rfl)]) (by intro y y2 h; rfl) ?_
      refine fD (fun y v => .slice (bY v) (k + 1) (fp v)) (fun y v => True) _ _ (fun y v => [Row (I3) (bY v) (k + 1) (fp v) ((ls.take k) ++ [((I3).g ls (k : Int))])]) _ (fun y => rfl) (fun y => rfl) (fun y => rfl) (fun y => rfl) (fun y FF hA => uo (nC (c := (I3)) V.aF V.z3 rfl rfl rfl rfl dg (own bB) (by omega)) (.refl _)) (by intros; rfl) (by intros; rfl) (by intros; rfl) (by intro y y2 h; simp only [h 9 (.inr (by decide)), h 10 (.inl rfl)]) (by intro y y2 h; rfl) ?_
      refine nN ?_
      refine nG V.vx ?_
      refine nE (fun y FF hA => cu (kM (n := 16) 1 V.fk rfl rfl rfl (by exact dO) (by (simp only [List.length_set]; omega)) rfl (by exact Nat.le_of_ble_eq_true rfl) rfl) ⟨rfl, .refl _⟩) ?_
      refine aM ?_
      intro y hA
      clear hA
      show jD _ _ _ _ (R :: Row (I3) (some ⟨(cK (bY (y 9))), 0, none⟩) 1 1 [((I3).g ls (k : Int))] :: Row (I3) (bY (y 10)) (k + 1) (fp (y 10)) ((ls.take k) ++ [((I3).g ls (k : Int))]) :: av eU 96 (CA [] .i64 ((ab.eX (ls.take k)).set ((((I3).g ls (k : Int))).toNat) (((ab.eX (ls.take k)).getD ((((I3).g ls (k : Int))).toNat) 0) + 1)) [.slice none 0 0, .slice (bY (y 10)) (k + 1) (fp (y 10))]) :: F)
      generalize (cK (bY (y 9))) = iW
      generalize (bY (y 10)) = p64
      generalize (fp (y 10)) = c64
      refine gR ?_
      refine bp ?_
      refine aW ?_
      refine oV (aB rfl) ?_
      refine oV (bU rfl rfl wI) ?_
      refine oV (cE rfl) ?_
      refine bC ?_
      have hok2 := ab.rG hok (by omega)
      rw [ab.uR hk2 (hg.trans hg2) (by omega) (by omega), ab.vq hk2 (hg.trans hg2)]
      (rw [ab.D6 hk2 (hg.trans hg2) (by omega)]; exact j3 (k + 1) _ _ ⟨⟨by omega, hok2⟩, by omega⟩ (dI ln) (sub (.cons dC (.cons aS (au .nil))) cw))
     ·refine rC bt 2 rfl ?_
      refine mL [pz 0 [] [4], pz 0 [] [4], pz 2 [1] [], pz 6 [2] [], pz 14 [3] [], pz 0 [] [0], pz 0 [] [6], pz 96 [5, 6] [], pz 224 [7] [], pz 480 [8] [], pz 1022 [4, 9] [], pz 2047 [0] [], pz 4095 [11] [], pz 8191 [12, 10] []] [⟨fun y => Row I3 pl k cl (ls.take k), none, some 10, []⟩, ⟨fun y => R, none, none, [7, 8]⟩, ⟨fun y => av eU 96 (CA [] .i64 ((ab.eX (ls.take k)).set ((((I3).g ls (k : Int))).toNat) (((ab.eX (ls.take k)).getD ((((I3).g ls (k : Int))).toNat) 0) + 1)) [.slice none 0 0, .slice pl k cl]), none, some 13, [4]⟩, ⟨fun y => Row (I3) (some ⟨(cK (bY (y 9))), 0, none⟩) 1 1 [((I3).g ls (k : Int))], some 9, none, [10]⟩, ⟨fun y => Row (I3) (bY (y 10)) (k + 1) (fp (y 10)) ((ls.take k) ++ [((I3).g ls (k : Int))]), some 10, none, []⟩, ⟨fun y => av eU 96 (CA [] .i64 ((ab.eX (ls.take k)).set ((((I3).g ls (k : Int))).toNat) (((ab.eX (ls.take k)).getD ((((I3).g ls (k : Int))).toNat) 0) + 1)) [.slice none 0 0, .slice (bY (y 10)) (k + 1) (fp (y 10))]), some 13, none, []⟩] F V.mixed (by kernel_rfl) rfl (fun _ => .refl _) (dV _ (dV _ (dV _ (ea _ rfl (by intro y y2 h; simp only [h 9 (.inl rfl)]) (ea _ rfl (by intro y y2 h; simp only [h 10 (.inl rfl)]) (ea _ rfl (by intro y y2 h; simp only [h 10 (.inr (by decide))]) jb)))))) ?_
      iterate 2 refine nM ?_
      refine nN ?_
      refine nG V.vx ?_
      refine nR (fun y FF hA => gl (n := 16) 1 V.fk rfl ak (by (simp only [List.length_set]; omega)) rfl rfl) ?_
      iterate 2 refine nM ?_
      refine nR (fun y FF hA => xI V.aF (by exact bd hR ak)) ?_
      refine nR (fun y FF hA => xL V.s3 (by exact bd hR ak)) ?_
      refine fD (fun y v => .slice (some ⟨cK (bY v), 0, none⟩) 1 1) (fun y v => True) _ _ (fun y v => [Row (I3) (some ⟨(cK (bY v)), 0, none⟩) 1 1 [((I3).g ls (k : Int))]]) _ (fun y => rfl) (fun y => rfl) (fun y => rfl) (fun y => rfl) (fun y FF hA => kV (nf (I3) ([((I3).g ls (k : Int))]) V.aF V.z3 rfl rfl rfl rfl rfl)) (by intros; rfl) (by intros; rfl) (by intros; rfl) (by intro y y2 h; simp only [h 9 (.inl rfl)]) (by intro y y2 h; rfl) ?_
      refine fD (fun y v => .slice (bY v) (k + 1) (fp v)) (fun y v => True) _ _ (fun y v => [Row (I3) (bY v) (k + 1) (fp v) ((ls.take k) ++ [((I3).g ls (k : Int))])]) _ (fun y => rfl) (fun y => rfl) (fun y => rfl) (fun y => rfl) (fun y FF hA => uo (nC (c := (I3)) V.aF V.z3 rfl rfl rfl rfl dg (own bB) (by omega)) (.refl _)) (by intros; rfl) (by intros; rfl) (by intros; rfl) (by intro y y2 h; simp only [h 9 (.inr (by decide)), h 10 (.inl rfl)]) (by intro y y2 h; rfl) ?_
      refine nN ?_
      refine nG V.vx ?_
      refine nE (fun y FF hA => cu (kM (n := 16) 1 V.fk rfl rfl rfl (by exact dO) (by (simp only [List.length_set]; omega)) rfl (by exact Nat.le_of_ble_eq_true rfl) rfl) ⟨rfl, .refl _⟩) ?_
      refine aM ?_
      intro y hA
      clear hA
      show jD _ _ _ _ (R :: Row (I3) (some ⟨(cK (bY (y 9))), 0, none⟩) 1 1 [((I3).g ls (k : Int))] :: Row (I3) (bY (y 10)) (k + 1) (fp (y 10)) ((ls.take k) ++ [((I3).g ls (k : Int))]) :: av eU 96 (CA [] .i64 ((ab.eX (ls.take k)).set ((((I3).g ls (k : Int))).toNat) (((ab.eX (ls.take k)).getD ((((I3).g ls (k : Int))).toNat) 0) + 1)) [.slice none 0 0, .slice (bY (y 10)) (k + 1) (fp (y 10))]) :: F)
      generalize (cK (bY (y 9))) = iW
      generalize (bY (y 10)) = p64
      generalize (fp (y 10)) = c64
      refine gR ?_
      refine bp ?_
      refine aW ?_
      refine oV (aB rfl) ?_
      refine oV (bU rfl rfl wI) ?_
      refine oV (cE rfl) ?_
      refine bC ?_
      have hok2 := ab.rG hok (by omega)
      rw [ab.uR hk2 (hg.trans hg2) (by omega) (by omega), ab.vq hk2 (hg.trans hg2)]
      (rw [ab.Cf hk2 (hg.trans hg2) (by omega)]; exact j3 (k + 1) _ _ ⟨⟨by omega, hok2⟩, by omega⟩ (dI ln) (sub (.cons dC (.cons aS (au .nil))) cw))
  ·refine rC bt 6 rfl ?_
   have hkn : k = ls.length := by omega
   subst hkn
   rw [List.take_length] at *
   have hvv := ab.zT hok (Nat.le_refl _)
   have hcl := ab.kb ls
   have hcl2 := ab.gY ls
   have hE0 := ab.rM (by omega) hvv
   have hCb := ab.jc (ls := ls) (by omega)
   refine rC bt 4 rfl ?_
   refine oV (eA 0 rfl V.kQ rfl rfl (by omega)) ?_
   refine bM (ug (0 : Int) V.s3 rfl rfl (by exact dO) (by (simp only [List.length_cons, List.length_nil]; omega)) (by omega) (by omega)) ?_
   refine rO bt 3 rfl ?_
   rw [ab.Fc]
   refine rC bt 11 rfl ?_
   refine cx (fun (k : Nat) => [(0, .slice p ls.length cap), (4, .pointer (some ⟨eU, 0, none⟩)), (5, .int .i64 ((ab.cG ls).length : Int)), (7, .int .i64 (ab.left (ab.bx ls) k)), (8, .int .i64 ((k : Int) + 1))]) (fun (k : Nat) => av eU 96 (CA [] .i64 (ab.bx ls) [.slice none 0 0, .slice pl ls.length cl]) :: Row I3 pl ls.length cl ls :: R :: F) (fun (k : Nat) => k ≤ 15 ∧ ∀ m, 1 ≤ m → m ≤ k → 0 ≤ ab.left (ab.bx ls) m) (fun (k : Nat) => 15 - k) (i1 (0) ?_ (aX ln) (sub (dU .nil) ao)) ?_
   ·exact ⟨by omega, fun m h1 h2 => by omega⟩
   intro k
   rintro ⟨hk, hno⟩
   have hcc := hCb ((k : Int) + 1).toNat
   have hc1 := hCb (Int.toNat 1)
   have hlb := ab.tj (fun i => (hCb i).1) hk
   have hl0 := ab.yR hno
   refine rL bt 7 rfl ?_
   refine aj rfl (fun h72 => ?_) (fun h72 => ?_)
   ·refine cy bt 12 rfl (by omega) ?_
    refine oV (eA (k + 1) rfl V.kQ rfl rfl (by omega)) ?_
    refine oV (ji ((k : Int) + 1) V.s3 rfl ak (by (simp only [List.length_cons, List.length_nil]; omega)) (by omega) (by omega)) ?_
    refine bN bt 10 rfl (by omega) ?_
    refine aj rfl (fun h85 => ?_) (fun h85 => ?_)
    ·refine rC bt 12 rfl ?_
     have hE : ab.aO ls = 4 := by rw [hE0, ab.sL (n := k + 1) (by omega) (by omega) (by rw [← ab.mj]; exact h85)]; rfl
     exact an (bT rfl rfl) (.inr ⟨by rw [hE]; decide, by rw [hE], rfl⟩) (sub (.cons aS .nil) fg)
    ·refine cy bt 8 rfl (by omega) ?_
     have hno2 := ab.vr hno h85
     rw [ab.mj]
     exact j1 (k + 1) ⟨⟨by omega, hno2⟩, by omega⟩ (aX ln) (sub (dU .nil) ao)
   ·refine rC bt 11 rfl ?_
    refine ee 88 rfl (fun h88 => ?_) (fun h88 => ?_)
    ·refine rO bt 3 rfl ?_
     refine ee 91 rfl (fun h91 => ?_) (fun h91 => ?_)
     ·refine rO bt 20 rfl ?_
      have hE : ab.aO ls = 0 := by rw [hE0, ab.iy hk h72 hno]; simp only [Bool.or_eq_true, Bool.and_eq_true, decide_eq_true_eq]; rw [if_pos (by omega)]
      refine rC bt 5 rfl ?_
      refine eW (Row I3 none 0 0 (ab.dG ls 0)) (Row.nil _ _ _) ?_
      refine eJ (fun (m : Nat) (ps : Option Addr) (cs : Nat) => [(0, .slice p ls.length cap), (4, .pointer (some ⟨eU, 0, none⟩)), (9, .int .i64 ((m : Int) + 1))]) (fun (m : Nat) (ps : Option Addr) (cs : Nat) => av eU 96 (CA [] .i64 (ab.bx ls) [.slice ps (ab.dG ls m).length cs, .slice pl ls.length cl]) :: Row I3 ps (ab.dG ls m).length cs (ab.dG ls m) :: Row I3 pl ls.length cl ls :: R :: F) (fun (m : Nat) (ps : Option Addr) (cs : Nat) => m ≤ 15) (fun (m : Nat) (ps : Option Addr) (cs : Nat) => 15 - m) (i3 (0) (none) (0) ?_ (fL ln) (sub (.cons ar (dU .nil)) ao)) ?_
      ·exact Nat.zero_le _
      intro m ps cs
      rintro hm
      refine rL bt 7 rfl ?_
      refine aj rfl (fun h106 => ?_) (fun h106 => ?_)
      ·refine rC bt 10 rfl ?_
       rw [← ab.ud]
       refine eJ (fun (i : Nat) (ps : Option Addr) (cs : Nat) => [(0, .slice p ls.length cap), (4, .pointer (some ⟨eU, 0, none⟩)), (9, .int .i64 ((m : Int) + 1)), (10, .int .i64 (i : Int))]) (fun (i : Nat) (ps : Option Addr) (cs : Nat) => av eU 96 (CA [] .i64 (ab.bx ls) [.slice ps (ab.sy ls m i).length cs, .slice pl ls.length cl]) :: Row I3 ps (ab.sy ls m i).length cs (ab.sy ls m i) :: Row I3 pl ls.length cl ls :: R :: F) (fun (i : Nat) (ps : Option Addr) (cs : Nat) => i ≤ ls.length) (fun (i : Nat) (ps : Option Addr) (cs : Nat) => ls.length - i) (i3 (0) (_) (_) ?_ (dI ln) (sub (gA .nil) ao)) ?_
       ·exact Nat.zero_le _
       intro i ps cs
       rintro hi
       refine rL bt 9 rfl ?_
       refine aj rfl (fun h112 => ?_) (fun h112 => ?_)
       ·refine rC bt 5 rfl ?_
        have hi2 : i < ls.length := by omega
        have hg : I3.g ls (i : Int) = ls.getD i 0 := by simp [Ec.g]
        have hg2 : ls.getD i 0 = ls[i] := by simp [hi2]
        have hsy := ab.Ax (ls := ls) (m := m) (i := i) (by omega) (by omega)
        refine rC bt 3 rfl ?_
        refine oV (xI V.aF (by exact bd hR fZ)) ?_
        refine oV (xL V.s3 (by exact bd hR fZ)) ?_
        refine rO bt 4 rfl ?_
        refine aj rfl (fun h120 => ?_) (fun h120 => ?_)
        ·refine rC bt 5 rfl ?_
         refine oV (gl (n := 16) 0 V.fk rfl ak (by omega) rfl rfl) ?_
         refine oV (aB rfl) ?_
         refine bP (I3) [(i : Int)] V.aF V.z3 rfl rfl rfl rfl rfl rfl ?_
         intro b127
         refine bQ (c := (I3)) V.aF V.z3 rfl rfl rfl rfl aS (own ak) (by omega) rfl ?_
         intro p128 c128
         refine rO bt 2 rfl ?_
         refine bM (kM (n := 16) 0 V.fk rfl rfl rfl (by exact nc) (by omega) rfl (by exact Nat.le_of_ble_eq_true rfl) rfl) ?_
         refine bN bt 8 rfl (by omega) ?_
         (rw [ab.te hi2 (hg.trans hg2) (by omega), ab.oc hi2 (hg.trans hg2) (by omega)]; exact j3 (i + 1) _ _ ⟨by omega, by omega⟩ (dI ln) (sub (.cons aS (au (.cons ar (.cons ar .nil)))) cw))
        ·refine cy bt 8 rfl (by omega) ?_
         (rw [ab.Au hi2 (hg.trans hg2) (by omega)]; exact j3 (i + 1) _ _ ⟨by omega, by omega⟩ (dI ln) (sub (gA .nil) ao))
       ·refine cy bt 11 rfl (by omega) ?_
        rw [ab.yn (by omega)]
        refine j3 (m + 1) (_) (_) ?_ (fL ln) (sub (gA .nil) ao)
        exact ⟨by omega, by omega⟩
      ·refine rC bt 13 rfl ?_
       have hm15 : m = 15 := by omega
       subst hm15
       rw [ab.zZ]
       exact an (bT rfl rfl) (.inl ⟨hE, eU, rfl, rfl⟩) ((aG (dU .nil) ao (fun w0 h hh => kL hh)).trans (sub (aE .nil) ao))
     ·refine rO bt 3 rfl ?_
      refine ee 94 rfl (fun h94 => ?_) (fun h94 => ?_)
      ·refine rO bt 3 rfl ?_
       refine al rfl ?_
       refine oV (eA 1 rfl V.kQ rfl rfl (by omega)) ?_
       refine al rfl ?_
       refine oV (ji (1 : Int) V.s3 rfl ak (by (simp only [List.length_cons, List.length_nil]; omega)) (by omega) (by omega)) ?_
       refine rO bt 3 rfl ?_
       refine al rfl ?_
       refine oV (qS rfl) ?_
       refine rO bt 3 rfl ?_
       refine aj rfl (fun h104 => ?_) (fun h104 => ?_)
       ·refine rC bt 8 rfl ?_
        have hE : ab.aO ls = 4 := by rw [hE0, ab.iy hk h72 hno]; simp only [Bool.or_eq_true, Bool.and_eq_true, decide_eq_true_eq]; rw [if_neg (by omega)]
        exact an (bT rfl rfl) (.inr ⟨by rw [hE]; decide, by rw [hE], rfl⟩) (sub (.cons aS .nil) fg)
       ·refine rC bt 4 rfl ?_
        have hE : ab.aO ls = 0 := by rw [hE0, ab.iy hk h72 hno]; simp only [Bool.or_eq_true, Bool.and_eq_true, decide_eq_true_eq]; rw [if_pos (by omega)]
        refine rC bt 5 rfl ?_
        refine eW (Row I3 none 0 0 (ab.dG ls 0)) (Row.nil _ _ _) ?_
        refine eJ (fun (m : Nat) (ps : Option Addr) (cs : Nat) => [(0, .slice p ls.length cap), (4, .pointer (some ⟨eU, 0, none⟩)), (9, .int .i64 ((m : Int) + 1))]) (fun (m : Nat) (ps : Option Addr) (cs : Nat) => av eU 96 (CA [] .i64 (ab.bx ls) [.slice ps (ab.dG ls m).length cs, .slice pl ls.length cl]) :: Row I3 ps (ab.dG ls m).length cs (ab.dG ls m) :: Row I3 pl ls.length cl ls :: R :: F) (fun (m : Nat) (ps : Option Addr) (cs : Nat) => m ≤ 15) (fun (m : Nat) (ps : Option Addr) (cs : Nat) => 15 - m) (i3 (0) (none) (0) ?_ (fL ln) (sub (.cons ar (dU .nil)) ao)) ?_
        ·exact Nat.zero_le _
        intro m ps cs
        rintro hm
        refine rL bt 7 rfl ?_
        refine aj rfl (fun h106 => ?_) (fun h106 => ?_)
        ·refine rC bt 10 rfl ?_
         rw [← ab.ud]
         refine eJ (fun (i : Nat) (ps : Option Addr) (cs : Nat) => [(0, .slice p ls.length cap), (4, .pointer (some ⟨eU, 0, none⟩)), (9, .int .i64 ((m : Int) + 1)), (10, .int .i64 (i : Int))]) (fun (i : Nat) (ps : Option Addr) (cs : Nat) => av eU 96 (CA [] .i64 (ab.bx ls) [.slice ps (ab.sy ls m i).length cs, .slice pl ls.length cl]) :: Row I3 ps (ab.sy ls m i).length cs (ab.sy ls m i) :: Row I3 pl ls.length cl ls :: R :: F) (fun (i : Nat) (ps : Option Addr) (cs : Nat) => i ≤ ls.length) (fun (i : Nat) (ps : Option Addr) (cs : Nat) => ls.length - i) (i3 (0) (_) (_) ?_ (dI ln) (sub (gA .nil) ao)) ?_
         ·exact Nat.zero_le _
         intro i ps cs
         rintro hi
         refine rL bt 9 rfl ?_
         refine aj rfl (fun h112 => ?_) (fun h112 => ?_)
         ·refine rC bt 5 rfl ?_
          have hi2 : i < ls.length := by omega
          have hg : I3.g ls (i : Int) = ls.getD i 0 := by simp [Ec.g]
          have hg2 : ls.getD i 0 = ls[i] := by simp [hi2]
          have hsy := ab.Ax (ls := ls) (m := m) (i := i) (by omega) (by omega)
          refine rC bt 3 rfl ?_
          refine oV (xI V.aF (by exact bd hR fZ)) ?_
          refine oV (xL V.s3 (by exact bd hR fZ)) ?_
          refine rO bt 4 rfl ?_
          refine aj rfl (fun h120 => ?_) (fun h120 => ?_)
          ·refine rC bt 5 rfl ?_
           refine oV (gl (n := 16) 0 V.fk rfl ak (by omega) rfl rfl) ?_
           refine oV (aB rfl) ?_
           refine bP (I3) [(i : Int)] V.aF V.z3 rfl rfl rfl rfl rfl rfl ?_
           intro b127
           refine bQ (c := (I3)) V.aF V.z3 rfl rfl rfl rfl aS (own ak) (by omega) rfl ?_
           intro p128 c128
           refine rO bt 2 rfl ?_
           refine bM (kM (n := 16) 0 V.fk rfl rfl rfl (by exact nc) (by omega) rfl (by exact Nat.le_of_ble_eq_true rfl) rfl) ?_
           refine bN bt 8 rfl (by omega) ?_
           (rw [ab.te hi2 (hg.trans hg2) (by omega), ab.oc hi2 (hg.trans hg2) (by omega)]; exact j3 (i + 1) _ _ ⟨by omega, by omega⟩ (dI ln) (sub (.cons aS (au (.cons ar (.cons ar .nil)))) cw))
          ·refine cy bt 8 rfl (by omega) ?_
           (rw [ab.Au hi2 (hg.trans hg2) (by omega)]; exact j3 (i + 1) _ _ ⟨by omega, by omega⟩ (dI ln) (sub (gA .nil) ao))
         ·refine cy bt 11 rfl (by omega) ?_
          rw [ab.yn (by omega)]
          refine j3 (m + 1) (_) (_) ?_ (fL ln) (sub (gA .nil) ao)
          exact ⟨by omega, by omega⟩
        ·refine rC bt 13 rfl ?_
         have hm15 : m = 15 := by omega
         subst hm15
         rw [ab.zZ]
         exact an (bT rfl rfl) (.inl ⟨hE, eU, rfl, rfl⟩) ((aG (dU .nil) ao (fun w0 h hh => kL hh)).trans (sub (aE .nil) ao))
      ·refine rO bt 21 rfl ?_
       have hE : ab.aO ls = 4 := by rw [hE0, ab.iy hk h72 hno]; simp only [Bool.or_eq_true, Bool.and_eq_true, decide_eq_true_eq]; rw [if_neg (by omega)]
       exact an (bT rfl rfl) (.inr ⟨by rw [hE]; decide, by rw [hE], rfl⟩) (sub (.cons aS .nil) fg)
    ·refine rO bt 23 rfl ?_
     have hE : ab.aO ls = 0 := by rw [hE0, ab.iy hk h72 hno]; simp only [Bool.or_eq_true, Bool.and_eq_true, decide_eq_true_eq]; rw [if_pos (by omega)]
     refine rC bt 5 rfl ?_
     refine eW (Row I3 none 0 0 (ab.dG ls 0)) (Row.nil _ _ _) ?_
     refine eJ (fun (m : Nat) (ps : Option Addr) (cs : Nat) => [(0, .slice p ls.length cap), (4, .pointer (some ⟨eU, 0, none⟩)), (9, .int .i64 ((m : Int) + 1))]) (fun (m : Nat) (ps : Option Addr) (cs : Nat) => av eU 96 (CA [] .i64 (ab.bx ls) [.slice ps (ab.dG ls m).length cs, .slice pl ls.length cl]) :: Row I3 ps (ab.dG ls m).length cs (ab.dG ls m) :: Row I3 pl ls.length cl ls :: R :: F) (fun (m : Nat) (ps : Option Addr) (cs : Nat) => m ≤ 15) (fun (m : Nat) (ps : Option Addr) (cs : Nat) => 15 - m) (i3 (0) (none) (0) ?_ (fL ln) (sub (.cons ar (dU .nil)) ao)) ?_
     ·exact Nat.zero_le _
     intro m ps cs
     rintro hm
     refine rL bt 7 rfl ?_
     refine aj rfl (fun h106 => ?_) (fun h106 => ?_)
     ·refine rC bt 10 rfl ?_
      rw [← ab.ud]
      refine eJ (fun (i : Nat) (ps : Option Addr) (cs : Nat) => [(0, .slice p ls.length cap), (4, .pointer (some ⟨eU, 0, none⟩)), (9, .int .i64 ((m : Int) + 1)), (10, .int .i64 (i : Int))]) (fun (i : Nat) (ps : Option Addr) (cs : Nat) => av eU 96 (CA [] .i64 (ab.bx ls) [.slice ps (ab.sy ls m i).length cs, .slice pl ls.length cl]) :: Row I3 ps (ab.sy ls m i).length cs (ab.sy ls m i) :: Row I3 pl ls.length cl ls :: R :: F) (fun (i : Nat) (ps : Option Addr) (cs : Nat) => i ≤ ls.length) (fun (i : Nat) (ps : Option Addr) (cs : Nat) => ls.length - i) (i3 (0) (_) (_) ?_ (dI ln) (sub (gA .nil) ao)) ?_
      ·exact Nat.zero_le _
      intro i ps cs
      rintro hi
      refine rL bt 9 rfl ?_
      refine aj rfl (fun h112 => ?_) (fun h112 => ?_)
      ·refine rC bt 5 rfl ?_
       have hi2 : i < ls.length := by omega
       have hg : I3.g ls (i : Int) = ls.getD i 0 := by simp [Ec.g]
       have hg2 : ls.getD i 0 = ls[i] := by simp [hi2]
       have hsy := ab.Ax (ls := ls) (m := m) (i := i) (by omega) (by omega)
       refine rC bt 3 rfl ?_
       refine oV (xI V.aF (by exact bd hR fZ)) ?_
       refine oV (xL V.s3 (by exact bd hR fZ)) ?_
       refine rO bt 4 rfl ?_
       refine aj rfl (fun h120 => ?_) (fun h120 => ?_)
       ·refine rC bt 5 rfl ?_
        refine oV (gl (n := 16) 0 V.fk rfl ak (by omega) rfl rfl) ?_
        refine oV (aB rfl) ?_
        refine bP (I3) [(i : Int)] V.aF V.z3 rfl rfl rfl rfl rfl rfl ?_
        intro b127
        refine bQ (c := (I3)) V.aF V.z3 rfl rfl rfl rfl aS (own ak) (by omega) rfl ?_
        intro p128 c128
        refine rO bt 2 rfl ?_
        refine bM (kM (n := 16) 0 V.fk rfl rfl rfl (by exact nc) (by omega) rfl (by exact Nat.le_of_ble_eq_true rfl) rfl) ?_
        refine bN bt 8 rfl (by omega) ?_
        (rw [ab.te hi2 (hg.trans hg2) (by omega), ab.oc hi2 (hg.trans hg2) (by omega)]; exact j3 (i + 1) _ _ ⟨by omega, by omega⟩ (dI ln) (sub (.cons aS (au (.cons ar (.cons ar .nil)))) cw))
       ·refine cy bt 8 rfl (by omega) ?_
        (rw [ab.Au hi2 (hg.trans hg2) (by omega)]; exact j3 (i + 1) _ _ ⟨by omega, by omega⟩ (dI ln) (sub (gA .nil) ao))
      ·refine cy bt 11 rfl (by omega) ?_
       rw [ab.yn (by omega)]
       refine j3 (m + 1) (_) (_) ?_ (fL ln) (sub (gA .nil) ao)
       exact ⟨by omega, by omega⟩
     ·refine rC bt 13 rfl ?_
      have hm15 : m = 15 := by omega
      subst hm15
      rw [ab.zZ]
      exact an (bT rfl rfl) (.inl ⟨hE, eU, rfl, rfl⟩) ((aG (dU .nil) ao (fun w0 h hh => kL hh)).trans (sub (aE .nil) ao))
end Go.Proofs.YtmbljkghkcgejaaGreat
namespace Go.Proofs.YtmbljkghkcgejaaGreat
open Go.Sl 
theorem dt : dJ Tryz.prog ⟨[77], [(96, 0, 0), (96, 1, 16), (129, 1, 1), (129, 2, 17), (129, 3, 18)]⟩ = true := by kernel_rfl
attribute [local irreducible] ab.ord ab.iC ab.cG ab.bx ab.cF ab.words ab.ff ab.lenOf ab.aO ab.gb ab.wd ab.gF ab.eC ab.fT ab.cls ab.off ab.tk
set_option maxHeartbeats 2000000 in
theorem KD (b : Nat) (ls : List Int) (b2 : Nat) (B : List Int) (at_ : Nat) (out : List Int) (free : Int) (hE : ab.aO ls = 0) (hl : B.length < 500000000) (hB : af.aY B) (ha : at_ ≤ 8 * B.length) : aD Tryz.prog 66 [.pointer (some ⟨b, 0, none⟩), .pointer (some ⟨b2, 0, none⟩)] [HC b ls, LW b2 B at_ out free] (tq (fun v G => ∃ n s, ab.tk ls B at_ = .qh n s ∧ v = .int .i64 s ∧ G = [HC b ls, LW b2 B (at_ + n) out free]) (fun ch G => (∃ n, ab.tk ls B at_ = .short n ∧ ch = jY 91 (.agg #[]) ∧ G = [HC b ls, LW b2 B (at_ + n) out free]) ∨ (∃ n, ab.tk ls B at_ = .none_ n ∧ ch = jY 92 (.agg #[]) ∧ G = [HC b ls, LW b2 B (at_ + n) out free]))) := by
 refine ax [(0, _), (1, _)] Tryz.func66 rfl Tryz.ntmps66 rfl rfl ?_
 intro w0 F
 have hV := (ab.cM hE).1
 have hW := (ab.cM hE).2
 have hcl := ab.gY ls
 have hCb := ab.jc hV.1
 have hm15 := ab.tt hV
 have hme := ab.om ls
 refine eK (fun h hh => hh) ?_
 rintro ⟨p1, c1, p2, c2⟩ _
 dsimp only
 rw [hme]
 refine rT dt 19 rfl ?_
 rw [show ((7 : Nat), Value.int .i64 0) = (7, .int .i64 (ab.off ls (0 + 1) : Int)) from by unfold ab.off; rfl]
 refine cx (fun (m : Nat) => [(0, .pointer (some ⟨b, 0, none⟩)), (1, .pointer (some ⟨b2, 0, none⟩)), (5, .int .i64 (af.acc B at_ m)), (6, .int .i64 (ab.base ls m + ab.da ls m)), (7, .int .i64 (ab.off ls (m + 1) : Int)), (8, .int .i64 ((m : Int) + 1))]) (fun (m : Nat) => av b 129 (CA [.slice p1 ls.length c1] .i64 (ab.bx ls) [.slice p2 (ab.ord ls).length c2, .int .i64 (ab.e8 ls : Int)]) :: Row kS p1 ls.length c1 (ab.words ls) :: Row I3 p2 (ab.ord ls).length c2 (ab.ord ls) :: LW b2 B (at_ + m) out free :: F) (fun (m : Nat) => ab.Tk ls B at_ m) (fun (m : Nat) => ab.e8 ls - m) (i1 (0) ?_ (fO (aX ln)) (sub (gA .nil) ao)) ?_
 ·exact ab.oU ha
 intro m
 rintro ht
 have htl := ht.le
 refine rL dt 7 rfl ?_
 refine oV (gl (n := 16) 1 V.s3 rfl ak (by omega) rfl rfl) ?_
 refine rO dt 3 rfl ?_
 refine aj rfl (fun h14 => ?_) (fun h14 => ?_)
 ·have hcn := ab.Dk (ls := ls) (m := m) (by omega)
  have hbf := ab.tN hW (n := m + 1) (by omega)
  have hbn := ab.lY ls (m + 1)
  have hc1 := ab.gw ls (m + 1)
  have hof := ab.sR hV (m := m) (by omega)
  have hac := af.kY B at_ (m + 1)
  have hac0 := af.kY B at_ m
  have hp15 := ab.mm (show m + 1 ≤ 15 by omega)
  have hp14 := ab.mm (show m ≤ 15 by omega)
  have hb := af.kq B (at_ + m)
  have hnn := ht.nn
  refine rC dt 4 rfl ?_
  rcases (Nat.lt_or_ge (at_ + m) (8 * B.length)) with hx | hx
  ·refine rC dt 3 rfl ?_
   refine oV (eI (r := 2 * af.acc B at_ m) rfl rfl (by decide) (af.Ed hac0.1 (by omega))) ?_
   refine oV (aB rfl) ?_
   refine ai (fC b2 B (at_ + m) out free 1 hl hB (by omega) (by omega)) V.gp  rfl (.cons dC .nil) rfl ?_
   rintro _ _ ⟨rfl, rfl⟩
   rw [af.oQ]
   refine oV (jy (r := af.acc B at_ (m + 1)) rfl rfl (af.CU hac0.1 (by omega) hb)) ?_
   refine rO dt 6 rfl ?_
   refine oV (eI (r := ab.base ls (m + 1)) rfl rfl (by decide) (vU hW (by omega))) ?_
   refine bN dt 13 rfl (by omega) ?_
   refine oV (eA (m + 1) rfl V.kQ rfl rfl (by omega)) ?_
   refine oV (ji ((m : Int) + 1) V.s3 rfl bB (by (simp only [List.length_cons, List.length_nil]; omega)) (by omega) (by omega)) ?_
   refine rO dt 3 rfl ?_
   refine aj rfl (fun h33 => ?_) (fun h33 => ?_)
   ·refine rC dt 1 rfl ?_
    have hlt : af.acc B at_ (m + 1) - ab.base ls (m + 1) < ab.da ls (m + 1) := by rw [← hcn]; exact h33
    have hat := ab.DA (by omega) hnn hlt
    have hol : (ab.ord ls).length ≤ 320 := by rw [ab.lU]; exact ab.sR hV (m := 15) (by omega)
    refine rC dt 4 rfl ?_
    refine oV (gl (n := 16) 0 V.fk rfl bB (by omega) rfl rfl) ?_
    refine bN dt 5 rfl (by omega) ?_
    refine oV (xI V.aF (own fZ)) ?_
    refine oV (xL V.s3 (own fZ)) ?_
    refine rO dt 10 rfl ?_
    rw [← hme]
    exact Jy (G := [HC b ls, LW b2 B (at_ + (m + 1)) out free]) (bu rfl) ⟨m + 1, _, ht.qh (by omega) hx hlt, by rw [← gE (c := I3) (e := (ab.off ls (m + 1) : Int) + af.acc B at_ (m + 1) - ab.base ls (m + 1)) _ (by omega)], rfl⟩ ((aG (.cons ar (.cons ar (.cons ar .nil))) ao (fun w0 h hh => jO rfl hh)).trans (sub (aE .nil) ao))
   ·refine rC dt 9 rfl ?_
    refine oV (eA (m + 1) rfl V.kQ rfl rfl (by omega)) ?_
    refine oV (ji ((m : Int) + 1) V.s3 rfl bB (by (simp only [List.length_cons, List.length_nil]; omega)) (by omega) (by omega)) ?_
    refine bN dt 10 rfl (by omega) ?_
    refine oV (eA (m + 1) rfl V.kQ rfl rfl (by omega)) ?_
    refine oV (ji ((m : Int) + 1) V.s3 rfl bB (by (simp only [List.length_cons, List.length_nil]; omega)) (by omega) (by omega)) ?_
    refine bN dt 10 rfl (by omega) ?_
    rw [hcn, ← ab.kf ls (m + 1), show (m : Int) + 1 = ((m + 1 : Nat) : Int) from by omega]
    refine j1 (m + 1) ?_ (fO (aX ln)) (sub (.cons ar (.cons ar (.cons ar (au .nil)))) ao)
    exact ⟨ht.Ek (by omega) hx (by rw [← hcn]; assumption), by omega⟩
  ·refine rC dt 3 rfl ?_
   refine oV (eI (r := 2 * af.acc B at_ m) rfl rfl (by decide) (af.Ed hac0.1 (by omega))) ?_
   refine oV (aB rfl) ?_
   refine c0 (gk b2 B (at_ + m) out free 1 hl hB (by omega) ht.room (by omega)) V.gp rfl (.cons dC .nil) ?_
   rintro _ _ ⟨rfl, rfl⟩
   refine (dz (fo (dz (dz (fo (dz ?_))))))
   rw [← hme]
   exact DP (G := [HC b ls, LW b2 B (at_ + m) out free]) (.inl ⟨m, ht.short (by omega) (by omega), rfl, rfl⟩) ((aG (.cons ar (.cons ar (.cons ar .nil))) ao (fun w0 h hh => jO rfl hh)).trans (sub (aE .nil) ao))
 ·refine rC dt 6 rfl ?_
  refine oV (eP V.Mu V.L3 rfl (cs := []) rfl) ?_
  refine oV (ux V.IF rfl) ?_
  refine uv rfl ?_
  skip
  rw [← hme]
  exact DP (G := [HC b ls, LW b2 B (at_ + m) out free]) (.inr ⟨m, ht.none (by omega), rfl, rfl⟩) ((aG (dU .nil) ao (fun w0 h hh => jO rfl hh)).trans (sub (aE .nil) ao))
set_option maxHeartbeats 2000000 in
theorem Ca (b : Nat) (ls : List Int) (b2 : Nat) (p : Option Addr) (cap : Nat) (B : List Int) (R : ae) (hR : ∀ w0 h, R w0 h → bJ U5 p B.length B w0 h) (at_ : Nat) (sh : Bool) (hE : ab.aO ls = 0) (hl : B.length < 500000000) (hB : af.aY B) (ha : at_ ≤ 8 * B.length) : aD Tryz.prog 46 [.pointer (some ⟨b, 0, none⟩), .pointer (some ⟨b2, 0, none⟩)] [RC b ls, av b2 59 [.slice p B.length cap, .int .i64 (at_ : Int), .bool false, .bool sh], R] (aK fun v G => (∃ n s, ab.tk ls B at_ = .qh n s ∧ v = .tuple #[.int .i64 s, .int .i64 0] ∧ G = [RC b ls, av b2 59 [.slice p B.length cap, .int .i64 ((at_ + n : Nat) : Int), .bool false, .bool sh], R]) ∨ (∃ n, ab.tk ls B at_ = .short n ∧ v = .tuple #[.int .i64 0, .int .i64 2] ∧ G = [RC b ls, av b2 59 [.slice p B.length cap, .int .i64 ((at_ + n : Nat) : Int), .bool false, .bool true], R]) ∨ (∃ n, ab.tk ls B at_ = .none_ n ∧ v = .tuple #[.int .i64 0, .int .i64 4] ∧ G = [RC b ls, av b2 59 [.slice p B.length cap, .int .i64 ((at_ + n : Nat) : Int), .bool false, .bool sh], R])) := by
 refine ax [(0, _), (1, _)] Tryz.func46 rfl Tryz.ntmps46 rfl rfl ?_
 intro w0 F
 have hV := (ab.cM hE).1
 have hW := (ab.cM hE).2
 have hcl := ab.gY ls
 have hCb := ab.jc hV.1
 have hm15 := ab.tt hV
 have hme := ab.om ls
 refine eK (fun h hh => hh) ?_
 rintro ⟨p1, c1, p2, c2⟩ _
 dsimp only
 refine rT dt 12 rfl ?_
 refine oV (gl (n := 16) 0 V.fk rfl ak (by omega) rfl rfl) ?_
 refine rO dt 4 rfl ?_
 refine aj rfl (fun h17 => ?_) (fun h17 => ?_)
 ·refine rC dt 8 rfl ?_
  exact an (bT rfl rfl) (.inr (.inr ⟨0, (ab.oU ha).none (by rw [ab.EP hV (by omega)]; omega), rfl, rfl⟩)) ((aG (dU .nil) ao (fun w0 h hh => kL hh)).trans (sub (dU .nil) ao))
 ·refine rC dt 3 rfl ?_
  have hol0 : (ab.ord ls).length ≠ 0 := by omega
  have hol : (ab.ord ls).length ≤ 320 := by rw [ab.lU]; exact ab.sR hV (m := 15) (by omega)
  have hmp := ab.yK hV (by omega)
  refine rC dt 13 rfl ?_
  rw [show ((8 : Nat), Value.int .i64 0) = (8, .int .i64 (ab.off ls (0 + 1) : Int)) from by unfold ab.off; rfl]
  refine cx (fun (m : Nat) => [(0, .pointer (some ⟨b, 0, none⟩)), (1, .pointer (some ⟨b2, 0, none⟩)), (6, .int .i64 (af.acc B at_ m)), (7, .int .i64 (ab.base ls m + ab.da ls m)), (8, .int .i64 (ab.off ls (m + 1) : Int)), (9, .int .i64 ((m : Int) + 1))]) (fun (m : Nat) => av b 96 (CA [] .i64 (ab.bx ls) [.slice p1 (ab.ord ls).length c1, .slice p2 ls.length c2]) :: Row I3 p1 (ab.ord ls).length c1 (ab.ord ls) :: Row I3 p2 ls.length c2 ls :: av b2 59 [.slice p B.length cap, .int .i64 ((at_ + m : Nat) : Int), .bool false, .bool sh] :: R :: F) (fun (m : Nat) => ab.Tk ls B at_ m ∧ m < ab.e8 ls) (fun (m : Nat) => 15 - m) (i1 (0) ?_ (fO (aX ln)) (sub (lF .nil) ao)) ?_
  ·exact ⟨ab.oU ha, hmp⟩
  intro m
  rintro ⟨ht, htl⟩
  have hcn := ab.Dk (ls := ls) (m := m) (by omega)
  have hbf := ab.tN hW (n := m + 1) (by omega)
  have hbn := ab.lY ls (m + 1)
  have hc1 := ab.gw ls (m + 1)
  have hof := ab.sR hV (m := m) (by omega)
  have hac := af.kY B at_ (m + 1)
  have hac0 := af.kY B at_ m
  have hp15 := ab.mm (show m + 1 ≤ 15 by omega)
  have hp14 := ab.mm (show m ≤ 15 by omega)
  have hb := af.kq B (at_ + m)
  have hnn := ht.nn
  refine rL dt 4 rfl ?_
  refine oV (ck (iM rfl rfl) (by omega)) ?_
  refine rO dt 7 rfl ?_
  rcases (Nat.lt_or_ge (at_ + m) (8 * B.length)) with hx | hx
  ·refine rC dt 3 rfl ?_
   refine ai (gN b2 p cap B R hR (at_ + m) sh 1 hl hB (by omega) (by omega)) V.jB  rfl (.cons dC (.cons dC .nil)) rfl ?_
   rintro _ _ ⟨rfl, rfl⟩
   rw [af.oQ]
   refine rO dt 20 rfl ?_
   refine oV (eI (r := 2 * af.acc B at_ m) rfl rfl (by decide) (af.Ed hac0.1 (by omega))) ?_
   refine oV (aB rfl) ?_
   refine oV (jy (r := af.acc B at_ (m + 1)) rfl rfl (af.CU hac0.1 (by omega) hb)) ?_
   refine oV (aB rfl) ?_
   refine oV (eI (r := ab.base ls (m + 1)) rfl rfl (by decide) (vU hW (by omega))) ?_
   refine bN dt 14 rfl (by omega) ?_
   refine oV (eA (m + 1) rfl V.kQ rfl rfl (by omega)) ?_
   refine oV (ji ((m : Int) + 1) V.s3 rfl dE (by (simp only [List.length_cons, List.length_nil]; omega)) (by omega) (by omega)) ?_
   refine rO dt 3 rfl ?_
   refine aj rfl (fun h44 => ?_) (fun h44 => ?_)
   ·refine rC dt 1 rfl ?_
    have hlt : af.acc B at_ (m + 1) - ab.base ls (m + 1) < ab.da ls (m + 1) := by rw [← hcn]; exact h44
    have hat := ab.DA (by omega) hnn hlt
    refine rC dt 4 rfl ?_
    refine oV (gl (n := 16) 0 V.fk rfl dE (by omega) rfl rfl) ?_
    refine bN dt 5 rfl (by omega) ?_
    refine oV (xI V.aF (own fZ)) ?_
    refine oV (xL V.s3 (own fZ)) ?_
    refine rO dt 11 rfl ?_
    exact an (bT rfl rfl) (.inl ⟨m + 1, _, ht.qh (by omega) hx hlt, by rw [← gE (c := I3) (e := (ab.off ls (m + 1) : Int) + af.acc B at_ (m + 1) - ab.base ls (m + 1)) _ (by omega)], rfl⟩) ((aG (.cons aS (.cons aS (.cons aS .nil))) ao (fun w0 h hh => kL hh)).trans (sub (dU .nil) ao))
   ·refine rC dt 4 rfl ?_
    have hms := ht.Ek (by omega) hx (by rw [← hcn]; exact h44)
    refine rC dt 4 rfl ?_
    refine oV (gl (n := 16) 0 V.fk rfl dE (by omega) rfl rfl) ?_
    refine rO dt 4 rfl ?_
    refine aj rfl (fun h61 => ?_) (fun h61 => ?_)
    ·refine rC dt 1 rfl ?_
     have hm1 := ab.Hu hE (by omega)
     refine rC dt 12 rfl ?_
     exact an (bT rfl rfl) (.inr (.inr ⟨m + 1, hms.none (by omega), rfl, rfl⟩)) ((aG (.cons aS (.cons aS (.cons aS .nil))) ao (fun w0 h hh => kL hh)).trans (sub (dU .nil) ao))
    ·refine rC dt 2 rfl ?_
     refine wN [pz 0 [] [8], pz 0 [] [0], pz 0 [] [9], pz 2 [1] [], pz 10 [3] [], pz 30 [4, 2] [], pz 62 [5] [], pz 127 [0, 6] [], pz 0 [] [7], pz 0 [] [0], pz 0 [] [9], pz 512 [9] [], pz 2560 [11] [], pz 7680 [12, 10] [], pz 15872 [13] [], pz 32512 [8, 14] [], pz 255 [7] [], pz 131071 [15] []] [⟨fun y => av b2 59 [.slice p B.length cap, .int .i64 ((at_ + m + 1 : Nat) : Int), .bool false, .bool sh], none, none, []⟩, ⟨fun y => R, none, none, []⟩, ⟨fun y => av b 96 (CA [] .i64 (ab.bx ls) [.slice p1 (ab.ord ls).length c1, .slice p2 ls.length c2]), none, none, [6, 14]⟩, ⟨fun y => Row I3 p1 (ab.ord ls).length c1 (ab.ord ls), none, none, []⟩, ⟨fun y => Row I3 p2 ls.length c2 ls, none, none, []⟩] F V.mixed ?_
     iterate 3 refine nM ?_
     refine nN ?_
     refine nG V.vw ?_
     refine nV (fun y hA L => eA (m + 1) rfl V.kQ rfl rfl (by omega)) ?_
     refine nR (fun y FF hA => ji ((m : Int) + 1) V.s3 rfl ak (by (simp only [List.length_cons, List.length_nil]; omega)) (by omega) (by omega)) ?_
     refine nV (fun y hA L => bU rfl rfl wI) ?_
     iterate 3 refine nM ?_
     refine nN ?_
     refine nG V.vw ?_
     refine nV (fun y hA L => eA (m + 1) rfl V.kQ rfl rfl (by omega)) ?_
     refine nR (fun y FF hA => ji ((m : Int) + 1) V.s3 rfl ak (by (simp only [List.length_cons, List.length_nil]; omega)) (by omega) (by omega)) ?_
     refine nV (fun y hA L => bU rfl rfl wI) ?_
     iterate 2 refine nA ?_
     refine aM ?_
     intro y hA
     clear hA
     show jD _ _ _ _ (av b2 59 [.slice p B.length cap, .int .i64 ((at_ + m + 1 : Nat) : Int), .bool false, .bool sh] :: R :: av b 96 (CA [] .i64 (ab.bx ls) [.slice p1 (ab.ord ls).length c1, .slice p2 ls.length c2]) :: Row I3 p1 (ab.ord ls).length c1 (ab.ord ls) :: Row I3 p2 ls.length c2 ls :: F)
     refine gR ?_
     refine bp ?_
     refine aW ?_
     refine oV (aB rfl) ?_
     refine oV (bU rfl rfl wI) ?_
     refine oV (cE rfl) ?_
     refine bC ?_
     rw [hcn, ← ab.kf ls (m + 1), show (m : Int) + 1 = ((m + 1 : Nat) : Int) from by omega]
     refine j1 (m + 1) ?_ (fO (aX ln)) (sub (.cons aS (.cons aS (.cons aS (aE .nil)))) ao)
     exact ⟨⟨hms, ab.He hE (by omega) (by omega) hms.ge⟩, by omega⟩
  ·refine rC dt 3 rfl ?_
   refine ai (k5 b2 p cap B R hR (at_ + m) sh 1 hl hB (by omega) ht.room (by omega)) V.jB  rfl (.cons dC (.cons dC .nil)) rfl ?_
   rintro _ _ ⟨rfl, rfl⟩
   refine rO dt 28 rfl ?_
   exact an (bT rfl rfl) (.inr (.inl ⟨m, ht.short (by omega) (by omega), rfl, rfl⟩)) ((aG (.cons aS (.cons aS (.cons aS .nil))) ao (fun w0 h hh => kL hh)).trans (sub (dU .nil) ao))
end Go.Proofs.YtmbljkghkcgejaaGreat
namespace Go.Proofs.YtmbljkghkcgejaaGreat
open Go.Sl 
theorem nS (p : Option Addr) (cap : Nat) (ls : List Int) (R : ae) (hR : ∀ w0 h, R w0 h → bJ I3 p ls.length ls w0 h) (hE : ab.aO ls = 0) : aD Tryz.prog 80 [.slice p ls.length cap] [R] (aK fun v G => ∃ b, v = .tuple #[.pointer (some ⟨b, 0, none⟩), .int .i64 0] ∧ G = [HC b ls, R]) := by
  refine (Gb p cap ls R hR).mono ?_
  rintro e G ⟨v, rfl, h⟩
  rcases h with ⟨_, b, h1, h2⟩ | ⟨h, _⟩
  · exact ⟨v, rfl, b, h1, h2⟩
  · exact absurd hE h
theorem Ei (p : Option Addr) (cap : Nat) (ls : List Int) (R : ae) (hR : ∀ w0 h, R w0 h → bJ I3 p ls.length ls w0 h) (hE : ¬ ab.aO ls = 0) : aD Tryz.prog 80 [.slice p ls.length cap] [R] (aK fun v G => v = .tuple #[.pointer none, .int .i64 (ab.aO ls)] ∧ G = [R]) := by
  refine (Gb p cap ls R hR).mono ?_
  rintro e G ⟨v, rfl, h⟩
  rcases h with ⟨h, _⟩ | ⟨_, h1, h2⟩
  · exact absurd h hE
  · exact ⟨v, rfl, h1, h2⟩
theorem CV (p : Option Addr) (cap : Nat) (ls : List Int) (R : ae) (hR : ∀ w0 h, R w0 h → bJ I3 p ls.length ls w0 h) (hE : ab.aO ls = 0) : aD Tryz.prog 45 [.slice p ls.length cap] [R] (aK fun v G => ∃ b, v = .tuple #[.pointer (some ⟨b, 0, none⟩), .int .i64 0] ∧ G = [RC b ls, R]) := by
  refine (F9 p cap ls R hR).mono ?_
  rintro e G ⟨v, rfl, h⟩
  rcases h with ⟨_, b, h1, h2⟩ | ⟨h, _⟩
  · exact ⟨v, rfl, b, h1, h2⟩
  · exact absurd hE h
theorem E6 (p : Option Addr) (cap : Nat) (ls : List Int) (R : ae) (hR : ∀ w0 h, R w0 h → bJ I3 p ls.length ls w0 h) (hE : ¬ ab.aO ls = 0) : aD Tryz.prog 45 [.slice p ls.length cap] [R] (aK fun v G => v = .tuple #[.pointer none, .int .i64 (ab.aO ls)] ∧ G = [R]) := by
  refine (F9 p cap ls R hR).mono ?_
  rintro e G ⟨v, rfl, h⟩
  rcases h with ⟨h, _⟩ | ⟨_, h1, h2⟩
  · exact absurd h hE
  · exact ⟨v, rfl, h1, h2⟩
end Go.Proofs.YtmbljkghkcgejaaGreat

/- Walks of functions that the law reaches, and what they lean on; no conditions. -/
import Derived.Test.YtmbljkghkcgejaaGreatM30
import Derived.Test.YtmbljkghkcgejaaGreatSl22
import Derived.KernelRfl
import Derived.Test.YtmbljkghkcgejaaGreatZiSort
import Derived.Test.YtmbljkghkcgejaaGreatM32
set_option linter.unusedVariables false
set_option linter.unusedSimpArgs false
set_option maxRecDepth 100000
namespace Go.Proofs.YtmbljkghkcgejaaGreat
open Go.Sl 
theorem fF : dJ Tryz.prog ⟨[], []⟩ = true := by kernel_rfl
theorem yQ (x : Int) : aD Tryz.prog 108 [.int .i64 x] [] (aK fun v G => v = .bool false ∧ G = []) := by
 refine ax [(0, _)] Tryz.func108 rfl Tryz.ntmps108 rfl rfl ?_
 intro w0 F
 refine rT fF 14 rfl ?_
 exact an (bu rfl) ⟨by simp, rfl⟩ (sub .nil ao)
theorem u0 (x y : Int) : aD Tryz.prog 100 [.int .i64 x, .int .i64 y] [] (aK fun v G => v = .int .i64 (ju x y) ∧ G = []) := by
 refine ax [(0, _), (1, _)] Tryz.func100 rfl Tryz.ntmps100 rfl rfl ?_
 intro w0 F
 refine rT fF 8 rfl ?_
 refine ai (yQ x) V.KB  rfl .nil rfl ?_
 rintro _ _ ⟨rfl, rfl⟩
 refine rO fF 6 rfl ?_
 refine ai (yQ y) V.KB  rfl .nil rfl ?_
 rintro _ _ ⟨rfl, rfl⟩
 refine rO fF 29 rfl ?_
 refine aj rfl (fun h16 => ?_) (fun h16 => ?_)
 ·refine rC fF 7 rfl ?_
  exact an (bu rfl) ⟨by rw [ju, if_pos (by assumption)], rfl⟩ (sub .nil ao)
 ·refine rC fF 10 rfl ?_
  refine aj rfl (fun h19 => ?_) (fun h19 => ?_)
  ·refine rC fF 7 rfl ?_
   exact an (bu rfl) ⟨by rw [ju, if_neg (by assumption), if_pos (by omega)], rfl⟩ (sub .nil ao)
  ·refine rC fF 8 rfl ?_
   exact an (bu rfl) ⟨by rw [ju, if_neg (by assumption), if_neg (by omega)], rfl⟩ (sub .nil ao)
theorem Jq (p : Option Addr) (n cap : Nat) (ls : List Int) (R : ae) (hR : ∀ w0 h, R w0 h → bJ I3 p n ls w0 h) (bL : Nat) (x y : Int) (hx : 0 ≤ x ∧ x < n) (hy : 0 ≤ y ∧ y < n) : aD Tryz.prog 99 [.int .i64 x, .int .i64 y, .pointer (some ⟨bL, 0, none⟩)] [av bL 77 [.slice p n cap], R] (aK fun v G => v = .int .i64 (ju (ls.getD x.toNat 0) (ls.getD y.toNat 0)) ∧ G = [av bL 77 [.slice p n cap], R]) := by
 refine ax [(0, _), (1, _), (2, _)] Tryz.func99 rfl Tryz.ntmps99 rfl rfl ?_
 intro w0 F
 refine rT fF 6 rfl ?_
 refine wN [pz 0 [] [2], pz 0 [] [0], pz 3 [0, 1] [], pz 7 [2] [], pz 0 [] [2], pz 0 [] [1], pz 48 [4, 5] [], pz 112 [6] [], pz 255 [3, 7] [], pz 511 [8] []] [⟨fun y => av bL 77 [.slice p n cap], none, none, [0, 4]⟩, ⟨fun y => R, none, none, [2, 3, 6, 7]⟩] F V.mixed ?_
 refine nR (fun y FF hA => ag V.fk rfl ak rfl) ?_
 refine nM ?_
 refine nR (fun y FF hA => xI V.aF (by exact bd hR ak)) ?_
 refine nR (fun y FF hA => xL V.s3 (by exact bd hR ak)) ?_
 refine nR (fun y FF hA => ag V.fk rfl ak rfl) ?_
 refine nM ?_
 refine nR (fun y FF hA => xI V.aF (by exact bd hR ak)) ?_
 refine nR (fun y FF hA => xL V.s3 (by exact bd hR ak)) ?_
 refine nE (fun y FF hA => dx (Post := []) (u0 _ _) V.IW rfl .nil (fun v G h => by rcases h with ⟨rfl, rfl⟩; exact ⟨rfl, .refl _⟩)) ?_
 refine nA ?_
 refine aM ?_
 intro y hA
 clear hA
 refine bp ?_
 refine bW _ (.cons (d := 5) rfl (.nil _)) ?_
 refine bR (M := av bL 77 [.slice p n cap] :: R :: F) (fun _ _ h => h) ?_
 refine rC fF 1 rfl ?_
 exact an (bu rfl) ⟨rfl, rfl⟩ (sub (aE .nil) ao)
theorem Hh (C : List Int) (all : Int) (hl : C.length = 16) (hC : ∀ i, 0 ≤ C.getD i 0 ∧ C.getD i 0 ≤ 320) : aD Tryz.prog 97 [.agg (ints .i64 C).toArray, .int .i64 all] [] (aK fun v G => v = .bool (ab.gb C all) ∧ G = []) := by
 refine ax [(0, _), (1, _)] Tryz.func97 rfl Tryz.ntmps97 rfl rfl ?_
 intro w0 F
 refine rT fF 2 rfl ?_
 refine fG rfl (D9 _ _) rfl ?_
 intro b2
 refine rO fF 15 rfl ?_
 refine cx (fun (k : Nat) => [(1, .int .i64 all), (2, .pointer (some ⟨b2, 0, none⟩)), (5, .int .i64 (ab.left C k)), (6, .int .i64 ((k : Int) + 1))]) (fun (k : Nat) => av b2 94 (CA [] .i64 C []) :: F) (fun (k : Nat) => k ≤ 15 ∧ ∀ m, 1 ≤ m → m ≤ k → 0 ≤ ab.left C m) (fun (k : Nat) => 15 - k) (i1 (0) ?_ (dI ln) (sub (au .nil) ao)) ?_
 ·exact ⟨by omega, fun m h1 h2 => by omega⟩
 intro k
 rintro ⟨hk, hno⟩
 have hcc := hC ((k : Int) + 1).toNat
 have hlb := ab.tj (fun i => (hC i).1) hk
 have hl0 := ab.yR hno
 have hlen : C.length = 16 := hl
 refine rL fF 7 rfl ?_
 refine aj rfl (fun h8 => ?_) (fun h8 => ?_)
 ·refine cy fF 9 rfl (by omega) ?_
  refine oV (eA (k + 1) rfl V.kQ rfl rfl (by omega)) ?_
  refine oV (ji ((k : Int) + 1) V.s3 rfl ak (by (simp only [List.length_cons, List.length_nil]; omega)) (by omega) (by omega)) ?_
  refine bN fF 10 rfl (by omega) ?_
  refine aj rfl (fun h18 => ?_) (fun h18 => ?_)
  ·refine rC fF 11 rfl ?_
   exact an (bu rfl) ⟨by rw [ab.sL (n := k + 1) (by omega) (by omega) (by rw [← ab.mj]; exact h18)], rfl⟩ (sub .nil cw)
  ·refine cy fF 8 rfl (by omega) ?_
   have hno2 := ab.vr hno h18
   rw [ab.mj]
   exact j1 (k + 1) ⟨⟨by omega, hno2⟩, by omega⟩ (dI ln) (sub (au .nil) ao)
 ·refine rC fF 10 rfl ?_
  refine ee 21 rfl (fun h21 => ?_) (fun h21 => ?_)
  ·refine rO fF 16 rfl ?_
   exact an (bu rfl) ⟨by rw [ab.iy hk h8 hno]; (simp [h21]; done), rfl⟩ (sub .nil cw)
  ·refine rO fF 4 rfl ?_
   refine ee 25 rfl (fun h25 => ?_) (fun h25 => ?_)
   ·refine rO fF 12 rfl ?_
    exact an (bu rfl) ⟨by rw [ab.iy hk h8 hno]; (simp [h21, h25]; done), rfl⟩ (sub .nil cw)
   ·refine rO fF 3 rfl ?_
    refine ee 28 rfl (fun h28 => ?_) (fun h28 => ?_)
    ·refine al rfl ?_
     refine oV (eA 1 rfl V.kQ rfl rfl (by omega)) ?_
     refine al rfl ?_
     refine oV (ji (1 : Int) V.s3 rfl ak (by (simp only [List.length_cons, List.length_nil]; omega)) (by omega) (by omega)) ?_
     refine rO fF 7 rfl ?_
     exact an (bu rfl) ⟨by rw [ab.iy hk h8 hno]; (simp [h21, h25, h28]; done), rfl⟩ (sub .nil cw)
    ·refine rO fF 9 rfl ?_
     exact an (bu rfl) ⟨by rw [ab.iy hk h8 hno]; (simp [h21, h25, h28]; done), rfl⟩ (sub .nil cw)
end Go.Proofs.YtmbljkghkcgejaaGreat
namespace Go.Proofs.YtmbljkghkcgejaaGreat
open Go.Sl 
theorem dh : dJ Tryz.prog ⟨[77], [(129, 0, 0), (129, 2, 17), (129, 3, 18)]⟩ = true := by kernel_rfl
attribute [local irreducible] ab.ord ab.iC ab.cG ab.bx ab.cF ab.words ab.ff ab.lenOf ab.aO ab.left ab.gb
set_option maxHeartbeats 1000000 in
theorem Gb (p : Option Addr) (cap : Nat) (ls : List Int) (R : ae) (hR : ∀ w0 h, R w0 h → bJ I3 p ls.length ls w0 h) : aD Tryz.prog 80 [.slice p ls.length cap] [R] (aK fun v G => (ab.aO ls = 0 ∧ ∃ b, v = .tuple #[.pointer (some ⟨b, 0, none⟩), .int .i64 0] ∧ G = [HC b ls, R]) ∨ (ab.aO ls ≠ 0 ∧ v = .tuple #[.pointer none, .int .i64 (ab.aO ls)] ∧ G = [R])) := by
 refine ax [(0, _)] Tryz.func80 rfl Tryz.ntmps80 rfl rfl ?_
 intro w0 F
 refine rT dh 2 rfl ?_
 refine fG rfl (cs := [_]) rfl rfl ?_
 intro b1
 refine rO dh 7 rfl ?_
 refine oV (ag V.fk rfl ak rfl) ?_
 refine rO dh 4 rfl ?_
 refine aj rfl (fun h13 => ?_) (fun h13 => ?_)
 ·refine rC dh 8 rfl ?_
  exact an (bT rfl rfl) (.inr ⟨by rw [ab.nQ (by omega)]; decide, by rw [ab.nQ (by omega)], rfl⟩) (sub (.cons ar .nil) cw)
 ·refine rC dh 4 rfl ?_
  refine oV (ag V.fk rfl ak rfl) ?_
  refine oV (eF (ty' := 0) Tryz.underlying77 rfl) ?_
  refine ry ls.length ls.length (kS) rfl rfl V.vE V.z145 rfl rfl rfl rfl (by omega) (by omega) rfl rfl ?_
  intro mI
  refine oV (eP V.LM V.ME rfl (cs := [_, _, _, _, _, _, _, _, _, _, _, _, _, _, _, _, _, _, _]) rfl) ?_
  refine fG rfl (show _ = CA [.slice (some ⟨mI, 0, none⟩) ls.length ls.length] .i64 (ab.bx (ls.take 0)) [.slice none (ab.cG (ls.take 0)).length 0, .int .i64 (ab.cF (ls.take 0))] from by rw [List.take_zero, ab.wS, ab.se, ab.D4]; rfl) rfl ?_
  intro oC
  refine rO dh 6 rfl ?_
  refine oV (ag V.fk rfl dE rfl) ?_
  refine rO dh 5 rfl ?_
  refine eW (Row I3 none (ab.cG (ls.take 0)).length 0 (ab.cG (ls.take 0))) (by rw [List.take_zero, ab.se]; exact Row.nil _ _ _) ?_
  refine eJ (fun (k : Nat) (po : Option Addr) (co : Nat) => [(1, .pointer (some ⟨b1, 0, none⟩)), (4, .pointer (some ⟨oC, 0, none⟩)), (19, .slice p ls.length cap), (20, .int .i64 (ls.length : Int)), (21, .int .i64 (k : Int))]) (fun (k : Nat) (po : Option Addr) (co : Nat) => av oC 129 (CA [.slice (some ⟨mI, 0, none⟩) ls.length ls.length] .i64 (ab.bx (ls.take k)) [.slice po (ab.cG (ls.take k)).length co, .int .i64 (ab.cF (ls.take k))]) :: Row I3 po (ab.cG (ls.take k)).length co (ab.cG (ls.take k)) :: Row kS (some ⟨mI, 0, none⟩) ls.length ls.length (List.replicate ls.length (0, 0)) :: av b1 77 [.slice p ls.length cap] :: R :: F) (fun (k : Nat) (po : Option Addr) (co : Nat) => k ≤ ls.length ∧ ∀ i, i < k → 0 ≤ ls.getD i 0 ∧ ls.getD i 0 ≤ 15) (fun (k : Nat) (po : Option Addr) (co : Nat) => ls.length - k) (i3 (0) (none) (0) ?_ (aX ln) (sub (.cons ar (gA .nil)) ao)) ?_
  ·exact ⟨by omega, fun i hi => by omega⟩
  intro k po co
  rintro ⟨hk, hok⟩
  refine rL dh 6 rfl ?_
  refine aj rfl (fun h22 => ?_) (fun h22 => ?_)
  ·refine rC dh 7 rfl ?_
   refine oV (xI V.aF (by exact bd hR iz)) ?_
   refine oV (xL V.s3 (by exact bd hR iz)) ?_
   refine rO dh 6 rfl ?_
   have hk2 : k < ls.length := by omega
   have hg : I3.g ls (k : Int) = ls.getD k 0 := by simp [Ec.g]
   have hg2 : ls.getD k 0 = ls[k] := by simp [hk2]
   have htk : (ls.take k).length = k := by rw [List.length_take]; omega
   have hcl := ab.gY (ls.take k)
   have hcb := ab.jc (ls := ls.take k) (by omega) (I3.g ls (k : Int)).toNat
   have hpl2 := ab.rQ (ls.take k)
   refine rC dh 4 rfl ?_
   refine ee 28 rfl (fun h28 => ?_) (fun h28 => ?_)
   ·refine rO dh 19 rfl ?_
    exact an (bT rfl rfl) (.inr ⟨by rw [ab.jK (by omega) hk2 (by omega)]; decide, by rw [ab.jK (by omega) hk2 (by omega)], rfl⟩) (sub (.cons lh .nil) kT)
   ·refine rO dh 5 rfl ?_
    refine aj rfl (fun h31 => ?_) (fun h31 => ?_)
    ·refine rC dh 13 rfl ?_
     exact an (bT rfl rfl) (.inr ⟨by rw [ab.jK (by omega) hk2 (by omega)]; decide, by rw [ab.jK (by omega) hk2 (by omega)], rfl⟩) (sub (.cons lh .nil) kT)
    ·refine rC dh 8 rfl ?_
     refine aj rfl (fun h33 => ?_) (fun h33 => ?_)
     ·refine rC dh 1 rfl ?_
      refine wN [pz 0 [] [4], pz 0 [] [6], pz 1 [0] [], pz 5 [2] [], pz 15 [3, 1] [], pz 31 [4] [], pz 63 [5] [], pz 1 [0] [], pz 129 [7] [], pz 511 [8, 1] [], pz 1023 [9, 6] []] [⟨fun y => av oC 129 (CA [.slice (some ⟨mI, 0, none⟩) ls.length ls.length] .i64 (ab.bx (ls.take k)) [.slice po (ab.cG (ls.take k)).length co, .int .i64 (ab.cF (ls.take k))]), none, some 10, [5]⟩, ⟨fun y => Row I3 po (ab.cG (ls.take k)).length co (ab.cG (ls.take k)), none, none, []⟩, ⟨fun y => Row kS (some ⟨mI, 0, none⟩) ls.length ls.length (List.replicate ls.length (0, 0)), none, none, []⟩, ⟨fun y => av b1 77 [.slice p ls.length cap], none, none, []⟩, ⟨fun y => R, none, none, []⟩, ⟨fun y => av oC 129 (CA [.slice (some ⟨mI, 0, none⟩) ls.length ls.length] .i64 ((ab.bx (ls.take k)).set (((I3.g ls (k : Int))).toNat) (((ab.bx (ls.take k)).getD (((I3.g ls (k : Int))).toNat) 0) + 1)) [.slice po (ab.cG (ls.take k)).length co, .int .i64 (ab.cF (ls.take k))]), some 10, none, []⟩] F V.mixed ?_
      iterate 2 refine nM ?_
      refine nN ?_
      refine nG V.xO ?_
      refine nV (fun y hA L => eA (((I3.g ls (k : Int))).toNat) (by omega) V.kQ rfl rfl (by omega)) ?_
      refine nR (fun y FF hA => ji (I3.g ls (k : Int)) V.s3 rfl ak (by (simp only [List.length_cons, List.length_nil]; omega)) (by omega) (by omega)) ?_
      refine nV (fun y hA L => bU rfl rfl wI) ?_
      refine nN ?_
      refine nG V.xO ?_
      refine nV (fun y hA L => eA (((I3.g ls (k : Int))).toNat) (by omega) V.kQ rfl rfl (by omega)) ?_
      refine nE (fun y FF hA => cu (ug (I3.g ls (k : Int)) V.s3 rfl rfl (by exact dO) (by (simp only [List.length_cons, List.length_nil]; omega)) (by omega) (by omega)) ⟨rfl, .refl _⟩) ?_
      refine aM ?_
      intro y hA
      clear hA
      refine bp ?_
      refine bW _ (.cons (d := 1) rfl (.cons (d := 4) rfl (.cons (d := 5) rfl (.cons (d := 6) rfl (.cons (d := 19) rfl (.cons (d := 20) rfl (.cons (d := 21) rfl (.nil _)))))))) ?_
      refine bR (M := Row I3 po (ab.cG (ls.take k)).length co (ab.cG (ls.take k)) :: Row kS (some ⟨mI, 0, none⟩) ls.length ls.length (List.replicate ls.length (0, 0)) :: av b1 77 [.slice p ls.length cap] :: R :: av oC 129 (CA [.slice (some ⟨mI, 0, none⟩) ls.length ls.length] .i64 ((ab.bx (ls.take k)).set (((I3.g ls (k : Int))).toNat) (((ab.bx (ls.take k)).getD (((I3.g ls (k : Int))).toNat) 0) + 1)) [.slice po (ab.cG (ls.take k)).length co, .int .i64 (ab.cF (ls.take k))]) :: F) (fun _ _ h => h) ?_
      refine rC dh 6 rfl ?_
      refine oV (gl (n := 16) 0 V.fk rfl iz (by (simp only [List.length_set]; omega)) rfl rfl) ?_
      refine oV (aB rfl) ?_
      refine bP (I3) [(k : Int)] V.aF V.z3 rfl rfl rfl rfl rfl rfl ?_
      intro sb
      refine bQ (c := (I3)) V.aF V.z3 rfl rfl rfl rfl ar (own ak) (by omega) rfl ?_
      intro p51 c51
      refine rO dh 2 rfl ?_
      refine bM (kM (n := 16) 0 V.fk rfl rfl rfl (by exact GJ) (by (simp only [List.length_set]; omega)) rfl (by exact Nat.le_of_ble_eq_true rfl) rfl) ?_
      refine rO dh 7 rfl ?_
      refine oV (gl (n := 16) 1 V.s3 rfl Mh (by (simp only [List.length_set]; omega)) rfl rfl) ?_
      refine oV (aB rfl) ?_
      refine oV (vG rfl rfl) ?_
      refine rO dh 2 rfl ?_
      refine bM (kM (n := 16) 1 V.s3 rfl rfl rfl (by exact GJ) (by (simp only [List.length_set]; omega)) rfl (by exact Nat.le_of_ble_eq_true rfl) rfl) ?_
      refine bN dh 7 rfl (by omega) ?_
      have hok2 := ab.rG hok (by omega)
      (obtain ⟨e1, e2, e3, e4⟩ := ab.step_pos hk2 (hg.trans hg2) (by omega) (by omega); rw [e1, e2, e3, e4]; exact j3 (k + 1) _ _ ⟨⟨by omega, hok2⟩, by omega⟩ (aX ln) (sub (.cons qy (au (.cons ar (.cons ar (.cons ar .nil))))) cw))
     ·refine cy dh 7 rfl (by omega) ?_
      have hok2 := ab.rG hok (by omega)
      (obtain ⟨e1, e2, e3⟩ := ab.DF hk2 (hg.trans hg2) (by omega); rw [← e1, ← e2, ← e3]; exact j3 (k + 1) _ _ ⟨⟨by omega, hok2⟩, by omega⟩ (aX ln) (sub (lF .nil) ao))
  ·refine rC dh 7 rfl ?_
   have hkn : k = ls.length := by omega
   subst hkn
   rw [List.take_length] at *
   have hvv := ab.zT hok (Nat.le_refl _)
   have hcl := ab.gY ls
   have hE0 := ab.rM (by omega) hvv
   refine wN [pz 0 [] [4], pz 1 [0] [], pz 3 [1] [], pz 7 [2] [], pz 0 [] [4], pz 16 [4] [], pz 48 [5] [], pz 112 [6] [], pz 240 [7] [], pz 511 [3, 8] [], pz 1023 [9] []] [⟨fun y => av oC 129 (CA [.slice (some ⟨mI, 0, none⟩) ls.length ls.length] .i64 (ab.bx ls) [.slice po (ab.cG ls).length co, .int .i64 (ab.cF ls)]), none, none, [3, 7]⟩, ⟨fun y => Row I3 po (ab.cG ls).length co (ab.cG ls), none, none, []⟩, ⟨fun y => Row kS (some ⟨mI, 0, none⟩) ls.length ls.length (List.replicate ls.length (0, 0)), none, none, []⟩, ⟨fun y => av b1 77 [.slice p ls.length cap], none, none, []⟩, ⟨fun y => R, none, none, []⟩] F V.mixed ?_
   refine nM ?_
   refine nN ?_
   refine nG V.xO ?_
   refine nR (fun y FF hA => BS V.Nq rfl ak (by omega) rfl) ?_
   refine nM ?_
   refine nN ?_
   refine nG V.I4 ?_
   refine nR (fun y FF hA => gl (n := 16) 0 V.fk rfl ak (by omega) rfl rfl) ?_
   refine nV (fun y hA L => eF (ty' := 0) Tryz.underlying77 rfl) ?_
   refine nE (fun y FF hA => dx (Post := []) (Hh (ab.bx ls) _ (ab.gY _) (ab.jc (by omega))) V.Nz rfl .nil (fun v G h => by rcases h with ⟨rfl, rfl⟩; exact ⟨rfl, .refl _⟩)) ?_
   refine nV (fun y hA L => re rfl) ?_
   refine aM ?_
   intro y hA
   clear hA
   refine bp ?_
   refine bW _ (.cons (d := 1) rfl (.cons (d := 4) rfl (.cons (d := 74) rfl (.nil _)))) ?_
   refine bR (M := av oC 129 (CA [.slice (some ⟨mI, 0, none⟩) ls.length ls.length] .i64 (ab.bx ls) [.slice po (ab.cG ls).length co, .int .i64 (ab.cF ls)]) :: Row I3 po (ab.cG ls).length co (ab.cG ls) :: Row kS (some ⟨mI, 0, none⟩) ls.length ls.length (List.replicate ls.length (0, 0)) :: av b1 77 [.slice p ls.length cap] :: R :: F) (fun _ _ h => h) ?_
   refine tb rfl (fun h74 => ?_) (fun h74 => ?_)
   ·refine rC dh 1 rfl ?_
    have hE : ab.aO ls = 4 := by rw [hE0, if_neg (by simpa using h74)]
    refine rC dh 7 rfl ?_
    exact an (bT rfl rfl) (.inr ⟨by rw [hE]; decide, by rw [hE], rfl⟩) (sub (.cons lh .nil) kT)
   ·refine rC dh 3 rfl ?_
    have hE : ab.aO ls = 0 := by rw [hE0, if_pos (by simpa using h74)]
    have hV := (ab.cM hE).1
    have hW := (ab.cM hE).2
    have hpl := ab.sg hV
    have hpn := ab.rQ ls
    refine IX (A := [av b1 77 [.slice p ls.length cap], R]) (.cons dC (.cons dC .nil)) ?_
    refine rC dh 4 rfl ?_
    refine oV (gl (n := 16) 0 V.fk rfl bB (by omega) rfl rfl) ?_
    refine oV (Ej (fs := []) (cs := [_]) rfl rfl) ?_
    refine ai (Ii po (ab.cG ls).length co 99 [] [.pointer (some ⟨b1, 0, none⟩)] (lK [av b1 77 [.slice p ls.length cap], R]) (ab.key ls) (fun x => 0 ≤ x ∧ x < ls.length) V.M7 (fun x y hx hy => (Jq p ls.length cap ls R hR b1 x y hx hy).star) (ab.cG ls) (by omega) (ab.H8 ls)) V.M8  rfl (.cons aS (au .nil)) rfl ?_
    rintro _ _ ⟨rfl, l2, hR2, hS2, rfl⟩
    obtain rfl := ab.Em hvv hR2 hS2
    refine rO dh 3 rfl ?_
    refine Fu ar ?_
    rw [hpl]
    refine rC dh 11 rfl ?_
    refine oV (gl (n := 16) 0 V.fk rfl fZ (by omega) rfl rfl) ?_
    refine rO dh 5 rfl ?_
    rw [← ab.yq]
    refine cx (fun (k : Nat) => [(1, .pointer (some ⟨b1, 0, none⟩)), (4, .pointer (some ⟨oC, 0, none⟩)), (7, .int .i64 (ab.xA ls k)), (8, .int .i64 (ab.nK ls k)), (84, .slice po (ab.ord ls).length co), (85, .int .i64 ((ab.ord ls).length : Int)), (86, .int .i64 (k : Int))]) (fun (k : Nat) => av oC 129 (CA [.slice (some ⟨mI, 0, none⟩) ls.length ls.length] .i64 (ab.bx ls) [.slice po (ab.ord ls).length co, .int .i64 (ab.cF ls)]) :: Row I3 po (ab.ord ls).length co (ab.ord ls) :: Row kS (some ⟨mI, 0, none⟩) ls.length ls.length (ab.iC ls k) :: av b1 77 [.slice p ls.length cap] :: R :: F) (fun (k : Nat) => k ≤ (ab.ord ls).length) (fun (k : Nat) => (ab.ord ls).length - k) (i1 (0) ?_ (kr (aX ln)) (sub (.cons dC (.cons aS (.cons aS (aE .nil)))) ao)) ?_
    ·exact Nat.zero_le _
    intro k
    rintro hk
    refine rL dh 6 rfl ?_
    refine aj rfl (fun h87 => ?_) (fun h87 => ?_)
    ·refine rC dh 5 rfl ?_
     have hk2 : k < (ab.ord ls).length := by omega
     obtain ⟨s, hs⟩ := ab.MT hW hk2
     have hgs : I3.g (ab.ord ls) (k : Int) = (s : Int) := by rw [← hs.sym]; simp [Ec.g]
     have hsl := hs.lt
     refine aW ?_
     refine oV (xI V.aF (own bB)) ?_
     refine oV (xL V.s3 (own bB)) ?_
     refine rO dh 4 rfl ?_
     rw [hgs]
     have hls : I3.g ls (s : Int) = (ab.lenOf ls s : Int) := by rw [← hs.len]; simp [Ec.g]
     have hs1 := hs.top
     have hs2 := hs.nn
     have iv := hs.ge
     have hs4 := hs.w0
     have hs5 : ab.ff ls s < 32768 := by have := ab.mm hs.top; have := hs.w1; omega
     refine rC dh 2 rfl ?_
     refine oV (ag V.fk rfl fZ rfl) ?_
     refine oV (aB rfl) ?_
     refine oV (xI V.aF (by exact bd hR iz)) ?_
     refine oV (xL V.s3 (by exact bd hR iz)) ?_
     refine bN dh 2 rfl (by omega) ?_
     refine oV (eI (r := ab.ff ls s) rfl rfl (by omega) (DT hs hls)) ?_
     refine rO dh 5 rfl ?_
     refine oV (ag V.fk rfl fZ rfl) ?_
     refine oV (aB rfl) ?_
     refine oV (xI V.aF (by exact bd hR iz)) ?_
     refine oV (xL V.s3 (by exact bd hR iz)) ?_
     refine rO dh 4 rfl ?_
     rw [hls]
     refine rC dh 4 rfl ?_
     refine oV (ag V.Ad rfl ak rfl) ?_
     refine rO dh 3 rfl ?_
     refine oV (eP V.Lt V.z145 rfl (cs := [_, _]) rfl) ?_
     refine oV (xI V.vE (own dE)) ?_
     refine bM (jg (c := (kS)) ((ab.ff ls s, (ab.lenOf ls s : Int))) V.a145 rfl rfl (by exact nc) (by omega) (by omega) rfl) ?_
     refine bN dh 13 rfl (by omega) ?_
     have en : ab.ff ls s + 1 = ab.xA ls (k + 1) := by simp only [ab.xA]; rw [hs.sym]; simp
     have el : (ab.lenOf ls s : Int) = ab.nK ls (k + 1) := by simp only [ab.nK]; rw [hs.sym]; simp
     rw [Int.toNat_natCast, ← ab.yv hk2 hs, en, el]
     refine j1 (k + 1) ?_ (kr (aX ln)) (sub (lF .nil) ao)
     exact ⟨by omega, by omega⟩
    ·refine rC dh 13 rfl ?_
     exact an (bT rfl rfl) (.inl ⟨hE, oC, rfl, rfl⟩) ((aG (au (.cons ar (.cons dg .nil))) ao (fun w0 h hh => jO (ab.Bm hV (by omega)) hh)).trans (sub (au (.cons ar .nil)) cw))
end Go.Proofs.YtmbljkghkcgejaaGreat

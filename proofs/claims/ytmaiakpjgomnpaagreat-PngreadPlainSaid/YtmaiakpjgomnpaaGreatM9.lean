/- Walks of functions that the law reaches, and what they lean on; no conditions. -/
import Derived.Test.YtmaiakpjgomnpaaGreatM8
import Derived.Test.YtmaiakpjgomnpaaGreatM1
import Derived.KernelRfl
import Derived.Test.YtmaiakpjgomnpaaGreatM4
import Derived.Test.YtmaiakpjgomnpaaGreatM2
set_option linter.unusedVariables false
set_option linter.unusedSimpArgs false
set_option maxRecDepth 100000
namespace Go.Proofs.YtmaiakpjgomnpaaGreat
open Go.Sl
theorem V.Qf : aF Tryz.prog 62 = true := by kernel_rfl
end Go.Proofs.YtmaiakpjgomnpaaGreat
namespace Go.Proofs.YtmaiakpjgomnpaaGreat
open Go.Sl 
theorem ea : dR Tryz.prog ⟨[22, 59], [(57, 0, 0), (57, 1, 1)]⟩ = true := by kernel_rfl
attribute [local irreducible] aj.av aQ.jj aQ.iH ad.fW ad.fY aL.gb aL.kF aa.cP aa.cM aa.iq aa.ia aa.bS aa.cu aa.dm aa.fx aa.ej aa.c5 aa.eQ aa.two aa.hB aa.jm aa.nq aa.mz aa.parts
set_option maxHeartbeats 4000000 in
theorem Dg (p : Option Addr) (c : Nat) (B : List Int) (R : ab) (hR : ∀ w0 h, R w0 h → aR U5 p B.length B w0 h) (hl : B.length ≤ 4194304) (hcap : B.length ≤ c) : aE Tryz.prog 62 [.slice p B.length c] [R] (aO fun v G => ∃ q cq, v = .slice q (aQ.iH B).length cq ∧ G = [Row U5 q (aQ.iH B).length cq (aQ.iH B), R]) := by
 refine au [(0, _)] Tryz.func62 rfl Tryz.ntmps62 rfl rfl ?_
 intro w0 F
 refine rT ea 12 rfl ?_
 refine gT (Row U5 none 0 0 []) (Row.nil _ _ _) ?_
 refine zi (fun (f : Nat) (pz : Option Addr) (cz : Nat) (Z : List Int) (po : Option Addr) (co : Nat) (O : List Int) => [(0, .slice pz Z.length cz), (3, .slice po O.length co)]) (fun (f : Nat) (pz : Option Addr) (cz : Nat) (Z : List Int) (po : Option Addr) (co : Nat) (O : List Int) => Row U5 po O.length co O :: R :: F) (fun (f : Nat) (pz : Option Addr) (cz : Nat) (Z : List Int) (po : Option Addr) (co : Nat) (O : List Int) => O ++ ad.fW (aQ.jj f Z) = aQ.iH B ∧ Z.length ≤ 65535 * (f + 1) ∧ (∀ w0 h, R w0 h → aR U5 pz Z.length Z w0 h) ∧ Z.length ≤ cz ∧ O.length + Z.length ≤ 2 * B.length + 5 * (65 - f) ∧ f ≤ 64) (fun (f : Nat) (pz : Option Addr) (cz : Nat) (Z : List Int) (po : Option Addr) (co : Nat) (O : List Int) => f) (i7 (64) (p) (c) (B) (none) (0) ([]) ?_ (ku ln) (sub (bD .nil) aw)) ?_
 ·exact ⟨aQ.LN B, by omega, hR, hcap, by simp; omega, by omega⟩
 intro f pz cz Z po co O
 rintro ⟨hO, hZf, hZR, hZc, hOl, hf⟩
 refine rL ea 1 rfl ?_
 rcases (Nat.lt_or_ge 65535 Z.length) with hZ | hZ
 ·refine rC ea 4 rfl ?_
  refine oV (cH (v := .int .i64 65535) (FQ rfl rfl) (by rw [if_pos (by omega)])) ?_
  refine rO ea 14 rfl ?_
  refine oV (aA (aD rfl rfl) (by omega)) ?_
  refine rO ea 10 rfl ?_
  refine oV (bC V.u3 Tryz.underlying5 rfl (aj.ew (65535 : Int))) ?_
  refine oV (aJ rfl) ?_
  refine oV (eg (r := (65535 : Int) / 256) rfl rfl (by omega) (aj.nK (k := 8) (by decide) rfl)) ?_
  refine oV (bC V.u3 Tryz.underlying5 rfl (lj (by omega) (by omega))) ?_
  refine oV (aJ rfl) ?_
  refine oV (ra (r := -(65535 : Int) - 1) rfl (aj.qN (by omega) (by omega))) ?_
  refine oV (bC V.u3 Tryz.underlying5 rfl ((aj.ew _).trans (show (-(65535 : Int) - 1) % 256 = 255 - (65535 : Int) % 256 from by omega))) ?_
  refine oV (aJ rfl) ?_
  refine oV (ra (r := -(65535 : Int) - 1) rfl (aj.qN (by omega) (by omega))) ?_
  refine oV (eg (r := (-(65535 : Int) - 1) / 256) rfl rfl (by omega) (aj.nK (k := 8) (by decide) rfl)) ?_
  refine oV (bC V.u3 Tryz.underlying5 rfl ((aj.ew _).trans (show ((-(65535 : Int) - 1) / 256) % 256 = 255 - (65535 : Int) / 256 from by omega))) ?_
  refine eb (U5) [0, (65535 : Int) % 256, (65535 : Int) / 256, 255 - (65535 : Int) % 256, 255 - (65535 : Int) / 256] V.cy V.z5 rfl rfl rfl rfl rfl rfl ?_
  intro JK
  refine ef (c := (U5)) V.cy V.z5 rfl rfl rfl rfl az (own an) (by omega) rfl ?_
  intro p28 c28
  refine rO ea 4 rfl ?_
  have hPR : ∀ w0 h, R w0 h → aR U5 pz 65535 (Z.take 65535) w0 h := lL (cap := 0) hZR 65535 (by omega)
  refine rC ea 4 rfl ?_
  refine oV (j8 65535 cz V.cy rfl ⟨_, rfl⟩ rfl (by omega) (by omega)) ?_
  refine ef (c := (U5)) V.cy V.z5 rfl rfl rfl rfl dS (by exact bE hPR dH) (by omega) rfl ?_
  intro p33 c33
  refine rO ea 7 rfl ?_
  refine oV (dQ 65535 Z.length cz V.cy rfl ⟨_, rfl⟩ ⟨rfl, rfl⟩ rfl (by omega) (by omega) (by omega)) ?_
  refine rO ea 6 rfl ?_
  refine oV (aA (aD rfl rfl) (by decide)) ?_
  refine rO ea 5 rfl ?_
  obtain ⟨f, rfl⟩ : ∃ f2, f = f2 + 1 := ⟨f - 1, by omega⟩
  have hnx := aQ.DP hO hZ
  have hle : (O ++ [0, (65535 : Int) % 256, (65535 : Int) / 256, 255 - (65535 : Int) % 256, 255 - (65535 : Int) / 256] ++ Z.take 65535).length = O.length + 5 + 65535 := by simp; omega
  have hdl : (Z.drop 65535).length = Z.length - 65535 := List.length_drop
  rw [← hdl, ← hle]
  exact j7 f _ _ (Z.drop 65535) _ _ _ ⟨⟨hnx, by omega, by rw [hdl]; exact gS hZR rfl 65535 cz (by omega) hZc, by omega, by omega, by omega⟩, by omega⟩ (.cons rfl (.cons rfl (.nil _))) (sub (.cons dS (.cons az .nil)) cC)
 ·refine rC ea 4 rfl ?_
  refine oV (cH (v := .int .i64 (Z.length : Int)) (FQ rfl rfl) (by rw [if_neg (by omega)])) ?_
  refine rO ea 14 rfl ?_
  refine oV (aY (aD rfl rfl) (by omega)) ?_
  refine rO ea 12 rfl ?_
  refine oV (bC V.u3 Tryz.underlying5 rfl (aj.ew (Z.length : Int))) ?_
  refine oV (aJ rfl) ?_
  refine oV (eg (r := (Z.length : Int) / 256) rfl rfl (by omega) (aj.nK (k := 8) (by decide) rfl)) ?_
  refine oV (bC V.u3 Tryz.underlying5 rfl (lj (by omega) (by omega))) ?_
  refine oV (aJ rfl) ?_
  refine oV (ra (r := -(Z.length : Int) - 1) rfl (aj.qN (by omega) (by omega))) ?_
  refine oV (bC V.u3 Tryz.underlying5 rfl ((aj.ew _).trans (show (-(Z.length : Int) - 1) % 256 = 255 - (Z.length : Int) % 256 from by omega))) ?_
  refine oV (aJ rfl) ?_
  refine oV (ra (r := -(Z.length : Int) - 1) rfl (aj.qN (by omega) (by omega))) ?_
  refine oV (eg (r := (-(Z.length : Int) - 1) / 256) rfl rfl (by omega) (aj.nK (k := 8) (by decide) rfl)) ?_
  refine oV (bC V.u3 Tryz.underlying5 rfl ((aj.ew _).trans (show ((-(Z.length : Int) - 1) / 256) % 256 = 255 - (Z.length : Int) / 256 from by omega))) ?_
  refine eb (U5) [1, (Z.length : Int) % 256, (Z.length : Int) / 256, 255 - (Z.length : Int) % 256, 255 - (Z.length : Int) / 256] V.cy V.z5 rfl rfl rfl rfl rfl rfl ?_
  intro JK
  refine ef (c := (U5)) V.cy V.z5 rfl rfl rfl rfl az (own an) (by omega) rfl ?_
  intro p28 c28
  refine rO ea 8 rfl ?_
  refine oV (j8 Z.length cz V.cy rfl ⟨_, rfl⟩ rfl (by omega) (by omega)) ?_
  refine ef (c := (U5)) V.cy V.z5 rfl rfl rfl rfl dS (by exact bE hZR dH) (by omega) rfl ?_
  intro p33 c33
  refine rO ea 7 rfl ?_
  refine oV (dQ Z.length Z.length cz V.cy rfl ⟨_, rfl⟩ ⟨rfl, rfl⟩ rfl (by omega) (by omega) (by omega)) ?_
  refine rO ea 6 rfl ?_
  refine oV (aY (aD rfl rfl) (by decide)) ?_
  refine rO ea 15 rfl ?_
  have hnx := aQ.EA hO (by omega)
  have hle : (O ++ [1, (Z.length : Int) % 256, (Z.length : Int) / 256, 255 - (Z.length : Int) % 256, 255 - (Z.length : Int) / 256] ++ Z).length = O.length + 5 + Z.length := by simp; omega
  rw [hnx] at hle
  rw [← hle, hnx]
  exact ak (aB rfl) ⟨_, _, rfl, rfl⟩ (sub (ar (.cons az .nil)) cC)
set_option maxHeartbeats 2000000 in
theorem GW (p : Option Addr) (c : Nat) (B : List Int) (R : ab) (hR : ∀ w0 h, R w0 h → aR U5 p B.length B w0 h) (hl : B.length ≤ 4194304) (hB : aj.av B) (hcap : B.length ≤ c) : aE Tryz.prog 27 [.slice p B.length c] [R] (aO fun v G => ∃ q cq, v = .slice q (aa.cP B).length cq ∧ G = [Row U5 q (aa.cP B).length cq (aa.cP B), R]) := by
 refine au [(0, _)] Tryz.func27 rfl Tryz.ntmps27 rfl rfl ?_
 intro w0 F
 have hsl := aQ.uk hl
 have ha := aL.wX B
 refine rT ea 7 rfl ?_
 refine eb (U5) [120, 1] V.cy V.z5 rfl rfl rfl rfl rfl rfl ?_
 intro b5
 refine oV (aJ rfl) ?_
 refine ai (Dg p c B R hR hl hcap) V.Qf  rfl (.cons az .nil) rfl ?_
 rintro _ _ ⟨qz, cz, rfl, rfl⟩
 refine ef (c := (U5)) V.cy V.z5 rfl rfl rfl rfl bX (own an) (by omega) rfl ?_
 intro p8 c8
 refine rO ea 6 rfl ?_
 refine ai (Ix p c B R hR (by omega) hB) V.QI  rfl (.cons bX .nil) rfl ?_
 rintro _ _ ⟨rfl, rfl⟩
 refine rO ea 7 rfl ?_
 refine oV (eg (r := (aL.gb B) / 16777216) rfl rfl (by decide) (aa.lT (n := 24) rfl (by decide) rfl)) ?_
 refine oV (bC V.nW Tryz.underlying5 rfl ((aa.ew _).trans (by omega : (aL.gb B) / 16777216 % 256 = (aL.gb B) / 16777216))) ?_
 refine oV (aJ rfl) ?_
 refine oV (eg (r := (aL.gb B) / 65536) rfl rfl (by decide) (aa.lT (n := 16) rfl (by decide) rfl)) ?_
 refine oV (bC V.nW Tryz.underlying5 rfl (aa.ew _)) ?_
 refine oV (aJ rfl) ?_
 refine oV (eg (r := (aL.gb B) / 256) rfl rfl (by decide) (aa.lT (n := 8) rfl (by decide) rfl)) ?_
 refine oV (bC V.nW Tryz.underlying5 rfl (aa.ew _)) ?_
 refine oV (aJ rfl) ?_
 refine oV (bC V.nW Tryz.underlying5 rfl (aa.ew _)) ?_
 refine eb (U5) [(aL.gb B) / 16777216, (aL.gb B) / 65536 % 256, (aL.gb B) / 256 % 256, (aL.gb B) % 256] V.cy V.z5 rfl rfl rfl rfl rfl rfl ?_
 intro Kt
 refine ef (c := (U5)) V.cy V.z5 rfl rfl rfl rfl bX (own an) (by omega) rfl ?_
 intro p24 c24
 refine rO ea 4 rfl ?_
 have hle : 2 + (aQ.iH B).length + 4 = (aa.cP B).length := by rw [aa.n7 hl]; omega
 rw [hle, show [120, 1] ++ aQ.iH B ++ [(aL.gb B) / 16777216, (aL.gb B) / 65536 % 256, (aL.gb B) / 256 % 256, (aL.gb B) % 256] = aa.cP B from by unfold aa.cP aL.kF; rfl]
 exact ak (aB rfl) ⟨_, _, rfl, rfl⟩ (sub (ar (.cons az .nil)) hJ)
set_option maxHeartbeats 8000000 in
theorem K5 (p : Option Addr) (c : Nat) (es : List Ce) (R : ab) (hR : ∀ w0 h, R w0 h → aR bB p es.length es w0 h) (hel : es.length ≤ 262144) (hok : ∀ x ∈ es, aa.mz x.ch) (hj : (aa.cM (es.map Ce.ch)).length ≤ 262144) : aE Tryz.prog 28 [.slice p es.length c] [R, DK es] (aO fun v G => ∃ q cq, v = .tuple #[.slice q (aa.cM (es.map Ce.ch)).length cq, .int .i64 0] ∧ G = [Row U5 q (aa.cM (es.map Ce.ch)).length cq (aa.cM (es.map Ce.ch)), R, DK es]) := by
 refine au [(0, _)] Tryz.func28 rfl Tryz.ntmps28 rfl rfl ?_
 intro w0 F
 refine rT ea 8 rfl ?_
 refine ai (Jd) V.QA  rfl .nil rfl ?_
 rintro _ _ ⟨rfl, rfl⟩
 refine wz Tryz.underlying9 Tryz.underlying22 Tryz.underlying5 rfl (aa.aV aa.se) rfl ?_
 intro b10 c10
 refine rO ea 15 rfl ?_
 rw [show aa.fx = aa.cM ((es.map Ce.ch).take 0) from (aa.IB _).symm]
 refine jS (fun (i : Nat) (po : Option Addr) (co : Nat) => [(0, .slice p es.length c), (4, .slice po (aa.cM ((es.map Ce.ch).take i)).length co), (5, .bool false), (6, .int .i64 (i : Int))]) (fun (i : Nat) (po : Option Addr) (co : Nat) => Row U5 po (aa.cM ((es.map Ce.ch).take i)).length co (aa.cM ((es.map Ce.ch).take i)) :: R :: DK es :: F) (fun (i : Nat) (po : Option Addr) (co : Nat) => i ≤ es.length) (fun (i : Nat) (po : Option Addr) (co : Nat) => es.length - i) (i3 (0) (_) (_) ?_ (fZ ln) (sub (ic .nil) aw)) ?_
 ·exact Nat.zero_le _
 intro i po co
 rintro hi
 refine rL ea 9 rfl ?_
 refine aN rfl (fun h14 => ?_) (fun h14 => ?_)
 ·refine rC ea 6 rfl ?_
  have hcx := pR (es := es) (i := i) (by omega)
  have hxm := mM (i := i) (fun x => x ∈ es) (fun x hx => hx) (by omega)
  have hxo := hok _ hxm
  unfold aa.mz at hxo
  have hxn : aa.ej (bB.g es (i : Int)).k := hxo.1
  have hxk : aj.av (bB.g es (i : Int)).k := aa.qY hxn
  have hxl := aa.yP hxn
  have hxB : aj.av (bB.g es (i : Int)).d := hxo.2.1
  have hjs := aa.La hcx
  have hjl := aa.join_le (es.map Ce.ch) (i + 1)
  have hjl2 : (aa.cM ((es.map Ce.ch).take (i + 1))).length = (aa.cM ((es.map Ce.ch).take i)).length + (aa.iq (bB.g es (i : Int)).ch).length := by rw [hjs, List.length_append]
  have hcb : (aa.iq (bB.g es (i : Int)).ch).length = 4 + (bB.g es (i : Int)).k.length + (bB.g es (i : Int)).d.length + 4 := aa.Ev _
  refine rC ea 3 rfl ?_
  refine oV (xI V.nI (by exact bE hR bW)) ?_
  refine oV (aG V.sE rfl) ?_
  refine oV (dP (c := (bB)) 0 V.s9 rfl (by exact bE hR bW) (by omega) (by omega) rfl rfl) ?_
  refine ai (Cm (bB.g es (i : Int)).k hxk (by omega) true (decide_eq_true hxn).symm) V.QJ  rfl .nil rfl ?_
  rintro _ _ ⟨rfl, rfl⟩
  refine rO ea 10 rfl ?_
  refine oV (xI V.nI (by exact bE hR bW)) ?_
  refine oV (aG V.vo rfl) ?_
  refine oV (dP (c := (bB)) 1 V.ez rfl (by exact bE hR bW) (by omega) (by omega) rfl rfl) ?_
  refine rO ea 9 rfl ?_
  refine ag rfl ?_
  refine oV (aA (a8 rfl rfl) (by omega)) ?_
  refine rO ea 4 rfl ?_
  refine ag rfl ?_
  refine oV (aA (a8 rfl rfl) (by omega)) ?_
  refine rO ea 17 rfl ?_
  refine oV (eg (r := ((bB.g es (i : Int)).d.length : Int) / 16777216) rfl rfl (by decide) (aj.nK (k := 24) (by decide) rfl)) ?_
  refine oV (bC V.u3 Tryz.underlying5 rfl (aj.ew _)) ?_
  refine oV (aJ rfl) ?_
  refine oV (eg (r := ((bB.g es (i : Int)).d.length : Int) / 65536) rfl rfl (by decide) (aj.nK (k := 16) (by decide) rfl)) ?_
  refine oV (bC V.u3 Tryz.underlying5 rfl (aj.ew _)) ?_
  refine oV (aJ rfl) ?_
  refine oV (eg (r := ((bB.g es (i : Int)).d.length : Int) / 256) rfl rfl (by decide) (aj.nK (k := 8) (by decide) rfl)) ?_
  refine oV (bC V.u3 Tryz.underlying5 rfl (aj.ew _)) ?_
  refine oV (aJ rfl) ?_
  refine oV (bC V.u3 Tryz.underlying5 rfl (aj.ew _)) ?_
  refine eb (U5) [((bB.g es (i : Int)).d.length : Int) / 16777216 % 256, ((bB.g es (i : Int)).d.length : Int) / 65536 % 256, ((bB.g es (i : Int)).d.length : Int) / 256 % 256, ((bB.g es (i : Int)).d.length : Int) % 256] V.cy V.z5 rfl rfl rfl rfl rfl rfl ?_
  intro b53
  refine ef (c := (U5)) V.cy V.z5 rfl rfl rfl rfl az (own an) (by omega) rfl ?_
  intro p54 c54
  refine rO ea 4 rfl ?_
  refine lx [pz 0 [] [4], pz 0 [] [0], pz 0 [] [6], pz 6 [1, 2] [], pz 14 [3] [], pz 30 [4] [], pz 63 [0, 5] [], pz 0 [] [0], pz 0 [] [6], pz 384 [7, 8] [], pz 896 [9] [], pz 1920 [10] [], pz 4095 [6, 11] [], pz 8191 [12] []] [⟨fun y => Row U5 p54 ((aa.cM ((es.map Ce.ch).take i)).length + 4) c54 ((aa.cM ((es.map Ce.ch).take i)) ++ [((bB.g es (i : Int)).d.length : Int) / 16777216 % 256, ((bB.g es (i : Int)).d.length : Int) / 65536 % 256, ((bB.g es (i : Int)).d.length : Int) / 256 % 256, ((bB.g es (i : Int)).d.length : Int) % 256]), none, some 6, []⟩, ⟨fun y => Row U5 (some ⟨b53, 0, none⟩) 4 4 [((bB.g es (i : Int)).d.length : Int) / 16777216 % 256, ((bB.g es (i : Int)).d.length : Int) / 65536 % 256, ((bB.g es (i : Int)).d.length : Int) / 256 % 256, ((bB.g es (i : Int)).d.length : Int) % 256], none, none, []⟩, ⟨fun y => R, none, none, [3, 5, 9, 11]⟩, ⟨fun y => DK es, none, none, [12]⟩, ⟨fun y => Row (U5) (gi (y 6)) (((aa.cM ((es.map Ce.ch).take i)).length + 4) + ((bB.g es (i : Int)).k).length) (iI (y 6)) (((aa.cM ((es.map Ce.ch).take i)) ++ [((bB.g es (i : Int)).d.length : Int) / 16777216 % 256, ((bB.g es (i : Int)).d.length : Int) / 65536 % 256, ((bB.g es (i : Int)).d.length : Int) / 256 % 256, ((bB.g es (i : Int)).d.length : Int) % 256]) ++ ((bB.g es (i : Int)).k)), some 6, some 12, []⟩, ⟨fun y => Row (U5) (gi (y 12)) ((((aa.cM ((es.map Ce.ch).take i)).length + 4) + ((bB.g es (i : Int)).k).length) + (bB.g es (i : Int)).d.length) (iI (y 12)) ((((aa.cM ((es.map Ce.ch).take i)) ++ [((bB.g es (i : Int)).d.length : Int) / 16777216 % 256, ((bB.g es (i : Int)).d.length : Int) / 65536 % 256, ((bB.g es (i : Int)).d.length : Int) / 256 % 256, ((bB.g es (i : Int)).d.length : Int) % 256]) ++ ((bB.g es (i : Int)).k)) ++ (bB.g es (i : Int)).d), some 12, none, []⟩] F V.mixed (by kernel_rfl) rfl (fun _ => .refl _) (bV _ (bV _ (bV _ (bV _ (eA _ rfl (by intro y y2 h; simp only [h 6 (.inl rfl)]) (eA _ rfl (by intro y y2 h; simp only [h 12 (.inl rfl)]) ir)))))) ?_
  iterate 3 refine nM ?_
  refine nR (fun y FF hA => xI V.nI (by exact bE hR an)) ?_
  refine nG V.sE ?_
  refine nR (fun y FF hA => dP (c := (bB)) 0 V.s9 rfl (by exact bE hR an) (by omega) (by omega) rfl rfl) ?_
  refine gN (fun y v => .slice (gi v) (((aa.cM ((es.map Ce.ch).take i)).length + 4) + ((bB.g es (i : Int)).k).length) (iI v)) (fun y v => True) _ _ (fun y v => [Row (U5) (gi v) (((aa.cM ((es.map Ce.ch).take i)).length + 4) + ((bB.g es (i : Int)).k).length) (iI v) (((aa.cM ((es.map Ce.ch).take i)) ++ [((bB.g es (i : Int)).d.length : Int) / 16777216 % 256, ((bB.g es (i : Int)).d.length : Int) / 65536 % 256, ((bB.g es (i : Int)).d.length : Int) / 256 % 256, ((bB.g es (i : Int)).d.length : Int) % 256]) ++ ((bB.g es (i : Int)).k))]) _ (fun y => rfl) (fun y => rfl) (fun y => rfl) (fun y => rfl) (fun y FF hA => tG (Aq (T := 5) V.cy Tryz.underlying9 V.z5 rfl rfl rfl (aa.aV hxk) dS (by omega)) (.refl _)) (by intros; rfl) (by intros; rfl) (by intros; rfl) (by intro y y2 h; simp only [h 6 (.inl rfl)]) (by intro y y2 h; rfl) ?_
  iterate 2 refine nM ?_
  refine nR (fun y FF hA => xI V.nI (by exact bE hR an)) ?_
  refine nG V.vo ?_
  refine nR (fun y FF hA => dP (c := (bB)) 1 V.ez rfl (by exact bE hR an) (by omega) (by omega) rfl rfl) ?_
  refine gN (fun y v => .slice (gi v) ((((aa.cM ((es.map Ce.ch).take i)).length + 4) + ((bB.g es (i : Int)).k).length) + (bB.g es (i : Int)).d.length) (iI v)) (fun y v => True) _ _ (fun y v => [Row (U5) (gi v) ((((aa.cM ((es.map Ce.ch).take i)).length + 4) + ((bB.g es (i : Int)).k).length) + (bB.g es (i : Int)).d.length) (iI v) ((((aa.cM ((es.map Ce.ch).take i)) ++ [((bB.g es (i : Int)).d.length : Int) / 16777216 % 256, ((bB.g es (i : Int)).d.length : Int) / 65536 % 256, ((bB.g es (i : Int)).d.length : Int) / 256 % 256, ((bB.g es (i : Int)).d.length : Int) % 256]) ++ ((bB.g es (i : Int)).k)) ++ (bB.g es (i : Int)).d)]) _ (fun y => rfl) (fun y => rfl) (fun y => rfl) (fun y => rfl) (fun y FF hA => tG (qv (c := (U5)) V.cy V.z5 rfl rfl rfl rfl dS (Js (f := IZ) bW hxm) (by omega)) (.refl _)) (by intros; rfl) (by intros; rfl) (by intros; rfl) (by intro y y2 h; simp only [h 6 (.inr (by decide)), h 12 (.inl rfl)]) (by intro y y2 h; rfl) ?_
  refine bQ _ (fun y => rfl) rfl rfl rfl (fun y hA L => du (dY rfl) ⟨rfl, rfl⟩) (by intros; rfl) (by intro y y2 h; simp only [h 12 (.inr (by decide))]) ?_
  refine aU ?_
  intro y hA
  clear hA
  refine ba ?_
  refine bZ _ (.cons (d := 0) rfl (.cons (d := 4) rfl (.cons (d := 5) rfl (.cons (d := 6) rfl (.nil _))))) ?_
  refine bP (M := Row U5 (some ⟨b53, 0, none⟩) 4 4 [((bB.g es (i : Int)).d.length : Int) / 16777216 % 256, ((bB.g es (i : Int)).d.length : Int) / 65536 % 256, ((bB.g es (i : Int)).d.length : Int) / 256 % 256, ((bB.g es (i : Int)).d.length : Int) % 256] :: R :: DK es :: Row (U5) (gi (y 12)) ((((aa.cM ((es.map Ce.ch).take i)).length + 4) + ((bB.g es (i : Int)).k).length) + (bB.g es (i : Int)).d.length) (iI (y 12)) ((((aa.cM ((es.map Ce.ch).take i)) ++ [((bB.g es (i : Int)).d.length : Int) / 16777216 % 256, ((bB.g es (i : Int)).d.length : Int) / 65536 % 256, ((bB.g es (i : Int)).d.length : Int) / 256 % 256, ((bB.g es (i : Int)).d.length : Int) % 256]) ++ ((bB.g es (i : Int)).k)) ++ (bB.g es (i : Int)).d) :: F) (fun _ _ h => h) ?_
  refine bP (sub .nil (.skip (.keep (.keep (.keep .refl))))) ?_
  simp only [List.nil_append]
  generalize (gi (y 6)) = p61
  generalize (iI (y 6)) = c61
  generalize (gi (y 12)) = p67
  generalize (iI (y 12)) = c67
  refine rC ea 1 rfl ?_
  refine wN [pz 0 [] [0], pz 0 [] [6], pz 3 [0, 1] [], pz 7 [2] [], pz 15 [3] [], pz 0 [] [0], pz 0 [] [6], pz 96 [5, 6] [], pz 224 [7] [], pz 480 [8] [], pz 1023 [4, 9] [], pz 2047 [10] []] [⟨fun y => R, none, none, [2, 4, 7, 9]⟩, ⟨fun y => DK es, none, none, [10]⟩, ⟨fun y => Row U5 p67 ((aa.cM ((es.map Ce.ch).take i)).length + 4 + (bB.g es (i : Int)).k.length + (bB.g es (i : Int)).d.length) c67 ((aa.cM ((es.map Ce.ch).take i)) ++ [((bB.g es (i : Int)).d.length : Int) / 16777216 % 256, ((bB.g es (i : Int)).d.length : Int) / 65536 % 256, ((bB.g es (i : Int)).d.length : Int) / 256 % 256, ((bB.g es (i : Int)).d.length : Int) % 256] ++ (bB.g es (i : Int)).k ++ (bB.g es (i : Int)).d), none, none, []⟩] F V.mixed ?_
  iterate 2 refine nM ?_
  refine nR (fun y FF hA => xI V.nI (by exact bE hR an)) ?_
  refine nG V.sE ?_
  refine nR (fun y FF hA => dP (c := (bB)) 0 V.s9 rfl (by exact bE hR an) (by omega) (by omega) rfl rfl) ?_
  iterate 2 refine nM ?_
  refine nR (fun y FF hA => xI V.nI (by exact bE hR an)) ?_
  refine nG V.vo ?_
  refine nR (fun y FF hA => dP (c := (bB)) 1 V.ez rfl (by exact bE hR an) (by omega) (by omega) rfl rfl) ?_
  refine nE (fun y FF hA => bK (Post := [DK es]) (Ee (bB.g es (i : Int)).k hxk (by omega) (bB.g es (i : Int)).p (bB.g es (i : Int)).c (bB.g es (i : Int)).d.length (bB.g es (i : Int)).d (DK es) (nh hxm) rfl (by omega) hxB) V.QZ rfl (ar .nil) (fun v G h => by rcases h with ⟨rfl, rfl⟩; exact ⟨rfl, .refl _⟩)) ?_
  refine nA ?_
  refine aU ?_
  intro y hA
  clear hA
  refine ba ?_
  refine bZ _ (.cons (d := 0) rfl (.cons (d := 4) rfl (.cons (d := 5) rfl (.cons (d := 6) rfl (.cons (d := 8) rfl (.nil _)))))) ?_
  refine bP (M := R :: DK es :: Row U5 p67 ((aa.cM ((es.map Ce.ch).take i)).length + 4 + (bB.g es (i : Int)).k.length + (bB.g es (i : Int)).d.length) c67 ((aa.cM ((es.map Ce.ch).take i)) ++ [((bB.g es (i : Int)).d.length : Int) / 16777216 % 256, ((bB.g es (i : Int)).d.length : Int) / 65536 % 256, ((bB.g es (i : Int)).d.length : Int) / 256 % 256, ((bB.g es (i : Int)).d.length : Int) % 256] ++ (bB.g es (i : Int)).k ++ (bB.g es (i : Int)).d) :: F) (fun _ _ h => h) ?_
  refine rC ea 3 rfl ?_
  refine oV (eg (r := (aa.ia (bB.g es (i : Int)).k (bB.g es (i : Int)).d) / 16777216) rfl rfl (by decide) (aa.lT (n := 24) rfl (by decide) rfl)) ?_
  refine oV (bC V.nW Tryz.underlying5 rfl (aa.ew _)) ?_
  refine oV (aJ rfl) ?_
  refine oV (eg (r := (aa.ia (bB.g es (i : Int)).k (bB.g es (i : Int)).d) / 65536) rfl rfl (by decide) (aa.lT (n := 16) rfl (by decide) rfl)) ?_
  refine oV (bC V.nW Tryz.underlying5 rfl (aa.ew _)) ?_
  refine oV (aJ rfl) ?_
  refine oV (eg (r := (aa.ia (bB.g es (i : Int)).k (bB.g es (i : Int)).d) / 256) rfl rfl (by decide) (aa.lT (n := 8) rfl (by decide) rfl)) ?_
  refine oV (bC V.nW Tryz.underlying5 rfl (aa.ew _)) ?_
  refine oV (aJ rfl) ?_
  refine oV (bC V.nW Tryz.underlying5 rfl (aa.ew _)) ?_
  refine eb (U5) [(aa.ia (bB.g es (i : Int)).k (bB.g es (i : Int)).d) / 16777216 % 256, (aa.ia (bB.g es (i : Int)).k (bB.g es (i : Int)).d) / 65536 % 256, (aa.ia (bB.g es (i : Int)).k (bB.g es (i : Int)).d) / 256 % 256, (aa.ia (bB.g es (i : Int)).k (bB.g es (i : Int)).d) % 256] V.cy V.z5 rfl rfl rfl rfl rfl rfl ?_
  intro yg
  refine ef (c := (U5)) V.cy V.z5 rfl rfl rfl rfl ed (own an) (by omega) rfl ?_
  intro p92 c92
  refine cS ea 9 rfl (by omega) ?_
  have hfin := aa.Kx (J := (aa.cM ((es.map Ce.ch).take i))) (k := (bB.g es (i : Int)).k) (d := (bB.g es (i : Int)).d) (n := ((bB.g es (i : Int)).d.length : Int)) (s := (aa.ia (bB.g es (i : Int)).k (bB.g es (i : Int)).d)) rfl rfl
  rw [show (aa.Ch.mk (bB.g es (i : Int)).k (bB.g es (i : Int)).d) = (bB.g es (i : Int)).ch from rfl, ← hjs] at hfin
  rw [hfin, show (aa.cM ((es.map Ce.ch).take i)).length + 4 + (bB.g es (i : Int)).k.length + (bB.g es (i : Int)).d.length + 4 = (aa.cM ((es.map Ce.ch).take (i + 1))).length from by omega]
  exact j3 (i + 1) _ _ ⟨by omega, by omega⟩ (fZ ln) (sub (ar (.cons az (.cons az .nil))) cC)
 ·refine rC ea 7 rfl ?_
  obtain rfl : i = es.length := by omega
  rw [show (es.map Ce.ch).take es.length = (es.map Ce.ch) from List.take_of_length_le (by rw [List.length_map]; exact Nat.le_refl _)]
  refine rC ea 5 rfl ?_
  refine ag rfl ?_
  refine oV (aA (a8 rfl rfl) (by omega)) ?_
  refine rO ea 14 rfl ?_
  exact ak (fy rfl rfl) ⟨_, _, rfl, rfl⟩ (sub (ic .nil) aw)
end Go.Proofs.YtmaiakpjgomnpaaGreat
namespace Go.Proofs.YtmaiakpjgomnpaaGreat
open Go.Sl
theorem V.Kt : aF Tryz.prog 23 = true := by kernel_rfl
theorem V.JK : aF Tryz.prog 27 = true := by kernel_rfl
theorem V.P9 : aF Tryz.prog 28 = true := by kernel_rfl
theorem V.NR : kl Tryz.prog 62 = true := by kernel_rfl
end Go.Proofs.YtmaiakpjgomnpaaGreat
namespace Go.Proofs.YtmaiakpjgomnpaaGreat
open Go.Sl 
theorem gB : dR Tryz.prog ⟨[24], [(26, 0, 0), (26, 1, 1), (26, 2, 2)]⟩ = true := by kernel_rfl
attribute [local irreducible] aj.av aQ.iH aa.cP aa.cM aa.iq aa.ej aa.c5 aa.kz aa.eQ aa.two aa.jm aa.nq aa.mz aa.parts
abbrev tz (P : List Int) (W H : Nat) (b : Nat) (q : Option Addr) (c : Nat) : List Ce := [Ce.mk aa.dm (some ⟨b, 0, none⟩) 13 (aa.hB (W : Int) (H : Int)), Ce.mk aa.bS q c (aa.cP (aa.c5 P W H)), Ce.mk aa.cu none 0 []]
theorem LV {P : List Int} {W H : Nat} (s : aa.Sz P W H) (b : Nat) (q : Option Addr) (c : Nat) : ∀ x ∈ tz P W H b q c, aa.mz x.ch := fun x hx => by
 simp only [tz, List.mem_cons, List.not_mem_nil, or_false] at hx
 rcases hx with rfl | rfl | rfl
 ·exact (aa.tv s _ (List.mem_cons_self ..)).1
 ·exact (aa.tv s _ (List.mem_cons_of_mem _ (List.mem_cons_self ..))).1
 ·exact aa.ug
theorem Fp (P : List Int) (W H : Nat) (b : Nat) (q : Option Addr) (c : Nat) : aa.cM ((tz P W H b q c).map Ce.ch) = aa.eQ P W H := by
 unfold aa.eQ aa.lB
 rfl
theorem L5 {P : List Int} {W H : Nat} {b : Nat} {q : Option Addr} {c c1 : Nat} {w0 : World} {h : Hp} (hh : dg w0 [Row U5 (some ⟨b, 0, none⟩) 13 c1 (aa.hB (W : Int) (H : Int)), Row U5 q (aa.cP (aa.c5 P W H)).length c (aa.cP (aa.c5 P W H))] h) : DK (tz P W H b q c) w0 h := by
 obtain ⟨h1, h2, _, l1, l2, a, h3, h4, _, l3, l4, d, _⟩ := hh
 intro x hx
 simp only [tz, List.mem_cons, List.not_mem_nil, or_false] at hx
 rcases hx with rfl | rfl | rfl
 ·exact (Row.Jm a).mono l1
 ·exact (Row.Jm d).mono (Hp.le_trans l3 l2)
 ·exact ⟨rfl, .inl rfl⟩
set_option maxHeartbeats 8000000 in
theorem yO (P : List Int) (W H : Nat) (hs : aa.Sz P W H) (q : Option Addr) (cc : Nat) (hcap : P.length ≤ cc) (R : ab) (hR : ∀ w0 h, R w0 h → aR (aP 62 .u16) q P.length P w0 h) : aE Tryz.prog 22 [.agg #[.int .i64 (W : Int), .int .i64 (H : Int), .slice q P.length cc]] [R] (aO fun v G => ∃ q2 c2, v = .slice q2 (aa.eQ P W H).length c2 ∧ G = [Row U5 q2 (aa.eQ P W H).length c2 (aa.eQ P W H), R]) := by
 refine au [(0, _)] Tryz.func22 rfl Tryz.ntmps22 rfl rfl ?_
 intro w0 F
 have hn := aa.OU hs
 have hw := hs.w
 have hh := hs.h
 refine rT gB 2 rfl ?_
 refine eL rfl (cs := [_, _, _]) rfl rfl ?_
 intro b1
 refine rO gB 15 rfl ?_
 refine gT (Row U5 none 0 0 []) (Row.nil _ _ _) ?_
 rw [show Row U5 none 0 0 [] = Row U5 none (aa.c5 P W 0).length 0 (aa.c5 P W 0) from by unfold aa.c5; rfl, show ((3 : Nat), Value.slice none 0 0) = (3, .slice none (aa.c5 P W 0).length 0) from by unfold aa.c5; rfl]
 refine jS (fun (y : Nat) (po : Option Addr) (co : Nat) => [(1, .pointer (some ⟨b1, 0, none⟩)), (3, .slice po (aa.c5 P W y).length co), (4, .int .i64 (y : Int))]) (fun (y : Nat) (po : Option Addr) (co : Nat) => Row U5 po (aa.c5 P W y).length co (aa.c5 P W y) :: ao b1 26 [.int .i64 (W : Int), .int .i64 (H : Int), .slice q P.length cc] :: R :: F) (fun (y : Nat) (po : Option Addr) (co : Nat) => y ≤ H) (fun (y : Nat) (po : Option Addr) (co : Nat) => H - y) (i3 (0) (none) (0) ?_ (jg ln) (sub (ic .nil) aw)) ?_
 ·exact Nat.zero_le _
 intro y po co
 rintro hy
 refine rL gB 5 rfl ?_
 refine oV (ae V.s3 rfl bW rfl) ?_
 refine rO gB 3 rfl ?_
 refine aN rfl (fun h13 => ?_) (fun h13 => ?_)
 ·refine rC gB 5 rfl ?_
  have hle := aa.yX (y := y) hs (by omega)
  refine rC gB 2 rfl ?_
  refine eb (U5) [0] V.cy V.z5 rfl rfl rfl rfl rfl rfl ?_
  intro yz
  refine ef (c := (U5)) V.cy V.z5 rfl rfl rfl rfl az (own an) (by omega) rfl ?_
  intro p18 c18
  refine rO gB 9 rfl ?_
  rw [show (aa.c5 P W y).length + 1 = (aa.kz P W y 0).length from by rw [← aa.AE, List.length_append]; rfl, aa.AE]
  refine jS (fun (i : Nat) (pi : Option Addr) (ci : Nat) => [(1, .pointer (some ⟨b1, 0, none⟩)), (3, .slice pi (aa.kz P W y i).length ci), (4, .int .i64 (y : Int)), (5, .int .i64 (i : Int))]) (fun (i : Nat) (pi : Option Addr) (ci : Nat) => Row U5 pi (aa.kz P W y i).length ci (aa.kz P W y i) :: ao b1 26 [.int .i64 (W : Int), .int .i64 (H : Int), .slice q P.length cc] :: R :: F) (fun (i : Nat) (pi : Option Addr) (ci : Nat) => i ≤ 4 * W) (fun (i : Nat) (pi : Option Addr) (ci : Nat) => 4 * W - i) (i3 (0) (_) (_) ?_ (fZ ln) (sub (ar (.cons az (.cons az .nil))) cC)) ?_
  ·exact Nat.zero_le _
  intro i pi ci
  rintro hi
  refine rL gB 5 rfl ?_
  refine oV (ae V.s3 rfl bW rfl) ?_
  refine cS gB 4 rfl (by omega) ?_
  refine aN rfl (fun h23 => ?_) (fun h23 => ?_)
  ·refine rC gB 5 rfl ?_
   have hsg := aa.Cq (y := y) (i := i) hs.len (by omega) (by omega)
   have hWy : 4 * (W : Int) * (y : Int) = ((4 * W * y : Nat) : Int) := by rw [Int.natCast_mul, Int.natCast_mul]; rfl
   have hq : (aP 62 .u16).g P (((4 * W * y : Nat) : Int) + (i : Int)) = (P.getD (4 * W * y + i) 0) := gE (4 * W * y + i) (by omega)
   have hv := hs.u.get (4 * W * y + i)
   refine rC gB 2 rfl ?_
   refine oV (ae V.nD rfl bW rfl) ?_
   refine oV (aG V.te rfl) ?_
   refine oV (ae V.s3 rfl bW rfl) ?_
   refine cS gB 2 rfl (by omega) ?_
   refine oV (jF (r := ((4 * W * y : Nat) : Int)) rfl rfl (by rw [hWy]; exact gR (by omega) (by omega))) ?_
   refine cS gB 2 rfl (by omega) ?_
   refine oV (xI V.hI (by exact bE hR dH)) ?_
   refine oV (xL V.lC (by exact bE hR dH)) ?_
   rw [hq]
   refine rO gB 3 rfl ?_
   have hle := aa.Gr (y := y) (i := i) hs (by omega) (by omega)
   refine rC gB 3 rfl ?_
   refine oV (eg (r := (P.getD (4 * W * y + i) 0) / 256) rfl rfl (by decide) (aj.nK (k := 8) (by decide) rfl)) ?_
   refine oV (bC V.NR Tryz.underlying5 rfl (lj (by omega) (by omega))) ?_
   refine oV (aJ rfl) ?_
   refine oV (bC V.NR Tryz.underlying5 rfl (aa.ew _)) ?_
   refine eb (U5) [(P.getD (4 * W * y + i) 0) / 256, (P.getD (4 * W * y + i) 0) % 256] V.cy V.z5 rfl rfl rfl rfl rfl rfl ?_
   intro b43
   refine ef (c := (U5)) V.cy V.z5 rfl rfl rfl rfl az (own an) (by omega) rfl ?_
   intro p44 c44
   refine cS gB 9 rfl (by omega) ?_
   have hfin := aa.KW (y := y) (i := i) hs.len (by omega) (by omega)
   have hln : (aa.kz P W y i).length + 2 = (aa.kz P W y (i + 1)).length := by rw [← hfin, List.length_append]; rfl
   rw [hfin, hln]
   exact j3 (i + 1) _ _ ⟨by omega, by omega⟩ (fZ ln) (sub (ar (.cons az (.cons az .nil))) cC)
  ·refine fL gB 11 rfl (by omega) ?_
   obtain rfl : i = 4 * W := by omega
   rw [aa.IL hs.len (by omega)]
   exact j3 (y + 1) _ _ ⟨by omega, by omega⟩ (jg ln) (sub (ic .nil) aw)
 ·refine rC gB 8 rfl ?_
  refine oV (ae V.s3 rfl bW rfl) ?_
  refine oV (eg (r := (W : Int) / 256) rfl rfl (by decide) (aj.nK (k := 8) (by decide) rfl)) ?_
  refine oV (bC V.u3 Tryz.underlying5 rfl (lj (by omega) (by omega))) ?_
  refine oV (aG V.te rfl) ?_
  refine oV (ae V.s3 rfl bW rfl) ?_
  refine oV (bC V.u3 Tryz.underlying5 rfl (aj.ew _)) ?_
  refine oV (aG V.nC rfl) ?_
  refine oV (ae V.s3 rfl bW rfl) ?_
  refine oV (eg (r := (H : Int) / 256) rfl rfl (by decide) (aj.nK (k := 8) (by decide) rfl)) ?_
  refine oV (bC V.u3 Tryz.underlying5 rfl (lj (by omega) (by omega))) ?_
  refine oV (aG V.nC rfl) ?_
  refine oV (ae V.s3 rfl bW rfl) ?_
  refine oV (bC V.u3 Tryz.underlying5 rfl (aj.ew _)) ?_
  refine Eb (T := 5) (k := .u8) (aa.hB (W : Int) (H : Int)) V.cy V.z5 rfl rfl rfl rfl ?_
  intro b59
  refine rO gB 4 rfl ?_
  obtain rfl : H = y := by omega
  have hle := aa.mL hs
  have hpl := aa.m9 hs
  have hcl := aa.n7 (B := aa.c5 P W H) (by omega)
  refine iV (fun w hi => gu hi (show Row U5 po (aa.c5 P W H).length co (aa.c5 P W H) ∈ _ by exact bW)) (fun hco => ?_)
  refine rC gB 2 rfl ?_
  refine oV (cD V.JU V.K3 rfl (cs := [_, _]) rfl) ?_
  refine oV (aJ rfl) ?_
  refine ai (GW po co (aa.c5 P W H) (Row U5 po (aa.c5 P W H).length co (aa.c5 P W H)) (fun w0 h hh => ⟨hh.1, hh.2.rd⟩) (by omega) (aa.oY W hs.u H) hco) V.JK  rfl (.cons az .nil) rfl ?_
  rintro _ _ ⟨qz, cz, rfl, rfl⟩
  iterate 2 refine oV (cD V.JU V.K3 rfl (cs := [_, _]) rfl) ?_
  refine eb (bB) (tz P W H b59 qz cz) V.nI V.K3 rfl rfl rfl rfl rfl rfl ?_
  intro Fe
  refine NH (aX (A := DK (tz P W H b59 qz cz)) (.cons ed (.cons az .nil)) aw (fun w0 h hh => L5 (P := P) (W := W) (H := H) hh)) ?_
  refine ai (K5 (some ⟨Fe, 0, none⟩) 3 (tz P W H b59 qz cz) (Row bB (some ⟨Fe, 0, none⟩) 3 3 (tz P W H b59 qz cz)) (fun w0 h hh => ⟨hh.1, hh.2.rd⟩) (show 3 ≤ 262144 by decide) (LV hs _ _ _) (by rw [Fp, hpl]; omega)) V.P9  rfl (.cons az (ar .nil)) rfl ?_
  rintro _ _ ⟨qj, cj, rfl, rfl⟩
  rw [Fp]
  refine rO gB 14 rfl ?_
  exact ak (aB rfl) ⟨_, _, rfl, rfl⟩ (sub (ar (.cons jA .nil)) mw)
end Go.Proofs.YtmaiakpjgomnpaaGreat
namespace Go.Proofs.YtmaiakpjgomnpaaGreat
open Go.Sl
theorem V.Il : aF Tryz.prog 14 = true := by kernel_rfl
theorem V.Oh : aF Tryz.prog 22 = true := by kernel_rfl
end Go.Proofs.YtmaiakpjgomnpaaGreat
namespace Go.Proofs.YtmaiakpjgomnpaaGreat
open Go.Sl 
theorem lq : dR Tryz.prog ⟨[], []⟩ = true := by kernel_rfl
attribute [local irreducible] aj.av aQ.iH aa.cP aa.cM aa.iq aa.ej aa.c5 aa.eQ aa.two aa.jm aa.nq aa.mz
set_option maxHeartbeats 8000000 in
theorem G1  : aE Tryz.prog 13 [] [] (aO fun v G => v = .bool true ∧ G = []) := by
 refine au [] Tryz.func13 rfl Tryz.ntmps13 rfl rfl ?_
 intro w0 F
 refine rT lq 7 rfl ?_
 refine ai (HI 1 1 (by decide)) V.QP  rfl .nil rfl ?_
 rintro _ _ ⟨bq, rfl, rfl⟩
 rw [show (4 * (1 : Int) * 1).toNat = 4 from rfl, show List.replicate 4 (0 : Int) = [0, 0, 0, 0] from rfl]
 refine rO lq 3 rfl ?_
 refine cn V.kD rfl ?_
 intro b1
 refine aT (aH V.ei rfl rfl (us := [_, _, _]) rfl rfl (by exact cZ) (by exact Nat.le_of_ble_eq_true rfl) rfl) ?_
 refine rO lq 4 rfl ?_
 refine wN [pz 0 [] [1], pz 1 [0] [], pz 0 [] [1], pz 4 [2] [], pz 3 [1] [], pz 19 [4] [], pz 63 [3] [], pz 127 [6] []] [⟨fun y => ao b1 26 [.int .i64 1, .int .i64 1, .slice (some ⟨bq, 0, none⟩) 4 4], none, none, [1, 3]⟩, ⟨fun y => Row (aP 62 .u16) (some ⟨bq, 0, none⟩) 4 4 [0, 0, 0, 0], none, some 5, [4]⟩, ⟨fun y => Row (aP 62 .u16) (some ⟨bq, 0, none⟩) 4 4 (([0, 0, 0, 0]).set (2 : Int).toNat 7), some 5, some 7, [6]⟩, ⟨fun y => Row (aP 62 .u16) (some ⟨bq, 0, none⟩) 4 4 ((([0, 0, 0, 0]).set (2 : Int).toNat 7).set (3 : Int).toNat 65535), some 7, none, []⟩] F V.mixed ?_
 refine nG V.lY ?_
 refine nR (fun y FF hA => ae V.nD rfl an rfl) ?_
 refine nG V.lY ?_
 refine nR (fun y FF hA => ae V.nD rfl an rfl) ?_
 refine nR (fun y FF hA => xI V.hI (own an)) ?_
 refine nE (fun y FF hA => du (ij (c := (aP 62 .u16)) (_) V.lC rfl rfl rfl (by exact cZ) (by omega) (by omega) rfl rfl) ⟨rfl, .refl _⟩) ?_
 refine nR (fun y FF hA => xI V.hI (own an)) ?_
 refine nE (fun y FF hA => du (ij (c := (aP 62 .u16)) (_) V.lC rfl rfl rfl (by exact cZ) (by omega) (by omega) rfl rfl) ⟨rfl, .refl _⟩) ?_
 refine aU ?_
 intro y hA
 clear hA
 refine ba ?_
 refine bZ _ (.cons (d := 1) rfl (.nil _)) ?_
 refine bP (M := ao b1 26 [.int .i64 1, .int .i64 1, .slice (some ⟨bq, 0, none⟩) 4 4] :: Row (aP 62 .u16) (some ⟨bq, 0, none⟩) 4 4 ((([0, 0, 0, 0]).set (2 : Int).toNat 7).set (3 : Int).toNat 65535) :: F) (fun _ _ h => h) ?_
 refine rC lq 1 rfl ?_
 rw [show (([0, 0, 0, 0] : List Int).set ((2 : Int)).toNat 7).set ((3 : Int)).toNat 65535 = [0, 0, 7, 65535] from rfl]
 have hpl := aa.m9 aa.BX
 have hrl := aa.mL aa.BX
 have hcl := aa.n7 (B := aa.c5 [0, 0, 7, 65535] 1 1) (by omega)
 refine a7 ?_
 refine oV (bJ V.ei rfl an (vs := [_, _, _]) rfl rfl) ?_
 refine ai (yO [0, 0, 7, 65535] 1 1 aa.BX (some ⟨bq, 0, none⟩) 4 (by decide) (Row (aP 62 .u16) (some ⟨bq, 0, none⟩) 4 4 [0, 0, 7, 65535]) (fun w0 h hh => ⟨hh.1, hh.2.rd⟩)) V.Oh  rfl (.cons az .nil) rfl ?_
 rintro _ _ ⟨q2, c2, rfl, rfl⟩
 refine AJ (fun w hi => gu hi (show Row U5 q2 (aa.eQ [0, 0, 7, 65535] 1 1).length c2 (aa.eQ [0, 0, 7, 65535] 1 1) ∈ _ by exact an)) (fun hc2 => ?_)
 refine ai (rq q2 c2 (aa.eQ [0, 0, 7, 65535] 1 1) (Row U5 q2 (aa.eQ [0, 0, 7, 65535] 1 1).length c2 (aa.eQ [0, 0, 7, 65535] 1 1)) (fun w0 h hh => ⟨hh.1, hh.2.rd⟩) (by omega) (aa.uL aa.BX) hc2 _ (aa.uO aa.BX)) V.Il  rfl (ar .nil) rfl ?_
 rintro _ _ ⟨qd, nd, cd, rfl, hnd, hcd, rfl⟩
 obtain rfl : nd = 4 := hnd.symm
 refine rO lq 3 rfl ?_
 refine cn V.kD rfl ?_
 intro b3
 refine aT (aH V.ei rfl rfl (us := [_, _, _]) rfl rfl (by exact cZ) (by exact Nat.le_of_ble_eq_true rfl) rfl) ?_
 refine rO lq 4 rfl ?_
 refine gT (Row U5 none 0 0 []) (Row.nil _ _ _) ?_
 refine a7 ?_
 refine ai (rq none 0 [] (Row U5 none 0 0 []) (fun w0 h hh => ⟨hh.1, hh.2.rd⟩) (by decide) aQ.jx (by decide) _ aa.H2) V.Il  rfl (ar .nil) rfl ?_
 rintro _ _ ⟨qe, ne, ce, rfl, hne, hce, rfl⟩
 obtain rfl : ne = 0 := hne.symm
 refine rO lq 3 rfl ?_
 refine cn V.kD rfl ?_
 intro b5
 refine aT (aH V.ei rfl rfl (us := [_, _, _]) rfl rfl (by exact cZ) (by exact Nat.le_of_ble_eq_true rfl) rfl) ?_
 refine rO lq 6 rfl ?_
 refine oV (aY (aD rfl rfl) (by omega)) ?_
 refine oV (aJ rfl) ?_
 refine ag rfl ?_
 refine oV (bJ V.ei rfl xf (vs := [_, _, _]) rfl rfl) ?_
 refine ag rfl ?_
 refine oV (bJ V.ei rfl eI (vs := [_, _, _]) rfl rfl) ?_
 refine ag rfl ?_
 refine ai (BA 1 1 (some ⟨bq, 0, none⟩) 4 4 [0, 0, 7, 65535] rfl (Row (aP 62 .u16) (some ⟨bq, 0, none⟩) 4 4 [0, 0, 7, 65535]) (fun w0 h hh => ⟨hh.1, hh.2.rd⟩) 1 1 qd 4 cd [0, 0, 7, 65535] rfl (Row (aP 62 .u16) qd 4 cd [0, 0, 7, 65535]) (fun w0 h hh => ⟨hh.1, hh.2.rd⟩) (by decide) true (decide_eq_true (by unfold aa.jm; exact ⟨⟨by decide, rfl⟩, ⟨by decide, rfl⟩, rfl, rfl, rfl⟩)).symm) V.Kt  rfl (.cons n4 (.cons jA .nil)) rfl ?_
 rintro _ _ ⟨rfl, rfl⟩
 refine rO lq 3 rfl ?_
 refine ag rfl ?_
 refine oV (aY (aD rfl rfl) (by omega)) ?_
 refine rO lq 2 rfl ?_
 refine ag rfl ?_
 refine ai (iM 6) V.pf  rfl .nil rfl ?_
 rintro _ _ ⟨rfl, rfl⟩
 refine ag rfl ?_
 refine oV (aY (aD rfl rfl) (by decide)) ?_
 refine rO lq 5 rfl ?_
 exact ak (aB rfl) ⟨rfl, rfl⟩ (sub .nil It)
end Go.Proofs.YtmaiakpjgomnpaaGreat
namespace Go.Proofs.YtmaiakpjgomnpaaGreat
open Go.Sl
theorem V.FC : aF Tryz.prog 13 = true := by kernel_rfl
end Go.Proofs.YtmaiakpjgomnpaaGreat
namespace Go.Proofs.YtmaiakpjgomnpaaGreat
open Go.Sl
end Go.Proofs.YtmaiakpjgomnpaaGreat
namespace Go.Proofs.YtmaiakpjgomnpaaGreat
open Go.Sl 
attribute [local irreducible] aj.av aa.nq aa.eQ aa.jm aa.parts aa.bN aa.nT
set_option maxHeartbeats 4000000 in
theorem GM (w h : Int) (q : Option Addr) (c : Nat) (L : List Int) (hcap : L.length ≤ c) (hU : aa.nT L) : aE Tryz.prog 5 [.agg #[.int .i64 w, .int .i64 h, .slice q L.length c]] [aR (aP 62 .u16) q L.length L] (aO fun v G => v = .bool true ∧ G = [aR (aP 62 .u16) q L.length L]) := by
  refine au [(0, _)] Tryz.func5 rfl Tryz.ntmps5 rfl rfl ?_
  intro w0 F
  refine fb ?_
  refine a7 ?_
  refine eL rfl (cs := [_, _, _]) rfl rfl ?_
  intro b1
  refine dw (dY rfl) rfl ?_
  refine cB ?_
  refine ba ?_
  refine fb ?_
  refine fb ?_
  refine a7 ?_
  refine ai (G1) V.FC  rfl .nil rfl ?_
  rintro _ _ ⟨rfl, rfl⟩
  refine dw (cH (v := .bool false) (kO rfl) rfl) rfl ?_
  refine cB ?_
  refine ba ?_
  refine km rfl ?_
  refine vH ?_
  refine ba ?_
  rcases (ad.Jw (L.length ≤ 8000) (aa.bN w h = 0 ∧ (L.length : Int) = 4 * w * h)) with ⟨hl, hm⟩ | ⟨hl, hm⟩ | hl
  ·
    refine fb ?_
    refine fb ?_
    refine a7 ?_
    refine dw (aG V.lY rfl) rfl ?_
    refine dw (ae V.nD rfl (by repeat first | exact .head _ | apply List.Mem.tail) rfl) rfl ?_
    refine dw (eu (ty' := 0) Tryz.underlying24 rfl) rfl ?_
    refine dw (aA (a8 rfl rfl) (by omega)) rfl ?_
    refine dw (aJ rfl) rfl ?_
    refine ag rfl ?_
    refine dw (bJ V.ei rfl (by repeat first | exact .head _ | apply List.Mem.tail) (vs := [_, _, _]) rfl rfl) rfl ?_
    refine ag rfl ?_
    refine ai (lr w h q L.length c true (decide_eq_true hm).symm) V.l6  rfl .nil rfl ?_
    rintro _ _ ⟨rfl, rfl⟩
    refine ag rfl ?_
    refine dw (cH (v := .bool false) (kO rfl) rfl) rfl ?_
    refine dw (oq rfl rfl) rfl ?_
    refine cB ?_
    refine ba ?_
    refine km rfl ?_
    refine vH ?_
    refine ba ?_
    refine fb ?_
    obtain ⟨W, H, rfl, rfl, hsz⟩ := aa.Nv hm.1 hm.2 hU
    have hpl := aa.m9 hsz
    have hrl := aa.mL hsz
    have hcl := aa.n7 (B := aa.c5 L W H) (by omega)
    refine a7 ?_
    refine dw (bJ V.ei rfl (by repeat first | exact .head _ | apply List.Mem.tail) (vs := [_, _, _]) rfl rfl) rfl ?_
    refine ai (yO L W H hsz q c hcap (aR (aP 62 .u16) q L.length L) (fun _ _ hh => hh)) V.Oh  rfl (.cons (by repeat first | exact .head | apply fw.tail) .nil) rfl ?_
    rintro _ _ ⟨q2, c2, rfl, rfl⟩
    refine AJ (fun w hi => gu hi (show Row U5 q2 (aa.eQ L W H).length c2 (aa.eQ L W H) ∈ _ by first | exact an | exact bW | exact dH | exact eI)) (fun hc2 => ?_)
    refine ai (rq q2 c2 (aa.eQ L W H) (Row U5 q2 (aa.eQ L W H).length c2 (aa.eQ L W H)) (fun w0 h hh => ⟨hh.1, hh.2.rd⟩) (by omega) (aa.uL hsz) hc2 _ (aa.uO hsz)) V.Il  rfl (.cons (by repeat first | exact .head | apply fw.tail) .nil) rfl ?_
    rintro _ _ ⟨qd, nd, cd, rfl, hnd, hcd, rfl⟩
    refine dw (aJ rfl) rfl ?_
    refine dw (eW rfl rfl) rfl ?_
    refine dw (eW rfl rfl) rfl ?_
    refine cn V.kD rfl ?_
    intro b3
    refine aT (aH V.ei rfl rfl (us := [_, _, _]) rfl rfl (by repeat first | exact .head | apply ib.tail) (by exact Nat.le_of_ble_eq_true rfl) rfl) ?_
    refine dw (dY rfl) rfl ?_
    refine cB ?_
    refine ba ?_
    refine fb ?_
    refine a7 ?_
    refine dw (aJ rfl) rfl ?_
    refine dw (aY (aD rfl rfl) (by omega)) rfl ?_
    refine dw (aJ rfl) rfl ?_
    refine ag rfl ?_
    refine dw (bJ V.ei rfl (by repeat first | exact .head _ | apply List.Mem.tail) (vs := [_, _, _]) rfl rfl) rfl ?_
    refine ag rfl ?_
    refine dw (bJ V.ei rfl (by repeat first | exact .head _ | apply List.Mem.tail) (vs := [_, _, _]) rfl rfl) rfl ?_
    refine ag rfl ?_
    refine ai (BA (W : Int) (H : Int) q L.length c L rfl (aR (aP 62 .u16) q L.length L) (fun _ _ hh => hh) (W : Int) (H : Int) qd nd cd L hnd (Row (aP 62 .u16) qd nd cd L) (fun w0 h hh => ⟨hh.1, hh.2.rd⟩) (by omega) true (decide_eq_true (by unfold aa.jm; rw [show (nd : Int) = (L.length : Int) from by rw [← hnd]]; exact ⟨hm, hm, rfl, rfl, rfl⟩)).symm) V.Kt  rfl (.cons (by repeat first | exact .head | apply fw.tail) (.cons (by repeat first | exact .head | apply fw.tail) .nil)) rfl ?_
    rintro _ _ ⟨rfl, rfl⟩
    refine dw (lJ rfl rfl) rfl ?_
    refine dw (dY rfl) rfl ?_
    refine cB ?_
    refine ba ?_
    refine sY ?_
    exact ak (G := [aR (aP 62 .u16) q L.length L]) (aB rfl) ⟨rfl, rfl⟩ (sub (.cons (by repeat first | exact .head | apply fw.tail) .nil) (by repeat first | exact .refl | apply Drop.skip))
  ·
    refine fb ?_
    refine fb ?_
    refine a7 ?_
    refine dw (aG V.lY rfl) rfl ?_
    refine dw (ae V.nD rfl (by repeat first | exact .head _ | apply List.Mem.tail) rfl) rfl ?_
    refine dw (eu (ty' := 0) Tryz.underlying24 rfl) rfl ?_
    refine dw (aA (a8 rfl rfl) (by omega)) rfl ?_
    refine dw (aJ rfl) rfl ?_
    refine ag rfl ?_
    refine dw (bJ V.ei rfl (by repeat first | exact .head _ | apply List.Mem.tail) (vs := [_, _, _]) rfl rfl) rfl ?_
    refine ag rfl ?_
    refine ai (lr w h q L.length c false (decide_eq_false hm).symm) V.l6  rfl .nil rfl ?_
    rintro _ _ ⟨rfl, rfl⟩
    refine ag rfl ?_
    refine dw (cH (v := .bool true) (kO rfl) rfl) rfl ?_
    refine dw (oq rfl rfl) rfl ?_
    refine cB ?_
    refine ba ?_
    refine lS rfl ?_
    refine fb ?_
    refine a7 ?_
    refine dw (dY rfl) rfl ?_
    refine cB ?_
    refine ba ?_
    refine sY ?_
    refine (vj ?_)
    exact ak (G := [aR (aP 62 .u16) q L.length L]) (aB rfl) ⟨rfl, rfl⟩ (sub (.cons (by repeat first | exact .head | apply fw.tail) .nil) (by repeat first | exact .refl | apply Drop.skip))
  ·
    refine fb ?_
    refine fb ?_
    refine a7 ?_
    refine dw (aG V.lY rfl) rfl ?_
    refine dw (ae V.nD rfl (by repeat first | exact .head _ | apply List.Mem.tail) rfl) rfl ?_
    refine dw (eu (ty' := 0) Tryz.underlying24 rfl) rfl ?_
    refine dw (aY (a8 rfl rfl) (by omega)) rfl ?_
    refine dw (aJ rfl) rfl ?_
    refine ob rfl rfl rfl ?_
    refine ob rfl rfl rfl ?_
    refine ob rfl rfl rfl ?_
    refine dw (lJ rfl rfl) rfl ?_
    refine cB ?_
    refine ba ?_
    refine lS rfl ?_
    refine fb ?_
    refine a7 ?_
    refine dw (dY rfl) rfl ?_
    refine cB ?_
    refine ba ?_
    refine sY ?_
    refine (vj ?_)
    exact ak (G := [aR (aP 62 .u16) q L.length L]) (aB rfl) ⟨rfl, rfl⟩ (sub (.cons (by repeat first | exact .head | apply fw.tail) .nil) (by repeat first | exact .refl | apply Drop.skip))
end Go.Proofs.YtmaiakpjgomnpaaGreat

/- Walks of functions that the law reaches, and what they lean on; no conditions. -/
import Derived.Test.YtmaiakpjgomnpaaGreatM0
import Derived.Test.YtmaiakpjgomnpaaGreatM4
import Derived.Test.YtmaiakpjgomnpaaGreatM2
import Derived.Test.YtmaiakpjgomnpaaGreatM1
import Derived.KernelRfl
import Derived.Test.YtmaiakpjgomnpaaGreatM8
set_option linter.unusedVariables false
set_option linter.unusedSimpArgs false
set_option maxRecDepth 100000
namespace Go.Proofs.YtmaiakpjgomnpaaGreat
open Go.Sl 
attribute [local irreducible] af.an aH.ie aH.gI ab.fa ab.eY aG.fk aG.jV aa.cP aa.aX aa.e9 aa.gf aa.aZ aa.aY aa.bR aa.ea aa.df aa.bX aa.eO aa.two aa.hB aa.jj aa.kt aa.jL aa.parts
set_option maxHeartbeats 4000000 in
theorem GR (p : Option Addr) (c : Nat) (B : List Int) (R : ad) (hR : ∀ w0 h, R w0 h → aE U5 p B.length B w0 h) (hl : B.length ≤ 4194304) (hcap : B.length ≤ c) : aA Tryz.prog 62 [.slice p B.length c] [R] (aF fun v G => ∃ q cq, v = .slice q (aH.gI B).length cq ∧ G = [Row U5 q (aH.gI B).length cq (aH.gI B), R]) := by
 refine au [(0, _)] Tryz.func62 rfl Tryz.ntmps62 rfl rfl ?_
 intro w0 F
 refine rT TT 12 rfl<|(xF) ?_
 refine zL (fun (f : Nat) (pz : Option Addr) (cz : Nat) (Z : List Int) (po : Option Addr) (co : Nat) (O : List Int) => [(0, .slice pz Z.length cz), (3, .slice po O.length co)]) (fun (f : Nat) (pz : Option Addr) (cz : Nat) (Z : List Int) (po : Option Addr) (co : Nat) (O : List Int) => Row U5 po O.length co O :: R :: F) (fun (f : Nat) (pz : Option Addr) (cz : Nat) (Z : List Int) (po : Option Addr) (co : Nat) (O : List Int) => O ++ ab.fa (aH.ie f Z) = aH.gI B ∧ Z.length ≤ 65535 * (f + 1) ∧ (∀ w0 h, R w0 h → aE U5 pz Z.length Z w0 h) ∧ Z.length ≤ cz ∧ O.length + Z.length ≤ 2 * B.length + 5 * (65 - f) ∧ f ≤ 64) (fun (f : Nat) (pz : Option Addr) (cz : Nat) (Z : List Int) (po : Option Addr) (co : Nat) (O : List Int) => f) (i7 (64) (p) (c) (B) (none) (0) ([]) ?_ (iE ln) (sub (aO .nil) ak)) ?_
 ·exact ⟨aH.Ol B, by omega, hR, hcap, by simp; omega, by omega⟩
 intro f pz cz Z po co O
 rintro ⟨hO, hZf, hZR, hZc, hOl, hf⟩
 refine rL TT 1 rfl ?_
 rcases (Nat.lt_or_ge 65535 Z.length) with hZ | hZ
 ·refine (Q5) ?_
  refine oV (cW (v := .int .i64 65535) (Ja rfl rfl) (by rw [if_pos (by omega)]))<|(QK)<|(QB)<|(Qe) ?_
  refine oV (cF V.u3 Tryz.underlying5 rfl (af.ft (65535 : Int)))<|(Q7) ?_
  refine oV (dN (r := (65535 : Int) / 256) rfl rfl (by omega) (af.lx (k := 8) (by decide) rfl))<|(nF)<|(Q7)<|(UQ) ?_
  refine oV (cF V.u3 Tryz.underlying5 rfl ((af.ft _).trans (show (-(65535 : Int) - 1) % 256 = 255 - (65535 : Int) % 256 from by omega)))<|(Q7)<|(UQ) ?_
  refine oV (dN (r := (-(65535 : Int) - 1) / 256) rfl rfl (by omega) (af.lx (k := 8) (by decide) rfl))<|oV (cF V.u3 Tryz.underlying5 rfl ((af.ft _).trans (show ((-(65535 : Int) - 1) / 256) % 256 = 255 - (65535 : Int) / 256 from by omega)))<|cY (U5) [0, (65535 : Int) % 256, (65535 : Int) / 256, 255 - (65535 : Int) % 256, 255 - (65535 : Int) / 256] V.bE V.z5 rfl rfl rfl rfl rfl rfl ?_
  intro Jj
  refine (Eb) ?_
  intro p28 c28
  refine (Q8) ?_
  have hPR : ∀ w0 h, R w0 h → aE U5 pz 65535 (Z.take 65535) w0 h := kK (cap := 0) hZR 65535 (by omega)
  refine (Q5) ?_
  refine oV (iH 65535 cz V.bE rfl ⟨_, rfl⟩ rfl (by omega) (by omega))<|ew (c := (U5)) V.bE V.z5 rfl rfl rfl rfl dj (by exact bK hPR dJ) (by omega) rfl ?_
  intro p33 c33
  refine (Qc) ?_
  refine oV (eh 65535 Z.length cz V.bE rfl ⟨_, rfl⟩ ⟨rfl, rfl⟩ rfl (by omega) (by omega) (by omega))<|(Q1)<|(oJ)<|(Q3) ?_
  obtain ⟨f, rfl⟩ : ∃ f2, f = f2 + 1 := ⟨f - 1, by omega⟩
  have hnx := aH.GA hO hZ
  have hle : (O ++ [0, (65535 : Int) % 256, (65535 : Int) / 256, 255 - (65535 : Int) % 256, 255 - (65535 : Int) / 256] ++ Z.take 65535).length = O.length + 5 + 65535 := by simp; omega
  have hdl : (Z.drop 65535).length = Z.length - 65535 := List.length_drop
  rw [← hdl, ← hle]
  exact j7 f _ _ (Z.drop 65535) _ _ _ ⟨⟨hnx, by omega, by rw [hdl]; exact fQ hZR rfl 65535 cz (by omega) hZc, by omega, by omega, by omega⟩, by omega⟩ (.cons rfl (.cons rfl (.nil _))) (sub (.cons dj (.cons ax .nil)) bu)
 ·refine (Q5) ?_
  refine oV (cW (v := .int .i64 (Z.length : Int)) (Ja rfl rfl) (by rw [if_neg (by omega)]))<|(QK)<|(Qv)<|(QI) ?_
  refine oV (cF V.u3 Tryz.underlying5 rfl (af.ft (Z.length : Int)))<|(Q7) ?_
  refine oV (dN (r := (Z.length : Int) / 256) rfl rfl (by omega) (af.lx (k := 8) (by decide) rfl))<|(nF)<|(Q7)<|(Vi) ?_
  refine oV (cF V.u3 Tryz.underlying5 rfl ((af.ft _).trans (show (-(Z.length : Int) - 1) % 256 = 255 - (Z.length : Int) % 256 from by omega)))<|(Q7)<|(Vi) ?_
  refine oV (dN (r := (-(Z.length : Int) - 1) / 256) rfl rfl (by omega) (af.lx (k := 8) (by decide) rfl))<|oV (cF V.u3 Tryz.underlying5 rfl ((af.ft _).trans (show ((-(Z.length : Int) - 1) / 256) % 256 = 255 - (Z.length : Int) / 256 from by omega)))<|cY (U5) [1, (Z.length : Int) % 256, (Z.length : Int) / 256, 255 - (Z.length : Int) % 256, 255 - (Z.length : Int) / 256] V.bE V.z5 rfl rfl rfl rfl rfl rfl ?_
  intro Jj
  refine (Eb) ?_
  intro p28 c28
  refine (Ql) ?_
  refine oV (iH Z.length cz V.bE rfl ⟨_, rfl⟩ rfl (by omega) (by omega))<|ew (c := (U5)) V.bE V.z5 rfl rfl rfl rfl dj (by exact bK hZR dJ) (by omega) rfl ?_
  intro p33 c33
  refine (Qc) ?_
  refine oV (eh Z.length Z.length cz V.bE rfl ⟨_, rfl⟩ ⟨rfl, rfl⟩ rfl (by omega) (by omega) (by omega))<|(Q1)<|(xX)<|(QM) ?_
  have hnx := aH.Fz hO (by omega)
  have hle : (O ++ [1, (Z.length : Int) % 256, (Z.length : Int) / 256, 255 - (Z.length : Int) % 256, 255 - (Z.length : Int) / 256] ++ Z).length = O.length + 5 + Z.length := by simp; omega
  rw [hnx] at hle
  rw [← hle, hnx]
  exact ag (av rfl) ⟨_, _, rfl, rfl⟩ (sub (ao (.cons ax .nil)) bu)
set_option maxHeartbeats 2000000 in
theorem za (p : Option Addr) (c : Nat) (B : List Int) (R : ad) (hR : ∀ w0 h, R w0 h → aE U5 p B.length B w0 h) (hl : B.length ≤ 4194304) (hB : af.an B) (hcap : B.length ≤ c) : aA Tryz.prog 27 [.slice p B.length c] [R] (aF fun v G => ∃ q cq, v = .slice q (aa.cP B).length cq ∧ G = [Row U5 q (aa.cP B).length cq (aa.cP B), R]) := by
 refine au [(0, _)] Tryz.func27 rfl Tryz.ntmps27 rfl rfl ?_
 intro w0 F
 have hsl := aH.ue hl
 have ha := aG.yC B
 refine rT TT 7 rfl<|cY (U5) [120, 1] V.bE V.z5 rfl rfl rfl rfl rfl rfl ?_
 intro b5
 refine (Q7) ?_
 refine aj (GR p c B R hR hl hcap) V.YJ  rfl (.cons ax .nil) rfl ?_
 rintro _ _ ⟨qz, cz, rfl, rfl⟩
 refine (Rn) ?_
 intro p8 c8
 refine (Q1) ?_
 refine aj (PJ p c B R hR (by omega) hB) V.Yt  rfl (.cons bo .nil) rfl ?_
 rintro _ _ ⟨rfl, rfl⟩
 refine (Qc) ?_
 refine oV (dN (r := (aG.fk B) / 16777216) rfl rfl (by decide) (aa.lD (n := 24) rfl (by decide) rfl))<|oV (cF V.AY Tryz.underlying5 rfl ((aa.ft _).trans (by omega : (aG.fk B) / 16777216 % 256 = (aG.fk B) / 16777216)))<|(Q7) ?_
 refine oV (dN (r := (aG.fk B) / 65536) rfl rfl (by decide) (aa.lD (n := 16) rfl (by decide) rfl))<|(vj)<|(Q7) ?_
 refine oV (dN (r := (aG.fk B) / 256) rfl rfl (by decide) (aa.lD (n := 8) rfl (by decide) rfl))<|(vj)<|(Q7)<|(vj) ?_
 refine cY (U5) [(aG.fk B) / 16777216, (aG.fk B) / 65536 % 256, (aG.fk B) / 256 % 256, (aG.fk B) % 256] V.bE V.z5 rfl rfl rfl rfl rfl rfl ?_
 intro Wc
 refine (Rn) ?_
 intro p24 c24
 refine (Q8) ?_
 have hle : 2 + (aH.gI B).length + 4 = (aa.cP B).length := by rw [aa.mY hl]; omega
 rw [hle, show [120, 1] ++ aH.gI B ++ [(aG.fk B) / 16777216, (aG.fk B) / 65536 % 256, (aG.fk B) / 256 % 256, (aG.fk B) % 256] = aa.cP B from by unfold aa.cP aG.jV; rfl]
 exact ag (av rfl) ⟨_, _, rfl, rfl⟩ (sub (ao (.cons ax .nil)) fV)
set_option maxHeartbeats 8000000 in
theorem EO (p : Option Addr) (c : Nat) (es : List Ce) (R : ad) (hR : ∀ w0 h, R w0 h → aE aP p es.length es w0 h) (hel : es.length ≤ 262144) (hok : ∀ x ∈ es, aa.jL x.ch) (hj : (aa.aX (es.map Ce.ch)).length ≤ 262144) : aA Tryz.prog 28 [.slice p es.length c] [R, DK es] (aF fun v G => ∃ q cq, v = .tuple #[.slice q (aa.aX (es.map Ce.ch)).length cq, .int .i64 0] ∧ G = [Row U5 q (aa.aX (es.map Ce.ch)).length cq (aa.aX (es.map Ce.ch)), R, DK es]) := by
 refine au [(0, _)] Tryz.func28 rfl Tryz.ntmps28 rfl rfl ?_
 intro w0 F
 refine (QH) ?_
 refine aj (MB) V.X8  rfl .nil rfl ?_
 rintro _ _ ⟨rfl, rfl⟩
 refine wR Tryz.underlying9 Tryz.underlying22 Tryz.underlying5 rfl (aa.bp aa.rJ) rfl ?_
 intro b10 c10
 refine (QM) ?_
 rw [show aa.ea = aa.aX ((es.map Ce.ch).take 0) from (aa.ON _).symm]
 refine gN (fun (i : Nat) (po : Option Addr) (co : Nat) => [(0, .slice p es.length c), (4, .slice po (aa.aX ((es.map Ce.ch).take i)).length co), (5, .bool false), (6, .int .i64 (i : Int))]) (fun (i : Nat) (po : Option Addr) (co : Nat) => Row U5 po (aa.aX ((es.map Ce.ch).take i)).length co (aa.aX ((es.map Ce.ch).take i)) :: R :: DK es :: F) (fun (i : Nat) (po : Option Addr) (co : Nat) => i ≤ es.length) (fun (i : Nat) (po : Option Addr) (co : Nat) => es.length - i) (i3 (0) (_) (_) ?_ (eg ln) (sub (eU .nil) ak)) ?_
 ·exact Nat.zero_le _
 intro i po co
 rintro hi
 refine rL TT 9 rfl ?_
 refine aD rfl (fun h14 => ?_) (fun h14 => ?_)
 ·refine (Qi) ?_
  have hcx := oL (es := es) (i := i) (by omega)
  have hxm := mh (i := i) (fun x => x ∈ es) (fun x hx => hx) (by omega)
  have hxo := hok _ hxm
  unfold aa.jL at hxo
  have hxn : aa.df (aP.g es (i : Int)).k := hxo.1
  have hxk : af.an (aP.g es (i : Int)).k := aa.qA hxn
  have hxl := aa.ze hxn
  have hxB : af.an (aP.g es (i : Int)).d := hxo.2.1
  have hjs := aa.ND hcx
  have hjl := aa.join_le (es.map Ce.ch) (i + 1)
  have hjl2 : (aa.aX ((es.map Ce.ch).take (i + 1))).length = (aa.aX ((es.map Ce.ch).take i)).length + (aa.e9 (aP.g es (i : Int)).ch).length := by rw [hjs, List.length_append]
  have hcb : (aa.e9 (aP.g es (i : Int)).ch).length = 4 + (aP.g es (i : Int)).k.length + (aP.g es (i : Int)).d.length + 4 := aa.Hj _
  refine (Q4) ?_
  refine oV (xI V.l8 (by exact bK hR dC))<|oV (bg V.s7 rfl)<|oV (gi (c := (aP)) 0 V.s9 rfl (by exact bK hR dC) (by omega) (by omega) rfl rfl)<|aj (DR (aP.g es (i : Int)).k hxk (by omega) true (decide_eq_true hxn).symm) V.YQ  rfl .nil rfl ?_
  rintro _ _ ⟨rfl, rfl⟩
  refine (Qe) ?_
  refine oV (xI V.l8 (by exact bK hR dC)) ?_
  refine oV (bg V.ql rfl) ?_
  refine oV (gi (c := (aP)) 1 V.jw rfl (by exact bK hR dC) (by omega) (by omega) rfl rfl) ?_
  refine (Qn) ?_
  refine (Q0) ?_
  refine (Qr) ?_
  refine (Q8) ?_
  refine (Q0) ?_
  refine (Qr) ?_
  refine rO TT 17 rfl ?_
  refine oV (dN (r := ((aP.g es (i : Int)).d.length : Int) / 16777216) rfl rfl (by decide) (af.lx (k := 24) (by decide) rfl)) ?_
  refine (w7) ?_
  refine (Q7) ?_
  refine oV (dN (r := ((aP.g es (i : Int)).d.length : Int) / 65536) rfl rfl (by decide) (af.lx (k := 16) (by decide) rfl)) ?_
  refine (w7) ?_
  refine (Q7) ?_
  refine oV (dN (r := ((aP.g es (i : Int)).d.length : Int) / 256) rfl rfl (by decide) (af.lx (k := 8) (by decide) rfl)) ?_
  refine (w7) ?_
  refine (Q7) ?_
  refine (w7) ?_
  refine cY (U5) [((aP.g es (i : Int)).d.length : Int) / 16777216 % 256, ((aP.g es (i : Int)).d.length : Int) / 65536 % 256, ((aP.g es (i : Int)).d.length : Int) / 256 % 256, ((aP.g es (i : Int)).d.length : Int) % 256] V.bE V.z5 rfl rfl rfl rfl rfl rfl ?_
  intro b53
  refine (Eb) ?_
  intro p54 c54
  refine (Q8) ?_
  refine jg [pz 0 [] [4], pz 0 [] [0], pz 0 [] [6], pz 6 [1, 2] [], pz 14 [3] [], pz 30 [4] [], pz 63 [0, 5] [], pz 0 [] [0], pz 0 [] [6], pz 384 [7, 8] [], pz 896 [9] [], pz 1920 [10] [], pz 4095 [6, 11] [], pz 8191 [12] []] [⟨fun y => Row U5 p54 ((aa.aX ((es.map Ce.ch).take i)).length + 4) c54 ((aa.aX ((es.map Ce.ch).take i)) ++ [((aP.g es (i : Int)).d.length : Int) / 16777216 % 256, ((aP.g es (i : Int)).d.length : Int) / 65536 % 256, ((aP.g es (i : Int)).d.length : Int) / 256 % 256, ((aP.g es (i : Int)).d.length : Int) % 256]), none, some 6, []⟩, ⟨fun y => Row U5 (some ⟨b53, 0, none⟩) 4 4 [((aP.g es (i : Int)).d.length : Int) / 16777216 % 256, ((aP.g es (i : Int)).d.length : Int) / 65536 % 256, ((aP.g es (i : Int)).d.length : Int) / 256 % 256, ((aP.g es (i : Int)).d.length : Int) % 256], none, none, []⟩, ⟨fun y => R, none, none, [3, 5, 9, 11]⟩, ⟨fun y => DK es, none, none, [12]⟩, ⟨fun y => Row (U5) (cB (y 6)) (((aa.aX ((es.map Ce.ch).take i)).length + 4) + ((aP.g es (i : Int)).k).length) (dS (y 6)) (((aa.aX ((es.map Ce.ch).take i)) ++ [((aP.g es (i : Int)).d.length : Int) / 16777216 % 256, ((aP.g es (i : Int)).d.length : Int) / 65536 % 256, ((aP.g es (i : Int)).d.length : Int) / 256 % 256, ((aP.g es (i : Int)).d.length : Int) % 256]) ++ ((aP.g es (i : Int)).k)), some 6, some 12, []⟩, ⟨fun y => Row (U5) (cB (y 12)) ((((aa.aX ((es.map Ce.ch).take i)).length + 4) + ((aP.g es (i : Int)).k).length) + (aP.g es (i : Int)).d.length) (dS (y 12)) ((((aa.aX ((es.map Ce.ch).take i)) ++ [((aP.g es (i : Int)).d.length : Int) / 16777216 % 256, ((aP.g es (i : Int)).d.length : Int) / 65536 % 256, ((aP.g es (i : Int)).d.length : Int) / 256 % 256, ((aP.g es (i : Int)).d.length : Int) % 256]) ++ ((aP.g es (i : Int)).k)) ++ (aP.g es (i : Int)).d), some 12, none, []⟩] F V.mixed (by kernel_rfl) rfl (fun _ => .refl _) (aS _ (aS _ (aS _ (aS _ (cI _ rfl (by intro y y2 h; simp only [h 6 (.inl rfl)]) (cI _ rfl (by intro y y2 h; simp only [h 12 (.inl rfl)]) fg)))))) ?_
  iterate 3 refine nM ?_
  refine (PH) ?_
  refine nG V.s7 ?_
  refine (Vs) ?_
  refine ek (fun y v => .slice (cB v) (((aa.aX ((es.map Ce.ch).take i)).length + 4) + ((aP.g es (i : Int)).k).length) (dS v)) (fun y v => True) _ _ (fun y v => [Row (U5) (cB v) (((aa.aX ((es.map Ce.ch).take i)).length + 4) + ((aP.g es (i : Int)).k).length) (dS v) (((aa.aX ((es.map Ce.ch).take i)) ++ [((aP.g es (i : Int)).d.length : Int) / 16777216 % 256, ((aP.g es (i : Int)).d.length : Int) / 65536 % 256, ((aP.g es (i : Int)).d.length : Int) / 256 % 256, ((aP.g es (i : Int)).d.length : Int) % 256]) ++ ((aP.g es (i : Int)).k))]) _ (fun y => rfl) (fun y => rfl) (fun y => rfl) (fun y => rfl) (fun y FF hA => uk (Cj (T := 5) V.bE Tryz.underlying9 V.z5 rfl rfl rfl (aa.bp hxk) dj (by omega)) (.refl _)) (by intros; rfl) (by intros; rfl) (by intros; rfl) (by intro y y2 h; simp only [h 6 (.inl rfl)]) (by intro y y2 h; rfl) ?_
  iterate 2 refine nM ?_
  refine (PH) ?_
  refine nG V.ql ?_
  refine (X4) ?_
  refine ek (fun y v => .slice (cB v) ((((aa.aX ((es.map Ce.ch).take i)).length + 4) + ((aP.g es (i : Int)).k).length) + (aP.g es (i : Int)).d.length) (dS v)) (fun y v => True) _ _ (fun y v => [Row (U5) (cB v) ((((aa.aX ((es.map Ce.ch).take i)).length + 4) + ((aP.g es (i : Int)).k).length) + (aP.g es (i : Int)).d.length) (dS v) ((((aa.aX ((es.map Ce.ch).take i)) ++ [((aP.g es (i : Int)).d.length : Int) / 16777216 % 256, ((aP.g es (i : Int)).d.length : Int) / 65536 % 256, ((aP.g es (i : Int)).d.length : Int) / 256 % 256, ((aP.g es (i : Int)).d.length : Int) % 256]) ++ ((aP.g es (i : Int)).k)) ++ (aP.g es (i : Int)).d)]) _ (fun y => rfl) (fun y => rfl) (fun y => rfl) (fun y => rfl) (fun y FF hA => uk (pN (c := (U5)) V.bE V.z5 rfl rfl rfl rfl dj (Rs (f := RX) dC hxm) (by omega)) (.refl _)) (by intros; rfl) (by intros; rfl) (by intros; rfl) (by intro y y2 h; simp only [h 6 (.inr (by decide)), h 12 (.inl rfl)]) (by intro y y2 h; rfl) ?_
  refine (VW) ?_
  refine (Qb) ?_
  intro y hA
  clear hA
  refine bj<|bD _ (.cons (d := 0) rfl (.cons (d := 4) rfl (.cons (d := 5) rfl (.cons (d := 6) rfl (.nil _)))))<|a7 (M := Row U5 (some ⟨b53, 0, none⟩) 4 4 [((aP.g es (i : Int)).d.length : Int) / 16777216 % 256, ((aP.g es (i : Int)).d.length : Int) / 65536 % 256, ((aP.g es (i : Int)).d.length : Int) / 256 % 256, ((aP.g es (i : Int)).d.length : Int) % 256] :: R :: DK es :: Row (U5) (cB (y 12)) ((((aa.aX ((es.map Ce.ch).take i)).length + 4) + ((aP.g es (i : Int)).k).length) + (aP.g es (i : Int)).d.length) (dS (y 12)) ((((aa.aX ((es.map Ce.ch).take i)) ++ [((aP.g es (i : Int)).d.length : Int) / 16777216 % 256, ((aP.g es (i : Int)).d.length : Int) / 65536 % 256, ((aP.g es (i : Int)).d.length : Int) / 256 % 256, ((aP.g es (i : Int)).d.length : Int) % 256]) ++ ((aP.g es (i : Int)).k)) ++ (aP.g es (i : Int)).d) :: F) (fun _ _ h => h)<|a7 (sub .nil (.skip (.keep (.keep (.keep .refl))))) ?_
  simp only [List.nil_append]
  generalize (cB (y 6)) = p61
  generalize (dS (y 6)) = c61
  generalize (cB (y 12)) = p67
  generalize (dS (y 12)) = c67
  refine (Qa) ?_
  refine wN [pz 0 [] [0], pz 0 [] [6], pz 3 [0, 1] [], pz 7 [2] [], pz 15 [3] [], pz 0 [] [0], pz 0 [] [6], pz 96 [5, 6] [], pz 224 [7] [], pz 480 [8] [], pz 1023 [4, 9] [], pz 2047 [10] []] [⟨fun y => R, none, none, [2, 4, 7, 9]⟩, ⟨fun y => DK es, none, none, [10]⟩, ⟨fun y => Row U5 p67 ((aa.aX ((es.map Ce.ch).take i)).length + 4 + (aP.g es (i : Int)).k.length + (aP.g es (i : Int)).d.length) c67 ((aa.aX ((es.map Ce.ch).take i)) ++ [((aP.g es (i : Int)).d.length : Int) / 16777216 % 256, ((aP.g es (i : Int)).d.length : Int) / 65536 % 256, ((aP.g es (i : Int)).d.length : Int) / 256 % 256, ((aP.g es (i : Int)).d.length : Int) % 256] ++ (aP.g es (i : Int)).k ++ (aP.g es (i : Int)).d), none, none, []⟩] F V.mixed ?_
  iterate 2 refine nM ?_
  refine (PH) ?_
  refine nG V.s7 ?_
  refine (Vs) ?_
  iterate 2 refine nM ?_
  refine nR (fun y FF hA => xI V.l8 (by exact bK hR aB)) ?_
  refine nG V.ql ?_
  refine nR (fun y FF hA => gi (c := (aP)) 1 V.jw rfl (by exact bK hR aB) (by omega) (by omega) rfl rfl) ?_
  refine nE (fun y FF hA => aV (Post := [DK es]) (Hm (aP.g es (i : Int)).k hxk (by omega) (aP.g es (i : Int)).p (aP.g es (i : Int)).c (aP.g es (i : Int)).d.length (aP.g es (i : Int)).d (DK es) (tj hxm) rfl (by omega) hxB) V.YB rfl (ao .nil) (fun v G h => by rcases h with ⟨rfl, rfl⟩; exact ⟨rfl, .refl _⟩)) ?_
  refine nA ?_
  refine cQ ?_
  intro y hA
  clear hA
  refine bj<|bD _ (.cons (d := 0) rfl (.cons (d := 4) rfl (.cons (d := 5) rfl (.cons (d := 6) rfl (.cons (d := 8) rfl (.nil _))))))<|a7 (M := R :: DK es :: Row U5 p67 ((aa.aX ((es.map Ce.ch).take i)).length + 4 + (aP.g es (i : Int)).k.length + (aP.g es (i : Int)).d.length) c67 ((aa.aX ((es.map Ce.ch).take i)) ++ [((aP.g es (i : Int)).d.length : Int) / 16777216 % 256, ((aP.g es (i : Int)).d.length : Int) / 65536 % 256, ((aP.g es (i : Int)).d.length : Int) / 256 % 256, ((aP.g es (i : Int)).d.length : Int) % 256] ++ (aP.g es (i : Int)).k ++ (aP.g es (i : Int)).d) :: F) (fun _ _ h => h)<|(Q4) ?_
  refine oV (dN (r := (aa.gf (aP.g es (i : Int)).k (aP.g es (i : Int)).d) / 16777216) rfl rfl (by decide) (aa.lD (n := 24) rfl (by decide) rfl))<|(vj)<|(Q7) ?_
  refine oV (dN (r := (aa.gf (aP.g es (i : Int)).k (aP.g es (i : Int)).d) / 65536) rfl rfl (by decide) (aa.lD (n := 16) rfl (by decide) rfl))<|(vj)<|(Q7) ?_
  refine oV (dN (r := (aa.gf (aP.g es (i : Int)).k (aP.g es (i : Int)).d) / 256) rfl rfl (by decide) (aa.lD (n := 8) rfl (by decide) rfl))<|(vj)<|(Q7)<|(vj) ?_
  refine cY (U5) [(aa.gf (aP.g es (i : Int)).k (aP.g es (i : Int)).d) / 16777216 % 256, (aa.gf (aP.g es (i : Int)).k (aP.g es (i : Int)).d) / 65536 % 256, (aa.gf (aP.g es (i : Int)).k (aP.g es (i : Int)).d) / 256 % 256, (aa.gf (aP.g es (i : Int)).k (aP.g es (i : Int)).d) % 256] V.bE V.z5 rfl rfl rfl rfl rfl rfl ?_
  intro zV
  refine ew (c := (U5)) V.bE V.z5 rfl rfl rfl rfl dk (own aB) (by omega) rfl ?_
  intro p92 c92
  refine (sY) ?_
  have hfin := aa.Rh (J := (aa.aX ((es.map Ce.ch).take i))) (k := (aP.g es (i : Int)).k) (d := (aP.g es (i : Int)).d) (n := ((aP.g es (i : Int)).d.length : Int)) (s := (aa.gf (aP.g es (i : Int)).k (aP.g es (i : Int)).d)) rfl rfl
  rw [show (aa.Ch.mk (aP.g es (i : Int)).k (aP.g es (i : Int)).d) = (aP.g es (i : Int)).ch from rfl, ← hjs] at hfin
  rw [hfin, show (aa.aX ((es.map Ce.ch).take i)).length + 4 + (aP.g es (i : Int)).k.length + (aP.g es (i : Int)).d.length + 4 = (aa.aX ((es.map Ce.ch).take (i + 1))).length from by omega]
  exact j3 (i + 1) _ _ ⟨by omega, by omega⟩ (eg ln) (sub (ao (.cons ax (.cons ax .nil))) bu)
 ·refine (Qs) ?_
  obtain rfl : i = es.length := by omega
  rw [show (es.map Ce.ch).take es.length = (es.map Ce.ch) from List.take_of_length_le (by rw [List.length_map]; exact Nat.le_refl _)]
  refine (Qf)<|(Q0)<|(Qr)<|(QK) ?_
  exact ag (ev rfl rfl) ⟨_, _, rfl, rfl⟩ (sub (eU .nil) ak)
end Go.Proofs.YtmaiakpjgomnpaaGreat
namespace Go.Proofs.YtmaiakpjgomnpaaGreat
open Go.Sl
theorem V.Wc : ay Tryz.prog 23 = true := by kernel_rfl
theorem V.Jj : ay Tryz.prog 27 = true := by kernel_rfl
theorem V.UR : ay Tryz.prog 28 = true := by kernel_rfl
theorem V.UA : iL Tryz.prog 62 = true := by kernel_rfl
end Go.Proofs.YtmaiakpjgomnpaaGreat
namespace Go.Proofs.YtmaiakpjgomnpaaGreat
open Go.Sl 
attribute [local irreducible] af.an aH.gI aa.cP aa.aX aa.e9 aa.df aa.bX aa.jM aa.eO aa.two aa.jj aa.kt aa.jL aa.parts
abbrev tz (P : List Int) (W H : Nat) (b : Nat) (q : Option Addr) (c : Nat) : List Ce := [Ce.mk aa.bR (some ⟨b, 0, none⟩) 13 (aa.hB (W : Int) (H : Int)), Ce.mk aa.aZ q c (aa.cP (aa.bX P W H)), Ce.mk aa.aY none 0 []]
theorem R9 {P : List Int} {W H : Nat} (s : aa.Sz P W H) (b : Nat) (q : Option Addr) (c : Nat) : ∀ x ∈ tz P W H b q c, aa.jL x.ch := fun x hx => by
 simp only [tz, List.mem_cons, List.not_mem_nil, or_false] at hx
 rcases hx with rfl | rfl | rfl
 ·exact (aa.s8 s _ (List.mem_cons_self ..)).1
 ·exact (aa.s8 s _ (List.mem_cons_of_mem _ (List.mem_cons_self ..))).1
 ·exact aa.nb
theorem H7 (P : List Int) (W H : Nat) (b : Nat) (q : Option Addr) (c : Nat) : aa.aX ((tz P W H b q c).map Ce.ch) = aa.eO P W H := by
 unfold aa.eO aa.kz
 rfl
theorem N9 {P : List Int} {W H : Nat} {b : Nat} {q : Option Addr} {c c1 : Nat} {w0 : World} {h : Hp} (hh : bZ w0 [Row U5 (some ⟨b, 0, none⟩) 13 c1 (aa.hB (W : Int) (H : Int)), Row U5 q (aa.cP (aa.bX P W H)).length c (aa.cP (aa.bX P W H))] h) : DK (tz P W H b q c) w0 h := by
 obtain ⟨h1, h2, _, l1, l2, a, h3, h4, _, l3, l4, d, _⟩ := hh
 intro x hx
 simp only [tz, List.mem_cons, List.not_mem_nil, or_false] at hx
 rcases hx with rfl | rfl | rfl
 ·exact (Row.Fg a).mono l1
 ·exact (Row.Fg d).mono (Hp.le_trans l3 l2)
 ·exact ⟨rfl, .inl rfl⟩
set_option maxHeartbeats 8000000 in
theorem Jz (P : List Int) (W H : Nat) (hs : aa.Sz P W H) (q : Option Addr) (cc : Nat) (hcap : P.length ≤ cc) (R : ad) (hR : ∀ w0 h, R w0 h → aE (aC 62 .u16) q P.length P w0 h) : aA Tryz.prog 22 [.agg #[.int .i64 (W : Int), .int .i64 (H : Int), .slice q P.length cc]] [R] (aF fun v G => ∃ q2 c2, v = .slice q2 (aa.eO P W H).length c2 ∧ G = [Row U5 q2 (aa.eO P W H).length c2 (aa.eO P W H), R]) := by
 refine au [(0, _)] Tryz.func22 rfl Tryz.ntmps22 rfl rfl ?_
 intro w0 F
 have hn := aa.WO hs
 have hw := hs.w
 have hh := hs.h
 refine (Qt)<|(tt) ?_
 intro b1
 refine (QM)<|(xF) ?_
 rw [show Row U5 none 0 0 [] = Row U5 none (aa.bX P W 0).length 0 (aa.bX P W 0) from by unfold aa.bX; rfl, show ((3 : Nat), Value.slice none 0 0) = (3, .slice none (aa.bX P W 0).length 0) from by unfold aa.bX; rfl]
 refine gN (fun (y : Nat) (po : Option Addr) (co : Nat) => [(1, .pointer (some ⟨b1, 0, none⟩)), (3, .slice po (aa.bX P W y).length co), (4, .int .i64 (y : Int))]) (fun (y : Nat) (po : Option Addr) (co : Nat) => Row U5 po (aa.bX P W y).length co (aa.bX P W y) :: ai b1 26 [.int .i64 (W : Int), .int .i64 (H : Int), .slice q P.length cc] :: R :: F) (fun (y : Nat) (po : Option Addr) (co : Nat) => y ≤ H) (fun (y : Nat) (po : Option Addr) (co : Nat) => H - y) (i3 (0) (none) (0) ?_ (gL ln) (sub (eU .nil) ak)) ?_
 ·exact Nat.zero_le _
 intro y po co
 rintro hy
 refine rL TT 5 rfl<|(QW)<|(Qg) ?_
 refine aD rfl (fun h13 => ?_) (fun h13 => ?_)
 ·refine (Qf) ?_
  have hle := aa.AR (y := y) hs (by omega)
  refine (Q9) ?_
  refine cY (U5) [0] V.bE V.z5 rfl rfl rfl rfl rfl rfl ?_
  intro OU
  refine (Eb) ?_
  intro p18 c18
  refine (Qn) ?_
  rw [show (aa.bX P W y).length + 1 = (aa.jM P W y 0).length from by rw [← aa.EK, List.length_append]; rfl, aa.EK]
  refine gN (fun (i : Nat) (pi : Option Addr) (ci : Nat) => [(1, .pointer (some ⟨b1, 0, none⟩)), (3, .slice pi (aa.jM P W y i).length ci), (4, .int .i64 (y : Int)), (5, .int .i64 (i : Int))]) (fun (i : Nat) (pi : Option Addr) (ci : Nat) => Row U5 pi (aa.jM P W y i).length ci (aa.jM P W y i) :: ai b1 26 [.int .i64 (W : Int), .int .i64 (H : Int), .slice q P.length cc] :: R :: F) (fun (i : Nat) (pi : Option Addr) (ci : Nat) => i ≤ 4 * W) (fun (i : Nat) (pi : Option Addr) (ci : Nat) => 4 * W - i) (i3 (0) (_) (_) ?_ (eg ln) (sub (ao (.cons ax (.cons ax .nil))) bu)) ?_
  ·exact Nat.zero_le _
  intro i pi ci
  rintro hi
  refine rL TT 5 rfl<|(QW)<|(ri) ?_
  refine aD rfl (fun h23 => ?_) (fun h23 => ?_)
  ·refine (Qf) ?_
   have hsg := aa.EI (y := y) (i := i) hs.len (by omega) (by omega)
   have hWy : 4 * (W : Int) * (y : Int) = ((4 * W * y : Nat) : Int) := by rw [Int.natCast_mul, Int.natCast_mul]; rfl
   have hq : (aC 62 .u16).g P (((4 * W * y : Nat) : Int) + (i : Int)) = (P.getD (4 * W * y + i) 0) := gE (4 * W * y + i) (by omega)
   have hv := hs.u.get (4 * W * y + i)
   refine (Q9)<|(zp)<|(Ep)<|(QW)<|(pS) ?_
   refine oV (gG (r := ((4 * W * y : Nat) : Int)) rfl rfl (by rw [hWy]; exact fi (by omega) (by omega)))<|(pS) ?_
   refine oV (xI V.hG (by exact bK hR dJ))<|oV (xL V.l9 (by exact bK hR dJ)) ?_
   rw [hq]
   refine (Qg) ?_
   have hle := aa.Jw (y := y) (i := i) hs (by omega) (by omega)
   refine (Q4) ?_
   refine oV (dN (r := (P.getD (4 * W * y + i) 0) / 256) rfl rfl (by decide) (af.lx (k := 8) (by decide) rfl))<|oV (cF V.UA Tryz.underlying5 rfl (mn (by omega) (by omega)))<|(Q7) ?_
   refine oV (cF V.UA Tryz.underlying5 rfl (aa.ft _))<|cY (U5) [(P.getD (4 * W * y + i) 0) / 256, (P.getD (4 * W * y + i) 0) % 256] V.bE V.z5 rfl rfl rfl rfl rfl rfl ?_
   intro b43
   refine (Eb) ?_
   intro p44 c44
   refine (sY) ?_
   have hfin := aa.Mz (y := y) (i := i) hs.len (by omega) (by omega)
   have hln : (aa.jM P W y i).length + 2 = (aa.jM P W y (i + 1)).length := by rw [← hfin, List.length_append]; rfl
   rw [hfin, hln]
   exact j3 (i + 1) _ _ ⟨by omega, by omega⟩ (eg ln) (sub (ao (.cons ax (.cons ax .nil))) bu)
  ·refine jJ TT 11 rfl (by omega) ?_
   obtain rfl : i = 4 * W := by omega
   rw [aa.RU hs.len (by omega)]
   exact j3 (y + 1) _ _ ⟨by omega, by omega⟩ (gL ln) (sub (eU .nil) ak)
 ·refine rC TT 8 rfl<|(QW) ?_
  refine oV (dN (r := (W : Int) / 256) rfl rfl (by decide) (af.lx (k := 8) (by decide) rfl))<|(nF)<|(Ep)<|(QW)<|(w7)<|(HE)<|(QW) ?_
  refine oV (dN (r := (H : Int) / 256) rfl rfl (by decide) (af.lx (k := 8) (by decide) rfl))<|(nF)<|(HE)<|(QW)<|(w7) ?_
  refine yO (T := 5) (k := .u8) (aa.hB (W : Int) (H : Int)) V.bE V.z5 rfl rfl rfl rfl ?_
  intro b59
  refine (Q8) ?_
  obtain rfl : H = y := by omega
  have hle := aa.nC hs
  have hpl := aa.pn hs
  have hcl := aa.mY (B := aa.bX P W H) (by omega)
  refine gu (fun w hi => eX hi (show Row U5 po (aa.bX P W H).length co (aa.bX P W H) ∈ _ by exact dC)) (fun hco => ?_)
  refine (Q9) ?_
  refine oV (cR V.uo V.u9 rfl (cs := [_, _]) rfl)<|(Q7) ?_
  refine aj (za po co (aa.bX P W H) (Row U5 po (aa.bX P W H).length co (aa.bX P W H)) (fun w0 h hh => ⟨hh.1, hh.2.rd⟩) (by omega) (aa.nO W hs.u H) hco) V.Jj  rfl (.cons ax .nil) rfl ?_
  rintro _ _ ⟨qz, cz, rfl, rfl⟩
  iterate 2 refine oV (cR V.uo V.u9 rfl (cs := [_, _]) rfl) ?_
  refine cY (aP) (tz P W H b59 qz cz) V.l8 V.u9 rfl rfl rfl rfl rfl rfl ?_
  intro H5
  refine Tu (aM (A := DK (tz P W H b59 qz cz)) (.cons dk (.cons ax .nil)) ak (fun w0 h hh => N9 (P := P) (W := W) (H := H) hh))<|aj (EO (some ⟨H5, 0, none⟩) 3 (tz P W H b59 qz cz) (Row aP (some ⟨H5, 0, none⟩) 3 3 (tz P W H b59 qz cz)) (fun w0 h hh => ⟨hh.1, hh.2.rd⟩) (show 3 ≤ 262144 by decide) (R9 hs _ _ _) (by rw [H7, hpl]; omega)) V.UR  rfl (.cons ax (ao .nil)) rfl ?_
  rintro _ _ ⟨qj, cj, rfl, rfl⟩
  rw [H7]
  refine (QK) ?_
  exact ag (av rfl) ⟨_, _, rfl, rfl⟩ (sub (ao (.cons iB .nil)) kv)
end Go.Proofs.YtmaiakpjgomnpaaGreat
namespace Go.Proofs.YtmaiakpjgomnpaaGreat
open Go.Sl
theorem V.NW : ay Tryz.prog 14 = true := by kernel_rfl
theorem V.X7 : ay Tryz.prog 22 = true := by kernel_rfl
end Go.Proofs.YtmaiakpjgomnpaaGreat
namespace Go.Proofs.YtmaiakpjgomnpaaGreat
open Go.Sl 
attribute [local irreducible] af.an aH.gI aa.cP aa.aX aa.e9 aa.df aa.bX aa.eO aa.two aa.jj aa.kt aa.jL
set_option maxHeartbeats 8000000 in
theorem KC  : aA Tryz.prog 13 [] [] (aF fun v G => v = .bool true ∧ G = []) := by
 refine au [] Tryz.func13 rfl Tryz.ntmps13 rfl rfl ?_
 intro w0 F
 refine rT TT 7 rfl<|aj (JN 1 1 (by decide)) V.X9  rfl .nil rfl ?_
 rintro _ _ ⟨bq, rfl, rfl⟩
 rw [show (4 * (1 : Int) * 1).toNat = 4 from rfl, show List.replicate 4 (0 : Int) = [0, 0, 0, 0] from rfl]
 refine (Qg)<|(vF) ?_
 intro b1
 refine (Du) ?_
 refine (Q8) ?_
 refine wN [pz 0 [] [1], pz 1 [0] [], pz 0 [] [1], pz 4 [2] [], pz 3 [1] [], pz 19 [4] [], pz 63 [3] [], pz 127 [6] []] [⟨fun y => ai b1 26 [.int .i64 1, .int .i64 1, .slice (some ⟨bq, 0, none⟩) 4 4], none, none, [1, 3]⟩, ⟨fun y => Row (aC 62 .u16) (some ⟨bq, 0, none⟩) 4 4 [0, 0, 0, 0], none, some 5, [4]⟩, ⟨fun y => Row (aC 62 .u16) (some ⟨bq, 0, none⟩) 4 4 (([0, 0, 0, 0]).set (2 : Int).toNat 7), some 5, some 7, [6]⟩, ⟨fun y => Row (aC 62 .u16) (some ⟨bq, 0, none⟩) 4 4 ((([0, 0, 0, 0]).set (2 : Int).toNat 7).set (3 : Int).toNat 65535), some 7, none, []⟩] F V.mixed ?_
 refine nG V.vS ?_
 refine (P5) ?_
 refine nG V.vS ?_
 refine (P5) ?_
 refine (Wf) ?_
 refine (Vp) ?_
 refine (Wf) ?_
 refine (Vp) ?_
 refine (Qb) ?_
 intro y hA
 clear hA
 refine bj<|bD _ (.cons (d := 1) rfl (.nil _))<|a7 (M := ai b1 26 [.int .i64 1, .int .i64 1, .slice (some ⟨bq, 0, none⟩) 4 4] :: Row (aC 62 .u16) (some ⟨bq, 0, none⟩) 4 4 ((([0, 0, 0, 0]).set (2 : Int).toNat 7).set (3 : Int).toNat 65535) :: F) (fun _ _ h => h)<|(Qa) ?_
 rw [show (([0, 0, 0, 0] : List Int).set ((2 : Int)).toNat 7).set ((3 : Int)).toNat 65535 = [0, 0, 7, 65535] from rfl]
 have hpl := aa.pn aa.D8
 have hrl := aa.nC aa.D8
 have hcl := aa.mY (B := aa.bX [0, 0, 7, 65535] 1 1) (by omega)
 refine (Qo)<|(wT) ?_
 refine aj (Jz [0, 0, 7, 65535] 1 1 aa.D8 (some ⟨bq, 0, none⟩) 4 (by decide) (Row (aC 62 .u16) (some ⟨bq, 0, none⟩) 4 4 [0, 0, 7, 65535]) (fun w0 h hh => ⟨hh.1, hh.2.rd⟩)) V.X7  rfl (.cons ax .nil) rfl ?_
 rintro _ _ ⟨q2, c2, rfl, rfl⟩
 refine Ea (fun w hi => eX hi (show Row U5 q2 (aa.eO [0, 0, 7, 65535] 1 1).length c2 (aa.eO [0, 0, 7, 65535] 1 1) ∈ _ by exact aB)) (fun hc2 => ?_)
 refine aj (r6 q2 c2 (aa.eO [0, 0, 7, 65535] 1 1) (Row U5 q2 (aa.eO [0, 0, 7, 65535] 1 1).length c2 (aa.eO [0, 0, 7, 65535] 1 1)) (fun w0 h hh => ⟨hh.1, hh.2.rd⟩) (by omega) (aa.Cq aa.D8) hc2 _ (aa.CW aa.D8)) V.NW  rfl (ao .nil) rfl ?_
 rintro _ _ ⟨qd, nd, cd, rfl, hnd, hcd, rfl⟩
 obtain rfl : nd = 4 := hnd.symm
 refine (Qg)<|(vF) ?_
 intro b3
 refine (Du)<|(Q8)<|(xF)<|(Qo) ?_
 refine aj (r6 none 0 [] (Row U5 none 0 0 []) (fun w0 h hh => ⟨hh.1, hh.2.rd⟩) (by decide) aH.gj (by decide) _ aa.LB) V.NW  rfl (ao .nil) rfl ?_
 rintro _ _ ⟨qe, ne, ce, rfl, hne, hce, rfl⟩
 obtain rfl : ne = 0 := hne.symm
 refine (Qg)<|(vF) ?_
 intro b5
 refine (Du)<|(Q1)<|(Qv)<|(qW) ?_
 refine oV (eC V.gJ rfl Jo (vs := [_, _, _]) rfl rfl)<|(Q0) ?_
 refine oV (eC V.gJ rfl gq (vs := [_, _, _]) rfl rfl)<|(Q0) ?_
 refine aj (RR 1 1 (some ⟨bq, 0, none⟩) 4 4 [0, 0, 7, 65535] rfl (Row (aC 62 .u16) (some ⟨bq, 0, none⟩) 4 4 [0, 0, 7, 65535]) (fun w0 h hh => ⟨hh.1, hh.2.rd⟩) 1 1 qd 4 cd [0, 0, 7, 65535] rfl (Row (aC 62 .u16) qd 4 cd [0, 0, 7, 65535]) (fun w0 h hh => ⟨hh.1, hh.2.rd⟩) (by decide) true (decide_eq_true (by unfold aa.jj; exact ⟨⟨by decide, rfl⟩, ⟨by decide, rfl⟩, rfl, rfl, rfl⟩)).symm) V.Wc  rfl (.cons oQ (.cons iB .nil)) rfl ?_
 rintro _ _ ⟨rfl, rfl⟩
 refine rO TT 3 rfl ?_
 refine cN rfl ?_
 refine oV (c9 (dz rfl rfl) (by omega)) ?_
 refine rO TT 2 rfl ?_
 refine cN rfl ?_
 refine aj (iy 6) V.qf  rfl .nil rfl ?_
 rintro _ _ ⟨rfl, rfl⟩
 refine (Q0)<|(xX)<|(Q3) ?_
 exact ag (av rfl) ⟨rfl, rfl⟩ (sub .nil N6)
end Go.Proofs.YtmaiakpjgomnpaaGreat
namespace Go.Proofs.YtmaiakpjgomnpaaGreat
open Go.Sl
theorem V.xJ : ay Tryz.prog 13 = true := by kernel_rfl
end Go.Proofs.YtmaiakpjgomnpaaGreat
namespace Go.Proofs.YtmaiakpjgomnpaaGreat
open Go.Sl
end Go.Proofs.YtmaiakpjgomnpaaGreat
namespace Go.aa
open Go.af Go.Sl
def Hg (l : List Ch) (q : List Int × Int) : oN × Int :=
  if q.2 ≠ 0 then (dL, q.2) else if (q.1.length : Int) < want (aL (du l)) then (dL, 2)
  else match eA (oD l) q.1 (aN (aL (du l))) 0 (iZ (aL (du l))) with
    | none => (dL, 4)
    | some bN => (⟨(aL (du l)).w, (aL (du l)).h, bN⟩, 0)
def MN (l : List Ch) : Prop := mb (aL (du l)) (bC l aT) (dV l aT) (bC l aQ) (dV l aQ)
theorem JA {B : List Int} {l : List Ch} {q : List Int × Int} (hc : cut B = .ok l) (ho : cJ l = true) (hh : eJ (du l) = 0) (ht : MN l) (hq : aG.lR (bW l) (want (aL (du l))) q) : kt B (Hg l q) := by
  unfold kt
  rw [hc]
  simp only
  rw [if_neg (by rw [ho]; decide), if_neg (fun h => h hh), if_neg (fun h => h ht)]
  refine ⟨q, hq, ?_⟩
  unfold Hg
  split
  · rfl
  · show (if (q.1.length : Int) < want (aL (du l)) then _ else _)
    split
    · rfl
    · show (match eA (oD l) q.1 (aN (aL (du l))) 0 (iZ (aL (du l))) with | none => _ | some bN => _)
      cases eA (oD l) q.1 (aN (aL (du l))) 0 (iZ (aL (du l))) <;> rfl
def H6 : List Int := [97, 98, 99, 100]
def VZ (k : Nat) (w h : Int) : List Int := [0, 0, w / 256, w % 256, 0, 0, h / 256, h % 256, 16, if k = 6 then 5 else 6, 0, 0, 0]
def WK (k : Nat) (R : List Int) : List Int := if k = 1 then R.take (R.length - 1) else if k = 2 then R ++ [0] else if k = 3 then R.set 0 5 else R
def PL (k : Nat) : List Ch := if k = 4 then [⟨aQ, [0, 0]⟩] else if k = 5 then [⟨aT, [1, 2, 3, 4]⟩] else []
def tL (k : Nat) (w h : Int) (z : List Int) : List Ch := ⟨bR, VZ k w h⟩ :: ⟨H6, []⟩ :: (PL k ++ [⟨aZ, z⟩, ⟨aY, []⟩])
def tE (k : Nat) : Int := if k = 0 then 0 else if k = 1 then 2 else if k = 2 then 6 else 4
def tF (k : Nat) (P : List Int) (W H : Nat) : List Int := aX (tL k (W : Int) (H : Int) (cP (WK k (bX P W H))))
def tR (k : Nat) (P : List Int) (W H : Nat) : oN × Int := if k = 0 then (⟨(W : Int), (H : Int), P⟩, 0) else (dL, tE k)
def tI (k : Nat) (w h : Int) (z : List Int) : List Ch := ⟨bR, VZ k w h⟩ :: ⟨H6, []⟩ :: (PL k ++ [⟨aZ, z⟩])
end Go.aa
namespace Go.aa
open Go.af Go.Sl
def mM (kind : Int) (row above : List Int) (back i : Nat) : Int := (row.getD i 0 - ly kind (gz row i back) (above.getD i 0) (gz above i back)) % 256
def ti (kind : Int) (row above : List Int) (back n : Nat) : List Int := (List.range n).map (mM kind row above back)
def iU (kind : Int) (row above : List Int) (back : Nat) : List Int := ti kind row above back row.length
theorem mX (kind : Int) (row above : List Int) (back n : Nat) : (ti kind row above back n).length = n := by simp [ti]
theorem SU (kind : Int) (row above : List Int) (back n : Nat) : ti kind row above back (n + 1) = ti kind row above back n ++ [mM kind row above back n] := by simp [ti, List.range_succ]
theorem tW (kind : Int) (row above : List Int) (back : Nat) : (iU kind row above back).length = row.length := mX ..
theorem Sj (kind : Int) (row above : List Int) (back i : Nat) : 0 ≤ mM kind row above back i ∧ mM kind row above back i < 256 := by unfold mM; omega
theorem Kt (kind : Int) (row above : List Int) (back : Nat) : an (iU kind row above back) := fun x hx => by
  obtain ⟨i, _, rfl⟩ := List.mem_map.1 hx
  exact Sj ..
theorem KL {kind : Int} {row above : List Int} {back i : Nat} (h : i < row.length) : (iU kind row above back).getD i 0 = mM kind row above back i := by
  unfold iU ti
  rw [List.getD_eq_getElem?_getD, List.getElem?_map, List.getElem?_range h]
  rfl
theorem Sk {kind : Int} {row above : List Int} {back : Nat} (h : an row) (h0 : 0 < back) : eB kind (iU kind row above back) above back = row := by
  have e : ∀ i, i ≤ row.length → gp kind (iU kind row above back) above back i = row.take i := by
    intro i
    induction i with
    | zero => intro _; simp [gp]
    | succ i ih =>
      intro hi
      have hb := h.get i
      rw [gp, ih (by omega), ab.gR (by omega)]
      have e1 : gz (row.take i) i back = gz row i back := by
        unfold gz
        split
        · rfl
        · rw [List.getD_eq_getElem?_getD, List.getD_eq_getElem?_getD, List.getElem?_take, if_pos (by omega)]
      have e2 : iL kind (iU kind row above back) above back (row.take i) i = row.getD i 0 := by
        unfold iL
        rw [e1, KL (by omega)]
        unfold mM
        omega
      rw [e2]
  rw [eB, tW, e _ (Nat.le_refl _), List.take_length]
def bt (bs : List Int) (n m : Nat) : Int := if m < n then bs.getD m 0 else 0
def jO (bs : List Int) (n j : Nat) : Int := 128 * bt bs n (8 * j) + 64 * bt bs n (8 * j + 1) + 32 * bt bs n (8 * j + 2) + 16 * bt bs n (8 * j + 3) + 8 * bt bs n (8 * j + 4) + 4 * bt bs n (8 * j + 5) + 2 * bt bs n (8 * j + 6) + bt bs n (8 * j + 7)
def gU (bs : List Int) (n : Nat) : List Int := (List.range ((bs.length + 7) / 8)).map (jO bs n)
def dZ (bs : List Int) : List Int := gU bs bs.length
def ma (bs : List Int) : Prop := ∀ x ∈ bs, x = 0 ∨ x = 1
theorem ma.get {bs : List Int} (h : ma bs) (i : Nat) : bs.getD i 0 = 0 ∨ bs.getD i 0 = 1 := by
  rcases Nat.lt_or_ge i bs.length with k | k
  · rw [List.getD_eq_getElem?_getD, List.getElem?_eq_getElem k]; exact h _ (List.getElem_mem k)
  · rw [List.getD_eq_getElem?_getD, List.getElem?_eq_none k]; exact .inl rfl
theorem eR {bs : List Int} (h : ma bs) (n m : Nat) : 0 ≤ bt bs n m ∧ bt bs n m ≤ 1 := by
  unfold bt
  split
  · rcases h.get m with h | h <;> rw [h] <;> decide
  · decide
theorem lK (bs : List Int) (n : Nat) : (gU bs n).length = (bs.length + 7) / 8 := by simp [gU]
theorem uu (bs : List Int) : (dZ bs).length = (bs.length + 7) / 8 := lK ..
theorem w6 {bs : List Int} (h : ma bs) (n j : Nat) : 0 ≤ jO bs n j ∧ jO bs n j < 256 := by
  have h0 := eR h n (8 * j)
  have h1 := eR h n (8 * j + 1)
  have h2 := eR h n (8 * j + 2)
  have h3 := eR h n (8 * j + 3)
  have h4 := eR h n (8 * j + 4)
  have h5 := eR h n (8 * j + 5)
  have h6 := eR h n (8 * j + 6)
  have h7 := eR h n (8 * j + 7)
  unfold jO
  omega
theorem zA {bs : List Int} (h : ma bs) (n : Nat) : an (gU bs n) := fun x hx => by
  obtain ⟨i, _, rfl⟩ := List.mem_map.1 hx
  exact w6 h n i
theorem qx {bs : List Int} {n j : Nat} (hj : j < (bs.length + 7) / 8) : (gU bs n).getD j 0 = jO bs n j := by
  unfold gU
  rw [List.getD_eq_getElem?_getD, List.getElem?_map, List.getElem?_range hj]
  rfl
theorem SV (bs : List Int) : gU bs 0 = List.replicate ((bs.length + 7) / 8) 0 := by
  refine List.eq_replicate_iff.2 ⟨lK bs 0, fun x hx => ?_⟩
  obtain ⟨i, _, rfl⟩ := List.mem_map.1 hx
  simp [jO, bt]
theorem Nu (k : Nat) (h : k < 8) : k = 0 ∨ k = 1 ∨ k = 2 ∨ k = 3 ∨ k = 4 ∨ k = 5 ∨ k = 6 ∨ k = 7 := by omega
theorem TH {bs : List Int} (n : Nat) : jO bs (n + 1) (n / 8) = jO bs n (n / 8) + bs.getD n 0 * 2 ^ (7 - n % 8) := by
  have hn : n = 8 * (n / 8) + n % 8 := by omega
  have hk := Nu (n % 8) (by omega)
  generalize n / 8 = j at hn ⊢
  generalize n % 8 = k at hn hk ⊢
  subst hn
  have e : ∀ i, bt bs (8 * j + k + 1) (8 * j + i) = bt bs (8 * j + k) (8 * j + i) + if i = k then bs.getD (8 * j + k) 0 else 0 := fun i => by
    unfold bt
    by_cases h1 : i < k
    · rw [if_pos (by omega), if_pos (by omega), if_neg (by omega), Int.add_zero]
    · by_cases h2 : i = k
      · rw [if_pos (by omega), if_neg (by omega), if_pos h2, h2, Int.zero_add]
      · rw [if_neg (by omega), if_neg (by omega), if_neg h2]; rfl
  have e0 : bt bs (8 * j + k + 1) (8 * j) = bt bs (8 * j + k) (8 * j) + if 0 = k then bs.getD (8 * j + k) 0 else 0 := e 0
  unfold jO
  rw [e0, e 1, e 2, e 3, e 4, e 5, e 6, e 7]
  generalize bs.getD (8 * j + k) 0 = x
  rcases hk with rfl | rfl | rfl | rfl | rfl | rfl | rfl | rfl <;> simp only [Nat.reduceEqDiff, if_true, if_false, Nat.reduceSub, Int.reducePow, reduceCtorEq] <;> omega
theorem TE {bs : List Int} {n j : Nat} (h : j ≠ n / 8) : jO bs (n + 1) j = jO bs n j := by
  have e : ∀ i, i < 8 → bt bs (n + 1) (8 * j + i) = bt bs n (8 * j + i) := fun i hi => by
    unfold bt
    by_cases h1 : 8 * j + i < n
    · rw [if_pos (by omega), if_pos h1]
    · rw [if_neg (by omega), if_neg h1]
  have e0 : bt bs (n + 1) (8 * j) = bt bs n (8 * j) := e 0 (by decide)
  unfold jO
  rw [e0, e 1 (by decide), e 2 (by decide), e 3 (by decide), e 4 (by decide), e 5 (by decide), e 6 (by decide), e 7 (by decide)]
theorem SD {bs : List Int} {n : Nat} (h : n < bs.length) : gU bs (n + 1) = (gU bs n).set (n / 8) ((gU bs n).getD (n / 8) 0 + bs.getD n 0 * 2 ^ (7 - n % 8)) := by
  refine List.ext_getElem (by rw [List.length_set, lK, lK]) (fun i h1 h2 => ?_)
  rw [lK] at h1
  rw [List.getElem_set]
  have e := qx (bs := bs) (n := n) (j := n / 8) (by omega)
  have e2 := TH (bs := bs) n
  have e3 : ∀ k (hk : i < (gU bs k).length), (gU bs k)[i] = jO bs k i := fun k hk => by simp only [gU, List.getElem_map, List.getElem_range]
  rw [e3, e3, e, ← e2]
  by_cases hi : n / 8 = i
  · rw [if_pos hi, hi]
  · rw [if_neg hi, TE (fun h => hi h.symm)]
theorem Hh {bs : List Int} (hb : ma bs) (n : Nat) : jO bs n (n / 8) / 2 ^ (7 - n % 8) % 2 = 0 := by
  have hn : n = 8 * (n / 8) + n % 8 := by omega
  have hk := Nu (n % 8) (by omega)
  generalize n / 8 = j at hn ⊢
  generalize n % 8 = k at hn hk ⊢
  subst hn
  have e : ∀ i, k ≤ i → bt bs (8 * j + k) (8 * j + i) = 0 := fun i hi => by
    unfold bt
    rw [if_neg (by omega)]
  have h0 := eR hb (8 * j + k) (8 * j)
  have h1 := eR hb (8 * j + k) (8 * j + 1)
  have h2 := eR hb (8 * j + k) (8 * j + 2)
  have h3 := eR hb (8 * j + k) (8 * j + 3)
  have h4 := eR hb (8 * j + k) (8 * j + 4)
  have h5 := eR hb (8 * j + k) (8 * j + 5)
  have h6 := eR hb (8 * j + k) (8 * j + 6)
  have h7 := eR hb (8 * j + k) (8 * j + 7)
  have e0 : k = 0 → bt bs (8 * j + k) (8 * j) = 0 := fun h => by have := e 0 (by omega); rwa [Nat.add_zero] at this
  have e1 := e 1
  have e2 := e 2
  have e3 := e 3
  have e4 := e 4
  have e5 := e 5
  have e6 := e 6
  have e7 := e 7
  clear e
  unfold jO
  generalize bt bs (8 * j + k) (8 * j) = b0 at *
  generalize bt bs (8 * j + k) (8 * j + 1) = b1 at *
  generalize bt bs (8 * j + k) (8 * j + 2) = b2 at *
  generalize bt bs (8 * j + k) (8 * j + 3) = b3 at *
  generalize bt bs (8 * j + k) (8 * j + 4) = b4 at *
  generalize bt bs (8 * j + k) (8 * j + 5) = b5 at *
  generalize bt bs (8 * j + k) (8 * j + 6) = b6 at *
  generalize bt bs (8 * j + k) (8 * j + 7) = b7 at *
  rcases hk with rfl | rfl | rfl | rfl | rfl | rfl | rfl | rfl <;> simp only [Nat.reduceSub, Int.reducePow, Nat.reduceLeDiff, forall_const] at * <;> omega
theorem Nz {bs : List Int} (hb : ma bs) {i : Nat} (h : i < bs.length) : fK (dZ bs) i = bs.getD i 0 := by
  unfold fK dZ
  rw [qx (by omega)]
  have hn : i = 8 * (i / 8) + i % 8 := by omega
  have hk := Nu (i % 8) (by omega)
  have h0 := eR hb bs.length (8 * (i / 8))
  have h1 := eR hb bs.length (8 * (i / 8) + 1)
  have h2 := eR hb bs.length (8 * (i / 8) + 2)
  have h3 := eR hb bs.length (8 * (i / 8) + 3)
  have h4 := eR hb bs.length (8 * (i / 8) + 4)
  have h5 := eR hb bs.length (8 * (i / 8) + 5)
  have h6 := eR hb bs.length (8 * (i / 8) + 6)
  have h7 := eR hb bs.length (8 * (i / 8) + 7)
  have e : bt bs bs.length (8 * (i / 8) + i % 8) = bs.getD i 0 := by rw [← hn]; unfold bt; rw [if_pos h]
  unfold jO
  rw [← e]
  clear e hb h
  generalize i / 8 = j at *
  generalize i % 8 = k at *
  rcases hk with rfl | rfl | rfl | rfl | rfl | rfl | rfl | rfl <;> simp only [Nat.reduceSub, Int.reducePow, Nat.add_zero] at * <;> omega
def ij (x : Int) (d : Nat) : List Int := (List.range d).map fun i => x / 2 ^ (d - 1 - i) % 2
def cm (l : List Int) (d : Nat) : List Int := l.flatMap fun x => ij x d
theorem mH (x : Int) (d : Nat) : (ij x d).length = d := by simp [ij]
theorem CG (x : Int) (d : Nat) : ma (ij x d) := fun y hy => by
  obtain ⟨i, _, rfl⟩ := List.mem_map.1 hy
  generalize x / 2 ^ (d - 1 - i) = z
  omega
theorem DP {x : Int} {d i : Nat} (h : i < d) : (ij x d).getD i 0 = x / 2 ^ (d - 1 - i) % 2 := by
  unfold ij
  rw [List.getD_eq_getElem?_getD, List.getElem?_map, List.getElem?_range h]
  rfl
theorem TF (l : List Int) (x : Int) (d : Nat) : cm (l ++ [x]) d = cm l d ++ ij x d := by simp [cm]
theorem qE : ∀ (l : List Int) (d : Nat), (cm l d).length = l.length * d
  | [], d => by simp [cm]
  | x :: l, d => by
    have e : cm (x :: l) d = ij x d ++ cm l d := rfl
    rw [e, List.length_append, qE l d, mH, List.length_cons, Nat.succ_mul, Nat.add_comm]
theorem uv (l : List Int) (d : Nat) : ma (cm l d) := fun y hy => by
  obtain ⟨x, _, h⟩ := List.mem_flatMap.1 hy
  exact CG x d y h
theorem Aq : ∀ (l : List Int) {d j i : Nat}, j < l.length → i < d → (cm l d).getD (j * d + i) 0 = l.getD j 0 / 2 ^ (d - 1 - i) % 2
  | [], d, j, i, h, _ => by simp at h
  | x :: l, d, 0, i, _, hi => by
    have e : cm (x :: l) d = ij x d ++ cm l d := rfl
    rw [e, Nat.zero_mul, Nat.zero_add, List.getD_eq_getElem?_getD, List.getElem?_append_left (by rw [mH]; exact hi), ← List.getD_eq_getElem?_getD, DP hi]
    rfl
  | x :: l, d, j + 1, i, h, hi => by
    have e : cm (x :: l) d = ij x d ++ cm l d := rfl
    have e2 : (j + 1) * d + i = d + (j * d + i) := by rw [Nat.succ_mul]; omega
    rw [e, e2, List.getD_eq_getElem?_getD, List.getElem?_append_right (by rw [mH]; omega), mH, Nat.add_sub_cancel_left, ← List.getD_eq_getElem?_getD, Aq l (by simpa using h) hi]
    rfl
theorem Kj (y : Int) (n : Nat) : 2 * (y / 2 % 2 ^ n) + y % 2 = y % (2 ^ n * 2) := by
  have hp : (0 : Int) < 2 ^ n := Int.pow_pos (by decide)
  have h1 := Int.mul_ediv_add_emod y 2
  have h2 := Int.mul_ediv_add_emod (y / 2) (2 ^ n)
  have h3 := Int.emod_nonneg (y / 2) (Int.ne_of_gt hp)
  have h4 := Int.emod_lt_of_pos (y / 2) hp
  generalize y / 2 % 2 ^ n = a at *
  generalize y / 2 / 2 ^ n = b at *
  have e : y = 2 * a + y % 2 + (2 ^ n * 2) * b := by
    have : (2 ^ n * 2) * b = 2 * (2 ^ n * b) := by rw [Int.mul_comm (2 ^ n) 2, Int.mul_assoc]
    omega
  have h5 : 2 * a + y % 2 < 2 ^ n * 2 := by omega
  conv => rhs; rw [e]
  rw [Int.add_mul_emod_self_left, Int.emod_eq_of_lt (by omega) h5]
theorem AM {l : List Int} {d j : Nat} (h : j < l.length) : ∀ n, n ≤ d → bO (dZ (cm l d)) (j * d) n = l.getD j 0 / 2 ^ (d - n) % 2 ^ n
  | 0, _ => by simp [bO, Int.emod_one]
  | n + 1, hn => by
    have hlen : j * d + n < (cm l d).length := by
      rw [qE]
      calc j * d + n < j * d + d := by omega
        _ = (j + 1) * d := (Nat.succ_mul _ _).symm
        _ ≤ l.length * d := Nat.mul_le_mul_right _ h
    rw [bO, AM h n (by omega), Nz (uv l d) hlen, Aq l h (by omega)]
    have e1 : d - 1 - n = d - (n + 1) := by omega
    have e2 : (2 : Int) ^ (d - n) = 2 ^ (d - (n + 1)) * 2 := by rw [← Int.pow_succ, show (d - (n + 1)).succ = d - n by omega]
    rw [e1, e2, ← Int.ediv_ediv_of_nonneg (Int.le_of_lt (Int.pow_pos (by decide))), Int.pow_succ]
    generalize l.getD j 0 / 2 ^ (d - (n + 1)) = y
    exact Kj y n
end Go.aa
namespace Go.aa
open Go.af Go.Sl
def iF (h : List Int) (aK : List Ch) (z : List Int) : List Ch := ⟨bR, h⟩ :: (aK ++ [⟨aZ, z⟩, ⟨aY, []⟩])
def OI (h : List Int) (aK : List Ch) (z : List Int) : List Ch := ⟨bR, h⟩ :: (aK ++ [⟨aZ, z⟩])
structure lj (h : List Int) (aK : List Ch) (z : List Int) : Prop where
  hh : an h ∧ h.length = 13
  hm : ∀ c ∈ aK, jL c ∧ c.k ≠ aY
  hz : an z ∧ z.length ≤ 200000
  hl : (gy aK).length ≤ 50000
theorem Hu (h : List Int) (aK : List Ch) (z : List Int) : iF h aK z = OI h aK z ++ [⟨aY, []⟩] := by simp [iF, OI]
theorem lj.Up {h : List Int} {aK : List Ch} {z : List Int} (o : lj h aK z) : ∀ c ∈ OI h aK z, jL c ∧ c.k ≠ aY := fun c hc => by
  have h1 := o.hh.2
  have h2 := o.hz.2
  rcases List.mem_cons.1 hc with rfl | hc
  · exact ⟨⟨Be, o.hh.1, by show h.length ≤ _; omega⟩, NF⟩
  · rcases List.mem_append.1 hc with hc | hc
    · exact o.hm c hc
    · rw [List.mem_singleton.1 hc]
      exact ⟨⟨BQ, o.hz.1, by show z.length ≤ _; omega⟩, NN⟩
theorem lj.ok {h : List Int} {aK : List Ch} {z : List Int} (o : lj h aK z) : ∀ c ∈ iF h aK z, jL c := fun c hc => by
  rw [Hu] at hc
  rcases List.mem_append.1 hc with h | h
  · exact (o.Up c h).1
  · rw [List.mem_singleton.1 h]; exact nb
theorem lj.o8 {h : List Int} {aK : List Ch} {z : List Int} (o : lj h aK z) : an (aX (iF h aK z)) := vH o.ok
theorem lj.size {h : List Int} {aK : List Ch} {z : List Int} (o : lj h aK z) : (aX (iF h aK z)).length ≤ 250100 := by
  have e : aX (iF h aK z) = ea ++ (e9 ⟨bR, h⟩ ++ (gy aK ++ (e9 ⟨aZ, z⟩ ++ e9 ⟨aY, []⟩))) := by simp [aX, gy, iF]
  have e1 : (e9 ⟨bR, h⟩).length = 12 + h.length := iu (c := ⟨bR, h⟩) rfl
  have e3 : (e9 ⟨aZ, z⟩).length = 12 + z.length := iu (c := ⟨aZ, _⟩) rfl
  have e4 : (e9 ⟨aY, []⟩).length = 12 := iu (c := ⟨aY, []⟩) rfl
  have e5 : ea.length = 8 := rfl
  have h1 := o.hh.2
  have h2 := o.hz.2
  have h3 := o.hl
  rw [e]
  simp only [List.length_append, e1, e3, e4, e5]
  omega
theorem lj.cut {h : List Int} {aK : List Ch} {z : List Int} (o : lj h aK z) : cut (aX (iF h aK z)) = .ok (iF h aK z) := by
  have hl := o.size
  rw [Hu] at hl ⊢
  exact yd nb rfl o.Up (by omega)
theorem AG {P row : List Int} {W H y : Nat} {f : Fl} {p : Ps} (hp : p.x = 0 ∧ p.y = 0 ∧ p.dx = 1 ∧ p.dy = 1) (hw : f.hd.w = (W : Int)) (hP : P.length = 4 * W * H) (hy : y < H) (hc : ∀ x, x < W → fS f (dX f.hd row x) = some [P.getD (4 * (W * y + x)) 0, P.getD (4 * (W * y + x) + 1) 0, P.getD (4 * (W * y + x) + 2) 0, P.getD (4 * (W * y + x) + 3) 0]) : ∀ k i, i + k = W → dW f p (y : Int) row k i (laid P (W * y + i)) = some (laid P (W * y + W))
  | 0, i, hi => by rw [dW, show i = W by omega]
  | k + 1, i, hi => by
    have hle : 4 * W * (y + 1) ≤ 4 * W * H := Nat.mul_le_mul_left _ hy
    rw [Nat.mul_succ, Nat.mul_assoc] at hle
    rw [dW, hc i (by omega)]
    simp only [hp.1, hp.2.1, hp.2.2.1, hp.2.2.2, hw]
    rw [xq (by omega)]
    exact AG hp hw hP hy hc k (i + 1) (by omega)
theorem KT {f : Fl} {kind n : Int} {row D : List Int} {N : Nat} (bN : List Int) (hn : f.hd.w = n) (hk : kind ≤ 4) (hN : (dE n (bitsOf f.hd)).toNat = N) (hD : D = kind :: row) (hl : row.length = N) : eA f D (whole n 1) 0 bN = dW f ⟨0, 0, 1, 1, n, 1⟩ 0 (eB kind row [] (max 1 (bitsOf f.hd / 8)).toNat) n.toNat 0 bN := by
  unfold whole eA
  have e : ∀ back, eb f D (dE n (bitsOf f.hd)).toNat back ⟨0, 0, 1, 1, n, 1⟩ (1 : Int).toNat 0 0 [] bN = (dW f ⟨0, 0, 1, 1, n, 1⟩ 0 (eB kind row [] back) n.toNat 0 bN).map (fun q => (0 + 1 + N, q)) := fun back => by
    rw [show (1 : Int).toNat = 0 + 1 from rfl, eb, hD]
    rw [if_neg (by show ¬ 4 < kind; omega), hN]
    have e1 : ((kind :: row).drop (0 + 1)).take N = row := by rw [Nat.zero_add, List.drop_succ_cons, List.drop_zero, ← hl, List.take_length]
    rw [e1, show (kind :: row).getD 0 0 = kind from rfl]
    show (match dW f ⟨0, 0, 1, 1, n, 1⟩ ((0 : Nat) : Int) _ _ _ _ with | none => none | some pix2 => _) = _
    cases dW f ⟨0, 0, 1, 1, n, 1⟩ ((0 : Nat) : Int) (eB kind row [] back) n.toNat 0 bN <;> rfl
  simp only [e]
  cases dW f ⟨0, 0, 1, 1, n, 1⟩ 0 (eB kind row [] (max 1 (bitsOf f.hd / 8)).toNat) n.toNat 0 bN <;> rfl
theorem wA {α : Type} (f : α → List Int) (hf : ∀ x, (f x).length = 4) : ∀ l : List α, (l.flatMap f).length = 4 * l.length
  | [] => rfl
  | x :: l => by rw [List.flatMap_cons, List.length_append, hf, wA f hf l, List.length_cons]; omega
theorem wU (f : Int → List Int) (hf : ∀ x, (f x).length = 4) : ∀ (l : List Int) {i j : Nat}, i < l.length → j < 4 → (l.flatMap f).getD (4 * i + j) 0 = (f (l.getD i 0)).getD j 0
  | [], i, j, h, _ => by simp at h
  | x :: l, 0, j, _, hj => by
    rw [List.flatMap_cons, Nat.mul_zero, Nat.zero_add, List.getD_eq_getElem?_getD, List.getElem?_append_left (by rw [hf]; exact hj), ← List.getD_eq_getElem?_getD]
    rfl
  | x :: l, i + 1, j, h, hj => by
    rw [List.flatMap_cons, List.getD_eq_getElem?_getD, List.getElem?_append_right (by rw [hf]; omega), hf, ← List.getD_eq_getElem?_getD, show 4 * (i + 1) + j - 4 = 4 * i + j by omega, wU f hf l (by simpa using h) hj]
    rfl
def fR (d : Nat) : Prop := d = 1 ∨ d = 2 ∨ d = 4 ∨ d = 8
def eI (n d c : Int) : List Int := [0, 0, n / 256, n % 256, 0, 0, 0, 1, d, c, 0, 0, 0]
def oq (d : Nat) (key x : Int) : List Int := [x % 2 ^ d * (65535 / (2 ^ d - 1)), x % 2 ^ d * (65535 / (2 ^ d - 1)), x % 2 ^ d * (65535 / (2 ^ d - 1)), if x % 2 ^ d = key then 0 else 65535]
def gP (v : List Int) (d : Nat) (key : Int) : List Int := v.flatMap (oq d key)
def bG (v : List Int) (d : Nat) (kind : Int) : List Int := kind :: iU kind (dZ (cm v d)) [] 1
def jc (a b : Int) : List Ch := [⟨aQ, [a, b]⟩]
def gF (v : List Int) (d : Nat) (kind a b : Int) : List Int := aX (iF (eI v.length d 0) (jc a b) (cP (bG v d kind)))
structure zx (v : List Int) (d : Nat) (kind key a b : Int) : Prop where
  hn : 1 ≤ v.length ∧ v.length ≤ 256
  hd : fR d
  hk : 0 ≤ kind ∧ kind ≤ 4
  ha : 0 ≤ a ∧ a < 256
  hb : 0 ≤ b ∧ b < 256
  WM : (a * 256 + b) % 2 ^ d = key
theorem tK (v : List Int) (d : Nat) (key : Int) : (gP v d key).length = 4 * v.length := wA _ (fun _ => rfl) v
theorem k7 {v : List Int} {d : Nat} {key : Int} {i j : Nat} (hi : i < v.length) (hj : j < 4) : (gP v d key).getD (4 * i + j) 0 = (oq d key (v.getD i 0)).getD j 0 := wU _ (fun _ => rfl) v hi hj
theorem JM {n d c : Int} (hn : 1 ≤ n ∧ n ≤ 256) (hd : 0 ≤ d ∧ d < 256) (hc : 0 ≤ c ∧ c < 256) : an (eI n d c) := fun x hx => by
  simp only [eI, List.mem_cons, List.not_mem_nil, or_false] at hx
  rcases hx with rfl | rfl | rfl | rfl | rfl | rfl | rfl | rfl | rfl | rfl | rfl | rfl | rfl <;> omega
theorem El {n d c : Int} (hn : 1 ≤ n ∧ n ≤ 256) : aL (eI n d c) = ⟨n, 1, d, c, false⟩ := by
  unfold aL eI
  simp only [aG.cZ, List.drop_succ_cons, List.drop_zero, List.getD_cons_zero, List.getD_cons_succ]
  congr 1 <;> first | omega | rfl
theorem Tf {n d c : Int} (hn : 1 ≤ n ∧ n ≤ 256) (hd : deep c d) : eJ (eI n d c) = 0 := by
  unfold eJ
  rw [El hn]
  have e4 : (eI n d c).getD 10 0 = 0 := rfl
  have e5 : (eI n d c).getD 11 0 = 0 := rfl
  have e6 : (eI n d c).getD 12 0 = 0 := rfl
  have hs : aW n 1 = 0 := by
    unfold aW
    rw [if_neg (by omega), if_neg (by omega)]
  rw [if_neg (by simp [eI]), e4, e5, e6, if_neg (by rintro (h | h | h | h | h); exact h hd; omega; omega; (have : n = 0 := h); omega; exact absurd (show (1 : Int) = 0 from h) (by decide))]
  show (if aW n 1 = 0 then (0 : Int) else 6) = 0
  rw [if_pos hs]
theorem fR.of {d : Nat} (h : fR d) : 1 ≤ d ∧ d ≤ 8 := by unfold fR at h; omega
theorem qC {v : List Int} {d : Nat} : (dZ (cm v d)).length = (v.length * d + 7) / 8 := by rw [uu, qE]
theorem x8 {n d : Nat} (hn : n ≤ 256) (hd : fR d) : (n * d + 7) / 8 ≤ 256 := by
  unfold fR at hd
  rcases hd with rfl | rfl | rfl | rfl <;> omega
theorem n7 {v : List Int} {d : Nat} {kind : Int} : (bG v d kind).length = 1 + (v.length * d + 7) / 8 := by
  unfold bG
  rw [List.length_cons, tW, qC]; omega
theorem rD {v : List Int} {d : Nat} {kind : Int} (hk : 0 ≤ kind ∧ kind ≤ 4) : an (bG v d kind) := aG.kJ (by omega) (aa.Kt _ _ _ _)
theorem JI {a b : Int} (ha : 0 ≤ a ∧ a < 256) (hb : 0 ≤ b ∧ b < 256) : ∀ c ∈ jc a b, jL c ∧ c.k ≠ aY := fun c hc => by
  rw [List.mem_singleton.1 hc]
  exact ⟨⟨SF, aG.kJ ha (aG.kJ hb aH.gj), by show 2 ≤ _; omega⟩, Xd⟩
theorem zx.fl {v : List Int} {d : Nat} {kind key a b : Int} (o : zx v d kind key a b) : lj (eI v.length d 0) (jc a b) (cP (bG v d kind)) := by
  have h1 := o.hn
  have h2 := o.hd.of
  have h3 := x8 o.hn.2 o.hd
  have h4 : (bG v d kind).length = _ := n7
  have h5 := mY (B := bG v d kind) (by omega)
  refine ⟨⟨JM (by omega) (by omega) (by decide), rfl⟩, JI o.ha o.hb, ⟨Fj (rD o.hk) (by omega), by omega⟩, ?_⟩
  have e : gy (jc a b) = e9 ⟨aQ, [a, b]⟩ ++ [] := rfl
  rw [e, List.append_nil, iu (c := ⟨aQ, [a, b]⟩) rfl]
  show 12 + 2 ≤ _
  omega
theorem PT {n : Nat} {d c : Int} (hp : parts c = 1) (hn : 1 ≤ n) : want ⟨(n : Int), 1, d, c, false⟩ = 1 + ((n : Int) * d + 7) / 8 := by
  have e : want ⟨(n : Int), 1, d, c, false⟩ = ([if 0 < (n : Int) then (1 : Int) * (1 + dE (n : Int) (parts c * d)) else 0] : List Int).sum := rfl
  rw [e, hp, Int.one_mul, if_pos (by omega)]
  simp [dE]
theorem NR {v : List Int} {d : Nat} {c n : Int} {x : Nat} (hp : parts c = 1) (hx : x < v.length) : dX ⟨n, 1, (d : Int), c, false⟩ (dZ (cm v d)) x = [v.getD x 0 % 2 ^ d] := by
  have e : dX ⟨n, 1, (d : Int), c, false⟩ (dZ (cm v d)) x = (List.range (parts c).toNat).map fun i => bO (dZ (cm v d)) (x * (parts c).toNat * d + i * d) d := rfl
  rw [e, hp]
  show [bO (dZ (cm v d)) (x * 1 * d + 0 * d) d] = _
  rw [Nat.mul_one, Nat.zero_mul, Nat.add_zero, AM hx d (Nat.le_refl _), Nat.sub_self, Int.pow_zero, Int.ediv_one]
theorem Tp {v : List Int} {d : Nat} {kind key a b n : Int} (o : zx v d kind key a b) (s : Int) : fS ⟨⟨n, 1, (d : Int), 0, false⟩, [], [a, b]⟩ [s % 2 ^ d] = some [(oq d key s).getD 0 0, (oq d key s).getD 1 0, (oq d key s).getD 2 0, (oq d key s).getD 3 0] := by
  have hclr : aR ⟨n, 1, (d : Int), 0, false⟩ [a, b] = [key] := by
    unfold aR
    rw [if_pos (.inl rfl), ← o.WM]
    have e : ([a, b] : List Int).length / 2 = 1 := by simp
    rw [e, show List.range 1 = [0] from rfl]
    rfl
  unfold fS
  rw [if_neg (by show ¬ (0 : Int) = 3; decide)]
  simp only [hclr, List.length_cons, List.length_nil, List.map_cons, List.map_nil]
  rw [if_pos (.inl trivial), if_neg (show ¬ ((0 : Int) = 4 ∨ (0 : Int) = 6) by decide)]
  have e1 : Iz ⟨n, 1, (d : Int), 0, false⟩ (s % 2 ^ d) = s % 2 ^ d * (65535 / (2 ^ d - 1)) := rfl
  have e3 : ∀ x : Int, (x :: ([] : List Int)).getD 0 0 = x := fun _ => rfl
  rw [e1, e3]
  by_cases h : s % 2 ^ d = key
  · rw [if_pos ⟨by decide, by rw [h]⟩]
    unfold oq
    rw [if_pos h]
    rfl
  · rw [if_neg (fun h2 => h (List.cons.inj h2.2).1)]
    unfold oq
    rw [if_neg h]
    rfl
theorem Gb {v : List Int} {d : Nat} {kind key a b : Int} (o : zx v d kind key a b) : kt (gF v d kind a b) (⟨(v.length : Int), 1, gP v d key⟩, 0) := by
  have hn := o.hn
  have hd := o.hd.of
  have h3 := x8 o.hn.2 o.hd
  have hf := o.fl
  have hcut := hf.cut
  have hraw : (bG v d kind).length = _ := n7
  have hh : du (iF (eI v.length d 0) (jc a b) (cP (bG v d kind))) = eI v.length d 0 := rfl
  have ho : aL (eI v.length d 0) = ⟨(v.length : Int), 1, (d : Int), 0, false⟩ := El (by omega)
  have hdp : deep 0 (d : Int) := by
    have := o.hd
    unfold fR at this
    unfold deep
    omega
  have hidat : bW (iF (eI v.length d 0) (jc a b) (cP (bG v d kind))) = cP (bG v d kind) := by
    have e : bW (iF (eI v.length d 0) (jc a b) (cP (bG v d kind))) = cP (bG v d kind) ++ [] := rfl
    rw [e, List.append_nil]
  have hw := PT (n := v.length) (d := (d : Int)) (c := 0) rfl hn.1
  have hopn : aG.lR (cP (bG v d kind)) (want ⟨(v.length : Int), 1, (d : Int), 0, false⟩) (bG v d kind, 0) := DL (rD o.hk) (by omega) (by
    rw [hw, hraw]
    push_cast
    omega)
  have := JA (q := (bG v d kind, 0)) hcut rfl (by rw [hh]; exact Tf (by omega) hdp) (by
    unfold MN
    rw [hh, ho]
    have e1 : dV (iF (eI v.length d 0) (jc a b) (cP (bG v d kind))) aT = false := rfl
    have e2 : dV (iF (eI v.length d 0) (jc a b) (cP (bG v d kind))) aQ = true := rfl
    have e3 : bC (iF (eI v.length d 0) (jc a b) (cP (bG v d kind))) aQ = [a, b] := rfl
    rw [e1, e2, e3]
    unfold mb
    simp) (by rw [hh, ho, hidat]; exact hopn)
  unfold Hg at this
  rw [if_neg (fun h => h rfl), hh, ho, if_neg (by show ¬ (((bG v d kind).length : Int) < _); rw [hw, hraw]; push_cast; omega)] at this
  have hfl : oD (iF (eI v.length d 0) (jc a b) (cP (bG v d kind))) = ⟨⟨(v.length : Int), 1, (d : Int), 0, false⟩, [], [a, b]⟩ := by
    unfold oD
    rw [hh, ho]
    rfl
  have hbits : bitsOf ⟨(v.length : Int), 1, (d : Int), 0, false⟩ = (d : Int) := by show 1 * (d : Int) = _; rw [Int.one_mul]
  have hrow : ((iU kind (dZ (cm v d)) [] 1).length) = (v.length * d + 7) / 8 := by rw [tW, qC]
  have hlen : (gP v d key).length = 4 * v.length * 1 := by rw [tK]; omega
  have hpix0 : iZ ⟨(v.length : Int), 1, (d : Int), 0, false⟩ = laid (gP v d key) (v.length * 0 + 0) := by
    unfold iZ laid
    simp only [Nat.mul_zero, Nat.add_zero, List.take_zero, List.nil_append, Nat.sub_zero, tK]
    congr 1
    omega
  have hdr : eA ⟨⟨(v.length : Int), 1, (d : Int), 0, false⟩, [], [a, b]⟩ (bG v d kind) (whole (v.length : Int) 1) 0 (iZ ⟨(v.length : Int), 1, (d : Int), 0, false⟩) = some (gP v d key) := by
    refine (KT (f := ⟨⟨(v.length : Int), 1, (d : Int), 0, false⟩, [], [a, b]⟩) (kind := kind) (n := (v.length : Int)) (N := (v.length * d + 7) / 8) (row := iU kind (dZ (cm v d)) [] 1) _ rfl o.hk.2 (by
      show (dE (v.length : Int) (bitsOf ⟨(v.length : Int), 1, (d : Int), 0, false⟩)).toNat = _
      rw [hbits]
      unfold dE
      have : ((v.length : Int) * (d : Int) + 7) / 8 = (((v.length * d + 7) / 8 : Nat) : Int) := by push_cast; rfl
      rw [this]; rfl) rfl hrow).trans ?_
    have hback : (max 1 (bitsOf ⟨(v.length : Int), 1, (d : Int), 0, false⟩ / 8)).toNat = 1 := by rw [hbits]; omega
    show dW _ _ _ (eB kind _ [] (max 1 (bitsOf ⟨(v.length : Int), 1, (d : Int), 0, false⟩ / 8)).toNat) _ _ _ = _
    rw [hback, Sk (row := dZ (cm v d)) (zA (uv v d) _) Nat.one_pos, hpix0]
    have hr := AG (P := gP v d key) (row := dZ (cm v d)) (W := v.length) (H := 1) (y := 0) (f := ⟨⟨(v.length : Int), 1, (d : Int), 0, false⟩, [], [a, b]⟩) (p := ⟨0, 0, 1, 1, (v.length : Int), 1⟩) ⟨rfl, rfl, rfl, rfl⟩ rfl hlen (by decide) (fun x hx => by
      show fS _ (dX ⟨(v.length : Int), 1, (d : Int), 0, false⟩ _ _) = _
      rw [NR (by decide) hx, Nat.mul_zero, Nat.zero_add]
      have g0 : (gP v d key).getD (4 * x) 0 = (oq d key (v.getD x 0)).getD 0 0 := k7 (j := 0) hx (by decide)
      rw [g0, k7 hx (by decide), k7 hx (by decide), k7 hx (by decide)]
      generalize v.getD x 0 = s
      exact Tp o s) v.length 0 (by omega)
    show dW _ _ ((0 : Nat) : Int) _ v.length 0 _ = _
    rw [hr]
    unfold laid
    rw [Nat.mul_zero, Nat.zero_add, ← tK v d key, List.take_length, Nat.sub_self]
    simp
  rw [hfl] at this
  show kt (aX _) _
  have hpa : aN ⟨(v.length : Int), 1, (d : Int), 0, false⟩ = whole (v.length : Int) 1 := rfl
  rw [hpa, hdr] at this
  exact this
end Go.aa
namespace Go.aa
open Go.af Go.Sl
def Yg (T : List (List Int)) : List Int := T.flatMap id
def Yc (T : List (List Int)) : Prop := ∀ t ∈ T, t.length = 3 ∧ an t
def WI (T : List (List Int)) (al : List Int) (k : Int) : List Int := [(T.getD k.toNat []).getD 0 0 * 257, (T.getD k.toNat []).getD 1 0 * 257, (T.getD k.toNat []).getD 2 0 * 257, if k.toNat < al.length then al.getD k.toNat 0 * 257 else 65535]
def pP (v : List Int) (T : List (List Int)) (al : List Int) : List Int := v.flatMap (WI T al)
def XG (v : List Int) (d : Nat) : List Int := 0 :: dZ (cm v d)
def Xl (T : List (List Int)) (al : List Int) : List Ch := [⟨aT, Yg T⟩, ⟨aQ, al⟩]
def pF (v : List Int) (T : List (List Int)) (al : List Int) (d : Nat) : List Int := aX (iF (eI v.length d 3) (Xl T al) (cP (XG v d)))
structure POk (v : List Int) (T : List (List Int)) (al : List Int) (d : Nat) : Prop where
  hn : 1 ≤ v.length ∧ v.length ≤ 200
  hd : fR d
  hT : 1 ≤ T.length ∧ T.length ≤ 256 ∧ T.length ≤ 2 ^ d
  h3 : Yc T
  ha : an al ∧ al.length ≤ T.length
  hv : ∀ x ∈ v, 0 ≤ x ∧ x < 2 ^ d
end Go.aa
namespace Go.aa
open Go.af Go.Sl
def Yd (W : Nat) (p : Ps) (y x : Nat) : Nat := ((p.y + y * p.dy) * W + (p.x + x * p.dx)).toNat
def Zd (P : List Int) (q : Nat) : List Int := [P.getD (4 * q) 0, P.getD (4 * q + 1) 0, P.getD (4 * q + 2) 0, P.getD (4 * q + 3) 0]
def Xr (P : List Int) (W : Nat) (p : Ps) (y n : Nat) : List Int := (List.range n).flatMap fun x => Zd P (Yd W p y x)
def SW (P : List Int) (W : Nat) (p : Ps) (y n : Nat) : List Int := two (Xr P W p y n)
def Ri (P : List Int) (W : Nat) (p : Ps) (y : Nat) : List Int := SW P W p y p.w.toNat
def Vq (n : Int) (y : Nat) : Int := (n + y) % 5
def YA (P : List Int) (W : Nat) (p : Ps) : Nat → List Int
  | 0 => []
  | y + 1 => Ri P W p y
def V4 (P : List Int) (W : Nat) (n : Int) (p : Ps) : Nat → List Int
  | 0 => []
  | y + 1 => V4 P W n p y ++ (Vq n y :: iU (Vq n y) (Ri P W p y) (YA P W p y) 8)
def XJ (P : List Int) (W : Nat) (n : Int) (l : List Ps) : List Int := l.flatMap fun p => V4 P W n p p.h.toNat
def gd (P bN : List Int) (m : Nat) : Prop := bN.getD m 0 = P.getD m 0
def Zs (w h : Int) : Hd := ⟨w, h, 16, 6, true⟩
def Xo (P : List Int) (W H : Nat) (n : Int) : List Int := XJ P W n (eW (W : Int) (H : Int))
def lB (w h : Int) : List Int := [0, 0, w / 256, w % 256, 0, 0, h / 256, h % 256, 16, 6, 0, 0, 1]
def lF (P : List Int) (W H : Nat) (n : Int) : List Int := aX (iF (lB (W : Int) (H : Int)) [] (cP (Xo P W H n)))
end Go.aa
namespace Go.aa
open Go.af Go.Sl
def kf (x : Int) (d i : Nat) : List Int := (List.range i).map fun j => x / 2 ^ (d - 1 - j) % 2
theorem SQ (x : Int) (d : Nat) : kf x d d = ij x d := rfl
theorem Uj (x : Int) (d i : Nat) : kf x d (i + 1) = kf x d i ++ [x / 2 ^ (d - 1 - i) % 2] := by simp [kf, List.range_succ]
theorem JU (x : Int) (d i : Nat) : (kf x d i).length = i := by simp [kf]
theorem KM {x b : Int} {p : Nat} (hx : 0 ≤ x ∧ x < 256) (hb : 0 ≤ b ∧ b ≤ 1) (hp : p < 8) (hz : x / 2 ^ p % 2 = 0) : uZ x b p = x + b * 2 ^ p := by
  have key : ∀ p : Fin 8, ∀ x : Fin 256, x.val / 2 ^ p.val % 2 = 0 → x.val ||| 1 * 2 ^ p.val = x.val + 2 ^ p.val := by decide +kernel
  obtain ⟨a, rfl⟩ : ∃ a : Nat, x = (a : Int) := ⟨x.toNat, by omega⟩
  have hz2 : a / 2 ^ p % 2 = 0 := by
    have e : ((a : Int) / 2 ^ p % 2) = ((a / 2 ^ p % 2 : Nat) : Int) := by push_cast; rfl
    omega
  have h := key ⟨p, hp⟩ ⟨a, by omega⟩ hz2
  unfold uZ
  rw [Int.toNat_natCast]
  have hb2 : b = 0 ∨ b = 1 := by omega
  rcases hb2 with rfl | rfl
  · simp
  · show ((a ||| 1 * 2 ^ p : Nat) : Int) = _
    rw [h]
    push_cast
    rw [Int.one_mul]
theorem Nr {bs : List Int} (hb : ma bs) {i : Nat} (h : i < bs.length) {r : Int} (hr : r = (gU bs i).getD (i / 8) 0) : uZ r (bs.getD i 0) (7 - i % 8) = (gU bs i).getD (i / 8) 0 + bs.getD i 0 * 2 ^ (7 - i % 8) := by
  subst hr
  rw [qx (by omega)]
  have h1 := w6 hb i (i / 8)
  exact KM h1 (by rcases hb.get i with e | e <;> rw [e] <;> decide) (by omega) (Hh hb i)
theorem Rt {bs : List Int} (hb : ma bs) {i : Nat} (h : i < bs.length) {r : Int} (hr : r = (gU bs i).getD (i / 8) 0) : (gU bs i).set (i / 8) (uZ r (bs.getD i 0) (7 - i % 8)) = gU bs (i + 1) := by
  rw [Nr hb h hr, SD h]
def kx (kind : Int) (B A : List Int) (back i : Nat) : List Int := ti kind B A back i ++ B.drop i
theorem SN (kind : Int) (B A : List Int) (back : Nat) : kx kind B A back 0 = B := by simp [kx, ti]
theorem JS (kind : Int) (B A : List Int) (back : Nat) : kx kind B A back B.length = iU kind B A back := by simp [kx, iU]
theorem MC {kind : Int} {B A : List Int} {back i : Nat} (h : i < B.length) : (kx kind B A back i).getD i 0 = B.getD i 0 := by
  unfold kx
  rw [List.getD_eq_getElem?_getD, List.getElem?_append_right (by rw [mX]; omega), mX, Nat.sub_self, List.getElem?_drop, Nat.add_zero, ← List.getD_eq_getElem?_getD]
theorem LA {kind : Int} {B A : List Int} {back i : Nat} (h : i < B.length) : (kx kind B A back i).set i (mM kind B A back i) = kx kind B A back (i + 1) := by
  unfold kx
  rw [List.set_append, if_neg (by rw [mX]; omega), mX, Nat.sub_self, List.drop_eq_getElem_cons h, List.set_cons_zero, SU, List.append_assoc]
  rfl
end Go.aa
namespace Go.aa
open Go.af Go.Sl
theorem OD {k : Int} (h : 0 ≤ k ∧ k < 4) : ∃ d : Nat, fR d ∧ ([1, 2, 4, 8] : List Int).getD k.toNat 0 = (d : Int) := by
  have : k = 0 ∨ k = 1 ∨ k = 2 ∨ k = 3 := by omega
  rcases this with rfl | rfl | rfl | rfl
  · exact ⟨1, .inl rfl, rfl⟩
  · exact ⟨2, .inr (.inl rfl), rfl⟩
  · exact ⟨4, .inr (.inr (.inl rfl)), rfl⟩
  · exact ⟨8, .inr (.inr (.inr rfl)), rfl⟩
theorem sR {d : Nat} (h : fR d) : 2 ≤ (2 : Int) ^ d ∧ (2 : Int) ^ d ≤ 256 := by
  unfold fR at h
  rcases h with rfl | rfl | rfl | rfl <;> decide
theorem JC {d : Nat} (h : fR d) : IntKind.i64.wrap (1 * 2 ^ (min ((d : Int)).toNat IntKind.i64.bits)) = 2 ^ d := by
  unfold fR at h
  rcases h with rfl | rfl | rfl | rfl <;> decide
theorem W0 {d : Nat} (h : fR d) : IntKind.i64.wrap ((65535 : Int).tdiv (2 ^ d - 1)) = 65535 / (2 ^ d - 1) := by
  unfold fR at h
  rcases h with rfl | rfl | rfl | rfl <;> decide
theorem g16 {d : Nat} (h : fR d) (s : Int) : 0 ≤ s % 2 ^ d * (65535 / (2 ^ d - 1)) ∧ s % 2 ^ d * (65535 / (2 ^ d - 1)) < 65536 := by
  unfold fR at h
  rcases h with rfl | rfl | rfl | rfl
  · show 0 ≤ s % 2 * 65535 ∧ s % 2 * 65535 < 65536
    omega
  · show 0 ≤ s % 4 * 21845 ∧ s % 4 * 21845 < 65536
    omega
  · show 0 ≤ s % 16 * 4369 ∧ s % 16 * 4369 < 65536
    omega
  · show 0 ≤ s % 256 * 257 ∧ s % 256 * 257 < 65536
    omega
theorem wS {x : Int} (hx : 0 ≤ x ∧ x < 65536) {d : Nat} (hd : fR d) : IntKind.i64.wrap ((BitVec.ofInt IntKind.i64.bits x &&& BitVec.ofInt IntKind.i64.bits (2 ^ d - 1)).toNat : Int) = x % 2 ^ d := by
  obtain ⟨a, rfl⟩ : ∃ a : Nat, x = (a : Int) := ⟨x.toNat, by omega⟩
  have h2 := sR hd
  have h8 := hd.of
  have e1 : (2 : Int) ^ d = ((2 ^ d : Nat) : Int) := by push_cast; rfl
  have e2 : (2 : Int) ^ d - 1 = ((2 ^ d - 1 : Nat) : Int) := by omega
  have e : IntKind.i64.bits = 64 := rfl
  rw [e2, e, BitVec.toNat_and, cy, cy, Nat.mod_eq_of_lt (by omega), Nat.mod_eq_of_lt (by omega), Nat.and_two_pow_sub_one_eq_mod]
  have hm : a % 2 ^ d < 2 ^ d := Nat.mod_lt _ (Nat.two_pow_pos d)
  rw [e1, show (a : Int) % ((2 ^ d : Nat) : Int) = ((a % 2 ^ d : Nat) : Int) by push_cast; rfl]
  exact Sl.fi (by omega) (by omega)
def tB (d : Nat) (key n : Int) : Int := if d = 8 then key else ((key.toNat ||| (n * 2 ^ d % 256).toNat : Nat) : Int)
theorem T9 {d : Nat} (hd : fR d) (n : Int) : IntKind.u8.wrap (n * 2 ^ (min ((d : Int)).toNat IntKind.u8.bits)) = n * 2 ^ d % 256 := by
  have e : min ((d : Int)).toNat IntKind.u8.bits = d := by
    have : IntKind.u8.bits = 8 := rfl
    have := hd.of
    omega
  rw [e]
  exact ft _
theorem Xi {d : Nat} {key n : Int} (h : d = 8) : ([n, key] : List Int).set ((1 : Int)).toNat key = [n, tB d key n] := by
  unfold tB
  rw [if_pos h]
  rfl
theorem TJ {d : Nat} {key n : Int} (hd : fR d) (hk : 0 ≤ key ∧ key < 2 ^ d) (h : d ≠ 8) : IntKind.u8.wrap ((BitVec.ofInt IntKind.u8.bits key ||| BitVec.ofInt IntKind.u8.bits (n * 2 ^ d % 256)).toNat : Int) = tB d key n := by
  have h2 := sR hd
  obtain ⟨a, rfl⟩ : ∃ a : Nat, key = (a : Int) := ⟨key.toNat, by omega⟩
  have hm : 0 ≤ n * 2 ^ d % 256 ∧ n * 2 ^ d % 256 < 256 := by omega
  unfold tB
  rw [if_neg h]
  generalize n * 2 ^ d % 256 = x at hm
  obtain ⟨b, rfl⟩ : ∃ b : Nat, x = (b : Int) := ⟨x.toNat, by omega⟩
  exact Wd (by omega) (by omega)
theorem TZ {d : Nat} {key n : Int} (hd : fR d) (hk : 0 ≤ key ∧ key < 2 ^ d) : (0 ≤ tB d key n ∧ tB d key n < 256) ∧ (n * 256 + tB d key n) % 2 ^ d = key := by
  have h2 := sR hd
  unfold tB
  by_cases h : d = 8
  · subst h
    rw [if_pos rfl]
    have e : (2 : Int) ^ 8 = 256 := by decide
    rw [e] at hk ⊢
    omega
  · rw [if_neg h]
    have hm : 0 ≤ n * 2 ^ d % 256 ∧ n * 2 ^ d % 256 < 256 := by omega
    have hz : (n * 2 ^ d % 256) % 2 ^ d = 0 := by
      unfold fR at hd
      rcases hd with rfl | rfl | rfl | rfl
      · show (n * 2 % 256) % 2 = 0
        omega
      · show (n * 4 % 256) % 4 = 0
        omega
      · show (n * 16 % 256) % 16 = 0
        omega
      · exact absurd rfl h
    obtain ⟨a, rfl⟩ : ∃ a : Nat, key = (a : Int) := ⟨key.toNat, by omega⟩
    generalize n * 2 ^ d % 256 = x at hm hz
    obtain ⟨b, rfl⟩ : ∃ b : Nat, x = (b : Int) := ⟨x.toNat, by omega⟩
    have e1 : (2 : Int) ^ d = ((2 ^ d : Nat) : Int) := by push_cast; rfl
    have hzn : b % 2 ^ d = 0 := by
      rw [e1, show (b : Int) % ((2 ^ d : Nat) : Int) = ((b % 2 ^ d : Nat) : Int) by push_cast; rfl] at hz
      omega
    have hor := Nat.or_lt_two_pow (n := 8) (x := a) (y := b) (by omega) (by omega)
    have hmod : (a ||| b) % 2 ^ d = a := by
      rw [Nat.or_mod_two_pow, hzn, Nat.or_zero, Nat.mod_eq_of_lt (by omega)]
    rw [Int.toNat_natCast, Int.toNat_natCast]
    refine ⟨by omega, ?_⟩
    have h256 : (n * 256) % 2 ^ d = 0 := by
      unfold fR at hd
      rcases hd with rfl | rfl | rfl | rfl
      · show (n * 256) % 2 = 0
        omega
      · show (n * 256) % 4 = 0
        omega
      · show (n * 256) % 16 = 0
        omega
      · exact absurd rfl h
    rw [Int.add_emod, h256, Int.zero_add, Int.emod_emod_of_dvd _ (Int.dvd_refl _), e1, show ((a ||| b : Nat) : Int) % ((2 ^ d : Nat) : Int) = (((a ||| b) % 2 ^ d : Nat) : Int) by push_cast; rfl, hmod]
theorem K3 {bs : List Int} (h : ma bs) : an (dZ bs) := zA h _
theorem Eu {v : List Int} {d : Nat} {kind key a b : Int} (o : zx v d kind key a b) : kt (aX (iF (eI v.length d 0) (jc a b) (cP (bG v d kind)))) (⟨(v.length : Int), 1, gP v d key⟩, 0) := Gb o
theorem FY {v : List Int} {d i : Nat} (h : i < v.length) : cm (v.take i) d ++ ij (v.getD i 0) d = cm (v.take (i + 1)) d := by
  rw [ab.gR h, TF]
theorem rf {v : List Int} {d i : Nat} (hv : v.length ≤ 256) (hd : fR d) : (cm (v.take i) d).length ≤ 2048 := by
  rw [qE]
  have h1 : (v.take i).length ≤ 256 := by rw [List.length_take]; omega
  calc (v.take i).length * d ≤ 256 * 8 := Nat.mul_le_mul h1 hd.of.2
    _ = 2048 := rfl
end Go.aa
namespace Go.Proofs.YtmaiakpjgomnpaaGreat
open Go.Sl
end Go.Proofs.YtmaiakpjgomnpaaGreat
namespace Go.Proofs.YtmaiakpjgomnpaaGreat
open Go.Sl
end Go.Proofs.YtmaiakpjgomnpaaGreat
namespace Go.Proofs.YtmaiakpjgomnpaaGreat
open Go.Sl
theorem V.Zt : a8 Tryz.prog 50 0 = some 0 := by kernel_rfl
theorem V.Zo : a8 Tryz.prog 50 1 = some 1 := by kernel_rfl
end Go.Proofs.YtmaiakpjgomnpaaGreat
namespace Go.Proofs.YtmaiakpjgomnpaaGreat
open Go.Sl 
attribute [local irreducible] af.an aa.kf aa.gU aa.kx aa.ly aa.gz aa.ma af.uZ
theorem R7 {x : Int} {d i : Nat} (hx : 0 ≤ x ∧ x < 65536) : 0 ≤ x / 2 ^ (d - 1 - i) ∧ x / 2 ^ (d - 1 - i) < 2 ^ 62 := by
 have h0 : (0 : Int) < 2 ^ (d - 1 - i) := Int.pow_pos (by decide)
 have h1 := Int.ediv_nonneg hx.1 (Int.le_of_lt h0)
 have h2 : x / 2 ^ (d - 1 - i) ≤ x := Int.ediv_le_self _ hx.1
 exact ⟨h1, by omega⟩
theorem Xv {i : Nat} (h : i ≤ 1000000) : IntKind.i64.wrap ((i : Int).tdiv 8) = ((i / 8 : Nat) : Int) := by
 rw [Int.tdiv_eq_ediv_of_nonneg (by omega), show (i : Int) / 8 = ((i / 8 : Nat) : Int) by omega]
 exact fi (by omega) (by omega)
theorem Nl {kind a : Int} {L1 L2 : List Int} {back i : Nat} (h : a = L1.getD i 0) : (a - aa.ly kind (aa.gz L1 i back) (L2.getD i 0) (aa.gz L2 i back)) % 256 = aa.mM kind L1 L2 back i := by
 rw [h]
 unfold aa.mM
 rfl
set_option maxHeartbeats 2000000 in
theorem Tj (bw : Nat) (p : Option Addr) (c : Nat) (bs : List Int) (x : Int) (d : Nat) (hx : 0 ≤ x ∧ x < 65536) (hd : d ≤ 16) (hbs : bs.length ≤ 100000) : aA Tryz.prog 24 [.pointer (some ⟨bw, 0, none⟩), .int .i64 x, .int .i64 (d : Int)] [ai bw 50 [.slice p bs.length c, .bool true], Row (aC 3 .i64) p bs.length c bs] (aF fun v G => v = .tuple #[] ∧ ∃ q cq, G = [ai bw 50 [.slice q (bs ++ aa.ij x d).length cq, .bool true], Row (aC 3 .i64) q (bs ++ aa.ij x d).length cq (bs ++ aa.ij x d)]) := by
 refine au [(0, _), (1, _), (2, _)] Tryz.func24 rfl Tryz.ntmps24 rfl rfl ?_
 intro w0 F
 refine (QU) ?_
 rw [show Row (aC 3 .i64) p bs.length c bs = Row (aC 3 .i64) p (bs ++ aa.kf x d 0).length c (bs ++ aa.kf x d 0) from by unfold aa.kf; simp, show ai bw 50 [.slice p bs.length c, .bool true] = ai bw 50 [.slice p (bs ++ aa.kf x d 0).length c, .bool true] from by unfold aa.kf; simp]
 refine gN (fun (i : Nat) (q : Option Addr) (cq : Nat) => [(0, .pointer (some ⟨bw, 0, none⟩)), (1, .int .i64 x), (2, .int .i64 (d : Int)), (6, .int .i64 (i : Int))]) (fun (i : Nat) (q : Option Addr) (cq : Nat) => ai bw 50 [.slice q (bs ++ aa.kf x d i).length cq, .bool true] :: Row (aC 3 .i64) q (bs ++ aa.kf x d i).length cq (bs ++ aa.kf x d i) :: F) (fun (i : Nat) (q : Option Addr) (cq : Nat) => i ≤ d) (fun (i : Nat) (q : Option Addr) (cq : Nat) => d - i) (i3 (0) (_) (_) ?_ (eg ln) (sub (aO .nil) ak)) ?_
 ·exact Nat.zero_le _
 intro i q cq
 rintro hi
 have hbl : (bs ++ aa.kf x d i).length = bs.length + i := by rw [List.length_append, aa.JU]
 refine rL TT 8 rfl ?_
 refine aD rfl (fun h10 => ?_) (fun h10 => ?_)
 ·refine rC TT 16 rfl<|(nf)<|(Cw) ?_
  have hq := R7 (d := d) (i := i) hx
  refine (Qf)<|(Ic)<|(Q6) ?_
  refine oV (cF V.u3 Tryz.underlying302 rfl (show IntKind.u64.wrap ((d : Int) - 1 - (i : Int)) = ((d - 1 - i : Nat) : Int) from by rw [show (d : Int) - 1 - (i : Int) = ((d - 1 - i : Nat) : Int) by omega]; exact sP (by omega) (by omega)))<|oV (dN (r := x / 2 ^ (d - 1 - i)) rfl rfl (by omega) (af.lx (k := d - 1 - i) (by omega) rfl))<|oV (jk (r := (x / 2 ^ (d - 1 - i) % 2)) rfl rfl (af.EN hq.1 hq.2))<|cY ((aC 3 .i64)) [(x / 2 ^ (d - 1 - i) % 2)] V.cH V.z3 rfl rfl rfl rfl rfl rfl ?_
  intro b32
  refine ew (c := ((aC 3 .i64))) V.cH V.z3 rfl rfl rfl rfl bo (own aB) (by omega) rfl ?_
  intro p33 c33
  refine (Q6) ?_
  refine cA (dD V.lZ rfl rfl rfl (by exact wD) (by exact Nat.le_of_ble_eq_true rfl) rfl)<|(QG) ?_
  have hs : (bs ++ aa.kf x d i) ++ [(x / 2 ^ (d - 1 - i) % 2)] = bs ++ aa.kf x d (i + 1) := by rw [aa.Uj, List.append_assoc]
  have hs2 : (bs ++ aa.kf x d i).length + 1 = (bs ++ aa.kf x d (i + 1)).length := by rw [← hs]; simp only [List.length_append, List.length_cons, List.length_nil]
  rw [hs, hs2]
  exact j3 (i + 1) _ _ ⟨by omega, by omega⟩ (eg ln) (sub (.cons bo (ao .nil)) bu)
 ·refine (Q5) ?_
  obtain rfl : d = i := by omega
  rw [aa.SQ]
  exact gn eH ⟨rfl, _, _, rfl⟩ (sub (aO .nil) ak)
set_option maxHeartbeats 4000000 in
theorem Ti (bw : Nat) (p : Option Addr) (c : Nat) (bs : List Int) (hB : aa.ma bs) (hbs : bs.length ≤ 100000) : aA Tryz.prog 26 [.pointer (some ⟨bw, 0, none⟩)] [ai bw 50 [.slice p bs.length c, .bool true], Row (aC 3 .i64) p bs.length c bs] (aF fun v G => ∃ q cq, v = .slice q (aa.dZ bs).length cq ∧ G = [Row U5 q (aa.dZ bs).length cq (aa.dZ bs), ai bw 50 [.slice p bs.length c, .bool true], Row (aC 3 .i64) p bs.length c bs]) := by
 refine au [(0, _)] Tryz.func26 rfl Tryz.ntmps26 rfl rfl ?_
 intro w0 F
 refine rT TT 10 rfl<|(Ic)<|(pS) ?_
 refine oV (iJ (r := (((bs.length + 7) / 8 : Nat) : Int)) rfl rfl (by decide) (by rw [Int.tdiv_eq_ediv_of_nonneg (by omega), show ((bs.length : Int) + 7) / 8 = (((bs.length + 7) / 8 : Nat) : Int) by omega]; exact fi (by omega) (by omega)))<|kL ((bs.length + 7) / 8 : Nat) ((bs.length + 7) / 8 : Nat) (U5) rfl rfl V.bE V.z5 rfl rfl rfl rfl (by omega) (by omega) rfl rfl ?_
 intro xJ
 refine (Qe) ?_
 rw [show List.replicate ((bs.length + 7) / 8) (0 : Int) = aa.gU bs 0 from (aa.SV bs).symm]
 refine cE (fun (i : Nat) => [(0, .pointer (some ⟨bw, 0, none⟩)), (3, .slice (some ⟨xJ, 0, none⟩) ((bs.length + 7) / 8 : Nat) ((bs.length + 7) / 8 : Nat)), (4, .int .i64 (i : Int))]) (fun (i : Nat) => Row U5 (some ⟨xJ, 0, none⟩) ((bs.length + 7) / 8) ((bs.length + 7) / 8) (aa.gU bs i) :: ai bw 50 [.slice p bs.length c, .bool true] :: Row (aC 3 .i64) p bs.length c bs :: F) (fun (i : Nat) => i ≤ bs.length) (fun (i : Nat) => bs.length - i) (i1 (0) ?_ (gL ln) (sub (eU .nil) ak)) ?_
 ·exact Nat.zero_le _
 intro i
 rintro hi
 refine rL TT 7 rfl<|oV (az V.lZ rfl dC rfl)<|(Q8) ?_
 refine aD rfl (fun h20 => ?_) (fun h20 => ?_)
 ·refine (Qs) ?_
  refine oV (jW (r := ((i % 8 : Nat) : Int)) rfl rfl (by decide) ((lh (by omega)).trans (by omega)))<|(IP)<|(Qn)<|(qV)<|(Q3) ?_
  refine oV (jX (r := ((7 - i % 8 : Nat) : Int)) rfl rfl (by rw [show (7 : Int) - ((i % 8 : Nat) : Int) = ((7 - i % 8 : Nat) : Int) by omega]; exact sP (by omega) (by omega)))<|(Qg) ?_
  have hbi : 0 ≤ bs.getD i 0 ∧ bs.getD i 0 ≤ 1 := by rcases hB.get i with e | e <;> rw [e] <;> decide
  have hpi : 0 ≤ (aa.gU bs i).getD (i / 8) 0 ∧ (aa.gU bs i).getD (i / 8) 0 < 256 := by rw [aa.qx (by omega)]; exact aa.w6 hB i (i / 8)
  have hpl := aa.lK bs i
  have hg1 : U5.g (aa.gU bs i) ((i / 8 : Nat) : Int) = (aa.gU bs i).getD (i / 8) 0 := rfl
  have hg2 : (aC 3 .i64).g bs (i : Int) = bs.getD i 0 := rfl
  refine OF V.mixed (by kernel_rfl)<|rR TT 2 rfl<|(Wv) ?_
  refine rR TT 2 rfl<|(Wv) ?_
  refine oR (xI V.bE (own aB))<|oR (xL V.s5 (own aB))<|rR TT 3 rfl<|oR (az V.lZ rfl dC rfl)<|(pg) ?_
  refine oR (qM (c := ((aC 3 .i64))) V.cH rfl rfl (own dJ) (by omega) (by omega))<|oR (wm (c := ((aC 3 .i64))) V.s3 rfl (own dJ) (by omega) (by omega) rfl rfl)<|oR (cF V.u3 Tryz.underlying5 rfl (mn hbi.1 (by omega)))<|(pg) ?_
  refine oR (gA (r := bs.getD i 0 * 2 ^ (7 - i % 8)) rfl rfl (by omega) (af.WH hbi (by omega) rfl))<|oR (mT (r := (af.uZ ((aa.gU bs i).getD (i / 8) 0) (bs.getD i 0) (7 - i % 8))) rfl rfl (af.RK hpi hbi (by omega)))<|oR (xI V.bE (own aB))<|Rg.c4<|(UG)<|(QG) ?_
  rw [show List.set (aa.gU bs i) (((i / 8 : Nat) : Int)).toNat (af.uZ ((aa.gU bs i).getD (i / 8) 0) (bs.getD i 0) (7 - i % 8)) = aa.gU bs (i + 1) from aa.Rt hB (by omega) rfl]
  exact j1 (i + 1) ⟨by omega, by omega⟩ (gL ln) (sub (eU .nil) ak)
 ·refine rC TT 12 rfl ?_
  obtain rfl : bs.length = i := by omega
  rw [show (bs.length + 7) / 8 = (aa.dZ bs).length from (aa.uu bs).symm]
  exact ag (av rfl) ⟨_, _, rfl, rfl⟩ (sub (eU .nil) ak)
set_option maxHeartbeats 4000000 in
theorem WV (kind : Int) (p1 : Option Addr) (c1 n1 : Nat) (L1 : List Int) (R1 : ad) (hR1 : ∀ w0 h, R1 w0 h → aE U5 p1 n1 L1 w0 h) (hn1 : L1.length = n1) (hB1 : af.an L1) (p2 : Option Addr) (c2 n2 : Nat) (L2 : List Int) (R2 : ad) (hR2 : ∀ w0 h, R2 w0 h → aE U5 p2 n2 L2 w0 h) (hn2 : L2.length = n2) (hB2 : af.an L2) (back : Nat) (hbk : 1 ≤ back ∧ back ≤ 8) (h2 : n2 = 0 ∨ n2 = n1) (hk : 0 ≤ kind ∧ kind ≤ 4) (hn1s : n1 < 500000000) : aA Tryz.prog 25 [.int .i64 kind, .slice p1 n1 c1, .slice p2 n2 c2, .int .i64 (back : Int)] [R1, R2] (aF fun v G => ∃ q cq, v = .tuple #[.slice q n1 cq, .bool true] ∧ G = [Row U5 q n1 cq (aa.iU kind L1 L2 back), R1, R2]) := by
 refine au [(0, _), (1, _), (2, _), (3, _)] Tryz.func25 rfl Tryz.ntmps25 rfl rfl ?_
 intro w0 F
 refine (QU) ?_
 refine iz (fun (u : Unit) => [(0, .int .i64 kind), (1, .slice p1 n1 c1), (2, .slice p2 n2 c2), (3, .int .i64 (back : Int))]) (fun (u : Unit) => R1 :: R2 :: F) (fun (u : Unit) => True) ?_ ?_
 ·rcases (Nat.eq_zero_or_pos n2) with hz | hz
  ·refine rL TT 3 rfl ?_
   refine (QE) ?_
   refine (Q6) ?_
   refine (Q0) ?_
   refine (Qr) ?_
   refine (Qg) ?_
   refine (Q0) ?_
   refine (QE) ?_
   refine (Qg) ?_
   refine (Q0) ?_
   refine (Qr) ?_
   refine (Q8) ?_
   refine (Q0) ?_
   refine (Qr) ?_
   refine (QI) ?_
   refine j1 (()) ?_ (eg ln) (sub (aO .nil) ak)
   exact trivial
  ·refine rL TT 3 rfl ?_
   refine (QE) ?_
   refine (Q6) ?_
   refine (Q0) ?_
   refine (Qr) ?_
   refine (Qg) ?_
   refine (Q0) ?_
   refine (QE) ?_
   refine (Qg) ?_
   refine (Q0) ?_
   refine (Qr) ?_
   refine (Q8) ?_
   refine (Q0) ?_
   refine (Qu) ?_
   refine (Q3) ?_
   refine (Q0) ?_
   refine (yk) ?_
   refine (Q1) ?_
   refine j1 (()) ?_ (eg ln) (sub (aO .nil) ak)
   exact trivial
 ·intro u
  rintro -
  refine (Q4) ?_
  refine N3 (Row (U5) none 0 0 []) (Row.nil _ _ _)<|ew (c := (U5)) V.bE V.z5 rfl rfl rfl rfl dj (by exact bK hR1 dC) (by omega) rfl ?_
  intro p39 c39
  refine (Qe) ?_
  rw [List.nil_append, Nat.zero_add, show Row U5 p39 n1 c39 L1 = Row U5 p39 n1 c39 (aa.kx kind L1 L2 back 0) from by rw [aa.SN]]
  refine cE (fun (i : Nat) => [(0, .int .i64 kind), (1, .slice p1 n1 c1), (2, .slice p2 n2 c2), (3, .int .i64 (back : Int)), (10, .slice p39 n1 c39), (11, .int .i64 (i : Int))]) (fun (i : Nat) => Row U5 p39 n1 c39 (aa.kx kind L1 L2 back i) :: R1 :: R2 :: F) (fun (i : Nat) => i ≤ n1) (fun (i : Nat) => n1 - i) (i1 (0) ?_ (jx (bP ln)) (sub (eU .nil) ak)) ?_
  ·exact Nat.zero_le _
  intro i
  rintro hi
  refine rL TT 9 rfl ?_
  refine aD rfl (fun h43 => ?_) (fun h43 => ?_)
  ·refine (Q5) ?_
   refine wN [pz 0 [] [10], pz 0 [] [11], pz 0 [] [10], pz 0 [] [11], pz 12 [2, 3] [], pz 28 [4] [], pz 0 [] [0], pz 0 [] [1], pz 0 [] [2], pz 0 [] [11], pz 0 [] [3], pz 1984 [6, 7, 8, 9, 10] [], pz 4092 [5, 11] [], pz 8191 [0, 1] [], pz 16383 [13, 12] []] [⟨fun y => Row U5 p39 n1 c39 (aa.kx kind L1 L2 back i), none, some 14, [4, 5, 13]⟩, ⟨fun y => R1, none, none, [11]⟩, ⟨fun y => R2, none, none, [11]⟩, ⟨fun y => Row U5 p39 n1 c39 ((aa.kx kind L1 L2 back i).set (i : Int).toNat (aa.mM kind L1 L2 back i)), some 14, none, []⟩] F V.mixed ?_
   iterate 4 refine nM ?_
   refine (CF)<|(Jf) ?_
   iterate 5 refine nM ?_
   refine nE (fun y FF hA => aV (Post := [R1, R2]) (ME kind p1 c1 n1 L1 R1 hR1 hn1 hB1 p2 c2 n2 L2 R2 hR2 hn2 hB2 i back (by omega) hbk.2 (by omega) (by omega)) V.X3 rfl (aO .nil) (fun v G h => by rcases h with ⟨rfl, rfl⟩; exact ⟨rfl, .refl _⟩))<|nV (fun y hA L => jX (r := (aa.mM kind L1 L2 back i)) rfl rfl ((aa.ft _).trans (Nl (aa.MC (by omega)))))<|(CF) ?_
   refine nE (fun y FF hA => de (kM (c := (U5)) (_) V.s5 rfl rfl rfl (by exact fO) (by omega) (by omega) rfl rfl) ⟨rfl, .refl _⟩)<|(Qb) ?_
   intro y hA
   clear hA
   show ks _ _ _ _ (R1 :: R2 :: Row U5 p39 n1 c39 ((aa.kx kind L1 L2 back i).set (i : Int).toNat (aa.mM kind L1 L2 back i)) :: F)
   refine jh<|bj<|(Qo)<|(Q7)<|(zZ)<|(pf) ?_
   refine c4 ?_
   rw [show List.set (aa.kx kind L1 L2 back i) ((i : Int)).toNat (aa.mM kind L1 L2 back i) = aa.kx kind L1 L2 back (i + 1) from aa.LA (by omega)]
   exact j1 (i + 1) ⟨by omega, by omega⟩ (jx (bP ln)) (sub (.cons bo (aO .nil)) ak)
  ·refine (Qi) ?_
   obtain rfl : i = n1 := by omega
   rw [show aa.kx kind L1 L2 back i = aa.iU kind L1 L2 back from hn1 ▸ aa.JS kind L1 L2 back]
   refine (Qs) ?_
   exact ag (ev rfl rfl) ⟨_, _, rfl, rfl⟩ (sub (eU .nil) ak)
end Go.Proofs.YtmaiakpjgomnpaaGreat
namespace Go.Proofs.YtmaiakpjgomnpaaGreat
open Go.Sl
theorem V.tU : iA Tryz.prog 46 = some (4, 5, 1) := by kernel_rfl
theorem V.YY : ay Tryz.prog 24 = true := by kernel_rfl
theorem V.oC : ay Tryz.prog 25 = true := by kernel_rfl
theorem V.An : ay Tryz.prog 26 = true := by kernel_rfl
theorem V.Xt : eF Tryz.prog 50 = some [(0, 1), (1, 1)] := by kernel_rfl
theorem V.Zc : cx Tryz.prog 50 = some ([.slice none 0 0, .bool false]) := by kernel_rfl
end Go.Proofs.YtmaiakpjgomnpaaGreat
namespace Go.Proofs.YtmaiakpjgomnpaaGreat
open Go.Sl 
attribute [local irreducible] af.an aa.cP aa.aX aa.e9 aa.df aa.kt aa.jL aa.gF aa.gP aa.bG aa.dZ aa.iU aa.cm aa.ij aa.tB aa.fR aa.ma
theorem T1 (kind : Int) (p1 : Option Addr) (c1 n1 : Nat) (L1 : List Int) (R1 : ad) (hR1 : ∀ w0 h, R1 w0 h → aE U5 p1 n1 L1 w0 h) (hn1 : L1.length = n1) (hB1 : af.an L1) (p2 : Option Addr) (c2 n2 : Nat) (L2 : List Int) (R2 : ad) (hR2 : ∀ w0 h, R2 w0 h → aE U5 p2 n2 L2 w0 h) (hn2 : L2.length = n2) (hB2 : af.an L2) (back : Nat) (hbk : 1 ≤ back ∧ back ≤ 8) (h2 : n2 = 0 ∨ n2 = n1) (hk : 0 ≤ kind ∧ kind ≤ 4) (hn1s : n1 < 500000000) : aA Tryz.prog 25 [.int .i64 kind, .slice p1 n1 c1, .slice p2 n2 c2, .int .i64 (back : Int)] [R1, R2] (aF fun v G => ∃ a : Option Addr × Nat, v = .tuple #[.slice a.1 n1 a.2, .bool true] ∧ G = [Row U5 a.1 n1 a.2 (aa.iU kind L1 L2 back), R1, R2]) :=
  (WV kind p1 c1 n1 L1 R1 hR1 hn1 hB1 p2 c2 n2 L2 R2 hR2 hn2 hB2 back hbk h2 hk hn1s).mono fun e G ⟨v, he, q, cq, h1, h3⟩ => ⟨v, he, (q, cq), h1, h3⟩
theorem SH (kind : Int) (p1 : Option Addr) (c1 n1 : Nat) (L1 : List Int) (R1 : ad) (hR1 : ∀ w0 h, R1 w0 h → aE U5 p1 n1 L1 w0 h) (hn1 : L1.length = n1) (hB1 : af.an L1) (back : Nat) (hbk : 1 ≤ back ∧ back ≤ 8) (hk : 0 ≤ kind ∧ kind ≤ 4) (hn1s : n1 < 500000000) : aA Tryz.prog 25 [.int .i64 kind, .slice p1 n1 c1, .slice none 0 0, .int .i64 (back : Int)] [R1] (aF fun v G => ∃ a : Option Addr × Nat, v = .tuple #[.slice a.1 n1 a.2, .bool true] ∧ G = [Row U5 a.1 n1 a.2 (aa.iU kind L1 [] back), R1]) := fun w0 F w hi => by
  have hi2 : Inv w0 ([R1, Row U5 none 0 0 []] ++ F) w := (hi.r8 (Row.nil U5 _ _)).perm (List.perm_middle (l₁ := [R1])).symm
  refine ((T1 kind p1 c1 n1 L1 R1 hR1 hn1 hB1 none 0 0 [] (Row U5 none 0 0 []) (fun _ _ hh => hh.rd) rfl aH.gj back hbk (.inl rfl) hk hn1s) w0 F w hi2).mono ?_
  rintro e w' ⟨G, h1, v, rfl, a, rfl, rfl⟩
  refine ⟨[Row U5 a.1 n1 a.2 (aa.iU kind L1 [] back), R1], ?_, _, rfl, a, rfl, rfl⟩
  exact (h1.perm (List.perm_middle (l₁ := [Row U5 a.1 n1 a.2 (aa.iU kind L1 [] back), R1]))).tail
abbrev ni (h : List Int) (b : Nat) (ms : List Ce) (q : Option Addr) (c : Nat) (z : List Int) : List Ce := Ce.mk aa.bR (some ⟨b, 0, none⟩) 13 h :: (ms ++ [Ce.mk aa.aZ q c z, Ce.mk aa.aY none 0 []])
theorem G5 (a b c d : Ce) : Instr.fill (fun i => some (i * aP.sz, aP.sz)) ((List.replicate 4 [Value.string ByteArray.empty, .slice none 0 0]).flatten.toArray) [(0, .agg (aP.e a).toArray), (1, .agg (aP.e b).toArray), (2, .agg (aP.e c).toArray), (3, .agg (aP.e d).toArray)] = some (([a, b, c, d] : List Ce).flatMap aP.e).toArray := by
  simp [Instr.fill, Value.cells, List.replicate]
theorem DJ {h : List Int} {b : Nat} {ms : List Ce} {aK : List aa.Ch} {q : Option Addr} {c : Nat} {z : List Int} (hm : ms.map Ce.ch = aK) : (ni h b ms q c z).map Ce.ch = aa.iF h aK z := by
  simp only [ni, List.map_cons, List.map_append, hm]
  rfl
theorem Me {h : List Int} {b : Nat} {ms : List Ce} {aK : List aa.Ch} {q : Option Addr} {c : Nat} {z : List Int} (o : aa.lj h aK z) (hm : ms.map Ce.ch = aK) : ∀ x ∈ ni h b ms q c z, aa.jL x.ch := fun x hx => by
  have k := o.ok
  rw [← DJ (b := b) (q := q) (c := c) hm] at k
  exact k _ (List.mem_map.2 ⟨x, hx, rfl⟩)
theorem Sf {h : List Int} {b : Nat} {ms : List Ce} {q : Option Addr} {c c1 : Nat} {z : List Int} (h13 : h.length = 13) {w0 : World} {hp : Hp} (hh : bZ w0 [Row U5 (some ⟨b, 0, none⟩) 13 c1 h, DK ms, Row U5 q z.length c z] hp) : DK (ni h b ms q c z) w0 hp := by
  obtain ⟨h1, h2, _, l1, l2, a, h3, h4, _, l3, l4, d, h5, h6, _, l5, l6, e, _⟩ := hh
  intro x hx
  rcases List.mem_cons.1 hx with rfl | hx
  · have := (Row.Fg a).mono l1
    rw [← h13] at this
    exact this
  · rcases List.mem_append.1 hx with hx | hx
    · exact (d x hx).mono (Hp.le_trans l3 l2)
    · simp only [List.mem_cons, List.not_mem_nil, or_false] at hx
      rcases hx with rfl | rfl
      · exact (Row.Fg e).mono (Hp.le_trans l5 (Hp.le_trans l4 l2))
      · exact ⟨rfl, .inl rfl⟩
set_option maxHeartbeats 16000000 in
theorem Lr (p : Option Addr) (cap : Nat) (vv nn : List Int) (hcap : vv.length ≤ cap) (hB : af.an vv) (hN : af.an nn) (hn4 : nn.length = 4) : aA Tryz.prog 6 [.slice p vv.length cap, .agg (ints .u8 nn).toArray] [aE U5 p vv.length vv] (aF fun w G => w = .bool true ∧ G = [aE U5 p vv.length vv]) := by
  refine au [(0, _), (1, _)] Tryz.func6 rfl Tryz.ntmps6 rfl rfl ?_
  intro w0 F
  refine (Qt) ?_
  refine iI rfl (rK _ _) rfl ?_
  intro b3
  refine (Q1) ?_
  refine aj (KC) V.xJ  rfl .nil rfl ?_
  rintro _ _ ⟨rfl, rfl⟩
  refine (Q1) ?_
  rcases ((by omega : (1 ≤ vv.length ∧ vv.length ≤ 256) ∨ vv.length < 1 ∨ (¬ vv.length < 1 ∧ 256 < vv.length))) with hl | hl | hl
  ·
    refine (Q9) ?_
    have hb0 : 0 ≤ (nn.getD ((0 : Int).toNat) 0) ∧ (nn.getD ((0 : Int).toNat) 0) < 256 := hN.get _
    have hb1 : 0 ≤ (nn.getD ((1 : Int).toNat) 0) ∧ (nn.getD ((1 : Int).toNat) 0) < 256 := hN.get _
    have hb2 : 0 ≤ (nn.getD ((2 : Int).toNat) 0) ∧ (nn.getD ((2 : Int).toNat) 0) < 256 := hN.get _
    have hb3 : 0 ≤ (nn.getD ((3 : Int).toNat) 0) ∧ (nn.getD ((3 : Int).toNat) 0) < 256 := hN.get _
    refine (Q4)<|(QE)<|(Qd)<|(Qr)<|(Qc) ?_
    obtain ⟨d, hd, hdv⟩ := aa.OD (k := (nn.getD ((0 : Int).toNat) 0) % 4) (by omega)
    have h2d := aa.sR hd
    have Av := hd.of
    refine (Qo) ?_
    refine cY ((aC 3 .i64)) [1, 2, 4, 8] V.cH V.z3 rfl rfl rfl rfl rfl rfl ?_
    intro b32
    refine oV (ez 0 rfl V.tU rfl rfl (by omega))<|oV (jv (0 : Int) V.s5 rfl dC (by (simp only [List.length_cons, List.length_nil]; omega)) (by omega) (by omega))<|oV (jW (r := (nn.getD ((0 : Int).toNat) 0) % 4) rfl rfl (by decide) (lh (by omega)))<|oV (qM (c := ((aC 3 .i64))) V.cH rfl rfl (own aB) (by omega) (by omega))<|oV (wm (c := ((aC 3 .i64))) V.s3 rfl (own aB) (by omega) (by omega) rfl rfl) ?_
    rw [show (aC 3 .i64).g [1, 2, 4, 8] ((nn.getD ((0 : Int).toNat) 0) % 4) = (d : Int) from hdv]
    refine (Q3) ?_
    refine oV (cR V.Xt V.Zc rfl (cs := [_, _]) rfl)<|iI rfl (cs := [_, _]) rfl rfl ?_
    intro ra
    refine (Qe) ?_
    refine S2 (B := ai ra 50 [.slice none (aa.cm (vv.take 0) d).length 0, .bool true]) dj (fun h hh => by rw [show (aa.cm (vv.take 0) d).length = 0 from by unfold aa.cm; simp]; exact hh)<|iP (Row (aC 3 .i64) none 0 0 []) (Row.nil _ _ _) ?_
    rw [show Row (aC 3 .i64) none 0 0 [] = Row (aC 3 .i64) none (aa.cm (vv.take 0) d).length 0 (aa.cm (vv.take 0) d) from by unfold aa.cm; simp]
    refine gN (fun (i : Nat) (q : Option Addr) (cq : Nat) => [(0, .slice p vv.length cap), (3, .pointer (some ⟨b3, 0, none⟩)), (5, .int .i64 (d : Int)), (6, .pointer (some ⟨ra, 0, none⟩)), (7, .int .i64 (i : Int))]) (fun (i : Nat) (q : Option Addr) (cq : Nat) => ai ra 50 [.slice q (aa.cm (vv.take i) d).length cq, .bool true] :: Row (aC 3 .i64) q (aa.cm (vv.take i) d).length cq (aa.cm (vv.take i) d) :: ai b3 46 (CA [] .u8 nn []) :: aE U5 p vv.length vv :: F) (fun (i : Nat) (q : Option Addr) (cq : Nat) => i ≤ vv.length) (fun (i : Nat) (q : Option Addr) (cq : Nat) => vv.length - i) (i3 (0) (_) (_) ?_ (bP ln) (sub (.cons ax (ao (.cons ax (.cons ax .nil)))) bu)) ?_
    ·
      exact Nat.zero_le _
    intro i q cq
    rintro hi
    refine rL TT 9 rfl ?_
    refine aD rfl (fun h43 => ?_) (fun h43 => ?_)
    ·
      refine (Q5) ?_
      have hvi : U5.g vv (i : Int) = vv.getD i 0 := rfl
      have hvb := hB.get i
      have hbl := aa.rf (v := vv) (d := d) (i := i) (by omega) hd
      refine (Q5) ?_
      refine oV (xI V.bE (by exact bK (fun _ _ h => h) gq))<|oV (xL V.s5 (by exact bK (fun _ _ h => h) gq)) ?_
      rw [hvi]
      refine (QN)<|(Q7) ?_
      refine aj (Tj ra q cq (aa.cm (vv.take i) d) (vv.getD i 0) d (by omega) (by omega) (by omega)) V.YY  rfl (aO .nil) rfl ?_
      rintro _ _ ⟨rfl, q2, cq2, rfl⟩
      rw [aa.FY (by omega)]
      refine (QG) ?_
      refine j3 (i + 1) (_) (_) ?_ (bP ln) (sub (mf .nil) ak)
      exact ⟨by omega, by omega⟩
    ·
      refine (Qi) ?_
      obtain rfl : i = vv.length := by omega
      rw [List.take_length]
      have hk5 : 0 ≤ ((nn.getD ((2 : Int).toNat) 0) % 5) ∧ ((nn.getD ((2 : Int).toNat) 0) % 5) ≤ 4 := by omega
      have hbit := aa.uv vv d
      have hrow := aa.x8 hl.2 hd
      have hpkl : (aa.dZ (aa.cm vv d)).length ≤ 256 := by rw [aa.qC]; exact hrow
      have hbl : (aa.cm vv d).length ≤ 2048 := by have := aa.rf (v := vv) (d := d) (i := vv.length) (by omega) hd; rwa [List.take_length] at this
      refine (Qo) ?_
      refine oV (ez 1 rfl V.tU rfl rfl (by omega)) ?_
      refine oV (jv (1 : Int) V.s5 rfl dJ (by (simp only [List.length_cons, List.length_nil]; omega)) (by omega) (by omega)) ?_
      refine (QN) ?_
      refine (Q7) ?_
      refine (IP) ?_
      refine (Rr) ?_
      refine (Nx) ?_
      refine oV (jk (r := ((nn.getD ((1 : Int).toNat) 0) % 2 ^ d)) rfl rfl (aa.wS (by omega) hd)) ?_
      refine (Q8) ?_
      refine jg [pz 0 [] [3], pz 1 [0] [], pz 3 [1] [], pz 7 [2] [], pz 0 [] [6], pz 16 [4] [], pz 63 [3, 5] [], pz 127 [6] [], pz 255 [7] [], pz 255 [7] [], pz 511 [8] [], pz 2047 [9] []] [⟨fun y => ai ra 50 [.slice q (aa.cm vv d).length cq, .bool true], none, none, [5]⟩, ⟨fun y => Row (aC 3 .i64) q (aa.cm vv d).length cq (aa.cm vv d), none, none, [5]⟩, ⟨fun y => ai b3 46 (CA [] .u8 nn []), none, none, [1]⟩, ⟨fun y => aE U5 p vv.length vv, none, none, []⟩, ⟨fun y => Row U5 (cB (y 5)) (aa.dZ (aa.cm vv d)).length (dS (y 5)) (aa.dZ (aa.cm vv d)), some 5, none, [6]⟩, ⟨fun y => Row U5 (eS (y 6)).1 (aa.dZ (aa.cm vv d)).length (eS (y 6)).2 (aa.iU ((nn.getD ((2 : Int).toNat) 0) % 5) (aa.dZ (aa.cm vv d)) [] 1), some 6, none, []⟩] F V.mixed (by kernel_rfl) rfl (fun _ => .refl _) (aS _ (aS _ (aS _ (aS _ (cI _ rfl (by intro y y2 h; simp only [h 5 (.inl rfl)]) (cI _ rfl (by intro y y2 h; simp only [h 6 (.inl rfl)]) fg)))))) ?_
      refine nV (fun y hA L => ez 2 rfl V.tU rfl rfl (by omega)) ?_
      refine nR (fun y FF hA => jv (2 : Int) V.s5 rfl aB (by (simp only [List.length_cons, List.length_nil]; omega)) (by omega) (by omega)) ?_
      refine nV (fun y hA L => cF V.u5 Tryz.underlying3 rfl wI) ?_
      refine nV (fun y hA L => jW (r := ((nn.getD ((2 : Int).toNat) 0) % 5)) rfl rfl (by decide) (lh (by omega))) ?_
      refine nM ?_
      refine ek (fun y v => .slice (cB v) (aa.dZ (aa.cm vv d)).length (dS v)) (fun y v => True) _ _ (fun y v => [Row U5 (cB v) (aa.dZ (aa.cm vv d)).length (dS v) (aa.dZ (aa.cm vv d))]) _ (fun y => rfl) (fun y => rfl) (fun y => rfl) (fun y => rfl) (fun y FF hA => mI (Post := [ai ra 50 [.slice q (aa.cm vv d).length cq, .bool true], Row (aC 3 .i64) q (aa.cm vv d).length cq (aa.cm vv d)]) (Ti ra q cq (aa.cm vv d) hbit (by omega)) V.An rfl (aO .nil)) (by intros; rfl) (by intros; rfl) (by intros; rfl) (by intro y y2 h; simp only [h 5 (.inl rfl)]) (by intro y y2 h; rfl) ?_
      refine ek (fun y v => .tuple #[.slice (eS v).1 (aa.dZ (aa.cm vv d)).length (eS v).2, .bool true]) (fun y v => True) _ _ (fun y v => [Row U5 (eS v).1 (aa.dZ (aa.cm vv d)).length (eS v).2 (aa.iU ((nn.getD ((2 : Int).toNat) 0) % 5) (aa.dZ (aa.cm vv d)) [] 1)]) _ (fun y => rfl) (fun y => rfl) (fun y => rfl) (fun y => rfl) (fun y FF hA => rV (α := Option Addr × Nat) (fun a => .tuple #[.slice a.1 (aa.dZ (aa.cm vv d)).length a.2, .bool true]) eS (fun a => [Row U5 a.1 (aa.dZ (aa.cm vv d)).length a.2 (aa.iU ((nn.getD ((2 : Int).toNat) 0) % 5) (aa.dZ (aa.cm vv d)) [] 1), Row U5 (cB (y 5)) (aa.dZ (aa.cm vv d)).length (dS (y 5)) (aa.dZ (aa.cm vv d))]) (SH ((nn.getD ((2 : Int).toNat) 0) % 5) (cB (y 5)) (dS (y 5)) (aa.dZ (aa.cm vv d)).length (aa.dZ (aa.cm vv d)) (Row U5 (cB (y 5)) (aa.dZ (aa.cm vv d)).length (dS (y 5)) (aa.dZ (aa.cm vv d))) (fun _ _ hh => hh.rd) rfl (aa.K3 hbit) 1 (by decide) hk5 (by rw [aa.uu]; omega)) (fun a => rfl) V.oC rfl (ao .nil)) (by intros; rfl) (by intros; rfl) (by intros; rfl) (by intro y y2 h; simp only [h 5 (.inr (by decide)), h 6 (.inl rfl)]) (by intro y y2 h; rfl) ?_
      refine dm _ (fun y => rfl) rfl rfl rfl (fun y hA L => de (iW rfl) ⟨rfl, rfl⟩) (by intros; rfl) (by intro y y2 h; simp only [h 6 (.inr (by decide))]) ?_
      refine dm _ (fun y => rfl) rfl rfl rfl (fun y hA L => de (eN rfl rfl) ⟨rfl, rfl⟩) (by intros; rfl) (by intro y y2 h; simp only [h 6 (.inr (by decide))]) ?_
      refine (O4) ?_
      refine dm _ (fun y => rfl) rfl rfl rfl (fun y hA L => de (iN rfl) ⟨rfl, rfl⟩) (by intros; rfl) (by intro y y2 h; simp only [h 6 (.inr (by decide))]) ?_
      refine nA ?_
      refine (Qb) ?_
      intro y hA
      clear hA
      refine bj<|bD [(0, .slice p vv.length cap), (3, .pointer (some ⟨b3, 0, none⟩)), (5, .int .i64 (d : Int)), (8, .int .i64 ((nn.getD ((1 : Int).toNat) 0) % 2 ^ d)), (9, .slice (eS (y 6)).1 (aa.dZ (aa.cm vv d)).length (eS (y 6)).2)] (.cons (d := 0) rfl (.cons (d := 3) rfl (.cons (d := 5) rfl (.cons (d := 8) rfl (.cons (d := 9) rfl (.nil _))))))<|a7 (M := ai ra 50 [.slice q (aa.cm vv d).length cq, .bool true] :: Row (aC 3 .i64) q (aa.cm vv d).length cq (aa.cm vv d) :: ai b3 46 (CA [] .u8 nn []) :: aE U5 p vv.length vv :: Row U5 (cB (y 5)) (aa.dZ (aa.cm vv d)).length (dS (y 5)) (aa.dZ (aa.cm vv d)) :: Row U5 (eS (y 6)).1 (aa.dZ (aa.cm vv d)).length (eS (y 6)).2 (aa.iU ((nn.getD ((2 : Int).toNat) 0) % 5) (aa.dZ (aa.cm vv d)) [] 1) :: F) (fun _ _ h => h) ?_
      generalize (cB (y 5)) = po
      generalize (dS (y 5)) = co
      generalize (eS (y 6)).1 = pd
      generalize (eS (y 6)).2 = cd0
      refine (Q9) ?_
      refine oV (ez 2 rfl V.tU rfl rfl (by omega))<|oV (jv (2 : Int) V.s5 rfl dJ (by (simp only [List.length_cons, List.length_nil]; omega)) (by omega) (by omega))<|oV (jW (r := ((nn.getD ((2 : Int).toNat) 0) % 5)) rfl rfl (by decide) (lh (by omega)))<|cY (U5) [((nn.getD ((2 : Int).toNat) 0) % 5)] V.bE V.z5 rfl rfl rfl rfl rfl rfl ?_
      intro b75
      refine (Q7) ?_
      refine ew (c := (U5)) V.bE V.z5 rfl rfl rfl rfl dj (own IL) (by omega) rfl ?_
      intro p77 c77
      rw [show 1 + (aa.dZ (aa.cm vv d)).length = (aa.bG vv d ((nn.getD ((2 : Int).toNat) 0) % 5)).length from by rw [aa.n7, aa.qC]]
      rw [show [((nn.getD ((2 : Int).toNat) 0) % 5)] ++ (aa.iU ((nn.getD ((2 : Int).toNat) 0) % 5) (aa.dZ (aa.cm vv d)) [] 1) = (aa.bG vv d ((nn.getD ((2 : Int).toNat) 0) % 5)) from by unfold aa.bG; rfl]
      refine (Q8) ?_
      have hgl : (aa.bG vv d ((nn.getD ((2 : Int).toNat) 0) % 5)).length = _ := aa.n7
      refine gu (fun w hi => eX hi (show Row U5 p77 (aa.bG vv d ((nn.getD ((2 : Int).toNat) 0) % 5)).length c77 (aa.bG vv d ((nn.getD ((2 : Int).toNat) 0) % 5)) ∈ _ by exact aB)) (fun hc77 => ?_)
      refine a7 (M := Row U5 p77 (aa.bG vv d ((nn.getD ((2 : Int).toNat) 0) % 5)).length c77 (aa.bG vv d ((nn.getD ((2 : Int).toNat) 0) % 5)) :: ai b3 46 (CA [] .u8 nn []) :: aE U5 p vv.length vv :: F) (sub (ao (.cons bo (.cons bo .nil))) kv)<|(Q4) ?_
      refine oV (dN (r := (vv.length : Int) / 256) rfl rfl (by decide) (af.lx (k := 8) (by decide) rfl))<|(nF)<|(Q6)<|(w7)<|(Q7)<|(nF) ?_
      refine yO (T := 5) (k := .u8) (aa.eI (vv.length : Int) (d : Int) 0) V.bE V.z5 rfl rfl rfl rfl ?_
      intro b87
      refine (Q8) ?_
      refine jg [pz 0 [] [12], pz 1 [0] [], pz 0 [] [3], pz 4 [2] [], pz 0 [] [8], pz 16 [4] [], pz 60 [3, 5] [], pz 124 [6] [], pz 0 [] [11], pz 256 [8] [], pz 768 [9] [], pz 0 [] [], pz 4095 [1, 7, 10, 11] [], pz 8191 [12] []] [⟨fun y => Row U5 (some ⟨b87, 0, none⟩) 13 13 (aa.eI (vv.length : Int) (d : Int) 0), none, none, []⟩, ⟨fun y => Row U5 p77 (aa.bG vv d ((nn.getD ((2 : Int).toNat) 0) % 5)).length c77 (aa.bG vv d ((nn.getD ((2 : Int).toNat) 0) % 5)), none, none, [9]⟩, ⟨fun y => ai b3 46 (CA [] .u8 nn []), none, none, [3]⟩, ⟨fun y => aE U5 p vv.length vv, none, none, []⟩, ⟨fun y => Row (U5) (some ⟨(eu (cB (y 6))), 0, none⟩) 2 2 [(nn.getD ((3 : Int).toNat) 0), ((nn.getD ((1 : Int).toNat) 0) % 2 ^ d)], some 6, none, []⟩, ⟨fun y => Row U5 (cB (y 9)) (aa.cP (aa.bG vv d ((nn.getD ((2 : Int).toNat) 0) % 5))).length (dS (y 9)) (aa.cP (aa.bG vv d ((nn.getD ((2 : Int).toNat) 0) % 5))), some 9, none, []⟩, ⟨fun y => Row (aP) (some ⟨(eu (cB (y 12))), 0, none⟩) 4 4 (ni (aa.eI (vv.length : Int) (d : Int) 0) b87 [Ce.mk aa.aQ (some ⟨(eu (cB (y 6))), 0, none⟩) 2 [(nn.getD ((3 : Int).toNat) 0), (aa.tB d ((nn.getD ((1 : Int).toNat) 0) % 2 ^ d) (nn.getD ((3 : Int).toNat) 0))]] (cB (y 9)) (dS (y 9)) (aa.cP (aa.bG vv d ((nn.getD ((2 : Int).toNat) 0) % 5)))), some 12, none, []⟩] F V.mixed (by kernel_rfl) rfl (fun _ => .refl _) (aS _ (aS _ (aS _ (aS _ (cI _ rfl (by intro y y2 h; simp only [h 6 (.inl rfl)]) (cI _ rfl (by intro y y2 h; simp only [h 9 (.inl rfl)]) (cI _ rfl (by intro y y2 h; simp only [h 6 (.inr (by decide)), h 9 (.inr (by decide)), h 12 (.inl rfl)]) fg)))))))<|nM<|nV (fun y hA L => cR V.uo V.u9 rfl (cs := [_, _]) rfl)<|nV (fun y hA L => ez 3 rfl V.tU rfl rfl (by omega))<|nR (fun y FF hA => jv (3 : Int) V.s5 rfl aB (by (simp only [List.length_cons, List.length_nil]; omega)) (by omega) (by omega))<|nM<|nV (fun y hA L => cF V.u3 Tryz.underlying5 rfl (mn (by omega) (by omega)))<|ek (fun y v => .slice (some ⟨eu (cB v), 0, none⟩) 2 2) (fun y v => True) _ _ (fun y v => [Row (U5) (some ⟨(eu (cB v)), 0, none⟩) 2 2 [(nn.getD ((3 : Int).toNat) 0), ((nn.getD ((1 : Int).toNat) 0) % 2 ^ d)]]) _ (fun y => rfl) (fun y => rfl) (fun y => rfl) (fun y => rfl) (fun y FF hA => uG (od (U5) ([(nn.getD ((3 : Int).toNat) 0), ((nn.getD ((1 : Int).toNat) 0) % 2 ^ d)]) V.bE V.z5 rfl rfl rfl rfl rfl)) (by intros; rfl) (by intros; rfl) (by intros; rfl) (by intro y y2 h; simp only [h 6 (.inl rfl)]) (by intro y y2 h; rfl)<|dm _ (fun y => rfl) rfl rfl rfl (fun y hA L => de (cW (v := .agg #[.string (strOfNums aa.aQ), .slice (some ⟨(eu (cB (y 6))), 0, none⟩) 2 2]) (cR V.uo V.u9 rfl (cs := [_, _]) rfl) rfl) ⟨rfl, rfl⟩) (by intros; rfl) (by intro y y2 h; simp only [h 6 (.inr (by decide))])<|nM<|ek (fun y v => .slice (cB v) (aa.cP (aa.bG vv d ((nn.getD ((2 : Int).toNat) 0) % 5))).length (dS v)) (fun y v => True) _ _ (fun y v => [Row U5 (cB v) (aa.cP (aa.bG vv d ((nn.getD ((2 : Int).toNat) 0) % 5))).length (dS v) (aa.cP (aa.bG vv d ((nn.getD ((2 : Int).toNat) 0) % 5)))]) _ (fun y => rfl) (fun y => rfl) (fun y => rfl) (fun y => rfl) (fun y FF hA => mI (Post := [Row U5 p77 (aa.bG vv d ((nn.getD ((2 : Int).toNat) 0) % 5)).length c77 (aa.bG vv d ((nn.getD ((2 : Int).toNat) 0) % 5))]) (za p77 c77 (aa.bG vv d ((nn.getD ((2 : Int).toNat) 0) % 5)) (Row U5 p77 (aa.bG vv d ((nn.getD ((2 : Int).toNat) 0) % 5)).length c77 (aa.bG vv d ((nn.getD ((2 : Int).toNat) 0) % 5))) (fun w0 h hh => ⟨hh.1, hh.2.rd⟩) (by omega) (aa.rD hk5) hc77) V.Jj rfl (ao .nil)) (by intros; rfl) (by intros; rfl) (by intros; rfl) (by intro y y2 h; simp only [h 9 (.inl rfl)]) (by intro y y2 h; rfl)<|dm _ (fun y => rfl) rfl rfl rfl (fun y hA L => de (cW (v := .agg #[.string (strOfNums aa.aZ), .slice (cB (y 9)) (aa.cP (aa.bG vv d ((nn.getD ((2 : Int).toNat) 0) % 5))).length (dS (y 9))]) (cR V.uo V.u9 rfl (cs := [_, _]) rfl) rfl) ⟨rfl, rfl⟩) (by intros; rfl) (by intro y y2 h; simp only [h 9 (.inr (by decide))])<|nV (fun y hA L => cR V.uo V.u9 rfl (cs := [_, _]) rfl)<|ek (fun y v => .slice (some ⟨eu (cB v), 0, none⟩) 4 4) (fun y v => True) _ _ (fun y v => [Row (aP) (some ⟨(eu (cB v)), 0, none⟩) 4 4 (ni (aa.eI (vv.length : Int) (d : Int) 0) b87 [Ce.mk aa.aQ (some ⟨(eu (cB (y 6))), 0, none⟩) 2 [(nn.getD ((3 : Int).toNat) 0), (aa.tB d ((nn.getD ((1 : Int).toNat) 0) % 2 ^ d) (nn.getD ((3 : Int).toNat) 0))]] (cB (y 9)) (dS (y 9)) (aa.cP (aa.bG vv d ((nn.getD ((2 : Int).toNat) 0) % 5))))]) _ (fun y => rfl) (fun y => rfl) (fun y => rfl) (fun y => rfl) (fun y FF hA => uG (od (aP) ((ni (aa.eI (vv.length : Int) (d : Int) 0) b87 [Ce.mk aa.aQ (some ⟨(eu (cB (y 6))), 0, none⟩) 2 [(nn.getD ((3 : Int).toNat) 0), (aa.tB d ((nn.getD ((1 : Int).toNat) 0) % 2 ^ d) (nn.getD ((3 : Int).toNat) 0))]] (cB (y 9)) (dS (y 9)) (aa.cP (aa.bG vv d ((nn.getD ((2 : Int).toNat) 0) % 5))))) V.l8 V.u9 rfl rfl rfl (G5 (Ce.mk aa.bR (some ⟨b87, 0, none⟩) 13 (aa.eI (vv.length : Int) (d : Int) 0)) (Ce.mk aa.aQ (some ⟨(eu (cB (y 6))), 0, none⟩) 2 [(nn.getD ((3 : Int).toNat) 0), (aa.tB d ((nn.getD ((1 : Int).toNat) 0) % 2 ^ d) (nn.getD ((3 : Int).toNat) 0))]) (Ce.mk aa.aZ (cB (y 9)) (dS (y 9)) (aa.cP (aa.bG vv d ((nn.getD ((2 : Int).toNat) 0) % 5)))) (Ce.mk aa.aY none 0 [])) rfl)) (by intros; rfl) (by intros; rfl) (by intros; rfl) (by intro y y2 h; simp only [h 6 (.inr (by decide)), h 9 (.inr (by decide)), h 12 (.inl rfl)]) (by intro y y2 h; rfl)<|(VW)<|(Qb) ?_
      intro y hA
      clear hA
      refine bj<|bD [(0, .slice p vv.length cap), (3, .pointer (some ⟨b3, 0, none⟩)), (5, .int .i64 (d : Int)), (8, .int .i64 ((nn.getD ((1 : Int).toNat) 0) % 2 ^ d)), (13, .slice (some ⟨(eu (cB (y 12))), 0, none⟩) 4 4)] (.cons (d := 0) rfl (.cons (d := 3) rfl (.cons (d := 5) rfl (.cons (d := 8) rfl (.cons (d := 13) rfl (.nil _))))))<|a7 (M := Row U5 (some ⟨b87, 0, none⟩) 13 13 (aa.eI (vv.length : Int) (d : Int) 0) :: Row U5 p77 (aa.bG vv d ((nn.getD ((2 : Int).toNat) 0) % 5)).length c77 (aa.bG vv d ((nn.getD ((2 : Int).toNat) 0) % 5)) :: ai b3 46 (CA [] .u8 nn []) :: aE U5 p vv.length vv :: Row (U5) (some ⟨(eu (cB (y 6))), 0, none⟩) 2 2 [(nn.getD ((3 : Int).toNat) 0), ((nn.getD ((1 : Int).toNat) 0) % 2 ^ d)] :: Row U5 (cB (y 9)) (aa.cP (aa.bG vv d ((nn.getD ((2 : Int).toNat) 0) % 5))).length (dS (y 9)) (aa.cP (aa.bG vv d ((nn.getD ((2 : Int).toNat) 0) % 5))) :: Row (aP) (some ⟨(eu (cB (y 12))), 0, none⟩) 4 4 (ni (aa.eI (vv.length : Int) (d : Int) 0) b87 [Ce.mk aa.aQ (some ⟨(eu (cB (y 6))), 0, none⟩) 2 [(nn.getD ((3 : Int).toNat) 0), (aa.tB d ((nn.getD ((1 : Int).toNat) 0) % 2 ^ d) (nn.getD ((3 : Int).toNat) 0))]] (cB (y 9)) (dS (y 9)) (aa.cP (aa.bG vv d ((nn.getD ((2 : Int).toNat) 0) % 5)))) :: F) (fun _ _ h => h) ?_
      generalize (eu (cB (y 6))) = mi
      generalize (cB (y 9)) = qz
      generalize (dS (y 9)) = cz
      generalize (eu (cB (y 12))) = b100
      refine iz (fun (u : Unit) => [(0, .slice p vv.length cap), (5, .int .i64 (d : Int)), (8, .int .i64 ((nn.getD ((1 : Int).toNat) 0) % 2 ^ d)), (13, .slice (some ⟨b100, 0, none⟩) 4 4)]) (fun (u : Unit) => Row U5 (some ⟨mi, 0, none⟩) 2 2 [(nn.getD ((3 : Int).toNat) 0), (aa.tB d ((nn.getD ((1 : Int).toNat) 0) % 2 ^ d) (nn.getD ((3 : Int).toNat) 0))] :: Row U5 (some ⟨b87, 0, none⟩) 13 13 (aa.eI (vv.length : Int) (d : Int) 0) :: Row U5 qz (aa.cP (aa.bG vv d ((nn.getD ((2 : Int).toNat) 0) % 5))).length cz (aa.cP (aa.bG vv d ((nn.getD ((2 : Int).toNat) 0) % 5))) :: Row aP (some ⟨b100, 0, none⟩) 4 4 (ni (aa.eI (vv.length : Int) (d : Int) 0) b87 [Ce.mk aa.aQ (some ⟨mi, 0, none⟩) 2 [(nn.getD ((3 : Int).toNat) 0), (aa.tB d ((nn.getD ((1 : Int).toNat) 0) % 2 ^ d) (nn.getD ((3 : Int).toNat) 0))]] qz cz (aa.cP (aa.bG vv d ((nn.getD ((2 : Int).toNat) 0) % 5)))) :: ai b3 46 (CA [] .u8 nn []) :: aE U5 p vv.length vv :: F) (fun (u : Unit) => True) ?_ ?_
      ·
        rcases (Classical.em (d = 8)) with h8 | h8
        ·
          refine rL TT 1 rfl<|(Ws)<|(Q9)<|(Qv)<|(Q3) ?_
          refine oV (xI V.l8 (own gq))<|oV (bg V.ql rfl)<|oV (cW (v := .slice (some ⟨mi, 0, none⟩) 2 2) (gi (c := aP) 1 V.jw rfl (own gq) (by omega) (by omega) rfl rfl) rfl)<|(Q7)<|(nF) ?_
          refine oV (xI V.bE (own dC))<|(UI) ?_
          refine c4 ?_
          (rw [aa.Xi h8]; exact j1 () trivial (eg ln) (sub (.cons ax (mB .nil)) ak))
        ·
          refine rL TT 1 rfl<|(Ws)<|(Q9)<|(QB)<|(Qg) ?_
          refine OF V.mixed (by kernel_rfl)<|(pg) ?_
          refine oR (xI V.l8 (own gq))<|oR (bg V.ql rfl)<|oR (cW (v := .slice (some ⟨mi, 0, none⟩) 2 2) (gi (c := aP) 1 V.jw rfl (own gq) (by omega) (by omega) rfl rfl) rfl)<|(pg) ?_
          refine oR (cF V.u3 Tryz.underlying5 rfl (mn (by omega) (by omega)))<|oR (ez 3 rfl V.tU rfl rfl (by omega))<|oR (jv (3 : Int) V.s5 rfl jK (by (simp only [List.length_cons, List.length_nil]; omega)) (by omega) (by omega))<|(pg) ?_
          refine oR (cF V.u3 Tryz.underlying302 rfl (sP (by omega) (by omega)))<|oR (gA (r := (nn.getD ((3 : Int).toNat) 0) * 2 ^ d % 256) rfl rfl (by omega) (aa.T9 hd _))<|oR (mT (r := (aa.tB d ((nn.getD ((1 : Int).toNat) 0) % 2 ^ d) (nn.getD ((3 : Int).toNat) 0))) rfl rfl (aa.TJ hd (by omega) h8))<|oR (xI V.bE (own dC))<|Rg.c4<|(UI) ?_
          exact c4<|j1 () trivial (eg ln) (sub (.cons ax (mB .nil)) ak)
      ·
        intro u
        rintro -
        refine (Qa) ?_
        have htb := aa.TZ (n := (nn.getD ((3 : Int).toNat) 0)) hd (show 0 ≤ ((nn.getD ((1 : Int).toNat) 0) % 2 ^ d) ∧ ((nn.getD ((1 : Int).toNat) 0) % 2 ^ d) < 2 ^ d by omega)
        have hgo : aa.zx vv d ((nn.getD ((2 : Int).toNat) 0) % 5) ((nn.getD ((1 : Int).toNat) 0) % 2 ^ d) (nn.getD ((3 : Int).toNat) 0) (aa.tB d ((nn.getD ((1 : Int).toNat) 0) % 2 ^ d) (nn.getD ((3 : Int).toNat) 0)) := ⟨hl, hd, hk5, hb3, htb.1, htb.2⟩
        have hfg := hgo.fl
        have hsz := hfg.size
        have hms : [Ce.mk aa.aQ (some ⟨mi, 0, none⟩) 2 [(nn.getD ((3 : Int).toNat) 0), (aa.tB d ((nn.getD ((1 : Int).toNat) 0) % 2 ^ d) (nn.getD ((3 : Int).toNat) 0))]].map Ce.ch = aa.jc (nn.getD ((3 : Int).toNat) 0) (aa.tB d ((nn.getD ((1 : Int).toNat) 0) % 2 ^ d) (nn.getD ((3 : Int).toNat) 0)) := rfl
        have hch := DJ (h := (aa.eI (vv.length : Int) (d : Int) 0)) (b := b87) (q := qz) (c := cz) (z := (aa.cP (aa.bG vv d ((nn.getD ((2 : Int).toNat) 0) % 5)))) hms
        refine iP (DK []) (Ag _ _ _ _)<|a7 (aM (A := DK [Ce.mk aa.aQ (some ⟨mi, 0, none⟩) 2 [(nn.getD ((3 : Int).toNat) 0), (aa.tB d ((nn.getD ((1 : Int).toNat) 0) % 2 ^ d) (nn.getD ((3 : Int).toNat) 0))]]) (aO .nil) ak (fun w0 h hh => zy (l := []) (x := Ce.mk aa.aQ (some ⟨mi, 0, none⟩) 2 [(nn.getD ((3 : Int).toNat) 0), (aa.tB d ((nn.getD ((1 : Int).toNat) 0) % 2 ^ d) (nn.getD ((3 : Int).toNat) 0))]) rfl hh))<|a7 (aM (A := DK (ni (aa.eI (vv.length : Int) (d : Int) 0) b87 [Ce.mk aa.aQ (some ⟨mi, 0, none⟩) 2 [(nn.getD ((3 : Int).toNat) 0), (aa.tB d ((nn.getD ((1 : Int).toNat) 0) % 2 ^ d) (nn.getD ((3 : Int).toNat) 0))]] qz cz (aa.cP (aa.bG vv d ((nn.getD ((2 : Int).toNat) 0) % 5))))) (.cons ax (aO .nil)) ak (fun w0 h hh => Sf rfl hh))<|(Q9) ?_
        refine aj (EO (some ⟨b100, 0, none⟩) 4 (ni (aa.eI (vv.length : Int) (d : Int) 0) b87 [Ce.mk aa.aQ (some ⟨mi, 0, none⟩) 2 [(nn.getD ((3 : Int).toNat) 0), (aa.tB d ((nn.getD ((1 : Int).toNat) 0) % 2 ^ d) (nn.getD ((3 : Int).toNat) 0))]] qz cz (aa.cP (aa.bG vv d ((nn.getD ((2 : Int).toNat) 0) % 5)))) (Row aP (some ⟨b100, 0, none⟩) 4 4 (ni (aa.eI (vv.length : Int) (d : Int) 0) b87 [Ce.mk aa.aQ (some ⟨mi, 0, none⟩) 2 [(nn.getD ((3 : Int).toNat) 0), (aa.tB d ((nn.getD ((1 : Int).toNat) 0) % 2 ^ d) (nn.getD ((3 : Int).toNat) 0))]] qz cz (aa.cP (aa.bG vv d ((nn.getD ((2 : Int).toNat) 0) % 5))))) (fun w0 h hh => ⟨hh.1, hh.2.rd⟩) (show 4 ≤ 262144 by decide) (Me hfg hms) (by rw [hch]; omega)) V.UR  rfl (.cons ax (ao .nil)) rfl ?_
        rintro _ _ ⟨qj, cj, rfl, rfl⟩
        rw [hch]
        refine Ea (fun w hi => eX hi (show Row U5 qj (aa.aX (aa.iF (aa.eI (vv.length : Int) (d : Int) 0) (aa.jc (nn.getD ((3 : Int).toNat) 0) (aa.tB d ((nn.getD ((1 : Int).toNat) 0) % 2 ^ d) (nn.getD ((3 : Int).toNat) 0))) (aa.cP (aa.bG vv d ((nn.getD ((2 : Int).toNat) 0) % 5))))).length cj (aa.aX (aa.iF (aa.eI (vv.length : Int) (d : Int) 0) (aa.jc (nn.getD ((3 : Int).toNat) 0) (aa.tB d ((nn.getD ((1 : Int).toNat) 0) % 2 ^ d) (nn.getD ((3 : Int).toNat) 0))) (aa.cP (aa.bG vv d ((nn.getD ((2 : Int).toNat) 0) % 5))))) ∈ _ by exact aB)) (fun hcj => ?_)
        refine (Qe) ?_
        refine aj (r6 qj cj (aa.aX (aa.iF (aa.eI (vv.length : Int) (d : Int) 0) (aa.jc (nn.getD ((3 : Int).toNat) 0) (aa.tB d ((nn.getD ((1 : Int).toNat) 0) % 2 ^ d) (nn.getD ((3 : Int).toNat) 0))) (aa.cP (aa.bG vv d ((nn.getD ((2 : Int).toNat) 0) % 5))))) (Row U5 qj (aa.aX (aa.iF (aa.eI (vv.length : Int) (d : Int) 0) (aa.jc (nn.getD ((3 : Int).toNat) 0) (aa.tB d ((nn.getD ((1 : Int).toNat) 0) % 2 ^ d) (nn.getD ((3 : Int).toNat) 0))) (aa.cP (aa.bG vv d ((nn.getD ((2 : Int).toNat) 0) % 5))))).length cj (aa.aX (aa.iF (aa.eI (vv.length : Int) (d : Int) 0) (aa.jc (nn.getD ((3 : Int).toNat) 0) (aa.tB d ((nn.getD ((1 : Int).toNat) 0) % 2 ^ d) (nn.getD ((3 : Int).toNat) 0))) (aa.cP (aa.bG vv d ((nn.getD ((2 : Int).toNat) 0) % 5)))))) (fun w0 h hh => ⟨hh.1, hh.2.rd⟩) (by omega) hfg.o8 hcj (⟨(vv.length : Int), 1, (aa.gP vv d ((nn.getD ((1 : Int).toNat) 0) % 2 ^ d))⟩, 0) (aa.Eu hgo)) V.NW  rfl (ao .nil) rfl ?_
        rintro _ _ ⟨qd, nd, cd, rfl, hnd, hcd, rfl⟩
        have hpl : (aa.gP vv d ((nn.getD ((1 : Int).toNat) 0) % 2 ^ d)).length = 4 * vv.length := aa.tK vv d _
        have hnd2 : (aa.gP vv d ((nn.getD ((1 : Int).toNat) 0) % 2 ^ d)).length = nd := hnd
        refine (Qg)<|(vF) ?_
        intro b16
        refine (Du)<|(Qc)<|(zq)<|(Qj)<|(Qk)<|(Qj)<|(zq)<|(Qd)<|(QQ)<|(zq)<|(Qd) ?_
        refine oV (az V.sE rfl aB rfl)<|(ri)<|(Q0) ?_
        refine oV (bS (cG rfl rfl) (fun hx => hx (by omega)))<|(Qq) ?_
        refine cE (fun (i : Nat) => [(0, .slice p vv.length cap), (5, .int .i64 (d : Int)), (8, .int .i64 ((nn.getD ((1 : Int).toNat) 0) % 2 ^ d)), (16, .pointer (some ⟨b16, 0, none⟩)), (18, .int .i64 (i : Int))]) (fun (i : Nat) => Row (aC 62 .u16) qd nd cd (aa.gP vv d ((nn.getD ((1 : Int).toNat) 0) % 2 ^ d)) :: ai b16 26 [.int .i64 (vv.length : Int), .int .i64 1, .slice qd nd cd] :: aE U5 p vv.length vv :: F) (fun (i : Nat) => i ≤ vv.length) (fun (i : Nat) => vv.length - i) (i1 (0) ?_ (bP ln) (sub (.cons ax (ao (.cons iB .nil))) kv)) ?_
        ·
          exact Nat.zero_le _
        intro i
        rintro hi2
        refine rL TT 9 rfl ?_
        refine aD rfl (fun h159 => ?_) (fun h159 => ?_)
        ·
          refine (Qf) ?_
          have hvb := hB.get i
          have hg16 := aa.g16 hd (vv.getD i 0)
          refine (Q4) ?_
          refine oV (xI V.bE (by exact bK (fun _ _ h => h) dJ))<|oV (xL V.s5 (by exact bK (fun _ _ h => h) dJ)) ?_
          rw [show U5.g vv (i : Int) = vv.getD i 0 from rfl]
          refine (QN)<|(Q7)<|(IP)<|(Rr)<|(Nx) ?_
          refine oV (jk (r := (vv.getD i 0 % 2 ^ d)) rfl rfl (aa.wS (by omega) hd))<|(Qc)<|(IP)<|(Rr)<|(Nx) ?_
          refine oV (iJ (r := (65535 / (2 ^ d - 1))) rfl rfl (by omega) (aa.W0 hd))<|oV (gG (r := (vv.getD i 0 % 2 ^ d * (65535 / (2 ^ d - 1)))) rfl rfl wI)<|oV (cF V.u3 Tryz.underlying62 rfl (aa.D4 (by omega)))<|(Ql) ?_
          refine iz (fun (al : Int) => [(0, .slice p vv.length cap), (5, .int .i64 (d : Int)), (8, .int .i64 ((nn.getD ((1 : Int).toNat) 0) % 2 ^ d)), (16, .pointer (some ⟨b16, 0, none⟩)), (18, .int .i64 (i : Int)), (20, .int .u16 (vv.getD i 0 % 2 ^ d * (65535 / (2 ^ d - 1)))), (21, .int .u16 al)]) (fun (al : Int) => Row (aC 62 .u16) qd nd cd (aa.gP vv d ((nn.getD ((1 : Int).toNat) 0) % 2 ^ d)) :: ai b16 26 [.int .i64 (vv.length : Int), .int .i64 1, .slice qd nd cd] :: aE U5 p vv.length vv :: F) (fun (al : Int) => al = (if (vv.getD i 0 % 2 ^ d) = ((nn.getD ((1 : Int).toNat) 0) % 2 ^ d) then (0 : Int) else 65535)) ?_ ?_
          ·
            refine rL TT 7 rfl ?_
            refine aD rfl (fun h182 => ?_) (fun h182 => ?_)
            ·
              refine (Q4) ?_
              refine j1 (_) ?_ (iE (bP ln)) (sub (eU .nil) ak)
              exact (if_pos (by assumption)).symm
            ·
              refine (Qa) ?_
              refine j1 (_) ?_ (iE (bP ln)) (sub (eU .nil) ak)
              exact (if_neg (by assumption)).symm
          ·
            intro al
            rintro hal
            refine (Q4)<|(zp)<|(Q7)<|(I2)<|(zX)<|(AQ) ?_
            rw [show ((aC 62 .u16).g (aa.gP vv d ((nn.getD ((1 : Int).toNat) 0) % 2 ^ d)) ((4 * i + 0 : Nat) : Int)) = (vv.getD i 0 % 2 ^ d * (65535 / (2 ^ d - 1))) from aa.k7 (by omega) (by decide)]
            refine (Q7)<|(zq)<|(Qj)<|(zp)<|(wF)<|(I2)<|(Q0) ?_
            refine oV (cW (v := .int .i64 ((4 * i + 1 : Nat) : Int)) (ei rfl rfl wI) (congrArg (Value.int .i64) (by omega)))<|(Q0)<|(zX)<|(Q0)<|(AQ) ?_
            rw [show ((aC 62 .u16).g (aa.gP vv d ((nn.getD ((1 : Int).toNat) 0) % 2 ^ d)) ((4 * i + 1 : Nat) : Int)) = (vv.getD i 0 % 2 ^ d * (65535 / (2 ^ d - 1))) from aa.k7 (by omega) (by decide)]
            refine (wF)<|(zq)<|(Qd)<|(zp)<|(wF)<|(I2)<|(Q0) ?_
            refine oV (cW (v := .int .i64 ((4 * i + 2 : Nat) : Int)) (ei rfl rfl wI) (congrArg (Value.int .i64) (by omega)))<|(Q0)<|(zX)<|(Q0)<|(AQ) ?_
            rw [show ((aC 62 .u16).g (aa.gP vv d ((nn.getD ((1 : Int).toNat) 0) % 2 ^ d)) ((4 * i + 2 : Nat) : Int)) = (vv.getD i 0 % 2 ^ d * (65535 / (2 ^ d - 1))) from aa.k7 (by omega) (by decide)]
            refine (wF)<|(zq)<|(Qd)<|(zp)<|(wF)<|(I2)<|(Q0) ?_
            refine oV (cW (v := .int .i64 ((4 * i + 3 : Nat) : Int)) (ei rfl rfl wI) (congrArg (Value.int .i64) (by omega)))<|(Q0)<|(zX)<|(Q0)<|(AQ) ?_
            rw [show ((aC 62 .u16).g (aa.gP vv d ((nn.getD ((1 : Int).toNat) 0) % 2 ^ d)) ((4 * i + 3 : Nat) : Int)) = (if (vv.getD i 0 % 2 ^ d) = ((nn.getD ((1 : Int).toNat) 0) % 2 ^ d) then (0 : Int) else 65535) from aa.k7 (by omega) (by decide)]
            refine (wF) ?_
            refine oV (bS (cG rfl rfl) (fun hx => hx hal.symm))<|(xf) ?_
            refine j1 (i + 1) ?_ (bP ln) (sub (eU .nil) ak)
            exact ⟨by omega, by omega⟩
        ·
          refine (ox) ?_
          exact ag (av rfl) ⟨rfl, rfl⟩ (sub (.cons bo .nil) fV)
  ·
    refine (Q9) ?_
    have hb0 : 0 ≤ (nn.getD ((0 : Int).toNat) 0) ∧ (nn.getD ((0 : Int).toNat) 0) < 256 := hN.get _
    have hb1 : 0 ≤ (nn.getD ((1 : Int).toNat) 0) ∧ (nn.getD ((1 : Int).toNat) 0) < 256 := hN.get _
    have hb2 : 0 ≤ (nn.getD ((2 : Int).toNat) 0) ∧ (nn.getD ((2 : Int).toNat) 0) < 256 := hN.get _
    have hb3 : 0 ≤ (nn.getD ((3 : Int).toNat) 0) ∧ (nn.getD ((3 : Int).toNat) 0) < 256 := hN.get _
    refine (Q4)<|(QY)<|(QM) ?_
    exact ag (av rfl) ⟨rfl, rfl⟩ (sub (.cons ax .nil) bu)
  ·
    refine (Q9) ?_
    have hb0 : 0 ≤ (nn.getD ((0 : Int).toNat) 0) ∧ (nn.getD ((0 : Int).toNat) 0) < 256 := hN.get _
    have hb1 : 0 ≤ (nn.getD ((1 : Int).toNat) 0) ∧ (nn.getD ((1 : Int).toNat) 0) < 256 := hN.get _
    have hb2 : 0 ≤ (nn.getD ((2 : Int).toNat) 0) ∧ (nn.getD ((2 : Int).toNat) 0) < 256 := hN.get _
    have hb3 : 0 ≤ (nn.getD ((3 : Int).toNat) 0) ∧ (nn.getD ((3 : Int).toNat) 0) < 256 := hN.get _
    refine (Q4)<|(QE)<|(Qd)<|(Qu)<|(Qp) ?_
    exact ag (av rfl) ⟨rfl, rfl⟩ (sub (.cons ax .nil) bu)
end Go.Proofs.YtmaiakpjgomnpaaGreat

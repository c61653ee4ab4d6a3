/- Walks of functions that the law reaches, and what they lean on; no conditions. -/
import Derived.Test.YtmaiakpjgomnpaaGreatM8
import Derived.Test.YtmaiakpjgomnpaaGreatM1
import Derived.KernelRfl
import Derived.Test.YtmaiakpjgomnpaaGreatM4
import Derived.Test.YtmaiakpjgomnpaaGreatM2
set_option linter.unusedVariables false
set_option linter.unusedSimpArgs false
set_option maxRecDepth 100000
namespace Go.Proofs.YtmaiakpjgomnpaaGreat
open Go.Sl
theorem V.RG : aH Tryz.prog 62 = true := by kernel_rfl
end Go.Proofs.YtmaiakpjgomnpaaGreat
namespace Go.Proofs.YtmaiakpjgomnpaaGreat
open Go.Sl 
theorem eg : dU Tryz.prog ⟨[22, 59], [(57, 0, 0), (57, 1, 1)]⟩ = true := by kernel_rfl
attribute [local irreducible] aj.au aO.jo aO.iB ab.gg ab.gf aJ.gi aJ.kF aa.cP aa.cG aa.fS aa.ic aa.bQ aa.bV aa.cS aa.ff aa.eh aa.aR aa.fN aa.two aa.hB aa.iY aa.kp aa.kV aa.parts
set_option maxHeartbeats 4000000 in
theorem FK (p : Option Addr) (c : Nat) (B : List Int) (R : ad) (hR : ∀ w0 h, R w0 h → aS U5 p B.length B w0 h) (hl : B.length ≤ 4194304) (hcap : B.length ≤ c) : aG Tryz.prog 62 [.slice p B.length c] [R] (aQ fun v G => ∃ q cq, v = .slice q (aO.iB B).length cq ∧ G = [Row U5 q (aO.iB B).length cq (aO.iB B), R]) := by
 refine av [(0, _)] Tryz.func62 rfl Tryz.ntmps62 rfl rfl ?_
 intro w0 F
 refine rT eg 12 rfl ?_
 refine gp (Row U5 none 0 0 []) (Row.nil _ _ _) ?_
 refine zA (fun (f : Nat) (pz : Option Addr) (cz : Nat) (Z : List Int) (po : Option Addr) (co : Nat) (O : List Int) => [(0, .slice pz Z.length cz), (3, .slice po O.length co)]) (fun (f : Nat) (pz : Option Addr) (cz : Nat) (Z : List Int) (po : Option Addr) (co : Nat) (O : List Int) => Row U5 po O.length co O :: R :: F) (fun (f : Nat) (pz : Option Addr) (cz : Nat) (Z : List Int) (po : Option Addr) (co : Nat) (O : List Int) => O ++ ab.gg (aO.jo f Z) = aO.iB B ∧ Z.length ≤ 65535 * (f + 1) ∧ (∀ w0 h, R w0 h → aS U5 pz Z.length Z w0 h) ∧ Z.length ≤ cz ∧ O.length + Z.length ≤ 2 * B.length + 5 * (65 - f) ∧ f ≤ 64) (fun (f : Nat) (pz : Option Addr) (cz : Nat) (Z : List Int) (po : Option Addr) (co : Nat) (O : List Int) => f) (i7 (64) (p) (c) (B) (none) (0) ([]) ?_ (kG ln) (sub (bF .nil) aw)) ?_
 ·exact ⟨aO.Nj B, by omega, hR, hcap, by simp; omega, by omega⟩
 intro f pz cz Z po co O
 rintro ⟨hO, hZf, hZR, hZc, hOl, hf⟩
 refine rL eg 1 rfl ?_
 rcases (Nat.lt_or_ge 65535 Z.length) with hZ | hZ
 ·refine rC eg 4 rfl ?_
  refine oV (cK (v := .int .i64 65535) (Gv rfl rfl) (by rw [if_pos (by omega)])) ?_
  refine rO eg 14 rfl ?_
  refine oV (aA (az rfl rfl) (by omega)) ?_
  refine rO eg 10 rfl ?_
  refine oV (bg V.u3 Tryz.underlying5 rfl (aj.ee (65535 : Int))) ?_
  refine oV (aK rfl) ?_
  refine oV (ed (r := (65535 : Int) / 256) rfl rfl (by omega) (aj.lT (k := 8) (by decide) rfl)) ?_
  refine oV (bg V.u3 Tryz.underlying5 rfl (kc (by omega) (by omega))) ?_
  refine oV (aK rfl) ?_
  refine oV (rv (r := -(65535 : Int) - 1) rfl (aj.ri (by omega) (by omega))) ?_
  refine oV (bg V.u3 Tryz.underlying5 rfl ((aj.ee _).trans (show (-(65535 : Int) - 1) % 256 = 255 - (65535 : Int) % 256 from by omega))) ?_
  refine oV (aK rfl) ?_
  refine oV (rv (r := -(65535 : Int) - 1) rfl (aj.ri (by omega) (by omega))) ?_
  refine oV (ed (r := (-(65535 : Int) - 1) / 256) rfl rfl (by omega) (aj.lT (k := 8) (by decide) rfl)) ?_
  refine oV (bg V.u3 Tryz.underlying5 rfl ((aj.ee _).trans (show ((-(65535 : Int) - 1) / 256) % 256 = 255 - (65535 : Int) / 256 from by omega))) ?_
  refine cV (U5) [0, (65535 : Int) % 256, (65535 : Int) / 256, 255 - (65535 : Int) % 256, 255 - (65535 : Int) / 256] V.bY V.z5 rfl rfl rfl rfl rfl rfl ?_
  intro GK
  refine dw (c := (U5)) V.bY V.z5 rfl rfl rfl rfl ay (own an) (by omega) rfl ?_
  intro p28 c28
  refine rO eg 4 rfl ?_
  have hPR : ∀ w0 h, R w0 h → aS U5 pz 65535 (Z.take 65535) w0 h := lO (cap := 0) hZR 65535 (by omega)
  refine rC eg 4 rfl ?_
  refine oV (jQ 65535 cz V.bY rfl ⟨_, rfl⟩ rfl (by omega) (by omega)) ?_
  refine dw (c := (U5)) V.bY V.z5 rfl rfl rfl rfl dQ (by exact bE hPR dJ) (by omega) rfl ?_
  intro p33 c33
  refine rO eg 7 rfl ?_
  refine oV (dX 65535 Z.length cz V.bY rfl ⟨_, rfl⟩ ⟨rfl, rfl⟩ rfl (by omega) (by omega) (by omega)) ?_
  refine rO eg 6 rfl ?_
  refine oV (aA (az rfl rfl) (by decide)) ?_
  refine rO eg 5 rfl ?_
  obtain ⟨f, rfl⟩ : ∃ f2, f = f2 + 1 := ⟨f - 1, by omega⟩
  have hnx := aO.EN hO hZ
  have hle : (O ++ [0, (65535 : Int) % 256, (65535 : Int) / 256, 255 - (65535 : Int) % 256, 255 - (65535 : Int) / 256] ++ Z.take 65535).length = O.length + 5 + 65535 := by simp; omega
  have hdl : (Z.drop 65535).length = Z.length - 65535 := List.length_drop
  rw [← hdl, ← hle]
  exact j7 f _ _ (Z.drop 65535) _ _ _ ⟨⟨hnx, by omega, by rw [hdl]; exact gW hZR rfl 65535 cz (by omega) hZc, by omega, by omega, by omega⟩, by omega⟩ (.cons rfl (.cons rfl (.nil _))) (sub (.cons dQ (.cons ay .nil)) cD)
 ·refine rC eg 4 rfl ?_
  refine oV (cK (v := .int .i64 (Z.length : Int)) (Gv rfl rfl) (by rw [if_neg (by omega)])) ?_
  refine rO eg 14 rfl ?_
  refine oV (aW (az rfl rfl) (by omega)) ?_
  refine rO eg 12 rfl ?_
  refine oV (bg V.u3 Tryz.underlying5 rfl (aj.ee (Z.length : Int))) ?_
  refine oV (aK rfl) ?_
  refine oV (ed (r := (Z.length : Int) / 256) rfl rfl (by omega) (aj.lT (k := 8) (by decide) rfl)) ?_
  refine oV (bg V.u3 Tryz.underlying5 rfl (kc (by omega) (by omega))) ?_
  refine oV (aK rfl) ?_
  refine oV (rv (r := -(Z.length : Int) - 1) rfl (aj.ri (by omega) (by omega))) ?_
  refine oV (bg V.u3 Tryz.underlying5 rfl ((aj.ee _).trans (show (-(Z.length : Int) - 1) % 256 = 255 - (Z.length : Int) % 256 from by omega))) ?_
  refine oV (aK rfl) ?_
  refine oV (rv (r := -(Z.length : Int) - 1) rfl (aj.ri (by omega) (by omega))) ?_
  refine oV (ed (r := (-(Z.length : Int) - 1) / 256) rfl rfl (by omega) (aj.lT (k := 8) (by decide) rfl)) ?_
  refine oV (bg V.u3 Tryz.underlying5 rfl ((aj.ee _).trans (show ((-(Z.length : Int) - 1) / 256) % 256 = 255 - (Z.length : Int) / 256 from by omega))) ?_
  refine cV (U5) [1, (Z.length : Int) % 256, (Z.length : Int) / 256, 255 - (Z.length : Int) % 256, 255 - (Z.length : Int) / 256] V.bY V.z5 rfl rfl rfl rfl rfl rfl ?_
  intro GK
  refine dw (c := (U5)) V.bY V.z5 rfl rfl rfl rfl ay (own an) (by omega) rfl ?_
  intro p28 c28
  refine rO eg 8 rfl ?_
  refine oV (jQ Z.length cz V.bY rfl ⟨_, rfl⟩ rfl (by omega) (by omega)) ?_
  refine dw (c := (U5)) V.bY V.z5 rfl rfl rfl rfl dQ (by exact bE hZR dJ) (by omega) rfl ?_
  intro p33 c33
  refine rO eg 7 rfl ?_
  refine oV (dX Z.length Z.length cz V.bY rfl ⟨_, rfl⟩ ⟨rfl, rfl⟩ rfl (by omega) (by omega) (by omega)) ?_
  refine rO eg 6 rfl ?_
  refine oV (aW (az rfl rfl) (by decide)) ?_
  refine rO eg 15 rfl ?_
  have hnx := aO.Ev hO (by omega)
  have hle : (O ++ [1, (Z.length : Int) % 256, (Z.length : Int) / 256, 255 - (Z.length : Int) % 256, 255 - (Z.length : Int) / 256] ++ Z).length = O.length + 5 + Z.length := by simp; omega
  rw [hnx] at hle
  rw [← hle, hnx]
  exact ak (aC rfl) ⟨_, _, rfl, rfl⟩ (sub (ar (.cons ay .nil)) cD)
set_option maxHeartbeats 2000000 in
theorem yJ (p : Option Addr) (c : Nat) (B : List Int) (R : ad) (hR : ∀ w0 h, R w0 h → aS U5 p B.length B w0 h) (hl : B.length ≤ 4194304) (hB : aj.au B) (hcap : B.length ≤ c) : aG Tryz.prog 27 [.slice p B.length c] [R] (aQ fun v G => ∃ q cq, v = .slice q (aa.cP B).length cq ∧ G = [Row U5 q (aa.cP B).length cq (aa.cP B), R]) := by
 refine av [(0, _)] Tryz.func27 rfl Tryz.ntmps27 rfl rfl ?_
 intro w0 F
 have hsl := aO.rF hl
 have ha := aJ.ye B
 refine rT eg 7 rfl ?_
 refine cV (U5) [120, 1] V.bY V.z5 rfl rfl rfl rfl rfl rfl ?_
 intro b5
 refine oV (aK rfl) ?_
 refine ai (FK p c B R hR hl hcap) V.RG  rfl (.cons ay .nil) rfl ?_
 rintro _ _ ⟨qz, cz, rfl, rfl⟩
 refine dw (c := (U5)) V.bY V.z5 rfl rfl rfl rfl bX (own an) (by omega) rfl ?_
 intro p8 c8
 refine rO eg 6 rfl ?_
 refine ai (LB p c B R hR (by omega) hB) V.RB  rfl (.cons bX .nil) rfl ?_
 rintro _ _ ⟨rfl, rfl⟩
 refine rO eg 7 rfl ?_
 refine oV (ed (r := (aJ.gi B) / 16777216) rfl rfl (by decide) (aa.mc (n := 24) rfl (by decide) rfl)) ?_
 refine oV (bg V.oh Tryz.underlying5 rfl ((aa.ee _).trans (by omega : (aJ.gi B) / 16777216 % 256 = (aJ.gi B) / 16777216))) ?_
 refine oV (aK rfl) ?_
 refine oV (ed (r := (aJ.gi B) / 65536) rfl rfl (by decide) (aa.mc (n := 16) rfl (by decide) rfl)) ?_
 refine oV (bg V.oh Tryz.underlying5 rfl (aa.ee _)) ?_
 refine oV (aK rfl) ?_
 refine oV (ed (r := (aJ.gi B) / 256) rfl rfl (by decide) (aa.mc (n := 8) rfl (by decide) rfl)) ?_
 refine oV (bg V.oh Tryz.underlying5 rfl (aa.ee _)) ?_
 refine oV (aK rfl) ?_
 refine oV (bg V.oh Tryz.underlying5 rfl (aa.ee _)) ?_
 refine cV (U5) [(aJ.gi B) / 16777216, (aJ.gi B) / 65536 % 256, (aJ.gi B) / 256 % 256, (aJ.gi B) % 256] V.bY V.z5 rfl rfl rfl rfl rfl rfl ?_
 intro Gg
 refine dw (c := (U5)) V.bY V.z5 rfl rfl rfl rfl bX (own an) (by omega) rfl ?_
 intro p24 c24
 refine rO eg 4 rfl ?_
 have hle : 2 + (aO.iB B).length + 4 = (aa.cP B).length := by rw [aa.mi hl]; omega
 rw [hle, show [120, 1] ++ aO.iB B ++ [(aJ.gi B) / 16777216, (aJ.gi B) / 65536 % 256, (aJ.gi B) / 256 % 256, (aJ.gi B) % 256] = aa.cP B from by unfold aa.cP aJ.kF; rfl]
 exact ak (aC rfl) ⟨_, _, rfl, rfl⟩ (sub (ar (.cons ay .nil)) ie)
set_option maxHeartbeats 8000000 in
theorem BK (p : Option Addr) (c : Nat) (es : List Ce) (R : ad) (hR : ∀ w0 h, R w0 h → aS bj p es.length es w0 h) (hel : es.length ≤ 262144) (hok : ∀ x ∈ es, aa.kV x.ch) (hj : (aa.cG (es.map Ce.ch)).length ≤ 262144) : aG Tryz.prog 28 [.slice p es.length c] [R, DK es] (aQ fun v G => ∃ q cq, v = .tuple #[.slice q (aa.cG (es.map Ce.ch)).length cq, .int .i64 0] ∧ G = [Row U5 q (aa.cG (es.map Ce.ch)).length cq (aa.cG (es.map Ce.ch)), R, DK es]) := by
 refine av [(0, _)] Tryz.func28 rfl Tryz.ntmps28 rfl rfl ?_
 intro w0 F
 refine rT eg 8 rfl ?_
 refine ai (KU) V.RU  rfl .nil rfl ?_
 rintro _ _ ⟨rfl, rfl⟩
 refine xB Tryz.underlying9 Tryz.underlying22 Tryz.underlying5 rfl (aa.aY aa.sK) rfl ?_
 intro b10 c10
 refine rO eg 15 rfl ?_
 rw [show aa.ff = aa.cG ((es.map Ce.ch).take 0) from (aa.Kx _).symm]
 refine iR (fun (i : Nat) (po : Option Addr) (co : Nat) => [(0, .slice p es.length c), (4, .slice po (aa.cG ((es.map Ce.ch).take i)).length co), (5, .bool false), (6, .int .i64 (i : Int))]) (fun (i : Nat) (po : Option Addr) (co : Nat) => Row U5 po (aa.cG ((es.map Ce.ch).take i)).length co (aa.cG ((es.map Ce.ch).take i)) :: R :: DK es :: F) (fun (i : Nat) (po : Option Addr) (co : Nat) => i ≤ es.length) (fun (i : Nat) (po : Option Addr) (co : Nat) => es.length - i) (i3 (0) (_) (_) ?_ (fo ln) (sub (gm .nil) aw)) ?_
 ·exact Nat.zero_le _
 intro i po co
 rintro hi
 refine rL eg 9 rfl ?_
 refine aN rfl (fun h14 => ?_) (fun h14 => ?_)
 ·refine rC eg 6 rfl ?_
  have hcx := qp (es := es) (i := i) (by omega)
  have hxm := nb (i := i) (fun x => x ∈ es) (fun x hx => hx) (by omega)
  have hxo := hok _ hxm
  unfold aa.kV at hxo
  have hxn : aa.eh (bj.g es (i : Int)).k := hxo.1
  have hxk : aj.au (bj.g es (i : Int)).k := aa.rA hxn
  have hxl := aa.Ab hxn
  have hxB : aj.au (bj.g es (i : Int)).d := hxo.2.1
  have hjs := aa.Lm hcx
  have hjl := aa.join_le (es.map Ce.ch) (i + 1)
  have hjl2 : (aa.cG ((es.map Ce.ch).take (i + 1))).length = (aa.cG ((es.map Ce.ch).take i)).length + (aa.fS (bj.g es (i : Int)).ch).length := by rw [hjs, List.length_append]
  have hcb : (aa.fS (bj.g es (i : Int)).ch).length = 4 + (bj.g es (i : Int)).k.length + (bj.g es (i : Int)).d.length + 4 := aa.D4 _
  refine rC eg 3 rfl ?_
  refine oV (xI V.kl (by exact bE hR bW)) ?_
  refine oV (aE V.tG rfl) ?_
  refine oV (dW (c := (bj)) 0 V.s9 rfl (by exact bE hR bW) (by omega) (by omega) rfl rfl) ?_
  refine ai (Dl (bj.g es (i : Int)).k hxk (by omega) true (decide_eq_true hxn).symm) V.Q1  rfl .nil rfl ?_
  rintro _ _ ⟨rfl, rfl⟩
  refine rO eg 10 rfl ?_
  refine oV (xI V.kl (by exact bE hR bW)) ?_
  refine oV (aE V.vS rfl) ?_
  refine oV (dW (c := (bj)) 1 V.eC rfl (by exact bE hR bW) (by omega) (by omega) rfl rfl) ?_
  refine rO eg 9 rfl ?_
  refine ag rfl ?_
  refine oV (aA (bd rfl rfl) (by omega)) ?_
  refine rO eg 4 rfl ?_
  refine ag rfl ?_
  refine oV (aA (bd rfl rfl) (by omega)) ?_
  refine rO eg 17 rfl ?_
  refine oV (ed (r := ((bj.g es (i : Int)).d.length : Int) / 16777216) rfl rfl (by decide) (aj.lT (k := 24) (by decide) rfl)) ?_
  refine oV (bg V.u3 Tryz.underlying5 rfl (aj.ee _)) ?_
  refine oV (aK rfl) ?_
  refine oV (ed (r := ((bj.g es (i : Int)).d.length : Int) / 65536) rfl rfl (by decide) (aj.lT (k := 16) (by decide) rfl)) ?_
  refine oV (bg V.u3 Tryz.underlying5 rfl (aj.ee _)) ?_
  refine oV (aK rfl) ?_
  refine oV (ed (r := ((bj.g es (i : Int)).d.length : Int) / 256) rfl rfl (by decide) (aj.lT (k := 8) (by decide) rfl)) ?_
  refine oV (bg V.u3 Tryz.underlying5 rfl (aj.ee _)) ?_
  refine oV (aK rfl) ?_
  refine oV (bg V.u3 Tryz.underlying5 rfl (aj.ee _)) ?_
  refine cV (U5) [((bj.g es (i : Int)).d.length : Int) / 16777216 % 256, ((bj.g es (i : Int)).d.length : Int) / 65536 % 256, ((bj.g es (i : Int)).d.length : Int) / 256 % 256, ((bj.g es (i : Int)).d.length : Int) % 256] V.bY V.z5 rfl rfl rfl rfl rfl rfl ?_
  intro b53
  refine dw (c := (U5)) V.bY V.z5 rfl rfl rfl rfl ay (own an) (by omega) rfl ?_
  intro p54 c54
  refine rO eg 4 rfl ?_
  refine ly [pz 0 [] [4], pz 0 [] [0], pz 0 [] [6], pz 6 [1, 2] [], pz 14 [3] [], pz 30 [4] [], pz 63 [0, 5] [], pz 0 [] [0], pz 0 [] [6], pz 384 [7, 8] [], pz 896 [9] [], pz 1920 [10] [], pz 4095 [6, 11] [], pz 8191 [12] []] [⟨fun y => Row U5 p54 ((aa.cG ((es.map Ce.ch).take i)).length + 4) c54 ((aa.cG ((es.map Ce.ch).take i)) ++ [((bj.g es (i : Int)).d.length : Int) / 16777216 % 256, ((bj.g es (i : Int)).d.length : Int) / 65536 % 256, ((bj.g es (i : Int)).d.length : Int) / 256 % 256, ((bj.g es (i : Int)).d.length : Int) % 256]), none, some 6, []⟩, ⟨fun y => Row U5 (some ⟨b53, 0, none⟩) 4 4 [((bj.g es (i : Int)).d.length : Int) / 16777216 % 256, ((bj.g es (i : Int)).d.length : Int) / 65536 % 256, ((bj.g es (i : Int)).d.length : Int) / 256 % 256, ((bj.g es (i : Int)).d.length : Int) % 256], none, none, []⟩, ⟨fun y => R, none, none, [3, 5, 9, 11]⟩, ⟨fun y => DK es, none, none, [12]⟩, ⟨fun y => Row (U5) (gn (y 6)) (((aa.cG ((es.map Ce.ch).take i)).length + 4) + ((bj.g es (i : Int)).k).length) (iJ (y 6)) (((aa.cG ((es.map Ce.ch).take i)) ++ [((bj.g es (i : Int)).d.length : Int) / 16777216 % 256, ((bj.g es (i : Int)).d.length : Int) / 65536 % 256, ((bj.g es (i : Int)).d.length : Int) / 256 % 256, ((bj.g es (i : Int)).d.length : Int) % 256]) ++ ((bj.g es (i : Int)).k)), some 6, some 12, []⟩, ⟨fun y => Row (U5) (gn (y 12)) ((((aa.cG ((es.map Ce.ch).take i)).length + 4) + ((bj.g es (i : Int)).k).length) + (bj.g es (i : Int)).d.length) (iJ (y 12)) ((((aa.cG ((es.map Ce.ch).take i)) ++ [((bj.g es (i : Int)).d.length : Int) / 16777216 % 256, ((bj.g es (i : Int)).d.length : Int) / 65536 % 256, ((bj.g es (i : Int)).d.length : Int) / 256 % 256, ((bj.g es (i : Int)).d.length : Int) % 256]) ++ ((bj.g es (i : Int)).k)) ++ (bj.g es (i : Int)).d), some 12, none, []⟩] F V.mixed (by kernel_rfl) rfl (fun _ => .refl _) (cn _ (cn _ (cn _ (cn _ (eB _ rfl (by intro y y2 h; simp only [h 6 (.inl rfl)]) (eB _ rfl (by intro y y2 h; simp only [h 12 (.inl rfl)]) ir)))))) ?_
  iterate 3 refine nM ?_
  refine nR (fun y FF hA => xI V.kl (by exact bE hR an)) ?_
  refine nG V.tG ?_
  refine nR (fun y FF hA => dW (c := (bj)) 0 V.s9 rfl (by exact bE hR an) (by omega) (by omega) rfl rfl) ?_
  refine gU (fun y v => .slice (gn v) (((aa.cG ((es.map Ce.ch).take i)).length + 4) + ((bj.g es (i : Int)).k).length) (iJ v)) (fun y v => True) _ _ (fun y v => [Row (U5) (gn v) (((aa.cG ((es.map Ce.ch).take i)).length + 4) + ((bj.g es (i : Int)).k).length) (iJ v) (((aa.cG ((es.map Ce.ch).take i)) ++ [((bj.g es (i : Int)).d.length : Int) / 16777216 % 256, ((bj.g es (i : Int)).d.length : Int) / 65536 % 256, ((bj.g es (i : Int)).d.length : Int) / 256 % 256, ((bj.g es (i : Int)).d.length : Int) % 256]) ++ ((bj.g es (i : Int)).k))]) _ (fun y => rfl) (fun y => rfl) (fun y => rfl) (fun y => rfl) (fun y FF hA => uC (Ac (T := 5) V.bY Tryz.underlying9 V.z5 rfl rfl rfl (aa.aY hxk) dQ (by omega)) (.refl _)) (by intros; rfl) (by intros; rfl) (by intros; rfl) (by intro y y2 h; simp only [h 6 (.inl rfl)]) (by intro y y2 h; rfl) ?_
  iterate 2 refine nM ?_
  refine nR (fun y FF hA => xI V.kl (by exact bE hR an)) ?_
  refine nG V.vS ?_
  refine nR (fun y FF hA => dW (c := (bj)) 1 V.eC rfl (by exact bE hR an) (by omega) (by omega) rfl rfl) ?_
  refine gU (fun y v => .slice (gn v) ((((aa.cG ((es.map Ce.ch).take i)).length + 4) + ((bj.g es (i : Int)).k).length) + (bj.g es (i : Int)).d.length) (iJ v)) (fun y v => True) _ _ (fun y v => [Row (U5) (gn v) ((((aa.cG ((es.map Ce.ch).take i)).length + 4) + ((bj.g es (i : Int)).k).length) + (bj.g es (i : Int)).d.length) (iJ v) ((((aa.cG ((es.map Ce.ch).take i)) ++ [((bj.g es (i : Int)).d.length : Int) / 16777216 % 256, ((bj.g es (i : Int)).d.length : Int) / 65536 % 256, ((bj.g es (i : Int)).d.length : Int) / 256 % 256, ((bj.g es (i : Int)).d.length : Int) % 256]) ++ ((bj.g es (i : Int)).k)) ++ (bj.g es (i : Int)).d)]) _ (fun y => rfl) (fun y => rfl) (fun y => rfl) (fun y => rfl) (fun y FF hA => uC (qy (c := (U5)) V.bY V.z5 rfl rfl rfl rfl dQ (M6 (f := MY) bW hxm) (by omega)) (.refl _)) (by intros; rfl) (by intros; rfl) (by intros; rfl) (by intro y y2 h; simp only [h 6 (.inr (by decide)), h 12 (.inl rfl)]) (by intro y y2 h; rfl) ?_
  refine bU _ (fun y => rfl) rfl rfl rfl (fun y hA L => dC (eZ rfl) ⟨rfl, rfl⟩) (by intros; rfl) (by intro y y2 h; simp only [h 12 (.inr (by decide))]) ?_
  refine aX ?_
  intro y hA
  clear hA
  refine bN ?_
  refine cu _ (.cons (d := 0) rfl (.cons (d := 4) rfl (.cons (d := 5) rfl (.cons (d := 6) rfl (.nil _))))) ?_
  refine bS (M := Row U5 (some ⟨b53, 0, none⟩) 4 4 [((bj.g es (i : Int)).d.length : Int) / 16777216 % 256, ((bj.g es (i : Int)).d.length : Int) / 65536 % 256, ((bj.g es (i : Int)).d.length : Int) / 256 % 256, ((bj.g es (i : Int)).d.length : Int) % 256] :: R :: DK es :: Row (U5) (gn (y 12)) ((((aa.cG ((es.map Ce.ch).take i)).length + 4) + ((bj.g es (i : Int)).k).length) + (bj.g es (i : Int)).d.length) (iJ (y 12)) ((((aa.cG ((es.map Ce.ch).take i)) ++ [((bj.g es (i : Int)).d.length : Int) / 16777216 % 256, ((bj.g es (i : Int)).d.length : Int) / 65536 % 256, ((bj.g es (i : Int)).d.length : Int) / 256 % 256, ((bj.g es (i : Int)).d.length : Int) % 256]) ++ ((bj.g es (i : Int)).k)) ++ (bj.g es (i : Int)).d) :: F) (fun _ _ h => h) ?_
  refine bS (sub .nil (.skip (.keep (.keep (.keep .refl))))) ?_
  simp only [List.nil_append]
  generalize (gn (y 6)) = p61
  generalize (iJ (y 6)) = c61
  generalize (gn (y 12)) = p67
  generalize (iJ (y 12)) = c67
  refine rC eg 1 rfl ?_
  refine wN [pz 0 [] [0], pz 0 [] [6], pz 3 [0, 1] [], pz 7 [2] [], pz 15 [3] [], pz 0 [] [0], pz 0 [] [6], pz 96 [5, 6] [], pz 224 [7] [], pz 480 [8] [], pz 1023 [4, 9] [], pz 2047 [10] []] [⟨fun y => R, none, none, [2, 4, 7, 9]⟩, ⟨fun y => DK es, none, none, [10]⟩, ⟨fun y => Row U5 p67 ((aa.cG ((es.map Ce.ch).take i)).length + 4 + (bj.g es (i : Int)).k.length + (bj.g es (i : Int)).d.length) c67 ((aa.cG ((es.map Ce.ch).take i)) ++ [((bj.g es (i : Int)).d.length : Int) / 16777216 % 256, ((bj.g es (i : Int)).d.length : Int) / 65536 % 256, ((bj.g es (i : Int)).d.length : Int) / 256 % 256, ((bj.g es (i : Int)).d.length : Int) % 256] ++ (bj.g es (i : Int)).k ++ (bj.g es (i : Int)).d), none, none, []⟩] F V.mixed ?_
  iterate 2 refine nM ?_
  refine nR (fun y FF hA => xI V.kl (by exact bE hR an)) ?_
  refine nG V.tG ?_
  refine nR (fun y FF hA => dW (c := (bj)) 0 V.s9 rfl (by exact bE hR an) (by omega) (by omega) rfl rfl) ?_
  iterate 2 refine nM ?_
  refine nR (fun y FF hA => xI V.kl (by exact bE hR an)) ?_
  refine nG V.vS ?_
  refine nR (fun y FF hA => dW (c := (bj)) 1 V.eC rfl (by exact bE hR an) (by omega) (by omega) rfl rfl) ?_
  refine nE (fun y FF hA => bO (Post := [DK es]) (Fp (bj.g es (i : Int)).k hxk (by omega) (bj.g es (i : Int)).p (bj.g es (i : Int)).c (bj.g es (i : Int)).d.length (bj.g es (i : Int)).d (DK es) (nD hxm) rfl (by omega) hxB) V.Ro rfl (ar .nil) (fun v G h => by rcases h with ⟨rfl, rfl⟩; exact ⟨rfl, .refl _⟩)) ?_
  refine nA ?_
  refine aX ?_
  intro y hA
  clear hA
  refine bN ?_
  refine cu _ (.cons (d := 0) rfl (.cons (d := 4) rfl (.cons (d := 5) rfl (.cons (d := 6) rfl (.cons (d := 8) rfl (.nil _)))))) ?_
  refine bS (M := R :: DK es :: Row U5 p67 ((aa.cG ((es.map Ce.ch).take i)).length + 4 + (bj.g es (i : Int)).k.length + (bj.g es (i : Int)).d.length) c67 ((aa.cG ((es.map Ce.ch).take i)) ++ [((bj.g es (i : Int)).d.length : Int) / 16777216 % 256, ((bj.g es (i : Int)).d.length : Int) / 65536 % 256, ((bj.g es (i : Int)).d.length : Int) / 256 % 256, ((bj.g es (i : Int)).d.length : Int) % 256] ++ (bj.g es (i : Int)).k ++ (bj.g es (i : Int)).d) :: F) (fun _ _ h => h) ?_
  refine rC eg 3 rfl ?_
  refine oV (ed (r := (aa.ic (bj.g es (i : Int)).k (bj.g es (i : Int)).d) / 16777216) rfl rfl (by decide) (aa.mc (n := 24) rfl (by decide) rfl)) ?_
  refine oV (bg V.oh Tryz.underlying5 rfl (aa.ee _)) ?_
  refine oV (aK rfl) ?_
  refine oV (ed (r := (aa.ic (bj.g es (i : Int)).k (bj.g es (i : Int)).d) / 65536) rfl rfl (by decide) (aa.mc (n := 16) rfl (by decide) rfl)) ?_
  refine oV (bg V.oh Tryz.underlying5 rfl (aa.ee _)) ?_
  refine oV (aK rfl) ?_
  refine oV (ed (r := (aa.ic (bj.g es (i : Int)).k (bj.g es (i : Int)).d) / 256) rfl rfl (by decide) (aa.mc (n := 8) rfl (by decide) rfl)) ?_
  refine oV (bg V.oh Tryz.underlying5 rfl (aa.ee _)) ?_
  refine oV (aK rfl) ?_
  refine oV (bg V.oh Tryz.underlying5 rfl (aa.ee _)) ?_
  refine cV (U5) [(aa.ic (bj.g es (i : Int)).k (bj.g es (i : Int)).d) / 16777216 % 256, (aa.ic (bj.g es (i : Int)).k (bj.g es (i : Int)).d) / 65536 % 256, (aa.ic (bj.g es (i : Int)).k (bj.g es (i : Int)).d) / 256 % 256, (aa.ic (bj.g es (i : Int)).k (bj.g es (i : Int)).d) % 256] V.bY V.z5 rfl rfl rfl rfl rfl rfl ?_
  intro ze
  refine dw (c := (U5)) V.bY V.z5 rfl rfl rfl rfl dI (own an) (by omega) rfl ?_
  intro p92 c92
  refine cQ eg 9 rfl (by omega) ?_
  have hfin := aa.Nf (J := (aa.cG ((es.map Ce.ch).take i))) (k := (bj.g es (i : Int)).k) (d := (bj.g es (i : Int)).d) (n := ((bj.g es (i : Int)).d.length : Int)) (s := (aa.ic (bj.g es (i : Int)).k (bj.g es (i : Int)).d)) rfl rfl
  rw [show (aa.Ch.mk (bj.g es (i : Int)).k (bj.g es (i : Int)).d) = (bj.g es (i : Int)).ch from rfl, ← hjs] at hfin
  rw [hfin, show (aa.cG ((es.map Ce.ch).take i)).length + 4 + (bj.g es (i : Int)).k.length + (bj.g es (i : Int)).d.length + 4 = (aa.cG ((es.map Ce.ch).take (i + 1))).length from by omega]
  exact j3 (i + 1) _ _ ⟨by omega, by omega⟩ (fo ln) (sub (ar (.cons ay (.cons ay .nil))) cD)
 ·refine rC eg 7 rfl ?_
  obtain rfl : i = es.length := by omega
  rw [show (es.map Ce.ch).take es.length = (es.map Ce.ch) from List.take_of_length_le (by rw [List.length_map]; exact Nat.le_refl _)]
  refine rC eg 5 rfl ?_
  refine ag rfl ?_
  refine oV (aA (bd rfl rfl) (by omega)) ?_
  refine rO eg 14 rfl ?_
  exact ak (fD rfl rfl) ⟨_, _, rfl, rfl⟩ (sub (gm .nil) aw)
end Go.Proofs.YtmaiakpjgomnpaaGreat
namespace Go.Proofs.YtmaiakpjgomnpaaGreat
open Go.Sl
theorem V.Gg : aH Tryz.prog 23 = true := by kernel_rfl
theorem V.GK : aH Tryz.prog 27 = true := by kernel_rfl
theorem V.Pz : aH Tryz.prog 28 = true := by kernel_rfl
theorem V.GF : ks Tryz.prog 62 = true := by kernel_rfl
end Go.Proofs.YtmaiakpjgomnpaaGreat
namespace Go.Proofs.YtmaiakpjgomnpaaGreat
open Go.Sl 
theorem gJ : dU Tryz.prog ⟨[24], [(26, 0, 0), (26, 1, 1), (26, 2, 2)]⟩ = true := by kernel_rfl
attribute [local irreducible] aj.au aO.iB aa.cP aa.cG aa.fS aa.eh aa.aR aa.iu aa.fN aa.two aa.iY aa.kp aa.kV aa.parts
abbrev tT (P : List Int) (W H : Nat) (b : Nat) (q : Option Addr) (c : Nat) : List Ce := [Ce.mk aa.cS (some ⟨b, 0, none⟩) 13 (aa.hB (W : Int) (H : Int)), Ce.mk aa.bQ q c (aa.cP (aa.aR P W H)), Ce.mk aa.bV none 0 []]
theorem KK {P : List Int} {W H : Nat} (s : aa.Sz P W H) (b : Nat) (q : Option Addr) (c : Nat) : ∀ x ∈ tT P W H b q c, aa.kV x.ch := fun x hx => by
 simp only [tT, List.mem_cons, List.not_mem_nil, or_false] at hx
 rcases hx with rfl | rfl | rfl
 ·exact (aa.tK s _ (List.mem_cons_self ..)).1
 ·exact (aa.tK s _ (List.mem_cons_of_mem _ (List.mem_cons_self ..))).1
 ·exact aa.oi
theorem GL (P : List Int) (W H : Nat) (b : Nat) (q : Option Addr) (c : Nat) : aa.cG ((tT P W H b q c).map Ce.ch) = aa.fN P W H := by
 unfold aa.fN aa.lK
 rfl
theorem Mo {P : List Int} {W H : Nat} {b : Nat} {q : Option Addr} {c c1 : Nat} {w0 : World} {h : Hp} (hh : dk w0 [Row U5 (some ⟨b, 0, none⟩) 13 c1 (aa.hB (W : Int) (H : Int)), Row U5 q (aa.cP (aa.aR P W H)).length c (aa.cP (aa.aR P W H))] h) : DK (tT P W H b q c) w0 h := by
 obtain ⟨h1, h2, _, l1, l2, a, h3, h4, _, l3, l4, d, _⟩ := hh
 intro x hx
 simp only [tT, List.mem_cons, List.not_mem_nil, or_false] at hx
 rcases hx with rfl | rfl | rfl
 ·exact (Row.Bv a).mono l1
 ·exact (Row.Bv d).mono (Hp.le_trans l3 l2)
 ·exact ⟨rfl, .inl rfl⟩
set_option maxHeartbeats 8000000 in
theorem HY (P : List Int) (W H : Nat) (hs : aa.Sz P W H) (q : Option Addr) (cc : Nat) (hcap : P.length ≤ cc) (R : ad) (hR : ∀ w0 h, R w0 h → aS (aP 62 .u16) q P.length P w0 h) : aG Tryz.prog 22 [.agg #[.int .i64 (W : Int), .int .i64 (H : Int), .slice q P.length cc]] [R] (aQ fun v G => ∃ q2 c2, v = .slice q2 (aa.fN P W H).length c2 ∧ G = [Row U5 q2 (aa.fN P W H).length c2 (aa.fN P W H), R]) := by
 refine av [(0, _)] Tryz.func22 rfl Tryz.ntmps22 rfl rfl ?_
 intro w0 F
 have hn := aa.K7 hs
 have hw := hs.w
 have hh := hs.h
 refine rT gJ 2 rfl ?_
 refine eN rfl (cs := [_, _, _]) rfl rfl ?_
 intro b1
 refine rO gJ 15 rfl ?_
 refine gp (Row U5 none 0 0 []) (Row.nil _ _ _) ?_
 rw [show Row U5 none 0 0 [] = Row U5 none (aa.aR P W 0).length 0 (aa.aR P W 0) from by unfold aa.aR; rfl, show ((3 : Nat), Value.slice none 0 0) = (3, .slice none (aa.aR P W 0).length 0) from by unfold aa.aR; rfl]
 refine iR (fun (y : Nat) (po : Option Addr) (co : Nat) => [(1, .pointer (some ⟨b1, 0, none⟩)), (3, .slice po (aa.aR P W y).length co), (4, .int .i64 (y : Int))]) (fun (y : Nat) (po : Option Addr) (co : Nat) => Row U5 po (aa.aR P W y).length co (aa.aR P W y) :: ao b1 26 [.int .i64 (W : Int), .int .i64 (H : Int), .slice q P.length cc] :: R :: F) (fun (y : Nat) (po : Option Addr) (co : Nat) => y ≤ H) (fun (y : Nat) (po : Option Addr) (co : Nat) => H - y) (i3 (0) (none) (0) ?_ (js ln) (sub (gm .nil) aw)) ?_
 ·exact Nat.zero_le _
 intro y po co
 rintro hy
 refine rL gJ 5 rfl ?_
 refine oV (ae V.s3 rfl bW rfl) ?_
 refine rO gJ 3 rfl ?_
 refine aN rfl (fun h13 => ?_) (fun h13 => ?_)
 ·refine rC gJ 5 rfl ?_
  have hle := aa.uY (y := y) hs (by omega)
  refine rC gJ 2 rfl ?_
  refine cV (U5) [0] V.bY V.z5 rfl rfl rfl rfl rfl rfl ?_
  intro zg
  refine dw (c := (U5)) V.bY V.z5 rfl rfl rfl rfl ay (own an) (by omega) rfl ?_
  intro p18 c18
  refine rO gJ 9 rfl ?_
  rw [show (aa.aR P W y).length + 1 = (aa.iu P W y 0).length from by rw [← aa.sU, List.length_append]; rfl, aa.sU]
  refine iR (fun (i : Nat) (pi : Option Addr) (ci : Nat) => [(1, .pointer (some ⟨b1, 0, none⟩)), (3, .slice pi (aa.iu P W y i).length ci), (4, .int .i64 (y : Int)), (5, .int .i64 (i : Int))]) (fun (i : Nat) (pi : Option Addr) (ci : Nat) => Row U5 pi (aa.iu P W y i).length ci (aa.iu P W y i) :: ao b1 26 [.int .i64 (W : Int), .int .i64 (H : Int), .slice q P.length cc] :: R :: F) (fun (i : Nat) (pi : Option Addr) (ci : Nat) => i ≤ 4 * W) (fun (i : Nat) (pi : Option Addr) (ci : Nat) => 4 * W - i) (i3 (0) (_) (_) ?_ (fo ln) (sub (ar (.cons ay (.cons ay .nil))) cD)) ?_
  ·exact Nat.zero_le _
  intro i pi ci
  rintro hi
  refine rL gJ 5 rfl ?_
  refine oV (ae V.s3 rfl bW rfl) ?_
  refine cQ gJ 4 rfl (by omega) ?_
  refine aN rfl (fun h23 => ?_) (fun h23 => ?_)
  ·refine rC gJ 5 rfl ?_
   have hsg := aa.xK (y := y) (i := i) hs.len (by omega) (by omega)
   have hWy : 4 * (W : Int) * (y : Int) = ((4 * W * y : Nat) : Int) := by rw [Int.natCast_mul, Int.natCast_mul]; rfl
   have hq : (aP 62 .u16).g P (((4 * W * y : Nat) : Int) + (i : Int)) = (P.getD (4 * W * y + i) 0) := gE (4 * W * y + i) (by omega)
   have hv := hs.u.get (4 * W * y + i)
   refine rC gJ 2 rfl ?_
   refine oV (ae V.nm rfl bW rfl) ?_
   refine oV (aE V.oO rfl) ?_
   refine oV (ae V.s3 rfl bW rfl) ?_
   refine cQ gJ 2 rfl (by omega) ?_
   refine oV (jv (r := ((4 * W * y : Nat) : Int)) rfl rfl (by rw [hWy]; exact gF (by omega) (by omega))) ?_
   refine cQ gJ 2 rfl (by omega) ?_
   refine oV (xI V.gX (by exact bE hR dJ)) ?_
   refine oV (xL V.lD (by exact bE hR dJ)) ?_
   rw [hq]
   refine rO gJ 3 rfl ?_
   have hle := aa.z7 (y := y) (i := i) hs (by omega) (by omega)
   refine rC gJ 3 rfl ?_
   refine oV (ed (r := (P.getD (4 * W * y + i) 0) / 256) rfl rfl (by decide) (aj.lT (k := 8) (by decide) rfl)) ?_
   refine oV (bg V.GF Tryz.underlying5 rfl (kc (by omega) (by omega))) ?_
   refine oV (aK rfl) ?_
   refine oV (bg V.GF Tryz.underlying5 rfl (aa.ee _)) ?_
   refine cV (U5) [(P.getD (4 * W * y + i) 0) / 256, (P.getD (4 * W * y + i) 0) % 256] V.bY V.z5 rfl rfl rfl rfl rfl rfl ?_
   intro b43
   refine dw (c := (U5)) V.bY V.z5 rfl rfl rfl rfl ay (own an) (by omega) rfl ?_
   intro p44 c44
   refine cQ gJ 9 rfl (by omega) ?_
   have hfin := aa.DI (y := y) (i := i) hs.len (by omega) (by omega)
   have hln : (aa.iu P W y i).length + 2 = (aa.iu P W y (i + 1)).length := by rw [← hfin, List.length_append]; rfl
   rw [hfin, hln]
   exact j3 (i + 1) _ _ ⟨by omega, by omega⟩ (fo ln) (sub (ar (.cons ay (.cons ay .nil))) cD)
  ·refine fH gJ 11 rfl (by omega) ?_
   obtain rfl : i = 4 * W := by omega
   rw [aa.CG hs.len (by omega)]
   exact j3 (y + 1) _ _ ⟨by omega, by omega⟩ (js ln) (sub (gm .nil) aw)
 ·refine rC gJ 8 rfl ?_
  refine oV (ae V.s3 rfl bW rfl) ?_
  refine oV (ed (r := (W : Int) / 256) rfl rfl (by decide) (aj.lT (k := 8) (by decide) rfl)) ?_
  refine oV (bg V.u3 Tryz.underlying5 rfl (kc (by omega) (by omega))) ?_
  refine oV (aE V.oO rfl) ?_
  refine oV (ae V.s3 rfl bW rfl) ?_
  refine oV (bg V.u3 Tryz.underlying5 rfl (aj.ee _)) ?_
  refine oV (aE V.mf rfl) ?_
  refine oV (ae V.s3 rfl bW rfl) ?_
  refine oV (ed (r := (H : Int) / 256) rfl rfl (by decide) (aj.lT (k := 8) (by decide) rfl)) ?_
  refine oV (bg V.u3 Tryz.underlying5 rfl (kc (by omega) (by omega))) ?_
  refine oV (aE V.mf rfl) ?_
  refine oV (ae V.s3 rfl bW rfl) ?_
  refine oV (bg V.u3 Tryz.underlying5 rfl (aj.ee _)) ?_
  refine x9 (T := 5) (k := .u8) (aa.hB (W : Int) (H : Int)) V.bY V.z5 rfl rfl rfl rfl ?_
  intro b59
  refine rO gJ 4 rfl ?_
  obtain rfl : H = y := by omega
  have hle := aa.lr hs
  have hpl := aa.qR hs
  have hcl := aa.mi (B := aa.aR P W H) (by omega)
  refine gY (fun w hi => fM hi (show Row U5 po (aa.aR P W H).length co (aa.aR P W H) ∈ _ by exact bW)) (fun hco => ?_)
  refine rC gJ 2 rfl ?_
  refine oV (cB V.uj V.nI rfl (cs := [_, _]) rfl) ?_
  refine oV (aK rfl) ?_
  refine ai (yJ po co (aa.aR P W H) (Row U5 po (aa.aR P W H).length co (aa.aR P W H)) (fun w0 h hh => ⟨hh.1, hh.2.rd⟩) (by omega) (aa.nh W hs.u H) hco) V.GK  rfl (.cons ay .nil) rfl ?_
  rintro _ _ ⟨qz, cz, rfl, rfl⟩
  iterate 2 refine oV (cB V.uj V.nI rfl (cs := [_, _]) rfl) ?_
  refine cV (bj) (tT P W H b59 qz cz) V.kl V.nI rfl rfl rfl rfl rfl rfl ?_
  intro FX
  refine vR (aV (A := DK (tT P W H b59 qz cz)) (.cons dI (.cons ay .nil)) aw (fun w0 h hh => Mo (P := P) (W := W) (H := H) hh)) ?_
  refine ai (BK (some ⟨FX, 0, none⟩) 3 (tT P W H b59 qz cz) (Row bj (some ⟨FX, 0, none⟩) 3 3 (tT P W H b59 qz cz)) (fun w0 h hh => ⟨hh.1, hh.2.rd⟩) (show 3 ≤ 262144 by decide) (KK hs _ _ _) (by rw [GL, hpl]; omega)) V.Pz  rfl (.cons ay (ar .nil)) rfl ?_
  rintro _ _ ⟨qj, cj, rfl, rfl⟩
  rw [GL]
  refine rO gJ 14 rfl ?_
  exact ak (aC rfl) ⟨_, _, rfl, rfl⟩ (sub (ar (.cons ig .nil)) mI)
end Go.Proofs.YtmaiakpjgomnpaaGreat
namespace Go.Proofs.YtmaiakpjgomnpaaGreat
open Go.Sl
theorem V.zE : aH Tryz.prog 14 = true := by kernel_rfl
theorem V.Ri : aH Tryz.prog 22 = true := by kernel_rfl
end Go.Proofs.YtmaiakpjgomnpaaGreat
namespace Go.Proofs.YtmaiakpjgomnpaaGreat
open Go.Sl 
theorem lE : dU Tryz.prog ⟨[], []⟩ = true := by kernel_rfl
attribute [local irreducible] aj.au aO.iB aa.cP aa.cG aa.fS aa.eh aa.aR aa.fN aa.two aa.iY aa.kp aa.kV
set_option maxHeartbeats 8000000 in
theorem H7  : aG Tryz.prog 13 [] [] (aQ fun v G => v = .bool true ∧ G = []) := by
 refine av [] Tryz.func13 rfl Tryz.ntmps13 rfl rfl ?_
 intro w0 F
 refine rT lE 7 rfl ?_
 refine ai (IH 1 1 (by decide)) V.RJ  rfl .nil rfl ?_
 rintro _ _ ⟨bq, rfl, rfl⟩
 rw [show (4 * (1 : Int) * 1).toNat = 4 from rfl, show List.replicate 4 (0 : Int) = [0, 0, 0, 0] from rfl]
 refine rO lE 3 rfl ?_
 refine cC V.kJ rfl ?_
 intro b1
 refine aU (aF V.ek rfl rfl (us := [_, _, _]) rfl rfl (by exact cY) (by exact Nat.le_of_ble_eq_true rfl) rfl) ?_
 refine rO lE 4 rfl ?_
 refine wN [pz 0 [] [1], pz 1 [0] [], pz 0 [] [1], pz 4 [2] [], pz 3 [1] [], pz 19 [4] [], pz 63 [3] [], pz 127 [6] []] [⟨fun y => ao b1 26 [.int .i64 1, .int .i64 1, .slice (some ⟨bq, 0, none⟩) 4 4], none, none, [1, 3]⟩, ⟨fun y => Row (aP 62 .u16) (some ⟨bq, 0, none⟩) 4 4 [0, 0, 0, 0], none, some 5, [4]⟩, ⟨fun y => Row (aP 62 .u16) (some ⟨bq, 0, none⟩) 4 4 (([0, 0, 0, 0]).set (2 : Int).toNat 7), some 5, some 7, [6]⟩, ⟨fun y => Row (aP 62 .u16) (some ⟨bq, 0, none⟩) 4 4 ((([0, 0, 0, 0]).set (2 : Int).toNat 7).set (3 : Int).toNat 65535), some 7, none, []⟩] F V.mixed ?_
 refine nG V.oK ?_
 refine nR (fun y FF hA => ae V.nm rfl an rfl) ?_
 refine nG V.oK ?_
 refine nR (fun y FF hA => ae V.nm rfl an rfl) ?_
 refine nR (fun y FF hA => xI V.gX (own an)) ?_
 refine nE (fun y FF hA => dC (gu (c := (aP 62 .u16)) (_) V.lD rfl rfl rfl (by exact cY) (by omega) (by omega) rfl rfl) ⟨rfl, .refl _⟩) ?_
 refine nR (fun y FF hA => xI V.gX (own an)) ?_
 refine nE (fun y FF hA => dC (gu (c := (aP 62 .u16)) (_) V.lD rfl rfl rfl (by exact cY) (by omega) (by omega) rfl rfl) ⟨rfl, .refl _⟩) ?_
 refine aX ?_
 intro y hA
 clear hA
 refine bN ?_
 refine cu _ (.cons (d := 1) rfl (.nil _)) ?_
 refine bS (M := ao b1 26 [.int .i64 1, .int .i64 1, .slice (some ⟨bq, 0, none⟩) 4 4] :: Row (aP 62 .u16) (some ⟨bq, 0, none⟩) 4 4 ((([0, 0, 0, 0]).set (2 : Int).toNat 7).set (3 : Int).toNat 65535) :: F) (fun _ _ h => h) ?_
 refine rC lE 1 rfl ?_
 rw [show (([0, 0, 0, 0] : List Int).set ((2 : Int)).toNat 7).set ((3 : Int)).toNat 65535 = [0, 0, 7, 65535] from rfl]
 have hpl := aa.qR aa.CV
 have hrl := aa.lr aa.CV
 have hcl := aa.mi (B := aa.aR [0, 0, 7, 65535] 1 1) (by omega)
 refine bK ?_
 refine oV (bG V.ek rfl an (vs := [_, _, _]) rfl rfl) ?_
 refine ai (HY [0, 0, 7, 65535] 1 1 aa.CV (some ⟨bq, 0, none⟩) 4 (by decide) (Row (aP 62 .u16) (some ⟨bq, 0, none⟩) 4 4 [0, 0, 7, 65535]) (fun w0 h hh => ⟨hh.1, hh.2.rd⟩)) V.Ri  rfl (.cons ay .nil) rfl ?_
 rintro _ _ ⟨q2, c2, rfl, rfl⟩
 refine Cs (fun w hi => fM hi (show Row U5 q2 (aa.fN [0, 0, 7, 65535] 1 1).length c2 (aa.fN [0, 0, 7, 65535] 1 1) ∈ _ by exact an)) (fun hc2 => ?_)
 refine ai (py q2 c2 (aa.fN [0, 0, 7, 65535] 1 1) (Row U5 q2 (aa.fN [0, 0, 7, 65535] 1 1).length c2 (aa.fN [0, 0, 7, 65535] 1 1)) (fun w0 h hh => ⟨hh.1, hh.2.rd⟩) (by omega) (aa.DU aa.CV) hc2 _ (aa.Bi aa.CV)) V.zE  rfl (ar .nil) rfl ?_
 rintro _ _ ⟨qd, nd, cd, rfl, hnd, hcd, rfl⟩
 obtain rfl : nd = 4 := hnd.symm
 refine rO lE 3 rfl ?_
 refine cC V.kJ rfl ?_
 intro b3
 refine aU (aF V.ek rfl rfl (us := [_, _, _]) rfl rfl (by exact cY) (by exact Nat.le_of_ble_eq_true rfl) rfl) ?_
 refine rO lE 4 rfl ?_
 refine gp (Row U5 none 0 0 []) (Row.nil _ _ _) ?_
 refine bK ?_
 refine ai (py none 0 [] (Row U5 none 0 0 []) (fun w0 h hh => ⟨hh.1, hh.2.rd⟩) (by decide) aO.iQ (by decide) _ aa.HQ) V.zE  rfl (ar .nil) rfl ?_
 rintro _ _ ⟨qe, ne, ce, rfl, hne, hce, rfl⟩
 obtain rfl : ne = 0 := hne.symm
 refine rO lE 3 rfl ?_
 refine cC V.kJ rfl ?_
 intro b5
 refine aU (aF V.ek rfl rfl (us := [_, _, _]) rfl rfl (by exact cY) (by exact Nat.le_of_ble_eq_true rfl) rfl) ?_
 refine rO lE 6 rfl ?_
 refine oV (aW (az rfl rfl) (by omega)) ?_
 refine oV (aK rfl) ?_
 refine ag rfl ?_
 refine oV (bG V.ek rfl te (vs := [_, _, _]) rfl rfl) ?_
 refine ag rfl ?_
 refine oV (bG V.ek rfl eG (vs := [_, _, _]) rfl rfl) ?_
 refine ag rfl ?_
 refine ai (wL 1 1 (some ⟨bq, 0, none⟩) 4 4 [0, 0, 7, 65535] rfl (Row (aP 62 .u16) (some ⟨bq, 0, none⟩) 4 4 [0, 0, 7, 65535]) (fun w0 h hh => ⟨hh.1, hh.2.rd⟩) 1 1 qd 4 cd [0, 0, 7, 65535] rfl (Row (aP 62 .u16) qd 4 cd [0, 0, 7, 65535]) (fun w0 h hh => ⟨hh.1, hh.2.rd⟩) (by decide) true (decide_eq_true (by unfold aa.iY; exact ⟨⟨by decide, rfl⟩, ⟨by decide, rfl⟩, rfl, rfl, rfl⟩)).symm) V.Gg  rfl (.cons oo (.cons ig .nil)) rfl ?_
 rintro _ _ ⟨rfl, rfl⟩
 refine rO lE 3 rfl ?_
 refine ag rfl ?_
 refine oV (aW (az rfl rfl) (by omega)) ?_
 refine rO lE 2 rfl ?_
 refine ag rfl ?_
 refine ai (iT 6) V.pH  rfl .nil rfl ?_
 rintro _ _ ⟨rfl, rfl⟩
 refine ag rfl ?_
 refine oV (aW (az rfl rfl) (by decide)) ?_
 refine rO lE 5 rfl ?_
 exact ak (aC rfl) ⟨rfl, rfl⟩ (sub .nil Cw)
end Go.Proofs.YtmaiakpjgomnpaaGreat
namespace Go.Proofs.YtmaiakpjgomnpaaGreat
open Go.Sl
theorem V.G7 : aH Tryz.prog 13 = true := by kernel_rfl
end Go.Proofs.YtmaiakpjgomnpaaGreat
namespace Go.Proofs.YtmaiakpjgomnpaaGreat
open Go.Sl
end Go.Proofs.YtmaiakpjgomnpaaGreat
namespace Go.aa
open Go.aj Go.Sl
def E7 (l : List Ch) (q : List Int × Int) : qQ × Int :=
  if q.2 ≠ 0 then (ev, q.2) else if (q.1.length : Int) < want (a8 (ei l)) then (ev, 2)
  else match fG (pD l) q.1 (bb (a8 (ei l))) 0 (k6 (a8 (ei l))) with
    | none => (ev, 4)
    | some c5 => (⟨(a8 (ei l)).w, (a8 (ei l)).h, c5⟩, 0)
def uv (l : List Ch) : Prop := mC (a8 (ei l)) (cm l a7) (eQ l a7) (cm l bA) (eQ l bA)
theorem Hs {B : List Int} {l : List Ch} {q : List Int × Int} (hc : cut B = .ok l) (ho : dG l = true) (hh : fc (ei l) = 0) (ht : uv l) (hq : aJ.m7 (c4 l) (want (a8 (ei l))) q) : kp B (E7 l q) := by
  unfold kp
  rw [hc]
  simp only
  rw [if_neg (by rw [ho]; decide), if_neg (fun h => h hh), if_neg (fun h => h ht)]
  refine ⟨q, hq, ?_⟩
  unfold E7
  split
  · rfl
  · show (if (q.1.length : Int) < want (a8 (ei l)) then _ else _)
    split
    · rfl
    · show (match fG (pD l) q.1 (bb (a8 (ei l))) 0 (k6 (a8 (ei l))) with | none => _ | some c5 => _)
      cases fG (pD l) q.1 (bb (a8 (ei l))) 0 (k6 (a8 (ei l))) <;> rfl
theorem L6 {B : List Int} {l : List Ch} (hc : cut B = .ok l) (ho : dG l = true) (hh : fc (ei l) ≠ 0) : kp B (ev, fc (ei l)) := by
  unfold kp
  rw [hc]
  simp only
  rw [if_neg (by rw [ho]; decide), if_pos (show fc ((l.map Ch.d).getD 0 []) ≠ 0 from hh)]
  rfl
theorem Iq {B : List Int} {l : List Ch} (hc : cut B = .ok l) (ho : dG l = true) (hh : fc (ei l) = 0) (ht : ¬ uv l) : kp B (ev, 4) := by
  unfold kp
  rw [hc]
  simp only
  rw [if_neg (by rw [ho]; decide), if_neg (fun h => h hh), if_pos (show ¬ mC (a8 ((l.map Ch.d).getD 0 [])) (cm l a7) (eQ l a7) (cm l bA) (eQ l bA) from ht)]
  trivial
def oZ : List Int := [97, 98, 99, 100]
def jI (k : Nat) (w h : Int) : List Int := [0, 0, w / 256, w % 256, 0, 0, h / 256, h % 256, 16, if k = 6 then 5 else 6, 0, 0, 0]
def dD (k : Nat) (R : List Int) : List Int := if k = 1 then R.take (R.length - 1) else if k = 2 then R ++ [0] else if k = 3 then R.set 0 5 else R
def je (k : Nat) : List Ch := if k = 4 then [⟨bA, [0, 0]⟩] else if k = 5 then [⟨a7, [1, 2, 3, 4]⟩] else []
def tL (k : Nat) (w h : Int) (z : List Int) : List Ch := ⟨cS, jI k w h⟩ :: ⟨oZ, []⟩ :: (je k ++ [⟨bQ, z⟩, ⟨bV, []⟩])
def tE (k : Nat) : Int := if k = 0 then 0 else if k = 1 then 2 else if k = 2 then 6 else 4
def tF (k : Nat) (P : List Int) (W H : Nat) : List Int := cG (tL k (W : Int) (H : Int) (cP (dD k (aR P W H))))
def tR (k : Nat) (P : List Int) (W H : Nat) : qQ × Int := if k = 0 then (⟨(W : Int), (H : Int), P⟩, 0) else (ev, tE k)
theorem yd {k : Nat} (h : k < 7) : k = 0 ∨ k = 1 ∨ k = 2 ∨ k = 3 ∨ k = 4 ∨ k = 5 ∨ k = 6 := by omega
theorem zB {P : List Int} {W H : Nat} (s : Sz P W H) : 9 ≤ (aR P W H).length := by
  have h1 := s.w.1
  have h2 := s.h.1
  rw [rm s]
  calc 9 ≤ 1 * (1 + 8 * W) := by omega
    _ ≤ H * (1 + 8 * W) := Nat.mul_le_mul_right _ h2
theorem rZ {P : List Int} {W H : Nat} (s : Sz P W H) (k : Nat) : au (dD k (aR P W H)) := by
  have hb := nh W s.u H
  unfold dD
  split
  · exact fun x hx => hb x (List.mem_of_mem_take hx)
  · split
    · exact aO.au.snoc hb (by decide)
    · split
      · intro x hx
        rcases List.mem_or_eq_of_mem_set hx with h | rfl
        · exact hb x h
        · decide
      · exact hb
theorem oJ {P : List Int} {W H : Nat} (s : Sz P W H) (k : Nat) : (dD k (aR P W H)).length ≤ 131329 ∧ (aR P W H).length - 1 ≤ (dD k (aR P W H)).length := by
  have h := lr s
  unfold dD
  split
  · rw [List.length_take]; omega
  · split
    · rw [List.length_append, List.length_singleton]; omega
    · split
      · rw [List.length_set]; omega
      · omega
theorem NL : eh oZ := by decide
theorem HR (k : Nat) : ∀ c ∈ je k, kV c ∧ c.k ≠ bV := by
  intro c hc
  unfold je at hc
  split at hc
  · rw [List.mem_singleton.1 hc]
    exact ⟨⟨Nz, by show au [0, 0]; unfold au; decide, by decide⟩, Qj⟩
  · split at hc
    · rw [List.mem_singleton.1 hc]
      exact ⟨⟨Nx, by show au [1, 2, 3, 4]; unfold au; decide, by decide⟩, Qs⟩
    · cases hc
theorem Io {W H : Nat} (k : Nat) (hw : 1 ≤ W ∧ W ≤ 256) (hh : 1 ≤ H ∧ H ≤ 256) : au (jI k (W : Int) (H : Int)) := fun x hx => by
  simp only [jI, List.mem_cons, List.not_mem_nil, or_false] at hx
  rcases hx with rfl | rfl | rfl | rfl | rfl | rfl | rfl | rfl | rfl | rfl | rfl | rfl | rfl <;> first | omega | (split <;> decide)
def tI (k : Nat) (w h : Int) (z : List Int) : List Ch := ⟨cS, jI k w h⟩ :: ⟨oZ, []⟩ :: (je k ++ [⟨bQ, z⟩])
theorem MB (k : Nat) (w h : Int) (z : List Int) : tL k w h z = tI k w h z ++ [⟨bV, []⟩] := by simp [tL, tI]
theorem Gf {P : List Int} {W H : Nat} (s : Sz P W H) (k : Nat) : ∀ c ∈ tI k (W : Int) (H : Int) (cP (dD k (aR P W H))), kV c ∧ c.k ≠ bV := fun c hc => by
  have hl := (oJ s k).1
  have hl2 := mi (B := dD k (aR P W H)) (by omega)
  have hb := De (rZ s k) (by omega)
  rcases List.mem_cons.1 hc with rfl | hc
  · exact ⟨⟨AT, Io k s.w s.h, by simp [jI]⟩, LK⟩
  · rcases List.mem_cons.1 hc with rfl | hc
    · exact ⟨⟨NL, aO.iQ, by decide⟩, by decide⟩
    · rcases List.mem_append.1 hc with hc | hc
      · exact HR k c hc
      · rw [List.mem_singleton.1 hc]
        exact ⟨⟨An, hb, by simp only; omega⟩, Kb⟩
theorem F8 {P : List Int} {W H : Nat} (s : Sz P W H) (k : Nat) : ∀ c ∈ tL k (W : Int) (H : Int) (cP (dD k (aR P W H))), kV c := fun c hc => by
  rw [MB] at hc
  rcases List.mem_append.1 hc with h | h
  · exact (Gf s k c h).1
  · rw [List.mem_singleton.1 h]; exact oi
theorem CY {P : List Int} {W H : Nat} (s : Sz P W H) (k : Nat) : au (tF k P W H) := vt (F8 s k)
theorem Cy {P : List Int} {W H : Nat} (s : Sz P W H) (k : Nat) : (tF k P W H).length ≤ 140000 := by
  have hl := (oJ s k).1
  have hl2 := mi (B := dD k (aR P W H)) (by omega)
  have hm : (iM (je k)).length ≤ 16 := by
    unfold je
    split
    · decide
    · split
      · decide
      · decide
  have e : tF k P W H = ff ++ (fS ⟨cS, jI k (W : Int) (H : Int)⟩ ++ (fS ⟨oZ, []⟩ ++ (iM (je k) ++ (fS ⟨bQ, cP (dD k (aR P W H))⟩ ++ fS ⟨bV, []⟩)))) := by simp [tF, cG, iM, tL]
  rw [e]
  have e1 : (fS ⟨cS, jI k (W : Int) (H : Int)⟩).length = 25 := jz (c := ⟨cS, jI k (W : Int) (H : Int)⟩) rfl
  have e2 : (fS ⟨oZ, []⟩).length = 12 := jz (c := ⟨oZ, []⟩) rfl
  have e3 : (fS ⟨bQ, cP (dD k (aR P W H))⟩).length = 12 + (cP (dD k (aR P W H))).length := jz (c := ⟨bQ, _⟩) rfl
  have e4 : (fS ⟨bV, []⟩).length = 12 := jz (c := ⟨bV, []⟩) rfl
  have e5 : ff.length = 8 := rfl
  simp only [List.length_append, e1, e2, e3, e4, e5]
  omega
theorem M0 {P : List Int} {W H : Nat} (s : Sz P W H) (k : Nat) : cut (tF k P W H) = .ok (tL k (W : Int) (H : Int) (cP (dD k (aR P W H)))) := by
  have hl := Cy s k
  unfold tF at hl ⊢
  rw [MB] at hl ⊢
  exact w5 oi rfl (Gf s k) (by omega)
theorem Kk {k : Nat} (h : k < 7) (w h' : Int) (z : List Int) : dG (tL k w h' z) = true := by
  rcases yd h with rfl | rfl | rfl | rfl | rfl | rfl | rfl <;> rfl
theorem ue (k : Nat) (w h : Int) (z : List Int) : ei (tL k w h z) = jI k w h := rfl
theorem sO {k : Nat} (hk : k ≠ 6) (w h : Int) : jI k w h = hB w h := by unfold jI hB; rw [if_neg hk]
theorem Is {k : Nat} (h : k < 7) (w h' : Int) (z : List Int) : c4 (tL k w h' z) = z := by
  have e : c4 (tL k w h' z) = z ++ [] := by rcases yd h with rfl | rfl | rfl | rfl | rfl | rfl | rfl <;> rfl
  rw [e, List.append_nil]
theorem JB {k : Nat} (h : k < 4) (w h' : Int) (z : List Int) (hh : a8 (hB w h') = fi w h') : uv (tL k w h' z) := by
  have e1 : eQ (tL k w h' z) a7 = false := by
    have : k = 0 ∨ k = 1 ∨ k = 2 ∨ k = 3 := by omega
    rcases this with rfl | rfl | rfl | rfl <;> rfl
  have e2 : eQ (tL k w h' z) bA = false := by
    have : k = 0 ∨ k = 1 ∨ k = 2 ∨ k = 3 := by omega
    rcases this with rfl | rfl | rfl | rfl <;> rfl
  unfold uv
  rw [e1, e2, ue, sO (by omega), hh]
  unfold mC
  simp [fi]
theorem Im {k : Nat} (h : k = 4 ∨ k = 5) (w h' : Int) (z : List Int) (hh : a8 (hB w h') = fi w h') : ¬ uv (tL k w h' z) := by
  unfold uv
  rw [ue, sO (by omega), hh]
  rcases h with rfl | rfl
  · have e2 : eQ (tL 4 w h' z) bA = true := rfl
    rw [e2]
    rintro ⟨_, h⟩
    rcases h rfl with ⟨h, _⟩ | ⟨h, _⟩ | ⟨h, _⟩
    · exact absurd (show (6 : Int) = 3 from h) (by decide)
    · exact absurd (show (6 : Int) = 0 from h) (by decide)
    · exact absurd (show (6 : Int) = 2 from h) (by decide)
  · have e1 : eQ (tL 5 w h' z) a7 = true := rfl
    have e2 : cm (tL 5 w h' z) a7 = [1, 2, 3, 4] := rfl
    rw [e1, e2]
    rintro ⟨h, _⟩
    rw [if_pos rfl] at h
    exact absurd h.2.2.1 (by decide)
theorem NX {P : List Int} {W H : Nat} (s : Sz P W H) (f : Fl) (R c5 : List Int) (hR : 0 < R.length) : fG f (R.set 0 5) (whole (W : Int) (H : Int)) 0 c5 = none := by
  obtain ⟨n, hn⟩ : ∃ n, H = n + 1 := ⟨H - 1, by have := s.h.1; omega⟩
  have e : ∀ n' b p above, p.h = (H : Int) → fh f (R.set 0 5) n' b p p.h.toNat 0 0 above c5 = none := fun n' b p above hp => by
    rw [hp, show ((H : Int)).toNat = n + 1 from hn, fh]
    have : (R.set 0 5).getD 0 0 = 5 := by
      cases R with
      | nil => simp at hR
      | cons a R => rfl
    rw [this, if_pos (by decide)]
  unfold whole fG
  rw [e _ _ _ _ rfl]
theorem wY {P : List Int} {W H : Nat} (s : Sz P W H) {k : Nat} (hk : k < 7) : kp (tF k P W H) (tR k P W H) := by
  have hc := M0 s k
  have ho := Kk hk (W : Int) (H : Int) (cP (dD k (aR P W H)))
  have hl := oJ s k
  have hr := lr s
  have hp := zB s
  have hrl := rm s
  have hb := rZ s k
  have hi := Is hk (W : Int) (H : Int) (cP (dD k (aR P W H)))
  by_cases h6 : k = 6
  · subst h6
    have e : fc (jI 6 (W : Int) (H : Int)) = 4 := by
      have e1 : (a8 (jI 6 (W : Int) (H : Int))).ax = 5 := rfl
      unfold fc
      rw [if_neg (by simp [jI]), e1, if_pos (.inl (by unfold deep; omega))]
    have := L6 hc ho (by rw [ue, e]; decide)
    rw [ue, e] at this
    exact this
  have hh : ei (tL k (W : Int) (H : Int) (cP (dD k (aR P W H)))) = hB (W : Int) (H : Int) := by rw [ue, sO h6]
  have h0 : fc (ei (tL k (W : Int) (H : Int) (cP (dD k (aR P W H))))) = 0 := by rw [hh]; exact KB s.w s.h s.wh
  have h1 : a8 (ei (tL k (W : Int) (H : Int) (cP (dD k (aR P W H))))) = fi (W : Int) (H : Int) := by rw [hh]; exact tc s.w s.h
  by_cases h45 : k = 4 ∨ k = 5
  · have := Iq hc ho h0 (Im h45 _ _ _ (tc s.w s.h))
    rcases h45 with rfl | rfl <;> exact this
  have hwt : want (fi (W : Int) (H : Int)) = (((aR P W H).length : Nat) : Int) := by rw [hrl]; exact Cd s.w
  have ht := JB (k := k) (by omega) (W : Int) (H : Int) (cP (dD k (aR P W H))) (tc s.w s.h)
  have fin := fun q hq => Hs (q := q) hc ho h0 ht hq
  rw [hi, h1, hwt] at fin
  have hpa : bb (fi (W : Int) (H : Int)) = whole (W : Int) (H : Int) := rfl
  by_cases h2 : k = 2
  · subst h2
    have := fin _ (Hu hb (by omega) (by omega) (by show _ < (((aR P W H ++ [0]).length : Nat) : Int); rw [List.length_append, List.length_singleton]; omega))
    exact this
  have hle : (dD k (aR P W H)).length ≤ (aR P W H).length := by
    unfold dD
    split
    · rw [List.length_take]; omega
    · split
      · rw [List.length_set]; exact Nat.le_refl _
      · exact Nat.le_refl _
  have := fin _ (C4 hb (by omega) (by omega))
  unfold E7 at this
  rw [if_neg (fun h => h rfl), h1, hwt] at this
  by_cases h11 : k = 1
  · subst h11
    rw [if_pos (by show (((aR P W H).take ((aR P W H).length - 1)).length : Int) < _; rw [List.length_take]; omega)] at this
    exact this
  have h03 : k = 0 ∨ k = 3 := by omega
  rcases h03 with rfl | rfl
  · rw [if_neg (by show ¬ ((aR P W H).length : Int) < _; omega), hpa] at this
    have hdr := Bo (cm (tL 0 (W : Int) (H : Int) (cP (aR P W H))) a7) (cm (tL 0 (W : Int) (H : Int) (cP (aR P W H))) bA) s.u s.len
    rw [show dD 0 (aR P W H) = aR P W H from rfl] at this h1
    have hfl : pD (tL 0 (W : Int) (H : Int) (cP (aR P W H))) = ⟨fi (W : Int) (H : Int), cm (tL 0 (W : Int) (H : Int) (cP (aR P W H))) a7, cm (tL 0 (W : Int) (H : Int) (cP (aR P W H))) bA⟩ := by unfold pD; rw [h1]
    rw [hfl, vi s] at this
    simp only [hdr] at this
    exact this
  · rw [if_neg (by show ¬ (((aR P W H).set 0 5).length : Int) < _; rw [List.length_set]; omega), hpa, show dD 3 (aR P W H) = (aR P W H).set 0 5 from rfl, NX s _ _ _ (by omega)] at this
    exact this
theorem BF {n m : Nat} {w h : Int} {L L' : List Int} : ¬ iY 0 0 n w h m L L' := fun hx => absurd hx.1.1 (by decide)
end Go.aa
namespace Go.Proofs.YtmaiakpjgomnpaaGreat
open Go.Sl
end Go.Proofs.YtmaiakpjgomnpaaGreat
namespace Go.Proofs.YtmaiakpjgomnpaaGreat
open Go.Sl
end Go.Proofs.YtmaiakpjgomnpaaGreat
namespace Go.Proofs.YtmaiakpjgomnpaaGreat
open Go.Sl 
theorem bp : dU Tryz.prog ⟨[22, 24], [(26, 0, 0), (26, 1, 1), (26, 2, 2)]⟩ = true := by kernel_rfl
attribute [local irreducible] aj.au aO.iB aa.cP aa.cG aa.fS aa.eh aa.aR aa.iu aa.two aa.iY aa.kp aa.kV aa.parts aa.bR aa.ot aa.tF aa.dD aa.je aa.tE
theorem FU {α : Type} {c : Ec α} {p : Option Addr} {n m cap : Nat} {l : List α} (hm : m ≤ n) {w0 : World} {h : Hp} (hr : Row c p n cap l w0 h) : Row c p m cap (l.take m) w0 h := by
  obtain ⟨h1, h2⟩ := hr
  refine ⟨by rw [List.length_take]; omega, ?_⟩
  rw [← nJ]
  rcases h2 with ⟨rfl, rfl, rfl, h3⟩ | ⟨b, o, pre, post, rfl, e1, e2, e3, e4, e5⟩
  · exact .inl ⟨rfl, by omega, rfl, by rw [h3]; simp⟩
  · have hk : m * c.sz ≤ n * c.sz := Nat.mul_le_mul_right _ hm
    refine .inr ⟨b, o, pre, (l.flatMap c.e).drop (m * c.sz) ++ post, rfl, ?_, e2, by rw [List.length_take]; omega, ?_, by omega⟩
    · have : pre ++ (l.flatMap c.e).take (m * c.sz) ++ ((l.flatMap c.e).drop (m * c.sz) ++ post) = pre ++ l.flatMap c.e ++ post := by
        rw [List.append_assoc, ← List.append_assoc ((l.flatMap c.e).take (m * c.sz)), List.take_append_drop, List.append_assoc]
      rw [this]
      exact e1
    · rw [List.length_append, List.length_drop, e3]
      have e6 : (cap - m) * c.sz = (cap - n) * c.sz + (n - m) * c.sz := by rw [← Nat.add_mul]; congr 1; omega
      have e7 : (n - m) * c.sz = n * c.sz - m * c.sz := Nat.sub_mul ..
      omega
abbrev zn (k W H : Nat) (b : Nat) : List Ce := [Ce.mk aa.cS (some ⟨b, 0, none⟩) 13 (aa.jI k (W : Int) (H : Int)), Ce.mk aa.oZ none 0 []]
abbrev pC (k W H : Nat) (b : Nat) (ms : List Ce) (q : Option Addr) (c : Nat) (z : List Int) : List Ce := zn k W H b ++ ms ++ [Ce.mk aa.bQ q c z, Ce.mk aa.bV none 0 []]
theorem zj {k W H : Nat} {b : Nat} {ms : List Ce} {q : Option Addr} {c : Nat} {z : List Int} : (pC k W H b ms q c z).length = 2 + ms.length + 2 := by
  simp only [pC, zn, List.length_append, List.length_cons, List.length_nil]
theorem C5 {k W H : Nat} {b : Nat} {ms : List Ce} {q : Option Addr} {c : Nat} {z : List Int} (hm : ms.map Ce.ch = aa.je k) : (pC k W H b ms q c z).map Ce.ch = aa.tL k (W : Int) (H : Int) z := by
  simp only [pC, zn, List.map_append, hm]
  simp [aa.tL, Ce.ch]
theorem Mx {P : List Int} {W H k : Nat} (s : aa.Sz P W H) {b : Nat} {ms : List Ce} {q : Option Addr} {c : Nat} (hm : ms.map Ce.ch = aa.je k) : ∀ x ∈ pC k W H b ms q c (aa.cP (aa.dD k (aa.aR P W H))), aa.kV x.ch := fun x hx => by
  have h := aa.F8 s k
  rw [← C5 (b := b) (q := q) (c := c) hm] at h
  exact h _ (List.mem_map.2 ⟨x, hx, rfl⟩)
theorem G3 {P : List Int} {W H k : Nat} {b : Nat} {ms : List Ce} {q : Option Addr} {c : Nat} (hm : ms.map Ce.ch = aa.je k) : aa.cG ((pC k W H b ms q c (aa.cP (aa.dD k (aa.aR P W H)))).map Ce.ch) = aa.tF k P W H := by
  rw [C5 hm]
  unfold aa.tF
  rfl
theorem KI {k W H : Nat} {b : Nat} {ms : List Ce} {q : Option Addr} {c c1 : Nat} {z : List Int} {w0 : World} {h : Hp} (hh : dk w0 [Row U5 (some ⟨b, 0, none⟩) 13 c1 (aa.jI k (W : Int) (H : Int)), DK ms, Row U5 q z.length c z] h) : DK (pC k W H b ms q c z) w0 h := by
  obtain ⟨h1, h2, _, l1, l2, a, h3, h4, _, l3, l4, d, h5, h6, _, l5, l6, e, _⟩ := hh
  intro x hx
  rcases List.mem_append.1 hx with hx | hx
  · rcases List.mem_append.1 hx with hx | hx
    · simp only [zn, List.mem_cons, List.not_mem_nil, or_false] at hx
      rcases hx with rfl | rfl
      · exact (Row.Bv a).mono l1
      · exact ⟨rfl, .inl rfl⟩
    · exact (d x hx).mono (Hp.le_trans l3 l2)
  · simp only [List.mem_cons, List.not_mem_nil, or_false] at hx
    rcases hx with rfl | rfl
    · exact (Row.Bv e).mono (Hp.le_trans l5 (Hp.le_trans l4 l2))
    · exact ⟨rfl, .inl rfl⟩
theorem Q5 {k : Nat} {ms : List Ce} (h : ms.map Ce.ch = aa.je k) : ms.length ≤ 1 := by
  have e := congrArg List.length h
  rw [List.length_map] at e
  rw [e]
  unfold aa.je
  split
  · decide
  · split <;> decide
theorem O0 {P : List Int} {W H k : Nat} (s : aa.Sz P W H) (hk : k < 7) (h0 : k = 0) : aa.kp (aa.tF k P W H) (⟨(W : Int), (H : Int), P⟩, 0) := by
  have := aa.wY s hk
  unfold aa.tR at this
  rwa [if_pos h0] at this
theorem NP {P : List Int} {W H k : Nat} (s : aa.Sz P W H) (hk : k < 7) (h0 : k ≠ 0) : aa.kp (aa.tF k P W H) (aa.ev, aa.tE k) := by
  have := aa.wY s hk
  unfold aa.tR at this
  rwa [if_neg h0] at this
theorem OR {k : Nat} (h0 : k ≠ 0) : aa.tE k ≠ 0 := by
  unfold aa.tE
  rw [if_neg h0]
  split
  · decide
  · split <;> decide
theorem RP {k : Nat} {R : List Int} (h : k = 1) : R.take (R.length - 1) = aa.dD k R ∧ R.length - 1 = (aa.dD k R).length := by
  subst h
  unfold aa.dD
  exact ⟨rfl, by rw [if_pos rfl, List.length_take]; omega⟩
theorem Rx {k : Nat} {R : List Int} (h : k = 2) : R ++ [0] = aa.dD k R ∧ R.length + 1 = (aa.dD k R).length := by
  subst h
  unfold aa.dD
  exact ⟨rfl, by rw [if_neg (by decide), if_pos rfl, List.length_append]; rfl⟩
theorem RV {k : Nat} {R : List Int} (h : k = 3) : R.set 0 5 = aa.dD k R ∧ R.length = (aa.dD k R).length := by
  subst h
  unfold aa.dD
  exact ⟨rfl, by rw [if_neg (by decide), if_neg (by decide), if_pos rfl, List.length_set]⟩
theorem G8 {k : Nat} {R : List Int} (h : ¬ (k = 1 ∨ k = 2 ∨ k = 3)) : R = aa.dD k R ∧ R.length = (aa.dD k R).length := by
  have : aa.dD k R = R := by
    unfold aa.dD
    rw [if_neg (by omega), if_neg (by omega), if_neg (by omega)]
  exact ⟨this.symm, by rw [this]⟩
theorem Q3 {k : Nat} {w h : Int} (hk : k = 6) : (aa.hB w h).set 9 5 = aa.jI k w h := by
  subst hk
  rfl
theorem yM {k : Nat} {w h : Int} (hk : k ≠ 6) : aa.hB w h = aa.jI k w h := (aa.sO hk w h).symm
set_option maxHeartbeats 8000000 in
theorem L0 (w h : Int) (q : Option Addr) (c : Nat) (P : List Int) (kd : Int) (hkd : 0 ≤ kd ∧ kd < 256) (hcap : P.length ≤ c) (hU : aa.ot P) : aG Tryz.prog 9 [.agg #[.int .i64 w, .int .i64 h, .slice q P.length c], .int .u8 kd] [aS (aP 62 .u16) q P.length P] (aQ fun v G => v = .bool true ∧ G = [aS (aP 62 .u16) q P.length P]) := by
  refine av [(0, _), (1, _)] Tryz.func9 rfl Tryz.ntmps9 rfl rfl ?_
  intro w0 F
  refine rT bp 2 rfl ?_
  refine eN rfl (cs := [_, _, _]) rfl rfl ?_
  intro b2
  refine rO bp 6 rfl ?_
  refine ai (H7) V.G7  rfl .nil rfl ?_
  rintro _ _ ⟨rfl, rfl⟩
  refine rO bp 6 rfl ?_
  rcases (ab.Jz (P.length ≤ 3000) (aa.bR w h = 0 ∧ (P.length : Int) = 4 * w * h)) with ⟨hl, hm⟩ | ⟨hl, hm⟩ | hl
  ·
    refine rC bp 4 rfl ?_
    refine oV (ae V.nm rfl an rfl) ?_
    refine oV (ez (ty' := 0) Tryz.underlying24 rfl) ?_
    refine oV (aA (bd rfl rfl) (by omega)) ?_
    refine oV (aK rfl) ?_
    refine ag rfl ?_
    refine oV (bG V.ek rfl an (vs := [_, _, _]) rfl rfl) ?_
    refine ag rfl ?_
    refine ai (lC w h q P.length c true (decide_eq_true hm).symm) V.mn  rfl .nil rfl ?_
    rintro _ _ ⟨rfl, rfl⟩
    refine rO bp 8 rfl ?_
    obtain ⟨W, H, rfl, rfl, hs⟩ := aa.OP hm.1 hm.2 hU
    have hn := aa.K7 hs
    have hw := hs.w
    have hh := hs.h
    obtain ⟨k, hk, hkk⟩ : ∃ k : Nat, k < 7 ∧ kd % 7 = (k : Int) := ⟨(kd % 7).toNat, by omega, by omega⟩
    refine rC bp 11 rfl ?_
    refine gp (Row U5 none 0 0 []) (Row.nil _ _ _) ?_
    rw [show Row U5 none 0 0 [] = Row U5 none (aa.aR P W 0).length 0 (aa.aR P W 0) from by unfold aa.aR; rfl, show ((5 : Nat), Value.slice none 0 0) = (5, .slice none (aa.aR P W 0).length 0) from by unfold aa.aR; rfl]
    refine iR (fun (y : Nat) (po : Option Addr) (co : Nat) => [(1, .int .u8 kd), (2, .pointer (some ⟨b2, 0, none⟩)), (5, .slice po (aa.aR P W y).length co), (6, .int .i64 (y : Int))]) (fun (y : Nat) (po : Option Addr) (co : Nat) => Row U5 po (aa.aR P W y).length co (aa.aR P W y) :: ao b2 26 [.int .i64 (W : Int), .int .i64 (H : Int), .slice q P.length c] :: aS (aP 62 .u16) q P.length P :: F) (fun (y : Nat) (po : Option Addr) (co : Nat) => y ≤ H) (fun (y : Nat) (po : Option Addr) (co : Nat) => H - y) (i3 (0) (none) (0) ?_ (fo ln) (sub (gm .nil) aw)) ?_
    ·
      exact Nat.zero_le _
    intro y po co
    rintro hy
    refine rL bp 5 rfl ?_
    refine oV (ae V.s3 rfl bW rfl) ?_
    refine rO bp 3 rfl ?_
    refine aN rfl (fun h30 => ?_) (fun h30 => ?_)
    ·
      refine rC bp 5 rfl ?_
      have hle := aa.uY (y := y) hs (by omega)
      refine rC bp 2 rfl ?_
      refine cV (U5) [0] V.bY V.z5 rfl rfl rfl rfl rfl rfl ?_
      intro b34
      refine dw (c := (U5)) V.bY V.z5 rfl rfl rfl rfl ay (own an) (by omega) rfl ?_
      intro p35 c35
      refine rO bp 9 rfl ?_
      rw [show (aa.aR P W y).length + 1 = (aa.iu P W y 0).length from by rw [← aa.sU, List.length_append]; rfl, aa.sU]
      refine iR (fun (i : Nat) (pi : Option Addr) (ci : Nat) => [(1, .int .u8 kd), (2, .pointer (some ⟨b2, 0, none⟩)), (5, .slice pi (aa.iu P W y i).length ci), (6, .int .i64 (y : Int)), (7, .int .i64 (i : Int))]) (fun (i : Nat) (pi : Option Addr) (ci : Nat) => Row U5 pi (aa.iu P W y i).length ci (aa.iu P W y i) :: ao b2 26 [.int .i64 (W : Int), .int .i64 (H : Int), .slice q P.length c] :: aS (aP 62 .u16) q P.length P :: F) (fun (i : Nat) (pi : Option Addr) (ci : Nat) => i ≤ 4 * W) (fun (i : Nat) (pi : Option Addr) (ci : Nat) => 4 * W - i) (i3 (0) (_) (_) ?_ (dp ln) (sub (ar (.cons ay (.cons ay .nil))) cD)) ?_
      ·
        exact Nat.zero_le _
      intro i pi ci
      rintro hi
      refine rL bp 5 rfl ?_
      refine oV (ae V.s3 rfl bW rfl) ?_
      refine cQ bp 4 rfl (by omega) ?_
      refine aN rfl (fun h40 => ?_) (fun h40 => ?_)
      ·
        refine rC bp 5 rfl ?_
        have hsg := aa.xK (y := y) (i := i) hs.len (by omega) (by omega)
        have hWy : 4 * (W : Int) * (y : Int) = ((4 * W * y : Nat) : Int) := by rw [Int.natCast_mul, Int.natCast_mul]; rfl
        have hq : (aP 62 .u16).g P (((4 * W * y : Nat) : Int) + (i : Int)) = (P.getD (4 * W * y + i) 0) := gE (4 * W * y + i) (by omega)
        have hv := hs.u.get (4 * W * y + i)
        refine rC bp 2 rfl ?_
        refine oV (ae V.nm rfl bW rfl) ?_
        refine oV (aE V.oO rfl) ?_
        refine oV (ae V.s3 rfl bW rfl) ?_
        refine cQ bp 2 rfl (by omega) ?_
        refine oV (jv (r := ((4 * W * y : Nat) : Int)) rfl rfl (by rw [hWy]; exact gF (by omega) (by omega))) ?_
        refine cQ bp 2 rfl (by omega) ?_
        refine oV (xI V.gX (by exact bE (fun _ _ h => h) dJ)) ?_
        refine oV (xL V.lD (by exact bE (fun _ _ h => h) dJ)) ?_
        rw [hq]
        refine rO bp 3 rfl ?_
        have hle := aa.z7 (y := y) (i := i) hs (by omega) (by omega)
        refine rC bp 3 rfl ?_
        refine oV (ed (r := (P.getD (4 * W * y + i) 0) / 256) rfl rfl (by decide) (aj.lT (k := 8) (by decide) rfl)) ?_
        refine oV (bg V.GF Tryz.underlying5 rfl (kc (by omega) (by omega))) ?_
        refine oV (aK rfl) ?_
        refine oV (bg V.GF Tryz.underlying5 rfl (aa.ee _)) ?_
        refine cV (U5) [(P.getD (4 * W * y + i) 0) / 256, (P.getD (4 * W * y + i) 0) % 256] V.bY V.z5 rfl rfl rfl rfl rfl rfl ?_
        intro Hc
        refine dw (c := (U5)) V.bY V.z5 rfl rfl rfl rfl ay (own an) (by omega) rfl ?_
        intro p61 c61
        refine cQ bp 9 rfl (by omega) ?_
        have hfin := aa.DI (y := y) (i := i) hs.len (by omega) (by omega)
        have hln : (aa.iu P W y i).length + 2 = (aa.iu P W y (i + 1)).length := by rw [← hfin, List.length_append]; rfl
        rw [hfin, hln]
        exact j3 (i + 1) _ _ ⟨by omega, by omega⟩ (dp ln) (sub (ar (.cons ay (.cons ay .nil))) cD)
      ·
        refine fH bp 11 rfl (by omega) ?_
        obtain rfl : i = 4 * W := by omega
        rw [aa.CG hs.len (by omega)]
        exact j3 (y + 1) _ _ ⟨by omega, by omega⟩ (fo ln) (sub (gm .nil) aw)
    ·
      refine rC bp 6 rfl ?_
      obtain rfl : H = y := by omega
      have hle := aa.lr hs
      have hpos := aa.zB hs
      refine rC bp 2 rfl ?_
      refine oV (ae V.s3 rfl bW rfl) ?_
      refine oV (ed (r := (W : Int) / 256) rfl rfl (by decide) (aj.lT (k := 8) (by decide) rfl)) ?_
      refine oV (bg V.u3 Tryz.underlying5 rfl (kc (by omega) (by omega))) ?_
      refine oV (aE V.oO rfl) ?_
      refine oV (ae V.s3 rfl bW rfl) ?_
      refine oV (bg V.u3 Tryz.underlying5 rfl (aj.ee _)) ?_
      refine oV (aE V.mf rfl) ?_
      refine oV (ae V.s3 rfl bW rfl) ?_
      refine oV (ed (r := (H : Int) / 256) rfl rfl (by decide) (aj.lT (k := 8) (by decide) rfl)) ?_
      refine oV (bg V.u3 Tryz.underlying5 rfl (kc (by omega) (by omega))) ?_
      refine oV (aE V.mf rfl) ?_
      refine oV (ae V.s3 rfl bW rfl) ?_
      refine oV (bg V.u3 Tryz.underlying5 rfl (aj.ee _)) ?_
      refine x9 (T := 5) (k := .u8) (aa.hB (W : Int) (H : Int)) V.bY V.z5 rfl rfl rfl rfl ?_
      intro rH
      refine rO bp 11 rfl ?_
      iterate 2 refine oV (cB V.uj V.nI rfl (cs := [_, _]) rfl) ?_
      refine cV (bj) (zn k W H rH) V.kl V.nI rfl rfl rfl rfl rfl rfl ?_
      intro LP
      refine rO bp 3 rfl ?_
      refine Ip (fun (pr : Option Addr) (cr : Nat) (nr : Nat) (X : List Int) (pl : Option Addr) (cl : Nat) (ms : List Ce) (wn : Int) => [(2, .pointer (some ⟨b2, 0, none⟩)), (5, .slice pr nr cr), (10, .int .i64 wn), (11, .slice pl (2 + ms.length) cl)]) (fun (pr : Option Addr) (cr : Nat) (nr : Nat) (X : List Int) (pl : Option Addr) (cl : Nat) (ms : List Ce) (wn : Int) => Row U5 pr nr cr X :: Row U5 (some ⟨rH, 0, none⟩) 13 13 (aa.jI k (W : Int) (H : Int)) :: Row bj pl (2 + ms.length) cl (zn k W H rH ++ ms) :: DK ms :: ao b2 26 [.int .i64 (W : Int), .int .i64 (H : Int), .slice q P.length c] :: aS (aP 62 .u16) q P.length P :: F) (fun (pr : Option Addr) (cr : Nat) (nr : Nat) (X : List Int) (pl : Option Addr) (cl : Nat) (ms : List Ce) (wn : Int) => (X = (aa.dD k (aa.aR P W H)) ∧ nr = (aa.dD k (aa.aR P W H)).length) ∧ ms.map Ce.ch = aa.je k ∧ wn = aa.tE k) ?_ ?_
      ·
        refine rL bp 1 rfl ?_
        refine gp (DK []) (zZ _ _ _ _) ?_
        refine rC bp 2 rfl ?_
        refine oV (gV (r := (k : Int)) rfl rfl (by decide) ((jy (by omega)).trans hkk)) ?_
        refine rO bp 3 rfl ?_
        rcases (aa.yd hk) with hkc | hkc | hkc | hkc | hkc | hkc | hkc
        ·
          refine rC bp 2 rfl ?_
          refine oV (aA (az rfl rfl) (by omega)) ?_
          refine rO bp 6 rfl ?_
          refine oV (aA (az rfl rfl) (by omega)) ?_
          refine rO bp 6 rfl ?_
          refine oV (aA (az rfl rfl) (by omega)) ?_
          refine rO bp 6 rfl ?_
          refine oV (aA (az rfl rfl) (by omega)) ?_
          refine rO bp 6 rfl ?_
          refine oV (aA (az rfl rfl) (by omega)) ?_
          refine rO bp 6 rfl ?_
          refine oV (aA (az rfl rfl) (by omega)) ?_
          refine rO bp 6 rfl ?_
          rw [show aa.hB (W : Int) (H : Int) = aa.jI k (W : Int) (H : Int) from yM (by omega)]
          refine j8 (po) _ ((aa.aR P W H).length) ((aa.aR P W H)) _ _ ([]) (0) ?_ (fo ln) (sub (.cons dI (.cons bX (.cons ay (gm .nil)))) aw)
          exact ⟨G8 (by omega), by unfold aa.je; rw [hkc]; rfl, by unfold aa.tE; rw [hkc]; rfl⟩
        ·
          refine rC bp 2 rfl ?_
          refine oV (aW (az rfl rfl) (by omega)) ?_
          refine rO bp 4 rfl ?_
          refine gY (fun w hi => fM hi (show Row U5 po (aa.aR P W H).length co (aa.aR P W H) ∈ _ by exact eG)) (fun hco => ?_)
          refine rC bp 4 rfl ?_
          refine oV (cK (v := .int .i64 (((aa.aR P W H).length - 1 : Nat) : Int)) (fT rfl rfl wI) (congrArg (Value.int .i64) (by omega))) ?_
          refine oV (jQ ((aa.aR P W H).length - 1 : Nat) _ V.bY rfl ⟨_, rfl⟩ rfl (by omega) (by omega)) ?_
          refine F3 (A := Row U5 po (aa.aR P W H).length co (aa.aR P W H)) (B := Row U5 po ((aa.aR P W H).length - 1) co ((aa.aR P W H).take ((aa.aR P W H).length - 1))) dI (fun h hh => FU (by omega) hh) ?_
          refine rO bp 4 rfl ?_
          rw [show aa.hB (W : Int) (H : Int) = aa.jI k (W : Int) (H : Int) from yM (by omega)]
          refine j8 (po) _ ((aa.aR P W H).length - 1) ((aa.aR P W H).take ((aa.aR P W H).length - 1)) _ _ ([]) (2) ?_ (fo ln) (sub (ar (.cons bX (.cons ay (.cons dQ (.cons dQ (.cons dQ .nil)))))) aw)
          exact ⟨RP hkc, by unfold aa.je; rw [hkc]; rfl, by unfold aa.tE; rw [hkc]; rfl⟩
        ·
          refine rC bp 2 rfl ?_
          refine oV (aA (az rfl rfl) (by omega)) ?_
          refine rO bp 6 rfl ?_
          refine oV (aW (az rfl rfl) (by omega)) ?_
          refine rO bp 6 rfl ?_
          refine cV (U5) [0] V.bY V.z5 rfl rfl rfl rfl rfl rfl ?_
          intro PA
          refine dw (c := (U5)) V.bY V.z5 rfl rfl rfl rfl ig (own an) (by omega) rfl ?_
          intro p94 c94
          refine rO bp 4 rfl ?_
          rw [show aa.hB (W : Int) (H : Int) = aa.jI k (W : Int) (H : Int) from yM (by omega)]
          refine j8 (_) _ ((aa.aR P W H).length + 1) ((aa.aR P W H) ++ [0]) _ _ ([]) (6) ?_ (fo ln) (sub (ar (.cons dI (.cons bX (.cons ay (.cons ay (.cons ay .nil)))))) cD)
          exact ⟨Rx hkc, by unfold aa.je; rw [hkc]; rfl, by unfold aa.tE; rw [hkc]; rfl⟩
        ·
          refine rC bp 2 rfl ?_
          refine oV (aA (az rfl rfl) (by omega)) ?_
          refine rO bp 6 rfl ?_
          refine oV (aA (az rfl rfl) (by omega)) ?_
          refine rO bp 6 rfl ?_
          refine oV (aW (az rfl rfl) (by omega)) ?_
          refine rO bp 6 rfl ?_
          refine oV (xI V.bY (own eG)) ?_
          refine aU (gu (c := (U5)) (_) V.s5 rfl rfl rfl (by exact wH) (by omega) (by omega) rfl rfl) ?_
          refine rO bp 3 rfl ?_
          rw [show aa.hB (W : Int) (H : Int) = aa.jI k (W : Int) (H : Int) from yM (by omega)]
          refine j8 (po) _ ((aa.aR P W H).length) ((aa.aR P W H).set 0 5) _ _ ([]) (4) ?_ (fo ln) (sub (.cons dI (.cons bX (.cons ay (gm .nil)))) aw)
          exact ⟨RV hkc, by unfold aa.je; rw [hkc]; rfl, by unfold aa.tE; rw [hkc]; rfl⟩
        ·
          refine rC bp 2 rfl ?_
          refine oV (aA (az rfl rfl) (by omega)) ?_
          refine rO bp 6 rfl ?_
          refine oV (aA (az rfl rfl) (by omega)) ?_
          refine rO bp 6 rfl ?_
          refine oV (aA (az rfl rfl) (by omega)) ?_
          refine rO bp 6 rfl ?_
          refine oV (aW (az rfl rfl) (by omega)) ?_
          refine rO bp 6 rfl ?_
          refine cV (U5) [0, 0] V.bY V.z5 rfl rfl rfl rfl rfl rfl ?_
          intro b102
          refine oV (cB V.uj V.nI rfl (cs := [_, _]) rfl) ?_
          refine cV (bj) [Ce.mk aa.bA (some ⟨b102, 0, none⟩) 2 [0, 0]] V.kl V.nI rfl rfl rfl rfl rfl rfl ?_
          intro b104
          refine dw (c := (bj)) V.kl V.nI rfl rfl rfl rfl dI (own an) (by omega) rfl ?_
          intro p105 c105
          refine vR (aV (A := DK [Ce.mk aa.bA (some ⟨b102, 0, none⟩) 2 [0, 0]]) (.cons dI (.cons bX .nil)) aw (fun w0 h hh => ob (l := []) (x := Ce.mk aa.bA (some ⟨b102, 0, none⟩) 2 [0, 0]) rfl hh)) ?_
          refine rO bp 4 rfl ?_
          rw [show aa.hB (W : Int) (H : Int) = aa.jI k (W : Int) (H : Int) from yM (by omega)]
          refine j8 (po) _ ((aa.aR P W H).length) ((aa.aR P W H)) _ _ ([Ce.mk aa.bA (some ⟨b102, 0, none⟩) 2 [0, 0]]) (4) ?_ (fo ln) (sub (.cons ig (.cons dI (.cons ay (ar (.cons ay (.cons ay .nil)))))) cD)
          exact ⟨G8 (by omega), by unfold aa.je; rw [hkc]; rfl, by unfold aa.tE; rw [hkc]; rfl⟩
        ·
          refine rC bp 2 rfl ?_
          refine oV (aA (az rfl rfl) (by omega)) ?_
          refine rO bp 6 rfl ?_
          refine oV (aA (az rfl rfl) (by omega)) ?_
          refine rO bp 6 rfl ?_
          refine oV (aA (az rfl rfl) (by omega)) ?_
          refine rO bp 6 rfl ?_
          refine oV (aA (az rfl rfl) (by omega)) ?_
          refine rO bp 6 rfl ?_
          refine oV (aW (az rfl rfl) (by omega)) ?_
          refine rO bp 6 rfl ?_
          refine cV (U5) [1, 2, 3, 4] V.bY V.z5 rfl rfl rfl rfl rfl rfl ?_
          intro rV
          refine oV (cB V.uj V.nI rfl (cs := [_, _]) rfl) ?_
          refine cV (bj) [Ce.mk aa.a7 (some ⟨rV, 0, none⟩) 4 [1, 2, 3, 4]] V.kl V.nI rfl rfl rfl rfl rfl rfl ?_
          intro Kj
          refine dw (c := (bj)) V.kl V.nI rfl rfl rfl rfl dI (own an) (by omega) rfl ?_
          intro p112 c112
          refine vR (aV (A := DK [Ce.mk aa.a7 (some ⟨rV, 0, none⟩) 4 [1, 2, 3, 4]]) (.cons dI (.cons bX .nil)) aw (fun w0 h hh => ob (l := []) (x := Ce.mk aa.a7 (some ⟨rV, 0, none⟩) 4 [1, 2, 3, 4]) rfl hh)) ?_
          refine rO bp 4 rfl ?_
          rw [show aa.hB (W : Int) (H : Int) = aa.jI k (W : Int) (H : Int) from yM (by omega)]
          refine j8 (po) _ ((aa.aR P W H).length) ((aa.aR P W H)) _ _ ([Ce.mk aa.a7 (some ⟨rV, 0, none⟩) 4 [1, 2, 3, 4]]) (4) ?_ (fo ln) (sub (.cons ig (.cons dI (.cons ay (ar (.cons ay (.cons ay .nil)))))) cD)
          exact ⟨G8 (by omega), by unfold aa.je; rw [hkc]; rfl, by unfold aa.tE; rw [hkc]; rfl⟩
        ·
          refine rC bp 2 rfl ?_
          refine oV (aA (az rfl rfl) (by omega)) ?_
          refine rO bp 6 rfl ?_
          refine oV (aA (az rfl rfl) (by omega)) ?_
          refine rO bp 6 rfl ?_
          refine oV (aA (az rfl rfl) (by omega)) ?_
          refine rO bp 6 rfl ?_
          refine oV (aA (az rfl rfl) (by omega)) ?_
          refine rO bp 6 rfl ?_
          refine oV (aA (az rfl rfl) (by omega)) ?_
          refine rO bp 6 rfl ?_
          refine oV (aW (az rfl rfl) (by omega)) ?_
          refine rO bp 6 rfl ?_
          refine oV (xI V.bY (own dJ)) ?_
          refine aU (gu (c := (U5)) (_) V.s5 rfl rfl rfl (by exact ni) (by omega) (by omega) rfl rfl) ?_
          refine rO bp 3 rfl ?_
          rw [show (aa.hB (W : Int) (H : Int)).set ((9 : Int)).toNat 5 = aa.jI k (W : Int) (H : Int) from Q3 hkc]
          refine j8 (po) _ ((aa.aR P W H).length) ((aa.aR P W H)) _ _ ([]) (4) ?_ (fo ln) (sub (.cons dI (.cons bX (.cons ay (gm .nil)))) aw)
          exact ⟨G8 (by omega), by unfold aa.je; rw [hkc]; rfl, by unfold aa.tE; rw [hkc]; rfl⟩
      ·
        intro pr cr nr X pl cl ms wn
        rintro ⟨⟨rfl, rfl⟩, hms, rfl⟩
        refine rC bp 1 rfl ?_
        have htl := aa.oJ hs k
        have hfl := aa.Cy hs k
        have hcl := aa.mi (B := (aa.dD k (aa.aR P W H))) (by omega)
        have hml : ms.length ≤ 1 := Q5 hms
        refine gY (fun w hi => fM hi (show Row U5 pr (aa.dD k (aa.aR P W H)).length cr (aa.dD k (aa.aR P W H)) ∈ _ by exact an)) (fun hcr => ?_)
        refine rC bp 3 rfl ?_
        refine ai (yJ pr cr (aa.dD k (aa.aR P W H)) (Row U5 pr (aa.dD k (aa.aR P W H)).length cr (aa.dD k (aa.aR P W H))) (fun w0 h hh => ⟨hh.1, hh.2.rd⟩) (by omega) (aa.rZ hs k) hcr) V.GK  rfl (ar .nil) rfl ?_
        rintro _ _ ⟨qz, cz, rfl, rfl⟩
        iterate 2 refine oV (cB V.uj V.nI rfl (cs := [_, _]) rfl) ?_
        refine cV (bj) [Ce.mk aa.bQ qz cz (aa.cP (aa.dD k (aa.aR P W H))), Ce.mk aa.bV none 0 []] V.kl V.nI rfl rfl rfl rfl rfl rfl ?_
        intro b122
        refine dw (c := (bj)) V.kl V.nI rfl rfl rfl rfl ig (own an) (by omega) rfl ?_
        intro p123 c123
        rw [show 2 + ms.length + 2 = (pC k W H rH ms qz cz (aa.cP (aa.dD k (aa.aR P W H)))).length from zj.symm]
        refine vR (aV (A := DK (pC k W H rH ms qz cz (aa.cP (aa.dD k (aa.aR P W H))))) (.cons ig (.cons ig (.cons bX .nil))) aw (fun w0 h hh => KI hh)) ?_
        refine rO bp 6 rfl ?_
        refine ai (BK p123 c123 (pC k W H rH ms qz cz (aa.cP (aa.dD k (aa.aR P W H)))) (Row bj p123 (pC k W H rH ms qz cz (aa.cP (aa.dD k (aa.aR P W H)))).length c123 (pC k W H rH ms qz cz (aa.cP (aa.dD k (aa.aR P W H))))) (fun w0 h hh => ⟨hh.1, hh.2.rd⟩) (by rw [zj]; omega) (Mx hs hms) (by rw [G3 hms]; omega)) V.Pz  rfl (.cons ay (ar .nil)) rfl ?_
        rintro _ _ ⟨qj, cj, rfl, rfl⟩
        rw [G3 hms]
        refine Cs (fun w hi => fM hi (show Row U5 qj (aa.tF k P W H).length cj (aa.tF k P W H) ∈ _ by exact an)) (fun hcj => ?_)
        refine rO bp 7 rfl ?_
        rcases (Classical.em (k = 0)) with h0 | h0
        ·
          refine rC bp 3 rfl ?_
          refine ai (py qj cj (aa.tF k P W H) (Row U5 qj (aa.tF k P W H).length cj (aa.tF k P W H)) (fun w0 h hh => ⟨hh.1, hh.2.rd⟩) (by omega) (aa.CY hs k) hcj (⟨(W : Int), (H : Int), P⟩, 0) (O0 hs hk h0)) V.zE  rfl (ar .nil) rfl ?_
          rintro _ _ ⟨qd, nd, cd, rfl, hnd, hcd, rfl⟩
          refine rO bp 3 rfl ?_
          refine cC V.kJ rfl ?_
          intro zE
          refine aU (aF V.ek rfl rfl (us := [_, _, _]) rfl rfl (by exact cY) (by exact Nat.le_of_ble_eq_true rfl) rfl) ?_
          refine rO bp 7 rfl ?_
          refine oV (aW (az rfl rfl) (by unfold aa.tE; rw [if_pos h0])) ?_
          refine rO bp 2 rfl ?_
          refine ag rfl ?_
          refine oV (aW (az rfl rfl) (by unfold aa.tE; rw [if_pos h0])) ?_
          refine ag rfl ?_
          refine oV (bG V.ek rfl an (vs := [_, _, _]) rfl rfl) ?_
          refine ag rfl ?_
          refine oV (bG V.ek rfl te (vs := [_, _, _]) rfl rfl) ?_
          refine ag rfl ?_
          refine ai (wL (W : Int) (H : Int) qd nd cd P hnd (Row (aP 62 .u16) qd nd cd P) (fun w0 h hh => ⟨hh.1, hh.2.rd⟩) (W : Int) (H : Int) q P.length c P rfl (aS (aP 62 .u16) q P.length P) (fun _ _ hh => hh) (by rw [← hnd]; show P.length ≤ _; omega) true (decide_eq_true (by unfold aa.iY; rw [show (nd : Int) = (P.length : Int) from by rw [← hnd]]; exact ⟨hm, hm, rfl, rfl, rfl⟩)).symm) V.Gg  rfl (.cons ay (.cons Dx .nil)) rfl ?_
          rintro _ _ ⟨rfl, rfl⟩
          refine ag rfl ?_
          refine oV (cK (v := .bool true) (G0 Tryz.underlying4 rfl rfl) (by rw [beq_self_eq_true])) ?_
          refine rO bp 5 rfl ?_
          exact ak (aC rfl) ⟨rfl, rfl⟩ (sub (.cons ay .nil) Cw)
        ·
          refine rC bp 3 rfl ?_
          refine ai (py qj cj (aa.tF k P W H) (Row U5 qj (aa.tF k P W H).length cj (aa.tF k P W H)) (fun w0 h hh => ⟨hh.1, hh.2.rd⟩) (by omega) (aa.CY hs k) hcj (⟨0, 0, []⟩, aa.tE k) (NP hs hk h0)) V.zE  rfl (ar .nil) rfl ?_
          rintro _ _ ⟨qd, nd, cd, rfl, hnd, hcd, rfl⟩
          refine rO bp 3 rfl ?_
          refine cC V.kJ rfl ?_
          intro zE
          refine aU (aF V.ek rfl rfl (us := [_, _, _]) rfl rfl (by exact cY) (by exact Nat.le_of_ble_eq_true rfl) rfl) ?_
          refine rO bp 7 rfl ?_
          refine oV (aW (az rfl rfl) rfl) ?_
          refine rO bp 2 rfl ?_
          refine ag rfl ?_
          refine oV (aA (az rfl rfl) (OR h0)) ?_
          refine ag rfl ?_
          refine oV (bG V.ek rfl an (vs := [_, _, _]) rfl rfl) ?_
          refine ag rfl ?_
          refine oV (bG V.ek rfl te (vs := [_, _, _]) rfl rfl) ?_
          refine ag rfl ?_
          refine ai (wL 0 0 qd nd cd [] hnd (Row (aP 62 .u16) qd nd cd []) (fun w0 h hh => ⟨hh.1, hh.2.rd⟩) (W : Int) (H : Int) q P.length c P rfl (aS (aP 62 .u16) q P.length P) (fun _ _ hh => hh) (by rw [← hnd]; exact Nat.zero_le _) false (decide_eq_false aa.BF).symm) V.Gg  rfl (.cons ay (.cons Dx .nil)) rfl ?_
          rintro _ _ ⟨rfl, rfl⟩
          refine ag rfl ?_
          refine oV (cK (v := .bool true) (G0 Tryz.underlying4 rfl rfl) (by rw [beq_self_eq_true])) ?_
          refine rO bp 5 rfl ?_
          exact ak (aC rfl) ⟨rfl, rfl⟩ (sub (.cons ay .nil) Cw)
  ·
    refine rC bp 4 rfl ?_
    refine oV (ae V.nm rfl an rfl) ?_
    refine oV (ez (ty' := 0) Tryz.underlying24 rfl) ?_
    refine oV (aA (bd rfl rfl) (by omega)) ?_
    refine oV (aK rfl) ?_
    refine ag rfl ?_
    refine oV (bG V.ek rfl an (vs := [_, _, _]) rfl rfl) ?_
    refine ag rfl ?_
    refine ai (lC w h q P.length c false (decide_eq_false hm).symm) V.mn  rfl .nil rfl ?_
    rintro _ _ ⟨rfl, rfl⟩
    refine rO bp 12 rfl ?_
    exact ak (aC rfl) ⟨rfl, rfl⟩ (sub (.cons ay .nil) cD)
  ·
    refine rC bp 4 rfl ?_
    refine oV (ae V.nm rfl an rfl) ?_
    refine oV (ez (ty' := 0) Tryz.underlying24 rfl) ?_
    refine oV (aW (bd rfl rfl) (by omega)) ?_
    refine rO bp 15 rfl ?_
    exact ak (aC rfl) ⟨rfl, rfl⟩ (sub (.cons ay .nil) cD)
end Go.Proofs.YtmaiakpjgomnpaaGreat

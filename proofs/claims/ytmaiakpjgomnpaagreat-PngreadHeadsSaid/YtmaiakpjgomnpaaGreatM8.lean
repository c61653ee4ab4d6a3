/- Walks of functions that the law reaches, and what they lean on; no conditions. -/
import Derived.Test.YtmaiakpjgomnpaaGreatM1
import Derived.KernelRfl
import Derived.Test.YtmaiakpjgomnpaaGreatM7
import Derived.Test.YtmaiakpjgomnpaaGreatM4
import Derived.Test.YtmaiakpjgomnpaaGreatM2
set_option linter.unusedVariables false
set_option linter.unusedSimpArgs false
set_option maxRecDepth 100000
namespace Go.Proofs.YtmaiakpjgomnpaaGreat
open Go.Sl 
theorem aN : dC Tryz.prog ⟨[22, 59, 84], [(35, 2, 2), (35, 3, 3), (38, 2, 2), (38, 3, 3), (57, 0, 0), (57, 1, 1), (88, 0, 0), (88, 1, 1), (90, 0, 0), (90, 1, 5), (90, 2, 6), (90, 3, 7)]⟩ = true := by kernel_rfl
attribute [local irreducible] ak.az aa.bS aa.up aa.c4 aa.ij aa.jX aa.deep aa.parts HW aa.cm aa.bC aa.bZ aa.cD aa.dv aa.jw aa.jJ aa.o9 aa.bH aa.dr
theorem yG {es : List Ce} {i : Nat} {kk : List Int} (hi : i ≤ es.length) (h : ∀ j : Nat, j < i → (bJ.g es (j : Int)).k ≠ kk) : ∀ j, j < i → ∀ c, (es.map Ce.ch)[j]? = some c → c.k ≠ kk := fun j hj c hc => by
 rw [pV (by omega)] at hc
 cases hc
 exact h j hj
theorem nf {es : List Ce} {x : Ce} (hx : x ∈ es) : ∀ w0 h, DK es w0 h → aS U5 x.p x.d.length x.d w0 h := fun w0 h hh => (hh x hx).rd
theorem EM (R : ab) : ∀ w0 h, R w0 h → aS U5 none 0 [] w0 h := fun _ _ _ => ⟨rfl, rfl, .inl rfl⟩
structure qJ where
 pp : Option Addr
 cp : Nat
 P : List Int
 pt : Option Addr
 ct : Nat
 T : List Int
 pd : Option Addr
 cd : Nat
 D : List Int
 hp : Bool
 ht : Bool
def mG (es : List Ce) (i : Nat) (s : qJ) : Prop := s.P = aa.l6 ((es.map Ce.ch).take i) aa.bC ∧ s.T = aa.l6 ((es.map Ce.ch).take i) aa.bZ ∧ s.D = aa.dr ((es.map Ce.ch).take i) ∧ s.hp = aa.fI ((es.map Ce.ch).take i) aa.bC ∧ s.ht = aa.fI ((es.map Ce.ch).take i) aa.bZ ∧ s.P.length ≤ s.cp ∧ s.T.length ≤ s.ct ∧ (∀ w0 h, DK es w0 h → aS U5 s.pp s.P.length s.P w0 h) ∧ ∀ w0 h, DK es w0 h → aS U5 s.pt s.T.length s.T w0 h
theorem Nb (es : List Ce) : mG es 0 ⟨none, 0, [], none, 0, [], none, 0, [], false, false⟩ := ⟨rfl, rfl, by unfold aa.dr; rfl, rfl, rfl, Nat.le_refl _, Nat.le_refl _, EM _, EM _⟩
section
variable {es : List Ce} {i : Nat} {s : qJ} {x : Ce} (hs : mG es i s) (hx : (es.map Ce.ch)[i]? = some x.ch)
include hs hx
theorem M1 (hk : x.k = aa.bC) (hm : x ∈ es) (ho : x.d.length ≤ x.c) : mG es (i + 1) { s with pp := x.p, cp := x.c, P := x.d, hp := true } := by
 obtain ⟨h1, h2, h3, h4, h5, h6, h7, h8, h9⟩ := hs
 have hk : x.ch.k = aa.bC := hk
 refine ⟨?_, ?_, ?_, ?_, ?_, ho, h7, nf hm, h9⟩
 ·rw [aa.lh hx, if_pos hk]; rfl
 ·rw [aa.lh hx, if_neg (by rw [hk]; exact aa.FX)]; exact h2
 ·rw [aa.sJ hx, if_neg (by rw [hk]; exact aa.IY)]; exact h3
 ·rw [aa.mj hx, hk]; simp
 ·rw [aa.mj hx, hk, ← h5, beq_false_of_ne aa.FX, Bool.or_false]
theorem M4 (hk : x.k = aa.bZ) (hm : x ∈ es) (ho : x.d.length ≤ x.c) : mG es (i + 1) { s with pt := x.p, ct := x.c, T := x.d, ht := true } := by
 obtain ⟨h1, h2, h3, h4, h5, h6, h7, h8, h9⟩ := hs
 have hk : x.ch.k = aa.bZ := hk
 refine ⟨?_, ?_, ?_, ?_, ?_, h6, ho, h8, nf hm⟩
 ·rw [aa.lh hx, if_neg (by rw [hk]; exact aa.FX.symm)]; exact h1
 ·rw [aa.lh hx, if_pos hk]; rfl
 ·rw [aa.sJ hx, if_neg (by rw [hk]; exact aa.J9)]; exact h3
 ·rw [aa.mj hx, hk, ← h4, beq_false_of_ne aa.FX.symm, Bool.or_false]
 ·rw [aa.mj hx, hk]; simp
theorem F1 (hk : x.k = aa.cm) (p : Option Addr) (c : Nat) : mG es (i + 1) { s with pd := p, cd := c, D := s.D ++ x.d } := by
 obtain ⟨h1, h2, h3, h4, h5, h6, h7, h8, h9⟩ := hs
 have hk : x.ch.k = aa.cm := hk
 refine ⟨?_, ?_, ?_, ?_, ?_, h6, h7, h8, h9⟩
 ·rw [aa.lh hx, if_neg (by rw [hk]; exact aa.IY.symm)]; exact h1
 ·rw [aa.lh hx, if_neg (by rw [hk]; exact aa.J9.symm)]; exact h2
 ·rw [aa.sJ hx, if_pos hk, ← h3]; rfl
 ·rw [aa.mj hx, hk, ← h4, beq_false_of_ne aa.IY.symm, Bool.or_false]
 ·rw [aa.mj hx, hk, ← h5, beq_false_of_ne aa.J9.symm, Bool.or_false]
theorem MI (k1 : x.k ≠ aa.bC) (k2 : x.k ≠ aa.bZ) (k3 : x.k ≠ aa.cm) : mG es (i + 1) s := by
 obtain ⟨h1, h2, h3, h4, h5, h6, h7, h8, h9⟩ := hs
 have k1 : x.ch.k ≠ aa.bC := k1
 have k2 : x.ch.k ≠ aa.bZ := k2
 have k3 : x.ch.k ≠ aa.cm := k3
 refine ⟨?_, ?_, ?_, ?_, ?_, h6, h7, h8, h9⟩
 ·rw [aa.lh hx, if_neg k1]; exact h1
 ·rw [aa.lh hx, if_neg k2]; exact h2
 ·rw [aa.sJ hx, if_neg k3]; exact h3
 ·rw [aa.mj hx, ← h4]; simp [k1]
 ·rw [aa.mj hx, ← h5]; simp [k2]
end
set_option maxHeartbeats 1000000 in
theorem Qn (p : Option Addr) (c : Nat) (es : List Ce) (R : ab) (hR : ∀ w0 h, R w0 h → aS bJ p es.length es w0 h) (hel : es.length ≤ 262144) (hok : FH es) (kk : List Int) (hk : ak.az kk) : aK Tryz.prog 45 [.slice p es.length c, .string (strOfNums kk)] [R] (aR fun v G => ∃ q cq, v = .tuple #[.slice q (aa.cI (es.map Ce.ch) kk).length cq, .bool (aa.fI (es.map Ce.ch) kk)] ∧ (∀ w0 h, DK es w0 h → aS U5 q (aa.cI (es.map Ce.ch) kk).length (aa.cI (es.map Ce.ch) kk) w0 h) ∧ G = [R]) := by
 refine ax [(0, _), (1, _)] Tryz.func45 rfl Tryz.ntmps45 rfl rfl ?_
 intro w0 F
 refine rT aN 13 rfl ?_
 refine dV (fun (i : Nat) => [(0, .slice p es.length c), (1, .string (strOfNums kk)), (6, .int .i64 (i : Int))]) (fun (i : Nat) => R :: F) (fun (i : Nat) => i ≤ es.length ∧ ∀ j : Nat, j < i → (bJ.g es (j : Int)).k ≠ kk) (fun (i : Nat) => es.length - i) (i1 (0) ?_ (jm ln) (sub (aw .nil) au)) ?_
 ·exact ⟨Nat.zero_le _, fun j hj => by omega⟩
 intro i
 rintro ⟨hi, hall⟩
 refine rL aN 9 rfl ?_
 refine aP rfl (fun h10 => ?_) (fun h10 => ?_)
 ·refine rC aN 4 rfl ?_
  rcases (Classical.em ((bJ.g es (i : Int)).k = kk)) with hke | hke
  ·refine rC aN 1 rfl ?_
   have hcx := pV (es := es) (i := i) (by omega)
   have hxo := mR (i := i) (fun x => ak.az x.k ∧ x.k.length < 500000000) hok (by omega)
   have hxk : ak.az (bJ.g es (i : Int)).k := hxo.1
   have hxm := mR (i := i) (fun x => x ∈ es) (fun x hx => hx) (by omega)
   refine rC aN 3 rfl ?_
   refine oV (xI V.nK (by exact aY hR an)) ?_
   refine oV (aF V.sP rfl) ?_
   refine oV (dU (c := (bJ)) 0 V.s9 rfl (by exact aY hR an) (by omega) (by omega) rfl rfl) ?_
   refine oV (aG rfl) ?_
   refine oV (fg (aa.ba hxk) (aa.ba hk) rfl rfl (decide_eq_true hke).symm) ?_
   refine rO aN 7 rfl ?_
   refine oV (xI V.nK (by exact aY hR an)) ?_
   refine oV (aF V.vB rfl) ?_
   refine oV (dU (c := (bJ)) 1 V.eA rfl (by exact aY hR an) (by omega) (by omega) rfl rfl) ?_
   refine rO aN 10 rfl ?_
   obtain ⟨e1, e2⟩ := aa.vE hcx hke (yG (by omega) hall)
   rw [e1, e2]
   exact aj (fH rfl rfl) ⟨(bJ.g es (i : Int)).p, (bJ.g es (i : Int)).c, rfl, nf hxm, rfl⟩ (sub (aw .nil) au)
  ·refine rC aN 1 rfl ?_
   have hcx := pV (es := es) (i := i) (by omega)
   have hxo := mR (i := i) (fun x => ak.az x.k ∧ x.k.length < 500000000) hok (by omega)
   have hxk : ak.az (bJ.g es (i : Int)).k := hxo.1
   have hxm := mR (i := i) (fun x => x ∈ es) (fun x hx => hx) (by omega)
   refine rC aN 3 rfl ?_
   refine oV (xI V.nK (by exact aY hR an)) ?_
   refine oV (aF V.sP rfl) ?_
   refine oV (dU (c := (bJ)) 0 V.s9 rfl (by exact aY hR an) (by omega) (by omega) rfl rfl) ?_
   refine oV (aG rfl) ?_
   refine oV (fg (aa.ba hxk) (aa.ba hk) rfl rfl (decide_eq_false hke).symm) ?_
   refine cV aN 11 rfl (by omega) ?_
   refine j1 (i + 1) ?_ (jm ln) (sub (aw .nil) au)
   exact ⟨⟨by omega, fun j hj => (Nat.lt_succ_iff_lt_or_eq.1 hj).elim (hall j) (fun e => e ▸ hke)⟩, by omega⟩
 ·refine rC aN 12 rfl ?_
  obtain ⟨e1, e2⟩ := aa.w8 (k := kk) (L := (es.map Ce.ch)) (by rw [List.length_map]; exact fun j hj => yG hi hall j (by omega))
  rw [e1, e2]
  exact aj (fH rfl rfl) ⟨none, 0, rfl, EM _, rfl⟩ (sub (aw .nil) au)
set_option maxHeartbeats 4000000 in
theorem sb (p : Option Addr) (c : Nat) (es : List Ce) (R : ab) (hR : ∀ w0 h, R w0 h → aS CK p es.length es w0 h) (hel : es.length ≤ 262144) (hok : FH es) (hco : ∀ y ∈ es, yA y) (hsum : aa.j8 (es.map Ce.ch) < 500000000) : aK Tryz.prog 39 [.slice p es.length c] [R, DK es] (aR fun v G => ∃ s : qJ, mG es es.length s ∧ v = .tuple #[.agg #[.int .i64 0, .int .i64 0, .int .i64 0, .int .i64 0, .bool false, .slice s.pp s.P.length s.cp, .slice s.pt s.T.length s.ct, .slice s.pd s.D.length s.cd, .slice none 0 0], .bool s.hp, .bool s.ht] ∧ G = [Row U5 s.pd s.D.length s.cd s.D, R, DK es]) := by
 refine ax [(0, _)] Tryz.func39 rfl Tryz.ntmps39 rfl rfl ?_
 intro w0 F
 refine rT aN 2 rfl ?_
 refine cB V.Gj rfl ?_
 intro b2
 refine rO aN 13 rfl ?_
 refine hH (Row U5 none 0 0 []) (Row.nil _ _ _) ?_
 refine iq (fun (i : Nat) (s : qJ) => [(2, .pointer (some ⟨b2, 0, none⟩)), (3, .bool s.hp), (4, .bool s.ht), (7, .slice p es.length c), (8, .int .i64 (es.length : Int)), (9, .int .i64 (i : Int))]) (fun (i : Nat) (s : qJ) => ao b2 90 [.int .i64 0, .int .i64 0, .int .i64 0, .int .i64 0, .bool false, .slice s.pp s.P.length s.cp, .slice s.pt s.T.length s.ct, .slice s.pd s.D.length s.cd, .slice none 0 0] :: Row U5 s.pd s.D.length s.cd s.D :: R :: DK es :: F) (fun (i : Nat) (s : qJ) => i ≤ es.length ∧ mG es i s) (fun (i : Nat) (s : qJ) => es.length - i) (i2 (0) (⟨none, 0, [], none, 0, [], none, 0, [], false, false⟩) ?_ (kR (dk ln)) (sub (.cons aE (im .nil)) au)) ?_
 ·exact ⟨Nat.zero_le _, Nb es⟩
 intro i s
 rintro ⟨hi, hs⟩
 refine rL aN 6 rfl ?_
 refine aP rfl (fun h10 => ?_) (fun h10 => ?_)
 ·refine rC aN 5 rfl ?_
  have hcx : (es.map Ce.ch)[i]? = some (CK.g es (i : Int)).ch := pV (es := es) (i := i) (by omega)
  have hxo := mR (i := i) (fun x => ak.az x.k ∧ x.k.length < 500000000) hok (by omega)
  have hxk : ak.az (CK.g es (i : Int)).k := hxo.1
  have hxm : (CK.g es (i : Int)) ∈ es := mR (i := i) (fun x => x ∈ es) (fun x hx => hx) (by omega)
  have hxc : (CK.g es (i : Int)).d.length ≤ (CK.g es (i : Int)).c := hco _ hxm
  refine bo ?_
  refine oV (xI V.gA (by exact aY hR cx)) ?_
  refine oV (ow (c := (CK)) V.jW rfl (by exact aY hR cx) (by omega) (by omega) rfl) ?_
  refine cB V.lx rfl ?_
  intro b6
  refine aQ (aD V.jW rfl rfl (us := [_, _]) rfl rfl (by exact cZ) (by exact Nat.le_of_ble_eq_true rfl) rfl) ?_
  refine rO aN 2 rfl ?_
  rcases ((by by_cases h0 : (CK.g es (i : Int)).k = aa.bC; exact .inl h0; by_cases h1 : (CK.g es (i : Int)).k = aa.bZ; exact .inr (.inl ⟨h0, h1⟩); by_cases h2 : (CK.g es (i : Int)).k = aa.cm; exact .inr (.inr (.inl ⟨h0, h1, h2⟩)); exact .inr (.inr (.inr ⟨h0, h1, h2⟩)) : (CK.g es (i : Int)).k = aa.bC ∨ ((CK.g es (i : Int)).k ≠ aa.bC ∧ (CK.g es (i : Int)).k = aa.bZ) ∨ ((CK.g es (i : Int)).k ≠ aa.bC ∧ (CK.g es (i : Int)).k ≠ aa.bZ ∧ (CK.g es (i : Int)).k = aa.cm) ∨ ((CK.g es (i : Int)).k ≠ aa.bC ∧ (CK.g es (i : Int)).k ≠ aa.bZ ∧ (CK.g es (i : Int)).k ≠ aa.cm))) with a0 | ⟨a0, a1⟩ | ⟨a0, a1, a2⟩ | ⟨a0, a1, a2⟩
  ·refine rC aN 3 rfl ?_
   refine oV (af V.s9 rfl an rfl) ?_
   refine rO aN 5 rfl ?_
   refine oV (fg (aa.ba hxk) (aa.ba aa.jY) rfl (show aq _ _ = some (.string (strOfNums aa.bC)) by unfold aa.bC; rfl) (decide_eq_true a0).symm) ?_
   refine rO aN 6 rfl ?_
   refine oV (af V.eA rfl an rfl) ?_
   refine oV (aF V.M0 rfl) ?_
   refine aQ (cn V.eA rfl rfl rfl (by exact jG) (by exact Nat.le_of_ble_eq_true rfl) rfl) ?_
   refine cV aN 9 rfl (by omega) ?_
   (exact j2 (i + 1) { s with pp := (CK.g es (i : Int)).p, cp := (CK.g es (i : Int)).c, P := (CK.g es (i : Int)).d, hp := true } ⟨⟨by omega, M1 hs hcx a0 hxm hxc⟩, by omega⟩ (kR (dk ln)) (sub (.cons aE (.cons aE (.cons aE (.cons aE .nil)))) cG))
  ·refine rC aN 3 rfl ?_
   refine oV (af V.s9 rfl an rfl) ?_
   refine rO aN 5 rfl ?_
   refine oV (fg (aa.ba hxk) (aa.ba aa.jY) rfl (show aq _ _ = some (.string (strOfNums aa.bC)) by unfold aa.bC; rfl) (decide_eq_false a0).symm) ?_
   refine rO aN 6 rfl ?_
   refine oV (fg (aa.ba hxk) (aa.ba aa.lS) rfl (show aq _ _ = some (.string (strOfNums aa.bZ)) by unfold aa.bZ; rfl) (decide_eq_true a1).symm) ?_
   refine rO aN 6 rfl ?_
   refine oV (af V.eA rfl an rfl) ?_
   refine oV (aF V.tN rfl) ?_
   refine aQ (cn V.eA rfl rfl rfl (by exact jG) (by exact Nat.le_of_ble_eq_true rfl) rfl) ?_
   refine cV aN 9 rfl (by omega) ?_
   (exact j2 (i + 1) { s with pt := (CK.g es (i : Int)).p, ct := (CK.g es (i : Int)).c, T := (CK.g es (i : Int)).d, ht := true } ⟨⟨by omega, M4 hs hcx a1 hxm hxc⟩, by omega⟩ (kR (dk ln)) (sub (.cons aE (.cons aE (.cons aE (.cons aE .nil)))) cG))
  ·refine rC aN 3 rfl ?_
   refine oV (af V.s9 rfl an rfl) ?_
   refine rO aN 5 rfl ?_
   refine oV (fg (aa.ba hxk) (aa.ba aa.jY) rfl (show aq _ _ = some (.string (strOfNums aa.bC)) by unfold aa.bC; rfl) (decide_eq_false a0).symm) ?_
   refine rO aN 6 rfl ?_
   refine oV (fg (aa.ba hxk) (aa.ba aa.lS) rfl (show aq _ _ = some (.string (strOfNums aa.bZ)) by unfold aa.bZ; rfl) (decide_eq_false a1).symm) ?_
   refine rO aN 6 rfl ?_
   refine oV (fg (aa.ba hxk) (aa.ba aa.kv) rfl (show aq _ _ = some (.string (strOfNums aa.cm)) by unfold aa.cm; rfl) (decide_eq_true a2).symm) ?_
   refine rO aN 4 rfl ?_
   have hd1 := aa.nX ((es.map Ce.ch).take (i + 1))
   have hd2 := aa.xl (es.map Ce.ch) (i + 1)
   rw [← (F1 hs hcx a2 none 0).2.2.1] at hd1
   have hd3 : (s.D ++ (CK.g es (i : Int)).d).length = s.D.length + (CK.g es (i : Int)).d.length := List.length_append
   have hd4 : s.D.length + (CK.g es (i : Int)).d.length < 500000000 := by rw [← hd3]; exact Nat.lt_of_le_of_lt hd1 (by omega)
   refine rC aN 2 rfl ?_
   refine oV (af V.eA rfl bY rfl) ?_
   refine oV (aF V.lu rfl) ?_
   refine oV (af V.eA rfl an rfl) ?_
   refine ek (c := (U5)) V.bP V.z5 rfl rfl rfl rfl bK (LU (f := JT) jv hxm) (by omega) rfl ?_
   intro p31 c31
   refine oV (aF V.ML rfl) ?_
   refine aQ (cn V.eA rfl rfl rfl (by exact nm) (by exact Nat.le_of_ble_eq_true rfl) rfl) ?_
   refine cV aN 8 rfl (by omega) ?_
   (rw [← List.length_append]; exact j2 (i + 1) { s with pd := p31, cd := c31, D := s.D ++ (CK.g es (i : Int)).d } ⟨⟨by omega, F1 hs hcx a2 _ _⟩, by omega⟩ (kR (dk ln)) (sub (.cons bK (aw (.cons aE (.cons aE .nil)))) cG))
  ·refine rC aN 3 rfl ?_
   refine oV (af V.s9 rfl an rfl) ?_
   refine rO aN 5 rfl ?_
   refine oV (fg (aa.ba hxk) (aa.ba aa.jY) rfl (show aq _ _ = some (.string (strOfNums aa.bC)) by unfold aa.bC; rfl) (decide_eq_false a0).symm) ?_
   refine rO aN 6 rfl ?_
   refine oV (fg (aa.ba hxk) (aa.ba aa.lS) rfl (show aq _ _ = some (.string (strOfNums aa.bZ)) by unfold aa.bZ; rfl) (decide_eq_false a1).symm) ?_
   refine rO aN 6 rfl ?_
   refine oV (fg (aa.ba hxk) (aa.ba aa.kv) rfl (show aq _ _ = some (.string (strOfNums aa.cm)) by unfold aa.cm; rfl) (decide_eq_false a2).symm) ?_
   refine cV aN 12 rfl (by omega) ?_
   (exact j2 (i + 1) s ⟨⟨by omega, MI hs hcx a0 a1 a2⟩, by omega⟩ (kR (dk ln)) (sub (.cons aE (.cons aE (.cons aE (.cons aE .nil)))) cG))
 ·refine rC aN 6 rfl ?_
  obtain rfl : i = es.length := by omega
  refine bo ?_
  refine oV (bX V.yr rfl an (vs := [_, _, _, _, _, _, _, _, _]) rfl rfl) ?_
  refine rO aN 2 rfl ?_
  refine aQ (aD V.yr rfl rfl (us := [_, _, _, _, _, _, _, _, _]) rfl rfl (by exact cZ) (by exact Nat.le_of_ble_eq_true rfl) rfl) ?_
  refine rO aN 5 rfl ?_
  exact aj (o5 V.yr rfl an rfl rfl rfl) ⟨s, hs, rfl, rfl⟩ (sub (.cons aE (.cons aE (.cons aE .nil))) cG)
set_option maxHeartbeats 2000000 in
theorem AF (h : aa.Hd) (hd : aa.jC h.dep) (bf : Nat) (pp : Option Addr) (pl : List Int) (cp : Nat) (pt : Option Addr) (tr : List Int) (ct : Nat) (pd : Option Addr) (nd cd : Nat) (pk : Option Addr) (nk ck : Nat) (hl : pl.length < 500000000) (t : Bool) (ht : t = decide (aa.jw h pl false)) : aK Tryz.prog 40 [.pointer (some ⟨bf, 0, none⟩), .bool false] [ao bf 90 [.int .i64 h.w, .int .i64 h.h, .int .i64 h.dep, .int .i64 h.ay, .bool h.cC, .slice pp pl.length cp, .slice pt tr.length ct, .slice pd nd cd, .slice pk nk ck]] (aR fun v G => v = .bool t ∧ G = [ao bf 90 [.int .i64 h.w, .int .i64 h.h, .int .i64 h.dep, .int .i64 h.ay, .bool h.cC, .slice pp pl.length cp, .slice pt tr.length ct, .slice pd nd cd, .slice pk nk ck]]) := by
 refine ax [(0, _), (1, _)] Tryz.func40 rfl Tryz.ntmps40 rfl rfl ?_
 intro w0 F
 obtain ⟨P, hP⟩ : ∃ P : Int, P = 2 ^ h.dep.toNat := ⟨_, rfl⟩
 have hpb : 2 ≤ P ∧ P ≤ 65536 := hP ▸ aa.mP hd
 have hdi := aa.jV hd
 refine rT aN 10 rfl ?_
 refine oV (af V.eA rfl an rfl) ?_
 refine rO aN 20 rfl ?_
 refine oV (af V.s3 rfl an rfl) ?_
 refine rO aN 7 rfl ?_
 obtain rfl : t = decide (h.ay ≠ 3) := ht.trans (decide_eq_decide.2 (aa.Ka h pl))
 exact aj (aC rfl) ⟨rfl, rfl⟩ (sub (aw .nil) au)
set_option maxHeartbeats 2000000 in
theorem BL (h : aa.Hd) (hd : aa.jC h.dep) (bf : Nat) (pp : Option Addr) (pl : List Int) (cp : Nat) (pt : Option Addr) (tr : List Int) (ct : Nat) (pd : Option Addr) (nd cd : Nat) (pk : Option Addr) (nk ck : Nat) (hl : pl.length < 500000000) (t : Bool) (ht : t = decide (aa.jw h pl true)) : aK Tryz.prog 40 [.pointer (some ⟨bf, 0, none⟩), .bool true] [ao bf 90 [.int .i64 h.w, .int .i64 h.h, .int .i64 h.dep, .int .i64 h.ay, .bool h.cC, .slice pp pl.length cp, .slice pt tr.length ct, .slice pd nd cd, .slice pk nk ck]] (aR fun v G => v = .bool t ∧ G = [ao bf 90 [.int .i64 h.w, .int .i64 h.h, .int .i64 h.dep, .int .i64 h.ay, .bool h.cC, .slice pp pl.length cp, .slice pt tr.length ct, .slice pd nd cd, .slice pk nk ck]]) := by
 refine ax [(0, _), (1, _)] Tryz.func40 rfl Tryz.ntmps40 rfl rfl ?_
 intro w0 F
 obtain ⟨P, hP⟩ : ∃ P : Int, P = 2 ^ h.dep.toNat := ⟨_, rfl⟩
 have hpb : 2 ≤ P ∧ P ≤ 65536 := hP ▸ aa.mP hd
 have hdi := aa.jV hd
 refine rT aN 10 rfl ?_
 refine oV (af V.eA rfl an rfl) ?_
 refine rO aN 6 rfl ?_
 rcases (aa.KW (plte := pl) hP) with ⟨a1, a⟩ | ⟨a1, a2, a⟩ | ⟨a1, a2, a3, a4, a⟩ | ⟨a1, a2, a3, a4, a⟩ | ⟨a1, a2, a3, a⟩
 ·refine rC aN 14 rfl ?_
  refine oV (af V.s3 rfl an rfl) ?_
  refine oV (aU (av rfl rfl) a1) ?_
  refine rO aN 20 rfl ?_
  obtain rfl : t = false := ht.trans (decide_eq_false a)
  exact aj (aC rfl) ⟨rfl, rfl⟩ (sub (aw .nil) au)
 ·refine rC aN 14 rfl ?_
  refine oV (af V.s3 rfl an rfl) ?_
  refine oV (aA (av rfl rfl) a1) ?_
  refine rO aN 5 rfl ?_
  refine ae rfl ?_
  refine oV (af V.s3 rfl an rfl) ?_
  refine ae rfl ?_
  refine oV (aU (av rfl rfl) a2) ?_
  refine rO aN 13 rfl ?_
  obtain rfl : t = false := ht.trans (decide_eq_false a)
  exact aj (aC rfl) ⟨rfl, rfl⟩ (sub (aw .nil) au)
 ·refine rC aN 14 rfl ?_
  refine oV (af V.s3 rfl an rfl) ?_
  refine oV (aA (av rfl rfl) a1) ?_
  refine rO aN 5 rfl ?_
  refine ae rfl ?_
  refine oV (af V.s3 rfl an rfl) ?_
  refine ae rfl ?_
  refine oV (aA (av rfl rfl) a2) ?_
  refine rO aN 11 rfl ?_
  refine oV (af V.s3 rfl an rfl) ?_
  refine oV (aU (av rfl rfl) a3) ?_
  refine rO aN 2 rfl ?_
  refine ae rfl ?_
  refine oV (fZ rfl rfl (by omega) (jO (by omega) (by omega) (by omega))) ?_
  refine rO aN 4 rfl ?_
  refine ae rfl ?_
  refine oV (af V.s3 rfl an rfl) ?_
  refine ae rfl ?_
  refine oV (fW (r := P) rfl rfl (by omega) ((aa.mN hd).trans hP.symm)) ?_
  refine ae rfl ?_
  refine oV (aU (bj rfl rfl) a4) ?_
  refine rO aN 13 rfl ?_
  obtain rfl : t = false := ht.trans (decide_eq_false a)
  exact aj (aC rfl) ⟨rfl, rfl⟩ (sub (aw .nil) au)
 ·refine rC aN 14 rfl ?_
  refine oV (af V.s3 rfl an rfl) ?_
  refine oV (aA (av rfl rfl) a1) ?_
  refine rO aN 5 rfl ?_
  refine ae rfl ?_
  refine oV (af V.s3 rfl an rfl) ?_
  refine ae rfl ?_
  refine oV (aA (av rfl rfl) a2) ?_
  refine rO aN 11 rfl ?_
  refine oV (af V.s3 rfl an rfl) ?_
  refine oV (aU (av rfl rfl) a3) ?_
  refine rO aN 2 rfl ?_
  refine ae rfl ?_
  refine oV (fZ rfl rfl (by omega) (jO (by omega) (by omega) (by omega))) ?_
  refine rO aN 4 rfl ?_
  refine ae rfl ?_
  refine oV (af V.s3 rfl an rfl) ?_
  refine ae rfl ?_
  refine oV (fW (r := P) rfl rfl (by omega) ((aa.mN hd).trans hP.symm)) ?_
  refine ae rfl ?_
  refine oV (aA (bj rfl rfl) a4) ?_
  refine rO aN 8 rfl ?_
  rcases (aa.Lu pl.length) with c1 | ⟨c1, c2⟩ | ⟨c1, c2⟩
  ·refine rC aN 3 rfl ?_
   refine oV (ig rfl rfl (by omega) (jP (by omega))) ?_
   refine oV (aA (av rfl rfl) (by omega)) ?_
   refine rO aN 13 rfl ?_
   (obtain rfl : t = false := ht.trans (decide_eq_false (fun q => by have := a.1 q; omega)); exact aj (G := [ao bf 90 [.int .i64 h.w, .int .i64 h.h, .int .i64 h.dep, .int .i64 h.ay, .bool h.cC, .slice pp pl.length cp, .slice pt tr.length ct, .slice pd nd cd, .slice pk nk ck]]) (aC rfl) ⟨rfl, rfl⟩ (sub (aw .nil) au))
  ·refine rC aN 3 rfl ?_
   refine oV (ig rfl rfl (by omega) (jP (by omega))) ?_
   refine oV (aU (av rfl rfl) (by omega)) ?_
   refine rO aN 2 rfl ?_
   refine ae rfl ?_
   refine oV (aA (bj rfl rfl) (by omega)) ?_
   refine rO aN 10 rfl ?_
   (obtain rfl : t = false := ht.trans (decide_eq_false (fun q => by have := a.1 q; omega)); exact aj (G := [ao bf 90 [.int .i64 h.w, .int .i64 h.h, .int .i64 h.dep, .int .i64 h.ay, .bool h.cC, .slice pp pl.length cp, .slice pt tr.length ct, .slice pd nd cd, .slice pk nk ck]]) (aC rfl) ⟨rfl, rfl⟩ (sub (aw .nil) au))
  ·refine rC aN 3 rfl ?_
   refine oV (ig rfl rfl (by omega) (jP (by omega))) ?_
   refine oV (aU (av rfl rfl) (by omega)) ?_
   refine rO aN 2 rfl ?_
   refine ae rfl ?_
   refine oV (aU (bj rfl rfl) (by omega)) ?_
   refine rO aN 3 rfl ?_
   refine ae rfl ?_
   refine oV (fZ rfl rfl (by omega) (jO (by omega) (by omega) (by omega))) ?_
   refine rO aN 6 rfl ?_
   (obtain rfl : t = decide ((pl.length : Int) / 3 ≤ 256) := ht.trans (decide_eq_decide.2 (a.trans (by omega))); exact aj (G := [ao bf 90 [.int .i64 h.w, .int .i64 h.h, .int .i64 h.dep, .int .i64 h.ay, .bool h.cC, .slice pp pl.length cp, .slice pt tr.length ct, .slice pd nd cd, .slice pk nk ck]]) (aC rfl) ⟨rfl, rfl⟩ (sub (aw .nil) au))
 ·refine rC aN 14 rfl ?_
  refine oV (af V.s3 rfl an rfl) ?_
  refine oV (aA (av rfl rfl) a1) ?_
  refine rO aN 5 rfl ?_
  refine ae rfl ?_
  refine oV (af V.s3 rfl an rfl) ?_
  refine ae rfl ?_
  refine oV (aA (av rfl rfl) a2) ?_
  refine rO aN 11 rfl ?_
  refine oV (af V.s3 rfl an rfl) ?_
  refine oV (aA (av rfl rfl) a3) ?_
  refine rO aN 18 rfl ?_
  rcases (aa.Lu pl.length) with c1 | ⟨c1, c2⟩ | ⟨c1, c2⟩
  ·refine rC aN 3 rfl ?_
   refine oV (ig rfl rfl (by omega) (jP (by omega))) ?_
   refine oV (aA (av rfl rfl) (by omega)) ?_
   refine rO aN 13 rfl ?_
   (obtain rfl : t = false := ht.trans (decide_eq_false (fun q => by have := a.1 q; omega)); exact aj (G := [ao bf 90 [.int .i64 h.w, .int .i64 h.h, .int .i64 h.dep, .int .i64 h.ay, .bool h.cC, .slice pp pl.length cp, .slice pt tr.length ct, .slice pd nd cd, .slice pk nk ck]]) (aC rfl) ⟨rfl, rfl⟩ (sub (aw .nil) au))
  ·refine rC aN 3 rfl ?_
   refine oV (ig rfl rfl (by omega) (jP (by omega))) ?_
   refine oV (aU (av rfl rfl) (by omega)) ?_
   refine rO aN 2 rfl ?_
   refine ae rfl ?_
   refine oV (aA (bj rfl rfl) (by omega)) ?_
   refine rO aN 10 rfl ?_
   (obtain rfl : t = false := ht.trans (decide_eq_false (fun q => by have := a.1 q; omega)); exact aj (G := [ao bf 90 [.int .i64 h.w, .int .i64 h.h, .int .i64 h.dep, .int .i64 h.ay, .bool h.cC, .slice pp pl.length cp, .slice pt tr.length ct, .slice pd nd cd, .slice pk nk ck]]) (aC rfl) ⟨rfl, rfl⟩ (sub (aw .nil) au))
  ·refine rC aN 3 rfl ?_
   refine oV (ig rfl rfl (by omega) (jP (by omega))) ?_
   refine oV (aU (av rfl rfl) (by omega)) ?_
   refine rO aN 2 rfl ?_
   refine ae rfl ?_
   refine oV (aU (bj rfl rfl) (by omega)) ?_
   refine rO aN 3 rfl ?_
   refine ae rfl ?_
   refine oV (fZ rfl rfl (by omega) (jO (by omega) (by omega) (by omega))) ?_
   refine rO aN 6 rfl ?_
   (obtain rfl : t = decide ((pl.length : Int) / 3 ≤ 256) := ht.trans (decide_eq_decide.2 (a.trans (by omega))); exact aj (G := [ao bf 90 [.int .i64 h.w, .int .i64 h.h, .int .i64 h.dep, .int .i64 h.ay, .bool h.cC, .slice pp pl.length cp, .slice pt tr.length ct, .slice pd nd cd, .slice pk nk ck]]) (aC rfl) ⟨rfl, rfl⟩ (sub (aw .nil) au))
set_option maxHeartbeats 1000000 in
theorem Ab (h : aa.Hd) (hd : aa.jC h.dep) (bf : Nat) (pp : Option Addr) (pl : List Int) (cp : Nat) (pt : Option Addr) (tr : List Int) (ct : Nat) (pd : Option Addr) (nd cd : Nat) (hpl : pl.length < 500000000) (htr : tr = []) (htl : tr.length < 500000000) (hB : ak.az tr) (t : Bool) (ht : t = true) : aK Tryz.prog 41 [.pointer (some ⟨bf, 0, none⟩), .bool false] [ao bf 90 [.int .i64 h.w, .int .i64 h.h, .int .i64 h.dep, .int .i64 h.ay, .bool h.cC, .slice pp pl.length cp, .slice pt tr.length ct, .slice pd nd cd, .slice none 0 0]] (aR fun v G => ∃ pk nk ck K, (t = true → K = aa.bH h tr) ∧ K.length = nk ∧ v = .bool t ∧ G = [ao bf 90 [.int .i64 h.w, .int .i64 h.h, .int .i64 h.dep, .int .i64 h.ay, .bool h.cC, .slice pp pl.length cp, .slice pt tr.length ct, .slice pd nd cd, .slice pk nk ck], Row (aW 3 .i64) pk nk ck K]) := by
 refine ax [(0, _), (1, _)] Tryz.func41 rfl Tryz.ntmps41 rfl rfl ?_
 intro w0 F
 refine rT aN 20 rfl ?_
 subst ht
 exact aj (aC rfl) ⟨none, 0, 0, [], (fun _ => by rw [htr, aa.Hj]), rfl, rfl, rfl⟩ ((ei (A := Row (aW 3 .i64) none 0 0 []) (fun w0 => Row.nil _ _ _)).trans (sub (.cons aE (aw .nil)) au))
set_option maxHeartbeats 4000000 in
theorem zC (h : aa.Hd) (hd : aa.jC h.dep) (bf : Nat) (pp : Option Addr) (pl : List Int) (cp : Nat) (pt : Option Addr) (tr : List Int) (ct : Nat) (pd : Option Addr) (nd cd : Nat) (hpl : pl.length < 500000000) (htl : tr.length < 500000000) (hB : ak.az tr) (R : ab) (hR : ∀ w0 h, R w0 h → aS U5 pt tr.length tr w0 h) (t : Bool) (ht : t = decide (aa.jJ h pl tr true)) : aK Tryz.prog 41 [.pointer (some ⟨bf, 0, none⟩), .bool true] [ao bf 90 [.int .i64 h.w, .int .i64 h.h, .int .i64 h.dep, .int .i64 h.ay, .bool h.cC, .slice pp pl.length cp, .slice pt tr.length ct, .slice pd nd cd, .slice none 0 0], R] (aR fun v G => ∃ pk nk ck K, (t = true → K = aa.bH h tr) ∧ K.length = nk ∧ v = .bool t ∧ G = [ao bf 90 [.int .i64 h.w, .int .i64 h.h, .int .i64 h.dep, .int .i64 h.ay, .bool h.cC, .slice pp pl.length cp, .slice pt tr.length ct, .slice pd nd cd, .slice pk nk ck], Row (aW 3 .i64) pk nk ck K, R]) := by
 refine ax [(0, _), (1, _)] Tryz.func41 rfl Tryz.ntmps41 rfl rfl ?_
 intro w0 F
 obtain ⟨P, hP⟩ : ∃ P : Int, P = 2 ^ h.dep.toNat := ⟨_, rfl⟩
 have hpb : 2 ≤ P ∧ P ≤ 65536 := hP ▸ aa.mP hd
 have hdi := aa.jV hd
 refine rT aN 15 rfl ?_
 refine lU (fun (u : Unit) => [(0, .pointer (some ⟨bf, 0, none⟩))]) (fun (u : Unit) => ao bf 90 [.int .i64 h.w, .int .i64 h.h, .int .i64 h.dep, .int .i64 h.ay, .bool h.cC, .slice pp pl.length cp, .slice pt tr.length ct, .slice pd nd cd, .slice none 0 0] :: R :: F) (fun (u : Unit) => (h.ay = 0 ∨ h.ay = 2) ∧ tr.length = 2 * (aa.parts h.ay).toNat ∧ 1 ≤ aa.parts h.ay ∧ aa.parts h.ay ≤ 3 ∧ aa.jJ h pl tr true) ?_ ?_
 ·rcases (aa.L6 h pl tr) with ⟨a1, a⟩ | ⟨a1, a2, a3, a⟩ | ⟨a1, a2, a3, a⟩ | ⟨a1, a2, a4, a3, a⟩ | ⟨a1, a2, a4, a3, a⟩ | ⟨a1, a2, a4, a⟩
  ·refine rL aN 6 rfl ?_
   refine oV (af V.s3 rfl an rfl) ?_
   refine rO aN 5 rfl ?_
   refine oV (aU (av rfl rfl) a1) ?_
   refine rO aN 5 rfl ?_
   refine oB V.mixed (by kernel_rfl) ?_
   refine rR aN 3 rfl ?_
   refine oR (af V.eA rfl an rfl) ?_
   refine rR aN 4 rfl ?_
   refine oR (af V.eA rfl an rfl) ?_
   refine oR (eM (ty' := 0) Tryz.underlying22 rfl) ?_
   refine oR (fZ rfl rfl (by omega) (jO (by omega) (by omega) (by omega))) ?_
   refine rR aN 2 rfl ?_
   refine Rg.cH ?_
   refine rN aN 4 rfl ?_
   obtain rfl : t = decide ((tr.length : Int) ≤ (pl.length : Int) / 3) := ht.trans (decide_eq_decide.2 (a.trans (by omega)))
   exact aj (aC rfl) ⟨none, 0, 0, [], (fun _ => by rw [aa.M3 (by omega)]), rfl, rfl, rfl⟩ ((ei (A := Row (aW 3 .i64) none 0 0 []) (fun w0 => Row.nil _ _ _)).trans (sub (.cons aE (bp .nil)) au))
  ·refine rL aN 6 rfl ?_
   refine oV (af V.s3 rfl an rfl) ?_
   refine rO aN 5 rfl ?_
   refine oV (aA (av rfl rfl) a1) ?_
   refine rO aN 7 rfl ?_
   refine oV (aU (av rfl rfl) a2) ?_
   refine rO aN 8 rfl ?_
   have hpp : aa.parts h.ay = 1 := by rw [a2]; unfold aa.parts; rfl
   refine wN [pz 0 [] [0], pz 1 [0] [], pz 3 [1] [], pz 7 [2] [], pz 15 [3] [], pz 0 [] [0], pz 32 [5] [], pz 96 [6] [], pz 224 [7] [], pz 480 [8] [], pz 992 [9] [], pz 2016 [10] [], pz 4095 [4, 11] []] [⟨fun y => ao bf 90 [.int .i64 h.w, .int .i64 h.h, .int .i64 h.dep, .int .i64 h.ay, .bool h.cC, .slice pp pl.length cp, .slice pt tr.length ct, .slice pd nd cd, .slice none 0 0], none, none, [3, 9]⟩, ⟨fun y => R, none, none, []⟩] F V.mixed ?_
   refine nM ?_
   refine nN ?_
   refine nG V.tN ?_
   refine nR (fun y FF hA => af V.eA rfl an rfl) ?_
   refine nV (fun y hA L => eM (ty' := 0) Tryz.underlying22 rfl) ?_
   refine nM ?_
   refine nN ?_
   refine nG V.iH ?_
   refine nG V.ph ?_
   refine nR (fun y FF hA => af V.s3 rfl an rfl) ?_
   refine nE (fun y FF hA => bM (Post := []) (iu h.ay) V.oo rfl .nil (fun v G h => by rcases h with ⟨rfl, rfl⟩; exact ⟨rfl, .refl _⟩)) ?_
   refine nV (fun y hA L => jQ rfl rfl wI) ?_
   refine nV (fun y hA L => aU (bG rfl rfl) (by omega)) ?_
   refine aX ?_
   intro y hA
   clear hA
   refine bu ?_
   refine cy _ (.cons (d := 0) rfl (.cons (d := 42) rfl (.nil _))) ?_
   refine bR (M := ao bf 90 [.int .i64 h.w, .int .i64 h.h, .int .i64 h.dep, .int .i64 h.ay, .bool h.cC, .slice pp pl.length cp, .slice pt tr.length ct, .slice pd nd cd, .slice none 0 0] :: R :: F) (fun _ _ h => h) ?_
   refine rC aN 9 rfl ?_
   obtain rfl : t = false := ht.trans (decide_eq_false a)
   exact aj (aC rfl) ⟨none, 0, 0, [], (fun q => by cases q), rfl, rfl, rfl⟩ ((ei (A := Row (aW 3 .i64) none 0 0 []) (fun w0 => Row.nil _ _ _)).trans (sub (.cons aE (bp .nil)) au))
  ·refine rL aN 6 rfl ?_
   refine oV (af V.s3 rfl an rfl) ?_
   refine rO aN 5 rfl ?_
   refine oV (aA (av rfl rfl) a1) ?_
   refine rO aN 7 rfl ?_
   refine oV (aU (av rfl rfl) a2) ?_
   refine rO aN 8 rfl ?_
   have hpp : aa.parts h.ay = 1 := by rw [a2]; unfold aa.parts; rfl
   have hc2 : h.ay = 0 ∨ h.ay = 2 := .inl a2
   refine wN [pz 0 [] [0], pz 1 [0] [], pz 3 [1] [], pz 7 [2] [], pz 15 [3] [], pz 0 [] [0], pz 32 [5] [], pz 96 [6] [], pz 224 [7] [], pz 480 [8] [], pz 992 [9] [], pz 2016 [10] [], pz 4095 [4, 11] []] [⟨fun y => ao bf 90 [.int .i64 h.w, .int .i64 h.h, .int .i64 h.dep, .int .i64 h.ay, .bool h.cC, .slice pp pl.length cp, .slice pt tr.length ct, .slice pd nd cd, .slice none 0 0], none, none, [3, 9]⟩, ⟨fun y => R, none, none, []⟩] F V.mixed ?_
   refine nM ?_
   refine nN ?_
   refine nG V.tN ?_
   refine nR (fun y FF hA => af V.eA rfl an rfl) ?_
   refine nV (fun y hA L => eM (ty' := 0) Tryz.underlying22 rfl) ?_
   refine nM ?_
   refine nN ?_
   refine nG V.iH ?_
   refine nG V.ph ?_
   refine nR (fun y FF hA => af V.s3 rfl an rfl) ?_
   refine nE (fun y FF hA => bM (Post := []) (iu h.ay) V.oo rfl .nil (fun v G h => by rcases h with ⟨rfl, rfl⟩; exact ⟨rfl, .refl _⟩)) ?_
   refine nV (fun y hA L => jQ rfl rfl wI) ?_
   refine nV (fun y hA L => aA (bG rfl rfl) (by omega)) ?_
   refine aX ?_
   intro y hA
   clear hA
   refine bu ?_
   refine cy _ (.cons (d := 0) rfl (.cons (d := 42) rfl (.nil _))) ?_
   refine bR (M := ao bf 90 [.int .i64 h.w, .int .i64 h.h, .int .i64 h.dep, .int .i64 h.ay, .bool h.cC, .slice pp pl.length cp, .slice pt tr.length ct, .slice pd nd cd, .slice none 0 0] :: R :: F) (fun _ _ h => h) ?_
   refine rC aN 3 rfl ?_
   refine j1 (()) ?_ (kR ln) (sub (bp .nil) au)
   exact ⟨hc2, by omega, by omega, by omega, a⟩
  ·refine rL aN 6 rfl ?_
   refine oV (af V.s3 rfl an rfl) ?_
   refine rO aN 5 rfl ?_
   refine oV (aA (av rfl rfl) a1) ?_
   refine rO aN 7 rfl ?_
   refine oV (aA (av rfl rfl) a2) ?_
   refine rO aN 5 rfl ?_
   refine oV (aU (av rfl rfl) a4) ?_
   refine rO aN 5 rfl ?_
   have hpp : aa.parts h.ay = 3 := by rw [a4]; unfold aa.parts; rfl
   refine wN [pz 0 [] [0], pz 1 [0] [], pz 3 [1] [], pz 7 [2] [], pz 15 [3] [], pz 0 [] [0], pz 32 [5] [], pz 96 [6] [], pz 224 [7] [], pz 480 [8] [], pz 992 [9] [], pz 2016 [10] [], pz 4095 [4, 11] []] [⟨fun y => ao bf 90 [.int .i64 h.w, .int .i64 h.h, .int .i64 h.dep, .int .i64 h.ay, .bool h.cC, .slice pp pl.length cp, .slice pt tr.length ct, .slice pd nd cd, .slice none 0 0], none, none, [3, 9]⟩, ⟨fun y => R, none, none, []⟩] F V.mixed ?_
   refine nM ?_
   refine nN ?_
   refine nG V.tN ?_
   refine nR (fun y FF hA => af V.eA rfl an rfl) ?_
   refine nV (fun y hA L => eM (ty' := 0) Tryz.underlying22 rfl) ?_
   refine nM ?_
   refine nN ?_
   refine nG V.iH ?_
   refine nG V.ph ?_
   refine nR (fun y FF hA => af V.s3 rfl an rfl) ?_
   refine nE (fun y FF hA => bM (Post := []) (iu h.ay) V.oo rfl .nil (fun v G h => by rcases h with ⟨rfl, rfl⟩; exact ⟨rfl, .refl _⟩)) ?_
   refine nV (fun y hA L => jQ rfl rfl wI) ?_
   refine nV (fun y hA L => aU (bG rfl rfl) (by omega)) ?_
   refine aX ?_
   intro y hA
   clear hA
   refine bu ?_
   refine cy _ (.cons (d := 0) rfl (.cons (d := 42) rfl (.nil _))) ?_
   refine bR (M := ao bf 90 [.int .i64 h.w, .int .i64 h.h, .int .i64 h.dep, .int .i64 h.ay, .bool h.cC, .slice pp pl.length cp, .slice pt tr.length ct, .slice pd nd cd, .slice none 0 0] :: R :: F) (fun _ _ h => h) ?_
   refine rC aN 9 rfl ?_
   obtain rfl : t = false := ht.trans (decide_eq_false a)
   exact aj (aC rfl) ⟨none, 0, 0, [], (fun q => by cases q), rfl, rfl, rfl⟩ ((ei (A := Row (aW 3 .i64) none 0 0 []) (fun w0 => Row.nil _ _ _)).trans (sub (.cons aE (bp .nil)) au))
  ·refine rL aN 6 rfl ?_
   refine oV (af V.s3 rfl an rfl) ?_
   refine rO aN 5 rfl ?_
   refine oV (aA (av rfl rfl) a1) ?_
   refine rO aN 7 rfl ?_
   refine oV (aA (av rfl rfl) a2) ?_
   refine rO aN 5 rfl ?_
   refine oV (aU (av rfl rfl) a4) ?_
   refine rO aN 5 rfl ?_
   have hpp : aa.parts h.ay = 3 := by rw [a4]; unfold aa.parts; rfl
   have hc2 : h.ay = 0 ∨ h.ay = 2 := .inr a4
   refine wN [pz 0 [] [0], pz 1 [0] [], pz 3 [1] [], pz 7 [2] [], pz 15 [3] [], pz 0 [] [0], pz 32 [5] [], pz 96 [6] [], pz 224 [7] [], pz 480 [8] [], pz 992 [9] [], pz 2016 [10] [], pz 4095 [4, 11] []] [⟨fun y => ao bf 90 [.int .i64 h.w, .int .i64 h.h, .int .i64 h.dep, .int .i64 h.ay, .bool h.cC, .slice pp pl.length cp, .slice pt tr.length ct, .slice pd nd cd, .slice none 0 0], none, none, [3, 9]⟩, ⟨fun y => R, none, none, []⟩] F V.mixed ?_
   refine nM ?_
   refine nN ?_
   refine nG V.tN ?_
   refine nR (fun y FF hA => af V.eA rfl an rfl) ?_
   refine nV (fun y hA L => eM (ty' := 0) Tryz.underlying22 rfl) ?_
   refine nM ?_
   refine nN ?_
   refine nG V.iH ?_
   refine nG V.ph ?_
   refine nR (fun y FF hA => af V.s3 rfl an rfl) ?_
   refine nE (fun y FF hA => bM (Post := []) (iu h.ay) V.oo rfl .nil (fun v G h => by rcases h with ⟨rfl, rfl⟩; exact ⟨rfl, .refl _⟩)) ?_
   refine nV (fun y hA L => jQ rfl rfl wI) ?_
   refine nV (fun y hA L => aA (bG rfl rfl) (by omega)) ?_
   refine aX ?_
   intro y hA
   clear hA
   refine bu ?_
   refine cy _ (.cons (d := 0) rfl (.cons (d := 42) rfl (.nil _))) ?_
   refine bR (M := ao bf 90 [.int .i64 h.w, .int .i64 h.h, .int .i64 h.dep, .int .i64 h.ay, .bool h.cC, .slice pp pl.length cp, .slice pt tr.length ct, .slice pd nd cd, .slice none 0 0] :: R :: F) (fun _ _ h => h) ?_
   refine rC aN 3 rfl ?_
   refine j1 (()) ?_ (kR ln) (sub (bp .nil) au)
   exact ⟨hc2, by omega, by omega, by omega, a⟩
  ·refine rL aN 6 rfl ?_
   refine oV (af V.s3 rfl an rfl) ?_
   refine rO aN 5 rfl ?_
   refine oV (aA (av rfl rfl) a1) ?_
   refine rO aN 7 rfl ?_
   refine oV (aA (av rfl rfl) a2) ?_
   refine rO aN 5 rfl ?_
   refine oV (aA (av rfl rfl) a4) ?_
   refine rO aN 12 rfl ?_
   obtain rfl : t = false := ht.trans (decide_eq_false a)
   exact aj (aC rfl) ⟨none, 0, 0, [], (fun q => by cases q), rfl, rfl, rfl⟩ ((ei (A := Row (aW 3 .i64) none 0 0 []) (fun w0 => Row.nil _ _ _)).trans (sub (.cons aE (bp .nil)) au))
 ·intro u
  rintro ⟨hc2, htp, hp1, hp3, hC⟩
  refine rC aN 5 rfl ?_
  refine oV (af V.eA rfl an rfl) ?_
  refine ai (xC pt ct tr R hR htl) V.JL  rfl (.cons aE .nil) rfl ?_
  rintro _ _ ⟨bx, rfl, rfl⟩
  refine rO aN 10 rfl ?_
  refine oV (af V.s3 rfl cx rfl) ?_
  refine ai (iu h.ay) V.oo  rfl .nil rfl ?_
  rintro _ _ ⟨rfl, rfl⟩
  refine rO aN 4 rfl ?_
  refine hH (Row (aW 3 .i64) none 0 0 []) (Row.nil _ _ _) ?_
  rw [show ([] : List Int) = (aa.bH h tr).take 0 from rfl]
  refine j0 (fun (k : Nat) (pk : Option Addr) (ck : Nat) => [(0, .pointer (some ⟨bf, 0, none⟩)), (5, .pointer (some ⟨bx, 0, none⟩)), (53, .int .i64 (aa.parts h.ay)), (54, .int .i64 (k : Int))]) (fun (k : Nat) (pk : Option Addr) (ck : Nat) => ao bf 90 [.int .i64 h.w, .int .i64 h.h, .int .i64 h.dep, .int .i64 h.ay, .bool h.cC, .slice pp pl.length cp, .slice pt tr.length ct, .slice pd nd cd, .slice pk k ck] :: Row (aW 3 .i64) pk k ck ((aa.bH h tr).take k) :: HW bx tr (16 * k) [] 0 :: R :: F) (fun (k : Nat) (pk : Option Addr) (ck : Nat) => (k : Int) ≤ aa.parts h.ay) (fun (k : Nat) (pk : Option Addr) (ck : Nat) => (aa.parts h.ay).toNat - k) (i3 (0) (none) (0) ?_ (eN ln) (sub (.cons eg (im .nil)) au)) ?_
  ·omega
  intro k pk ck
  rintro hk
  refine rL aN 6 rfl ?_
  refine aP rfl (fun h55 => ?_) (fun h55 => ?_)
  ·refine rC aN 4 rfl ?_
   have hck := aa.NK (trns := tr) hc2 (by omega) (i := k) (by omega)
   refine kW [pz 0 [] [0], pz 0 [] [0], pz 2 [1] [], pz 6 [2] [], pz 14 [3] [], pz 0 [] [5], pz 32 [5] [], pz 0 [] [0], pz 128 [7] [], pz 384 [8] [], pz 896 [9] [], pz 1920 [10] [], pz 3968 [11] [], pz 8064 [12] [], pz 16352 [6, 13] [], pz 32736 [14] [], pz 65534 [4, 15] [], pz 131071 [0] [], pz 262143 [17] [], pz 524287 [18, 16] []] [⟨fun y => ao bf 90 [.int .i64 h.w, .int .i64 h.h, .int .i64 h.dep, .int .i64 h.ay, .bool h.cC, .slice pp pl.length cp, .slice pt tr.length ct, .slice pd nd cd, .slice pk k ck], none, some 19, [4, 11]⟩, ⟨fun y => Row (aW 3 .i64) pk k ck ((aa.bH h tr).take k), none, some 16, []⟩, ⟨fun y => HW bx tr (16 * k) [] 0, none, some 6, []⟩, ⟨fun y => R, none, none, []⟩, ⟨fun y => HW bx tr (16 * k + 16) [] 0, some 6, none, []⟩, ⟨fun y => Row (I3) (some ⟨(kI (gu (y 15))), 0, none⟩) 1 1 [((aa.c4 tr (16 * k) 16) % P)], some 15, none, [16]⟩, ⟨fun y => Row (I3) (gu (y 16)) (k + 1) (iK (y 16)) (((aa.bH h tr).take k) ++ [((aa.c4 tr (16 * k) 16) % P)]), some 16, none, []⟩, ⟨fun y => ao bf 90 [.int .i64 h.w, .int .i64 h.h, .int .i64 h.dep, .int .i64 h.ay, .bool h.cC, .slice pp pl.length cp, .slice pt tr.length ct, .slice pd nd cd, .slice (gu (y 16)) (k + 1) (iK (y 16))], some 19, none, []⟩] F V.mixed (by kernel_rfl) rfl (fun _ => .refl _) (cg _ (cg _ (cg _ (cg _ (eh _ rfl (by intro y y2 h; rfl) (eh _ rfl (by intro y y2 h; simp only [h 15 (.inl rfl)]) (eh _ rfl (by intro y y2 h; simp only [h 16 (.inl rfl)]) (eh _ rfl (by intro y y2 h; simp only [h 16 (.inr (by decide))]) gX)))))))) ?_
   iterate 2 refine nM ?_
   refine nN ?_
   refine nG V.FK ?_
   refine nR (fun y FF hA => af V.lg rfl an rfl) ?_
   refine nM ?_
   refine nE (fun y FF hA => bM (Post := [HW bx tr (16 * k + 16) [] 0]) (kD bx tr (16 * k) [] 0 16 htl hB (by decide) (by omega)) V.tH rfl (aw .nil) (fun v G h => by rcases h with ⟨rfl, rfl⟩; exact ⟨rfl, .refl _⟩)) ?_
   refine nM ?_
   refine nN ?_
   refine nG V.iH ?_
   refine nG V.lD ?_
   refine nR (fun y FF hA => af V.s3 rfl an rfl) ?_
   refine nV (fun y hA L => fW (r := P) rfl rfl (by omega) ((aa.mN hd).trans hP.symm)) ?_
   refine nV (fun y hA L => gp rfl rfl wI) ?_
   refine nV (fun y hA L => kb (r := ((aa.c4 tr (16 * k) 16) % P)) rfl rfl (aa.HK hP hd (aa.An tr (16 * k)))) ?_
   refine gD (fun y v => .slice (some ⟨kI (gu v), 0, none⟩) 1 1) (fun y v => True) _ _ (fun y v => [Row (I3) (some ⟨(kI (gu v)), 0, none⟩) 1 1 [((aa.c4 tr (16 * k) 16) % P)]]) _ (fun y => rfl) (fun y => rfl) (fun y => rfl) (fun y => rfl) (fun y FF hA => GQ (vU (I3) ([((aa.c4 tr (16 * k) 16) % P)]) V.cU V.z3 rfl rfl rfl rfl rfl)) (by intros; rfl) (by intros; rfl) (by intros; rfl) (by intro y y2 h; simp only [h 15 (.inl rfl)]) (by intro y y2 h; rfl) ?_
   refine gD (fun y v => .slice (gu v) (k + 1) (iK v)) (fun y v => True) _ _ (fun y v => [Row (I3) (gu v) (k + 1) (iK v) (((aa.bH h tr).take k) ++ [((aa.c4 tr (16 * k) 16) % P)])]) _ (fun y => rfl) (fun y => rfl) (fun y => rfl) (fun y => rfl) (fun y FF hA => tZ (qn (c := (I3)) V.cU V.z3 rfl rfl rfl rfl dX (own bY) (by omega)) (.refl _)) (by intros; rfl) (by intros; rfl) (by intros; rfl) (by intro y y2 h; simp only [h 15 (.inr (by decide)), h 16 (.inl rfl)]) (by intro y y2 h; rfl) ?_
   refine nN ?_
   refine nG V.FK ?_
   refine nE (fun y FF hA => dp (cn V.lg rfl rfl rfl (by exact cZ) (by exact Nat.le_of_ble_eq_true rfl) rfl) ⟨rfl, .refl _⟩) ?_
   refine aX ?_
   intro y hA
   clear hA
   show lI _ _ _ _ (R :: HW bx tr (16 * k + 16) [] 0 :: Row (I3) (some ⟨(kI (gu (y 15))), 0, none⟩) 1 1 [((aa.c4 tr (16 * k) 16) % P)] :: Row (I3) (gu (y 16)) (k + 1) (iK (y 16)) (((aa.bH h tr).take k) ++ [((aa.c4 tr (16 * k) 16) % P)]) :: ao bf 90 [.int .i64 h.w, .int .i64 h.h, .int .i64 h.dep, .int .i64 h.ay, .bool h.cC, .slice pp pl.length cp, .slice pt tr.length ct, .slice pd nd cd, .slice (gu (y 16)) (k + 1) (iK (y 16))] :: F)
   generalize (kI (gu (y 15))) = b71
   generalize (gu (y 16)) = p72
   generalize (iK (y 16)) = c72
   refine kA ?_
   refine bu ?_
   refine bo ?_
   refine oV (dz rfl rfl wI) ?_
   refine oV (aG rfl) ?_
   refine cH ?_
   rw [show ((aa.bH h tr).take k) ++ [((aa.c4 tr (16 * k) 16) % P)] = (aa.bH h tr).take (k + 1) from by rw [hck.1, aa.EK hB, ← hP]]
   exact j3 (k + 1) _ _ ⟨by omega, by omega⟩ (eN ln) (sub (.cons jH (.cons eg (.cons aE (aw .nil)))) cG)
  ·refine rC aN 11 rfl ?_
   obtain rfl : t = true := ht.trans (decide_eq_true hC)
   have hcl := aa.GA (trns := tr) hc2 (by omega)
   obtain rfl : k = (aa.parts h.ay).toNat := by omega
   rw [← hcl, List.take_length]
   exact aj (aC rfl) ⟨pk, _, ck, (aa.bH h tr), fun _ => rfl, rfl, rfl, rfl⟩ (sub (bp (.cons aE .nil)) cG)
end Go.Proofs.YtmaiakpjgomnpaaGreat
namespace Go.Proofs.YtmaiakpjgomnpaaGreat
open Go.Sl
theorem V.Jc : aJ Tryz.prog 171 = true := by kernel_rfl
theorem V.Ji : aJ Tryz.prog 173 = true := by kernel_rfl
theorem V.zG : aJ Tryz.prog 184 = true := by kernel_rfl
end Go.Proofs.YtmaiakpjgomnpaaGreat
namespace Go.Proofs.YtmaiakpjgomnpaaGreat
open Go.Sl 
theorem bN : dC Tryz.prog ⟨[22, 24, 47], [(35, 2, 2), (35, 3, 3), (38, 2, 2), (38, 3, 3), (90, 0, 0), (90, 1, 5), (90, 2, 6), (90, 4, 8), (151, 1, 1)]⟩ = true := by kernel_rfl
attribute [local irreducible] ak.az aa.bS aa.up aa.c4 aa.ij aa.jX aa.deep aa.parts HW aa.bH aa.je aa.fF aa.qO aa.ky aa.gC
set_option maxHeartbeats 1000000 in
theorem yX (p1 : Option Addr) (n1 c1 : Nat) (L1 : List Int) (hn1 : L1.length = n1) (R1 : ab) (hR1 : ∀ w0 h, R1 w0 h → aS (aW 3 .i64) p1 n1 L1 w0 h) (p2 : Option Addr) (n2 c2 : Nat) (L2 : List Int) (hn2 : L2.length = n2) (R2 : ab) (hR2 : ∀ w0 h, R2 w0 h → aS (aW 3 .i64) p2 n2 L2 w0 h) (hs1 : n1 ≤ 100000000) (t : Bool) (ht : t = decide (L1 = L2)) : aK Tryz.prog 173 [.slice p1 n1 c1, .slice p2 n2 c2] [R1, R2] (aR fun v G => v = .bool t ∧ G = [R1, R2]) := by
  refine ax [(0, _), (1, _)] Tryz.func173 rfl Tryz.ntmps173 rfl rfl ?_
  intro w0 F
  refine rT bN 5 rfl ?_
  rcases (Classical.em (n1 = n2)) with hne0 | hne0
  ·
    refine rC bN 7 rfl ?_
    refine oV (aA (bG rfl rfl) (by omega)) ?_
    refine rO bN 14 rfl ?_
    refine dV (fun (i : Nat) => [(0, .slice p1 n1 c1), (1, .slice p2 n2 c2), (12, .int .i64 (n1 : Int)), (13, .int .i64 (i : Int))]) (fun (i : Nat) => R1 :: R2 :: F) (fun (i : Nat) => i ≤ n1 ∧ ∀ j, j < i → L1.getD j 0 = L2.getD j 0) (fun (i : Nat) => n1 - i) (i1 (0) ?_ (eN ln) (sub (bp .nil) au)) ?_
    ·
      exact ⟨Nat.zero_le _, fun j hj => by omega⟩
    intro i
    rintro ⟨hi, hall⟩
    refine rL bN 6 rfl ?_
    refine aP rfl (fun h14 => ?_) (fun h14 => ?_)
    ·
      refine rC bN 10 rfl ?_
      rcases (Classical.em (((aW 3 .i64).g L1 (i : Int)) ≠ ((aW 3 .i64).g L2 (i : Int)))) with hne | hne
      ·
        refine rC bN 1 rfl ?_
        refine oB V.mixed (by kernel_rfl) ?_
        refine rR bN 2 rfl ?_
        refine oR (xI V.cU (by exact aY hR1 an)) ?_
        refine oR (xL V.s3 (by exact aY hR1 an)) ?_
        refine rR bN 2 rfl ?_
        refine oR (xI V.cU (by exact aY hR2 bY)) ?_
        refine oR (xL V.s3 (by exact aY hR2 bY)) ?_
        refine oR (aU (bG rfl rfl) hne) ?_
        refine Rg.cH ?_
        refine rN bN 13 rfl ?_
        obtain rfl : t = false := ht.trans (decide_eq_false (aa.Gb hne))
        exact aj (aC rfl) ⟨rfl, rfl⟩ (sub (bp .nil) au)
      ·
        refine rC bN 1 rfl ?_
        refine oB V.mixed (by kernel_rfl) ?_
        refine rR bN 2 rfl ?_
        refine oR (xI V.cU (by exact aY hR1 an)) ?_
        refine oR (xL V.s3 (by exact aY hR1 an)) ?_
        refine rR bN 2 rfl ?_
        refine oR (xI V.cU (by exact aY hR2 bY)) ?_
        refine oR (xL V.s3 (by exact aY hR2 bY)) ?_
        refine oR (aA (bG rfl rfl) hne) ?_
        refine Rg.cH ?_
        refine Ll bN 9 rfl (by omega) ?_
        refine j1 (i + 1) ?_ (eN ln) (sub (bp .nil) au)
        exact ⟨⟨by omega, fun j hj => (Nat.lt_succ_iff_lt_or_eq.1 hj).elim (hall j) (fun e => e ▸ Classical.not_not.1 hne)⟩, by omega⟩
    ·
      refine rC bN 11 rfl ?_
      obtain rfl : t = true := ht.trans (decide_eq_true (aa.C5 (by omega) (fun j hj => hall j (by omega))))
      exact aj (aC rfl) ⟨rfl, rfl⟩ (sub (bp .nil) au)
  ·
    refine rC bN 7 rfl ?_
    refine oV (aU (bG rfl rfl) (by omega)) ?_
    refine rO bN 10 rfl ?_
    obtain rfl : t = false := ht.trans (decide_eq_false (fun e => hne0 (by rw [← hn1, ← hn2, e])))
    exact aj (aC rfl) ⟨rfl, rfl⟩ (sub (bp .nil) au)
set_option maxHeartbeats 2000000 in
theorem Ao (h : aa.Hd) (bf : Nat) (pp : Option Addr) (pl : List Int) (cp : Nat) (pt : Option Addr) (tr : List Int) (ct : Nat) (pd : Option Addr) (nd cd : Nat) (pk : Option Addr) (nk ck : Nat) (R : ab) (hP : ∀ w0 h, R w0 h → aS U5 pp pl.length pl w0 h) (hT : ∀ w0 h, R w0 h → aS U5 pt tr.length tr w0 h) (hcp : pl.length ≤ cp) (hB : ak.az pl) (hBt : ak.az tr) (hpl : pl.length < 500000000) (htl : tr.length < 500000000) (k : Nat) (hk : pl.length / 3 ≤ k) (hkb : k < 100000000) : aK Tryz.prog 171 [.pointer (some ⟨bf, 0, none⟩), .int .i64 (k : Int)] [ao bf 90 [.int .i64 h.w, .int .i64 h.h, .int .i64 h.dep, .int .i64 h.ay, .bool h.cC, .slice pp pl.length cp, .slice pt tr.length ct, .slice pd nd cd, .slice pk nk ck], R] (aR fun v G => v = .tuple #[.agg #[.int .u16 0, .int .u16 0, .int .u16 0, .int .u16 0], .bool false] ∧ G = [ao bf 90 [.int .i64 h.w, .int .i64 h.h, .int .i64 h.dep, .int .i64 h.ay, .bool h.cC, .slice pp pl.length cp, .slice pt tr.length ct, .slice pd nd cd, .slice pk nk ck], R]) := by
  refine ax [(0, _), (1, _)] Tryz.func171 rfl Tryz.ntmps171 rfl rfl ?_
  intro w0 F
  refine rT bN 2 rfl ?_
  refine cB V.pC rfl ?_
  intro b4
  refine rO bN 10 rfl ?_
  refine oV (af V.eA rfl bY rfl) ?_
  refine oV (eM (ty' := 0) Tryz.underlying22 rfl) ?_
  refine oV (fZ rfl rfl (by omega) (jO (by omega) (by omega) (by omega))) ?_
  refine oV (aU (fq rfl rfl) (by omega)) ?_
  refine rO bN 5 rfl ?_
  refine oV (kY V.uB V.pC rfl (cs := [_, _, _, _]) rfl) ?_
  refine aQ (aD V.me rfl rfl (us := [_, _, _, _]) rfl rfl (by exact cZ) (by exact Nat.le_of_ble_eq_true rfl) rfl) ?_
  refine rO bN 5 rfl ?_
  exact aj (dY V.me rfl an rfl rfl) ⟨rfl, rfl⟩ (sub (.cons aE (.cons aE .nil)) cG)
set_option maxHeartbeats 2000000 in
theorem zU (h : aa.Hd) (bf : Nat) (pp : Option Addr) (pl : List Int) (cp : Nat) (pt : Option Addr) (tr : List Int) (ct : Nat) (pd : Option Addr) (nd cd : Nat) (pk : Option Addr) (nk ck : Nat) (R : ab) (hP : ∀ w0 h, R w0 h → aS U5 pp pl.length pl w0 h) (hT : ∀ w0 h, R w0 h → aS U5 pt tr.length tr w0 h) (hcp : pl.length ≤ cp) (hB : ak.az pl) (hBt : ak.az tr) (hpl : pl.length < 500000000) (htl : tr.length < 500000000) (k : Nat) (hk : ¬ pl.length / 3 ≤ k) : aK Tryz.prog 171 [.pointer (some ⟨bf, 0, none⟩), .int .i64 (k : Int)] [ao bf 90 [.int .i64 h.w, .int .i64 h.h, .int .i64 h.dep, .int .i64 h.ay, .bool h.cC, .slice pp pl.length cp, .slice pt tr.length ct, .slice pd nd cd, .slice pk nk ck], R] (aR fun v G => v = .tuple #[.agg #[.int .u16 ((pl.drop (3 * k)).getD 0 0 * 257), .int .u16 ((pl.drop (3 * k)).getD 1 0 * 257), .int .u16 ((pl.drop (3 * k)).getD 2 0 * 257), .int .u16 (if k < tr.length then tr.getD k 0 * 257 else 65535)], .bool true] ∧ G = [ao bf 90 [.int .i64 h.w, .int .i64 h.h, .int .i64 h.dep, .int .i64 h.ay, .bool h.cC, .slice pp pl.length cp, .slice pt tr.length ct, .slice pd nd cd, .slice pk nk ck], R]) := by
  refine ax [(0, _), (1, _)] Tryz.func171 rfl Tryz.ntmps171 rfl rfl ?_
  intro w0 F
  have hBd := aa.ej hB (3 * k)
  have hS : ∀ w0 h, R w0 h → aS U5 (eo pp (3 * k) cp 1) (pl.length - 3 * k) (pl.drop (3 * k)) w0 h := gW (c := U5) hP rfl (3 * k) cp (by omega) hcp
  have hPl : (pl.drop (3 * k)).length = pl.length - 3 * k := List.length_drop
  refine rT bN 2 rfl ?_
  refine cB V.pC rfl ?_
  intro b4
  refine rO bN 10 rfl ?_
  refine oV (af V.eA rfl bY rfl) ?_
  refine oV (eM (ty' := 0) Tryz.underlying22 rfl) ?_
  refine oV (fZ rfl rfl (by omega) (jO (by omega) (by omega) (by omega))) ?_
  refine oV (aA (fq rfl rfl) (by omega)) ?_
  refine rO bN 10 rfl ?_
  refine oV (af V.eA rfl bY rfl) ?_
  refine oV (aG rfl) ?_
  refine oV (cN (v := .int .i64 ((3 * k : Nat) : Int)) (jQ (r := 3 * (k : Int)) rfl rfl wI) (congrArg (Value.int .i64) (by omega))) ?_
  refine oV (dW (3 * k) pl.length cp V.bP rfl ⟨_, rfl⟩ ⟨rfl, rfl⟩ rfl (by omega) (by omega) (by omega)) ?_
  refine rO bN 8 rfl ?_
  refine lU (fun (al : Int) => [(4, .pointer (some ⟨b4, 0, none⟩)), (6, .slice (eo pp (3 * k) cp 1) (pl.length - 3 * k) (cp - 3 * k)), (7, .int .u16 al)]) (fun (al : Int) => ao b4 68 [.int .u16 0, .int .u16 0, .int .u16 0, .int .u16 0] :: ao bf 90 [.int .i64 h.w, .int .i64 h.h, .int .i64 h.dep, .int .i64 h.ay, .bool h.cC, .slice pp pl.length cp, .slice pt tr.length ct, .slice pd nd cd, .slice pk nk ck] :: R :: F) (fun (al : Int) => al = (if k < tr.length then tr.getD k 0 * 257 else 65535)) ?_ ?_
  ·
    rcases (Classical.em (k < tr.length)) with hkt | hkt
    ·
      refine rL bN 6 rfl ?_
      refine oV (af V.eA rfl bY rfl) ?_
      refine oV (eM (ty' := 0) Tryz.underlying22 rfl) ?_
      refine oV (aU (bD rfl rfl) (by omega)) ?_
      refine rO bN 7 rfl ?_
      refine oV (af V.eA rfl bY rfl) ?_
      refine oV (aG rfl) ?_
      refine oV (xI V.bP (by exact aY hT cx)) ?_
      refine oV (xL V.s5 (by exact aY hT cx)) ?_
      refine ai (sW (U5.g tr (k : Int)) (hBt.get k)) V.zG  rfl .nil rfl ?_
      rintro _ _ ⟨rfl, rfl⟩
      refine rO bN 2 rfl ?_
      refine j1 (_) ?_ (jm ln) (sub (im .nil) au)
      exact (if_pos hkt).symm
    ·
      refine rL bN 6 rfl ?_
      refine oV (af V.eA rfl bY rfl) ?_
      refine oV (eM (ty' := 0) Tryz.underlying22 rfl) ?_
      refine oV (aA (bD rfl rfl) (by omega)) ?_
      refine rO bN 4 rfl ?_
      refine j1 (_) ?_ (jm ln) (sub (im .nil) au)
      exact (if_neg hkt).symm
  ·
    intro al
    rintro hal
    refine rC bN 1 rfl ?_
    refine wN [pz 0 [] [6], pz 1 [0] [], pz 3 [1] [], pz 7 [2] [], pz 0 [] [6], pz 16 [4] [], pz 48 [5] [], pz 127 [6] [], pz 0 [] [6], pz 256 [8] [], pz 768 [9] [], pz 2047 [10] [], pz 0 [] [7], pz 8191 [3, 7, 11, 12] [], pz 16383 [13] [4], pz 32767 [] []] [⟨fun y => ao b4 68 [.int .u16 0, .int .u16 0, .int .u16 0, .int .u16 0], none, some 14, []⟩, ⟨fun y => ao bf 90 [.int .i64 h.w, .int .i64 h.h, .int .i64 h.dep, .int .i64 h.ay, .bool h.cC, .slice pp pl.length cp, .slice pt tr.length ct, .slice pd nd cd, .slice pk nk ck], none, none, []⟩, ⟨fun y => R, none, none, [1, 2, 5, 6, 9, 10]⟩, ⟨fun y => ao b4 68 [.int .u16 (U5.g (pl.drop (3 * k)) 0 * 257), .int .u16 (U5.g (pl.drop (3 * k)) 1 * 257), .int .u16 (U5.g (pl.drop (3 * k)) 2 * 257), .int .u16 al], some 14, none, []⟩] F V.mixed ?_
    refine nM ?_
    refine nR (fun y FF hA => xI V.bP (by exact aY hS an)) ?_
    refine nR (fun y FF hA => xL V.s5 (by exact aY hS an)) ?_
    refine nE (fun y FF hA => bM (Post := []) (sW (U5.g (pl.drop (3 * k)) 0) (hBd.get 0)) V.zG rfl .nil (fun v G h => by rcases h with ⟨rfl, rfl⟩; exact ⟨rfl, .refl _⟩)) ?_
    refine nM ?_
    refine nR (fun y FF hA => xI V.bP (by exact aY hS an)) ?_
    refine nR (fun y FF hA => xL V.s5 (by exact aY hS an)) ?_
    refine nE (fun y FF hA => bM (Post := []) (sW (U5.g (pl.drop (3 * k)) 1) (hBd.get 1)) V.zG rfl .nil (fun v G h => by rcases h with ⟨rfl, rfl⟩; exact ⟨rfl, .refl _⟩)) ?_
    refine nM ?_
    refine nR (fun y FF hA => xI V.bP (by exact aY hS an)) ?_
    refine nR (fun y FF hA => xL V.s5 (by exact aY hS an)) ?_
    refine nE (fun y FF hA => bM (Post := []) (sW (U5.g (pl.drop (3 * k)) 2) (hBd.get 2)) V.zG rfl .nil (fun v G h => by rcases h with ⟨rfl, rfl⟩; exact ⟨rfl, .refl _⟩)) ?_
    refine nM ?_
    refine nV (fun y hA L => kY V.uB V.pC rfl (cs := [.int .u16 (U5.g (pl.drop (3 * k)) 0 * 257), .int .u16 (U5.g (pl.drop (3 * k)) 1 * 257), .int .u16 (U5.g (pl.drop (3 * k)) 2 * 257), .int .u16 al]) (by kernel_rfl)) ?_
    refine nE (fun y FF hA => dp (aD V.me rfl rfl (us := [_, _, _, _]) rfl rfl (by exact cZ) (by exact Nat.le_of_ble_eq_true rfl) rfl) ⟨rfl, .refl _⟩) ?_
    refine nA ?_
    refine aX ?_
    intro y hA
    clear hA
    refine bu ?_
    refine cy _ (.cons (d := 4) rfl (.cons (d := 5) rfl (.nil _))) ?_
    refine bR (M := ao bf 90 [.int .i64 h.w, .int .i64 h.h, .int .i64 h.dep, .int .i64 h.ay, .bool h.cC, .slice pp pl.length cp, .slice pt tr.length ct, .slice pd nd cd, .slice pk nk ck] :: R :: ao b4 68 [.int .u16 (U5.g (pl.drop (3 * k)) 0 * 257), .int .u16 (U5.g (pl.drop (3 * k)) 1 * 257), .int .u16 (U5.g (pl.drop (3 * k)) 2 * 257), .int .u16 al] :: F) (fun _ _ h => h) ?_
    refine rC bN 1 rfl ?_
    exact aj (dY V.me rfl cx rfl rfl) ⟨by rw [← hal]; rfl, rfl⟩ (sub (bp .nil) cG)
set_option maxHeartbeats 4000000 in
theorem BQ (h : aa.Hd) (bf : Nat) (pp : Option Addr) (pl : List Int) (cp : Nat) (pt : Option Addr) (tr : List Int) (ct : Nat) (pd : Option Addr) (nd cd : Nat) (pk : Option Addr) (ck : Nat) (R : ab) (hP : ∀ w0 h, R w0 h → aS U5 pp pl.length pl w0 h) (hT : ∀ w0 h, R w0 h → aS U5 pt tr.length tr w0 h) (hcp : pl.length ≤ cp) (hB : ak.az pl) (hBt : ak.az tr) (hpl : pl.length < 500000000) (htl : tr.length < 500000000) (pv : Option Addr) (cv : Nat) (v : List Int) (Rk Rv : ab) (hRk : ∀ w0 h_, Rk w0 h_ → aS (aW 3 .i64) pk (aa.bH h tr).length (aa.bH h tr) w0 h_) (hRv : ∀ w0 h_, Rv w0 h_ → aS (aW 3 .i64) pv v.length v w0 h_) (hf : aa.gC ⟨h, pl, tr⟩) (hvl : v.length = (aa.parts h.ay).toNat) (hvx : ∀ x ∈ v, 0 ≤ x ∧ x < 2 ^ h.dep.toNat) (h3 : h.ay = 3) (k : Nat) (hk0 : v.getD 0 0 = (k : Int)) (hkb : k < 100000000) (hk : pl.length / 3 ≤ k) : aK Tryz.prog 151 [.pointer (some ⟨bf, 0, none⟩), .slice pv v.length cv] [ao bf 90 [.int .i64 h.w, .int .i64 h.h, .int .i64 h.dep, .int .i64 h.ay, .bool h.cC, .slice pp pl.length cp, .slice pt tr.length ct, .slice pd nd cd, .slice pk (aa.bH h tr).length ck], Rk, Rv, R] (aR fun e G => e = .tuple #[.agg #[.int .u16 0, .int .u16 0, .int .u16 0, .int .u16 0], .bool false] ∧ G = [ao bf 90 [.int .i64 h.w, .int .i64 h.h, .int .i64 h.dep, .int .i64 h.ay, .bool h.cC, .slice pp pl.length cp, .slice pt tr.length ct, .slice pd nd cd, .slice pk (aa.bH h tr).length ck], Rk, Rv, R]) := by
  refine ax [(0, _), (1, _)] Tryz.func151 rfl Tryz.ntmps151 rfl rfl ?_
  intro w0 F
  have hde : aa.deep h.ay h.dep := by unfold aa.gC at hf; exact hf.1
  have hpc := aa.ik hde
  have hd := aa.iC hde
  have hUl : (v.map (aa.up h.dep)).length = v.length := List.length_map ..
  have hdi := aa.jV hd
  refine rT bN 2 rfl ?_
  refine cB V.pC rfl ?_
  intro b4
  refine rO bN 10 rfl ?_
  refine oV (af V.s3 rfl bY rfl) ?_
  refine oV (aU (av rfl rfl) (by omega)) ?_
  refine rO bN 7 rfl ?_
  refine oV (xI V.cU (by exact aY hRv eL)) ?_
  refine oV (xL V.s3 (by exact aY hRv eL)) ?_
  rw [show (aW 3 .i64).g v 0 = (k : Int) from hk0]
  refine ai (Ao h bf pp pl cp pt tr ct pd nd cd pk (aa.bH h tr).length ck R hP hT hcp hB hBt hpl htl k hk (by omega)) V.Jc  rfl (.cons aE (.cons eg .nil)) rfl ?_
  rintro _ _ ⟨rfl, rfl⟩
  refine rO bN 2 rfl ?_
  refine aQ (aD V.me rfl rfl (us := [_, _, _, _]) rfl rfl (by exact nm) (by exact Nat.le_of_ble_eq_true rfl) rfl) ?_
  refine rO bN 5 rfl ?_
  exact aj (dY V.me rfl cx rfl rfl) ⟨rfl, rfl⟩ (sub (aw (.cons bK (.cons bK (.cons dX .nil)))) cG)
set_option maxHeartbeats 4000000 in
theorem Cz (h : aa.Hd) (bf : Nat) (pp : Option Addr) (pl : List Int) (cp : Nat) (pt : Option Addr) (tr : List Int) (ct : Nat) (pd : Option Addr) (nd cd : Nat) (pk : Option Addr) (ck : Nat) (R : ab) (hP : ∀ w0 h, R w0 h → aS U5 pp pl.length pl w0 h) (hT : ∀ w0 h, R w0 h → aS U5 pt tr.length tr w0 h) (hcp : pl.length ≤ cp) (hB : ak.az pl) (hBt : ak.az tr) (hpl : pl.length < 500000000) (htl : tr.length < 500000000) (pv : Option Addr) (cv : Nat) (v : List Int) (Rk Rv : ab) (hRk : ∀ w0 h_, Rk w0 h_ → aS (aW 3 .i64) pk (aa.bH h tr).length (aa.bH h tr) w0 h_) (hRv : ∀ w0 h_, Rv w0 h_ → aS (aW 3 .i64) pv v.length v w0 h_) (hf : aa.gC ⟨h, pl, tr⟩) (hvl : v.length = (aa.parts h.ay).toNat) (hvx : ∀ x ∈ v, 0 ≤ x ∧ x < 2 ^ h.dep.toNat) (h3 : h.ay = 3) (k : Nat) (hk0 : v.getD 0 0 = (k : Int)) (hkb : k < 100000000) (hk : ¬ pl.length / 3 ≤ k) : aK Tryz.prog 151 [.pointer (some ⟨bf, 0, none⟩), .slice pv v.length cv] [ao bf 90 [.int .i64 h.w, .int .i64 h.h, .int .i64 h.dep, .int .i64 h.ay, .bool h.cC, .slice pp pl.length cp, .slice pt tr.length ct, .slice pd nd cd, .slice pk (aa.bH h tr).length ck], Rk, Rv, R] (aR fun e G => e = .tuple #[.agg #[.int .u16 ((pl.drop (3 * k)).getD 0 0 * 257), .int .u16 ((pl.drop (3 * k)).getD 1 0 * 257), .int .u16 ((pl.drop (3 * k)).getD 2 0 * 257), .int .u16 (if k < tr.length then tr.getD k 0 * 257 else 65535)], .bool true] ∧ G = [ao bf 90 [.int .i64 h.w, .int .i64 h.h, .int .i64 h.dep, .int .i64 h.ay, .bool h.cC, .slice pp pl.length cp, .slice pt tr.length ct, .slice pd nd cd, .slice pk (aa.bH h tr).length ck], Rk, Rv, R]) := by
  refine ax [(0, _), (1, _)] Tryz.func151 rfl Tryz.ntmps151 rfl rfl ?_
  intro w0 F
  have hde : aa.deep h.ay h.dep := by unfold aa.gC at hf; exact hf.1
  have hpc := aa.ik hde
  have hd := aa.iC hde
  have hUl : (v.map (aa.up h.dep)).length = v.length := List.length_map ..
  have hdi := aa.jV hd
  refine rT bN 2 rfl ?_
  refine cB V.pC rfl ?_
  intro b4
  refine rO bN 10 rfl ?_
  refine oV (af V.s3 rfl bY rfl) ?_
  refine oV (aU (av rfl rfl) (by omega)) ?_
  refine rO bN 7 rfl ?_
  refine oV (xI V.cU (by exact aY hRv eL)) ?_
  refine oV (xL V.s3 (by exact aY hRv eL)) ?_
  rw [show (aW 3 .i64).g v 0 = (k : Int) from hk0]
  refine ai (zU h bf pp pl cp pt tr ct pd nd cd pk (aa.bH h tr).length ck R hP hT hcp hB hBt hpl htl k hk) V.Jc  rfl (.cons aE (.cons eg .nil)) rfl ?_
  rintro _ _ ⟨rfl, rfl⟩
  refine rO bN 2 rfl ?_
  refine aQ (aD V.me rfl rfl (us := [_, _, _, _]) rfl rfl (by exact nm) (by exact Nat.le_of_ble_eq_true rfl) rfl) ?_
  refine rO bN 5 rfl ?_
  exact aj (dY V.me rfl cx rfl rfl) ⟨rfl, rfl⟩ (sub (aw (.cons bK (.cons bK (.cons dX .nil)))) cG)
set_option maxHeartbeats 4000000 in
theorem AV (h : aa.Hd) (bf : Nat) (pp : Option Addr) (pl : List Int) (cp : Nat) (pt : Option Addr) (tr : List Int) (ct : Nat) (pd : Option Addr) (nd cd : Nat) (pk : Option Addr) (ck : Nat) (R : ab) (hP : ∀ w0 h, R w0 h → aS U5 pp pl.length pl w0 h) (hT : ∀ w0 h, R w0 h → aS U5 pt tr.length tr w0 h) (hcp : pl.length ≤ cp) (hB : ak.az pl) (hBt : ak.az tr) (hpl : pl.length < 500000000) (htl : tr.length < 500000000) (pv : Option Addr) (cv : Nat) (v : List Int) (Rk Rv : ab) (hRk : ∀ w0 h_, Rk w0 h_ → aS (aW 3 .i64) pk (aa.bH h tr).length (aa.bH h tr) w0 h_) (hRv : ∀ w0 h_, Rv w0 h_ → aS (aW 3 .i64) pv v.length v w0 h_) (hf : aa.gC ⟨h, pl, tr⟩) (hvl : v.length = (aa.parts h.ay).toNat) (hvx : ∀ x ∈ v, 0 ≤ x ∧ x < 2 ^ h.dep.toNat) (h3 : ¬ h.ay = 3) (c0 c1 c2 c3 : Int) (hpx : aa.je ⟨h, pl, tr⟩ v = some [c0, c1, c2, c3]) : aK Tryz.prog 151 [.pointer (some ⟨bf, 0, none⟩), .slice pv v.length cv] [ao bf 90 [.int .i64 h.w, .int .i64 h.h, .int .i64 h.dep, .int .i64 h.ay, .bool h.cC, .slice pp pl.length cp, .slice pt tr.length ct, .slice pd nd cd, .slice pk (aa.bH h tr).length ck], Rk, Rv, R] (aR fun e G => e = .tuple #[.agg #[.int .u16 c0, .int .u16 c1, .int .u16 c2, .int .u16 c3], .bool true] ∧ G = [ao bf 90 [.int .i64 h.w, .int .i64 h.h, .int .i64 h.dep, .int .i64 h.ay, .bool h.cC, .slice pp pl.length cp, .slice pt tr.length ct, .slice pd nd cd, .slice pk (aa.bH h tr).length ck], Rk, Rv, R]) := by
  refine ax [(0, _), (1, _)] Tryz.func151 rfl Tryz.ntmps151 rfl rfl ?_
  intro w0 F
  have hde : aa.deep h.ay h.dep := by unfold aa.gC at hf; exact hf.1
  have hpc := aa.ik hde
  have hd := aa.iC hde
  have hUl : (v.map (aa.up h.dep)).length = v.length := List.length_map ..
  have hdi := aa.jV hd
  refine rT bN 2 rfl ?_
  refine cB V.pC rfl ?_
  intro b4
  refine rO bN 10 rfl ?_
  refine oV (af V.s3 rfl bY rfl) ?_
  refine oV (aA (av rfl rfl) (by omega)) ?_
  refine rO bN 19 rfl ?_
  refine hH (Row (aW 62 .u16) none 0 0 []) (Row.nil _ _ _) ?_
  rw [show ([] : List Int) = (v.map (aa.up h.dep)).take 0 from rfl]
  refine j0 (fun (i : Nat) (ps : Option Addr) (cs : Nat) => [(0, .pointer (some ⟨bf, 0, none⟩)), (1, .slice pv v.length cv), (4, .pointer (some ⟨b4, 0, none⟩)), (6, .slice ps i cs), (25, .slice pv v.length cv), (26, .int .i64 (v.length : Int)), (27, .int .i64 (i : Int))]) (fun (i : Nat) (ps : Option Addr) (cs : Nat) => Row (aW 62 .u16) ps i cs ((v.map (aa.up h.dep)).take i) :: ao b4 68 [.int .u16 0, .int .u16 0, .int .u16 0, .int .u16 0] :: ao bf 90 [.int .i64 h.w, .int .i64 h.h, .int .i64 h.dep, .int .i64 h.ay, .bool h.cC, .slice pp pl.length cp, .slice pt tr.length ct, .slice pd nd cd, .slice pk (aa.bH h tr).length ck] :: Rk :: Rv :: R :: F) (fun (i : Nat) (ps : Option Addr) (cs : Nat) => i ≤ v.length) (fun (i : Nat) (ps : Option Addr) (cs : Nat) => v.length - i) (i3 (0) (none) (0) ?_ (kF (dk ln)) (sub (aw (pA .nil)) au)) ?_
  ·
    exact Nat.zero_le _
  intro i ps cs
  rintro hi
  refine rL bN 6 rfl ?_
  refine aP rfl (fun h28 => ?_) (fun h28 => ?_)
  ·
    refine rC bN 5 rfl ?_
    have hvi : 0 ≤ ((aW 3 .i64).g v (i : Int)) ∧ ((aW 3 .i64).g v (i : Int)) < 2 ^ h.dep.toNat := hvx _ (aa.jj (by omega))
    refine bo ?_
    refine oV (xI V.cU (by exact aY hRv jv)) ?_
    refine oV (xL V.s3 (by exact aY hRv jv)) ?_
    refine rO bN 10 rfl ?_
    refine oV (af V.s3 rfl cx rfl) ?_
    refine ai (I1 h.dep ((aW 3 .i64).g v (i : Int)) hd hvi) V.Jk  rfl .nil rfl ?_
    rintro _ _ ⟨rfl, rfl⟩
    refine rO bN 10 rfl ?_
    refine ef (aW 62 .u16) [(aa.up h.dep ((aW 3 .i64).g v (i : Int)))] V.hI V.Fh rfl rfl rfl rfl rfl rfl ?_
    intro b43
    refine ek (c := (aW 62 .u16)) V.hI V.Fh rfl rfl rfl rfl aE (own an) (by omega) rfl ?_
    intro p44 c44
    refine cV bN 8 rfl (by omega) ?_
    rw [show (v.map (aa.up h.dep)).take i ++ [aa.up h.dep ((aW 3 .i64).g v (i : Int))] = (v.map (aa.up h.dep)).take (i + 1) from aa.Ap (by omega)]
    exact j3 (i + 1) _ _ ⟨by omega, by omega⟩ (kF (dk ln)) (sub (aw (.cons aE (.cons aE (.cons aE (.cons aE (.cons aE .nil)))))) cG)
  ·
    refine rC bN 6 rfl ?_
    obtain rfl : i = v.length := by omega
    rw [List.take_of_length_le (by omega)]
    refine rC bN 4 rfl ?_
    refine lU (fun (al : Int) => [(0, .pointer (some ⟨bf, 0, none⟩)), (1, .slice pv v.length cv), (4, .pointer (some ⟨b4, 0, none⟩)), (6, .slice ps v.length cs), (11, .int .u16 al)]) (fun (al : Int) => Row (aW 62 .u16) ps v.length cs (v.map (aa.up h.dep)) :: ao b4 68 [.int .u16 0, .int .u16 0, .int .u16 0, .int .u16 0] :: ao bf 90 [.int .i64 h.w, .int .i64 h.h, .int .i64 h.dep, .int .i64 h.ay, .bool h.cC, .slice pp pl.length cp, .slice pt tr.length ct, .slice pd nd cd, .slice pk (aa.bH h tr).length ck] :: Rk :: Rv :: R :: F) (fun (al : Int) => al = (if h.ay = 4 ∨ h.ay = 6 then (v.map (aa.up h.dep)).getD ((v.map (aa.up h.dep)).length - 1) 0 else 65535)) ?_ ?_
    ·
      rcases ((by omega : h.ay = 4 ∨ (¬ h.ay = 4 ∧ h.ay = 6) ∨ (¬ h.ay = 4 ∧ ¬ h.ay = 6))) with a1 | ⟨a1, a2⟩ | ⟨a1, a2⟩
      ·
        refine rL bN 6 rfl ?_
        refine oV (af V.s3 rfl cx rfl) ?_
        refine oV (aU (av rfl rfl) a1) ?_
        refine cV bN 16 rfl (by omega) ?_
        refine oV (xI V.hI (own an)) ?_
        refine oV (xL V.lG (own an)) ?_
        refine rO bN 2 rfl ?_
        refine j1 (_) ?_ (dk ln) (sub (aw (pA .nil)) au)
        (rw [if_pos (by omega), hUl]; exact gE (v.length - 1) (by omega))
      ·
        refine rL bN 6 rfl ?_
        refine oV (af V.s3 rfl cx rfl) ?_
        refine oV (aA (av rfl rfl) a1) ?_
        refine rO bN 5 rfl ?_
        refine ae rfl ?_
        refine oV (af V.s3 rfl cx rfl) ?_
        refine ae rfl ?_
        refine oV (aU (av rfl rfl) a2) ?_
        refine cV bN 9 rfl (by omega) ?_
        refine oV (xI V.hI (own an)) ?_
        refine oV (xL V.lG (own an)) ?_
        refine rO bN 2 rfl ?_
        refine j1 (_) ?_ (dk ln) (sub (aw (pA .nil)) au)
        (rw [if_pos (by omega), hUl]; exact gE (v.length - 1) (by omega))
      ·
        refine rL bN 6 rfl ?_
        refine oV (af V.s3 rfl cx rfl) ?_
        refine oV (aA (av rfl rfl) a1) ?_
        refine rO bN 5 rfl ?_
        refine ae rfl ?_
        refine oV (af V.s3 rfl cx rfl) ?_
        refine ae rfl ?_
        refine oV (aA (av rfl rfl) a2) ?_
        refine rO bN 5 rfl ?_
        refine j1 (_) ?_ (dk ln) (sub (aw (pA .nil)) au)
        (rw [if_neg (by omega)]; done)
    ·
      intro al
      rintro hal
      refine lU (fun (al2 : Int) => [(0, .pointer (some ⟨bf, 0, none⟩)), (4, .pointer (some ⟨b4, 0, none⟩)), (6, .slice ps v.length cs), (11, .int .u16 al2)]) (fun (al2 : Int) => Row (aW 62 .u16) ps v.length cs (v.map (aa.up h.dep)) :: ao b4 68 [.int .u16 0, .int .u16 0, .int .u16 0, .int .u16 0] :: ao bf 90 [.int .i64 h.w, .int .i64 h.h, .int .i64 h.dep, .int .i64 h.ay, .bool h.cC, .slice pp pl.length cp, .slice pt tr.length ct, .slice pd nd cd, .slice pk (aa.bH h tr).length ck] :: Rk :: Rv :: R :: F) (fun (al2 : Int) => al2 = aa.qO ⟨h, pl, tr⟩ v) ?_ ?_
      ·
        rcases ((by by_cases q : 0 < (aa.bH h tr).length; by_cases q2 : v = (aa.bH h tr); exact .inr (.inl ⟨q, q2⟩); exact .inr (.inr ⟨q, q2⟩); exact .inl q : ¬ 0 < (aa.bH h tr).length ∨ (0 < (aa.bH h tr).length ∧ v = (aa.bH h tr)) ∨ (0 < (aa.bH h tr).length ∧ ¬ v = (aa.bH h tr)))) with b1 | ⟨b1, b2⟩ | ⟨b1, b2⟩
        ·
          refine rL bN 5 rfl ?_
          refine oV (af V.lg rfl cx rfl) ?_
          refine oV (eM (ty' := 0) Tryz.underlying47 rfl) ?_
          refine oV (aA (bj rfl rfl) (by omega)) ?_
          refine rO bN 12 rfl ?_
          refine j1 (_) ?_ (eN ln) (sub (aw (pA .nil)) au)
          (unfold aa.qO; rw [if_neg (fun q => b1 q.1)]; exact hal)
        ·
          refine rL bN 5 rfl ?_
          refine oV (af V.lg rfl cx rfl) ?_
          refine oV (eM (ty' := 0) Tryz.underlying47 rfl) ?_
          refine oV (aU (bj rfl rfl) (by omega)) ?_
          refine rO bN 5 rfl ?_
          refine ae rfl ?_
          refine oV (af V.lg rfl cx rfl) ?_
          refine ae rfl ?_
          refine ai (yX pv v.length cv v rfl Rv hRv pk (aa.bH h tr).length ck (aa.bH h tr) rfl Rk hRk (by omega) true (decide_eq_true b2).symm) V.Ji  rfl (.cons jH (.cons eg .nil)) rfl ?_
          rintro _ _ ⟨rfl, rfl⟩
          refine rO bN 7 rfl ?_
          refine j1 (_) ?_ (eN ln) (sub (.cons bK (.cons bK (.cons bK (.cons aE (bp .nil))))) au)
          (unfold aa.qO; rw [if_pos ⟨b1, b2⟩]; done)
        ·
          refine rL bN 5 rfl ?_
          refine oV (af V.lg rfl cx rfl) ?_
          refine oV (eM (ty' := 0) Tryz.underlying47 rfl) ?_
          refine oV (aU (bj rfl rfl) (by omega)) ?_
          refine rO bN 5 rfl ?_
          refine ae rfl ?_
          refine oV (af V.lg rfl cx rfl) ?_
          refine ae rfl ?_
          refine ai (yX pv v.length cv v rfl Rv hRv pk (aa.bH h tr).length ck (aa.bH h tr) rfl Rk hRk (by omega) false (decide_eq_false b2).symm) V.Ji  rfl (.cons jH (.cons eg .nil)) rfl ?_
          rintro _ _ ⟨rfl, rfl⟩
          refine rO bN 5 rfl ?_
          refine j1 (_) ?_ (eN ln) (sub (.cons bK (.cons bK (.cons bK (.cons aE (bp .nil))))) au)
          (unfold aa.qO; rw [if_neg (fun q => b2 q.2)]; exact hal)
      ·
        intro al2
        rintro hal2
        rcases ((by omega : h.ay = 0 ∨ (¬ h.ay = 0 ∧ h.ay = 4) ∨ (¬ h.ay = 0 ∧ ¬ h.ay = 4))) with a1 | ⟨a1, a2⟩ | ⟨a1, a2⟩
        ·
          refine rC bN 7 rfl ?_
          refine oV (af V.s3 rfl cx rfl) ?_
          refine oV (aU (av rfl rfl) a1) ?_
          refine rO bN 12 rfl ?_
          refine wN [pz 0 [] [6], pz 1 [0] [], pz 3 [1] [], pz 0 [] [6], pz 8 [3] [], pz 24 [4] [], pz 0 [] [6], pz 64 [6] [], pz 192 [7] [], pz 0 [] [11], pz 1023 [2, 5, 8, 9] [], pz 2047 [10] [4], pz 4095 [] []] [⟨fun y => Row (aW 62 .u16) ps v.length cs (v.map (aa.up h.dep)), none, none, [1, 2, 4, 5, 7, 8]⟩, ⟨fun y => ao b4 68 [.int .u16 0, .int .u16 0, .int .u16 0, .int .u16 0], none, some 11, []⟩, ⟨fun y => ao bf 90 [.int .i64 h.w, .int .i64 h.h, .int .i64 h.dep, .int .i64 h.ay, .bool h.cC, .slice pp pl.length cp, .slice pt tr.length ct, .slice pd nd cd, .slice pk (aa.bH h tr).length ck], none, none, []⟩, ⟨fun y => Rk, none, none, []⟩, ⟨fun y => Rv, none, none, []⟩, ⟨fun y => R, none, none, []⟩, ⟨fun y => ao b4 68 [.int .u16 ((aW 62 .u16).g (v.map (aa.up h.dep)) 0), .int .u16 ((aW 62 .u16).g (v.map (aa.up h.dep)) 0), .int .u16 ((aW 62 .u16).g (v.map (aa.up h.dep)) 0), .int .u16 al2], some 11, none, []⟩] F V.mixed ?_
          refine nM ?_
          refine nR (fun y FF hA => xI V.hI (own an)) ?_
          refine nR (fun y FF hA => xL V.lG (own an)) ?_
          refine nM ?_
          refine nR (fun y FF hA => xI V.hI (own an)) ?_
          refine nR (fun y FF hA => xL V.lG (own an)) ?_
          refine nM ?_
          refine nR (fun y FF hA => xI V.hI (own an)) ?_
          refine nR (fun y FF hA => xL V.lG (own an)) ?_
          refine nM ?_
          refine nV (fun y hA L => kY V.uB V.pC rfl (cs := [.int .u16 ((aW 62 .u16).g (v.map (aa.up h.dep)) 0), .int .u16 ((aW 62 .u16).g (v.map (aa.up h.dep)) 0), .int .u16 ((aW 62 .u16).g (v.map (aa.up h.dep)) 0), .int .u16 al2]) (by kernel_rfl)) ?_
          refine nE (fun y FF hA => dp (aD V.me rfl rfl (us := [_, _, _, _]) rfl rfl (by exact cZ) (by exact Nat.le_of_ble_eq_true rfl) rfl) ⟨rfl, .refl _⟩) ?_
          refine nA ?_
          refine aX ?_
          intro y hA
          clear hA
          refine bu ?_
          refine cy _ (.cons (d := 4) rfl (.cons (d := 5) rfl (.nil _))) ?_
          refine bR (M := Row (aW 62 .u16) ps v.length cs (v.map (aa.up h.dep)) :: ao bf 90 [.int .i64 h.w, .int .i64 h.h, .int .i64 h.dep, .int .i64 h.ay, .bool h.cC, .slice pp pl.length cp, .slice pt tr.length ct, .slice pd nd cd, .slice pk (aa.bH h tr).length ck] :: Rk :: Rv :: R :: ao b4 68 [.int .u16 ((aW 62 .u16).g (v.map (aa.up h.dep)) 0), .int .u16 ((aW 62 .u16).g (v.map (aa.up h.dep)) 0), .int .u16 ((aW 62 .u16).g (v.map (aa.up h.dep)) 0), .int .u16 al2] :: F) (fun _ _ h => h) ?_
          refine bR (sub .nil (.skip (.keep (.keep (.keep (.keep (.keep .refl))))))) ?_
          simp only [List.nil_append]
          refine rC bN 2 rfl ?_
          obtain ⟨e0, e1, e2, e3⟩ := aa.vA ((aa.yt (f := ⟨h, pl, tr⟩) (v := v) (show h.ay = 0 ∨ h.ay = 4 from by omega)).symm.trans hpx)
          exact aj (dY V.me rfl jv rfl rfl) ⟨by rw [← e0, ← e1, ← e2, ← e3, hal2]; rfl, rfl⟩ (sub (nz .nil) cG)
        ·
          refine rC bN 7 rfl ?_
          refine oV (af V.s3 rfl cx rfl) ?_
          refine oV (aA (av rfl rfl) a1) ?_
          refine rO bN 5 rfl ?_
          refine ae rfl ?_
          refine oV (af V.s3 rfl cx rfl) ?_
          refine ae rfl ?_
          refine oV (aU (av rfl rfl) a2) ?_
          refine rO bN 5 rfl ?_
          refine wN [pz 0 [] [6], pz 1 [0] [], pz 3 [1] [], pz 0 [] [6], pz 8 [3] [], pz 24 [4] [], pz 0 [] [6], pz 64 [6] [], pz 192 [7] [], pz 0 [] [11], pz 1023 [2, 5, 8, 9] [], pz 2047 [10] [4], pz 4095 [] []] [⟨fun y => Row (aW 62 .u16) ps v.length cs (v.map (aa.up h.dep)), none, none, [1, 2, 4, 5, 7, 8]⟩, ⟨fun y => ao b4 68 [.int .u16 0, .int .u16 0, .int .u16 0, .int .u16 0], none, some 11, []⟩, ⟨fun y => ao bf 90 [.int .i64 h.w, .int .i64 h.h, .int .i64 h.dep, .int .i64 h.ay, .bool h.cC, .slice pp pl.length cp, .slice pt tr.length ct, .slice pd nd cd, .slice pk (aa.bH h tr).length ck], none, none, []⟩, ⟨fun y => Rk, none, none, []⟩, ⟨fun y => Rv, none, none, []⟩, ⟨fun y => R, none, none, []⟩, ⟨fun y => ao b4 68 [.int .u16 ((aW 62 .u16).g (v.map (aa.up h.dep)) 0), .int .u16 ((aW 62 .u16).g (v.map (aa.up h.dep)) 0), .int .u16 ((aW 62 .u16).g (v.map (aa.up h.dep)) 0), .int .u16 al2], some 11, none, []⟩] F V.mixed ?_
          refine nM ?_
          refine nR (fun y FF hA => xI V.hI (own an)) ?_
          refine nR (fun y FF hA => xL V.lG (own an)) ?_
          refine nM ?_
          refine nR (fun y FF hA => xI V.hI (own an)) ?_
          refine nR (fun y FF hA => xL V.lG (own an)) ?_
          refine nM ?_
          refine nR (fun y FF hA => xI V.hI (own an)) ?_
          refine nR (fun y FF hA => xL V.lG (own an)) ?_
          refine nM ?_
          refine nV (fun y hA L => kY V.uB V.pC rfl (cs := [.int .u16 ((aW 62 .u16).g (v.map (aa.up h.dep)) 0), .int .u16 ((aW 62 .u16).g (v.map (aa.up h.dep)) 0), .int .u16 ((aW 62 .u16).g (v.map (aa.up h.dep)) 0), .int .u16 al2]) (by kernel_rfl)) ?_
          refine nE (fun y FF hA => dp (aD V.me rfl rfl (us := [_, _, _, _]) rfl rfl (by exact cZ) (by exact Nat.le_of_ble_eq_true rfl) rfl) ⟨rfl, .refl _⟩) ?_
          refine nA ?_
          refine aX ?_
          intro y hA
          clear hA
          refine bu ?_
          refine cy _ (.cons (d := 4) rfl (.cons (d := 5) rfl (.nil _))) ?_
          refine bR (M := Row (aW 62 .u16) ps v.length cs (v.map (aa.up h.dep)) :: ao bf 90 [.int .i64 h.w, .int .i64 h.h, .int .i64 h.dep, .int .i64 h.ay, .bool h.cC, .slice pp pl.length cp, .slice pt tr.length ct, .slice pd nd cd, .slice pk (aa.bH h tr).length ck] :: Rk :: Rv :: R :: ao b4 68 [.int .u16 ((aW 62 .u16).g (v.map (aa.up h.dep)) 0), .int .u16 ((aW 62 .u16).g (v.map (aa.up h.dep)) 0), .int .u16 ((aW 62 .u16).g (v.map (aa.up h.dep)) 0), .int .u16 al2] :: F) (fun _ _ h => h) ?_
          refine bR (sub .nil (.skip (.keep (.keep (.keep (.keep (.keep .refl))))))) ?_
          simp only [List.nil_append]
          refine rC bN 2 rfl ?_
          obtain ⟨e0, e1, e2, e3⟩ := aa.vA ((aa.yt (f := ⟨h, pl, tr⟩) (v := v) (show h.ay = 0 ∨ h.ay = 4 from by omega)).symm.trans hpx)
          exact aj (dY V.me rfl jv rfl rfl) ⟨by rw [← e0, ← e1, ← e2, ← e3, hal2]; rfl, rfl⟩ (sub (nz .nil) cG)
        ·
          refine rC bN 7 rfl ?_
          refine oV (af V.s3 rfl cx rfl) ?_
          refine oV (aA (av rfl rfl) a1) ?_
          refine rO bN 5 rfl ?_
          refine ae rfl ?_
          refine oV (af V.s3 rfl cx rfl) ?_
          refine ae rfl ?_
          refine oV (aA (av rfl rfl) a2) ?_
          refine rO bN 7 rfl ?_
          refine wN [pz 0 [] [6], pz 1 [0] [], pz 3 [1] [], pz 0 [] [6], pz 8 [3] [], pz 24 [4] [], pz 0 [] [6], pz 64 [6] [], pz 192 [7] [], pz 0 [] [11], pz 1023 [2, 5, 8, 9] [], pz 2047 [10] [4], pz 4095 [] []] [⟨fun y => Row (aW 62 .u16) ps v.length cs (v.map (aa.up h.dep)), none, none, [1, 2, 4, 5, 7, 8]⟩, ⟨fun y => ao b4 68 [.int .u16 0, .int .u16 0, .int .u16 0, .int .u16 0], none, some 11, []⟩, ⟨fun y => ao bf 90 [.int .i64 h.w, .int .i64 h.h, .int .i64 h.dep, .int .i64 h.ay, .bool h.cC, .slice pp pl.length cp, .slice pt tr.length ct, .slice pd nd cd, .slice pk (aa.bH h tr).length ck], none, none, []⟩, ⟨fun y => Rk, none, none, []⟩, ⟨fun y => Rv, none, none, []⟩, ⟨fun y => R, none, none, []⟩, ⟨fun y => ao b4 68 [.int .u16 ((aW 62 .u16).g (v.map (aa.up h.dep)) 0), .int .u16 ((aW 62 .u16).g (v.map (aa.up h.dep)) 1), .int .u16 ((aW 62 .u16).g (v.map (aa.up h.dep)) 2), .int .u16 al2], some 11, none, []⟩] F V.mixed ?_
          refine nM ?_
          refine nR (fun y FF hA => xI V.hI (own an)) ?_
          refine nR (fun y FF hA => xL V.lG (own an)) ?_
          refine nM ?_
          refine nR (fun y FF hA => xI V.hI (own an)) ?_
          refine nR (fun y FF hA => xL V.lG (own an)) ?_
          refine nM ?_
          refine nR (fun y FF hA => xI V.hI (own an)) ?_
          refine nR (fun y FF hA => xL V.lG (own an)) ?_
          refine nM ?_
          refine nV (fun y hA L => kY V.uB V.pC rfl (cs := [.int .u16 ((aW 62 .u16).g (v.map (aa.up h.dep)) 0), .int .u16 ((aW 62 .u16).g (v.map (aa.up h.dep)) 1), .int .u16 ((aW 62 .u16).g (v.map (aa.up h.dep)) 2), .int .u16 al2]) (by kernel_rfl)) ?_
          refine nE (fun y FF hA => dp (aD V.me rfl rfl (us := [_, _, _, _]) rfl rfl (by exact cZ) (by exact Nat.le_of_ble_eq_true rfl) rfl) ⟨rfl, .refl _⟩) ?_
          refine nA ?_
          refine aX ?_
          intro y hA
          clear hA
          refine bu ?_
          refine cy _ (.cons (d := 4) rfl (.cons (d := 5) rfl (.nil _))) ?_
          refine bR (M := Row (aW 62 .u16) ps v.length cs (v.map (aa.up h.dep)) :: ao bf 90 [.int .i64 h.w, .int .i64 h.h, .int .i64 h.dep, .int .i64 h.ay, .bool h.cC, .slice pp pl.length cp, .slice pt tr.length ct, .slice pd nd cd, .slice pk (aa.bH h tr).length ck] :: Rk :: Rv :: R :: ao b4 68 [.int .u16 ((aW 62 .u16).g (v.map (aa.up h.dep)) 0), .int .u16 ((aW 62 .u16).g (v.map (aa.up h.dep)) 1), .int .u16 ((aW 62 .u16).g (v.map (aa.up h.dep)) 2), .int .u16 al2] :: F) (fun _ _ h => h) ?_
          refine bR (sub .nil (.skip (.keep (.keep (.keep (.keep (.keep .refl))))))) ?_
          simp only [List.nil_append]
          refine rC bN 1 rfl ?_
          obtain ⟨e0, e1, e2, e3⟩ := aa.vA ((aa.Im (f := ⟨h, pl, tr⟩) (v := v) (show ¬ (h.ay = 0 ∨ h.ay = 4) from by omega) h3).symm.trans hpx)
          exact aj (dY V.me rfl jv rfl rfl) ⟨by rw [← e0, ← e1, ← e2, ← e3, hal2]; rfl, rfl⟩ (sub (nz .nil) cG)
theorem E3 (h : aa.Hd) (bf : Nat) (pp : Option Addr) (pl : List Int) (cp : Nat) (pt : Option Addr) (tr : List Int) (ct : Nat) (pd : Option Addr) (nd cd : Nat) (pk : Option Addr) (ck : Nat) (R : ab) (hP : ∀ w0 h, R w0 h → aS U5 pp pl.length pl w0 h) (hT : ∀ w0 h, R w0 h → aS U5 pt tr.length tr w0 h) (hcp : pl.length ≤ cp) (hB : ak.az pl) (hBt : ak.az tr) (hpl : pl.length < 500000000) (htl : tr.length < 500000000) (pv : Option Addr) (cv : Nat) (v : List Int) (Rk Rv : ab) (hRk : ∀ w0 h_, Rk w0 h_ → aS (aW 3 .i64) pk (aa.bH h tr).length (aa.bH h tr) w0 h_) (hRv : ∀ w0 h_, Rv w0 h_ → aS (aW 3 .i64) pv v.length v w0 h_) (hf : aa.gC ⟨h, pl, tr⟩) (hvl : v.length = (aa.parts h.ay).toNat) (hvx : ∀ x ∈ v, 0 ≤ x ∧ x < 2 ^ h.dep.toNat) (hk2 : v.getD 0 0 < 100000000) (hpx : aa.je ⟨h, pl, tr⟩ v = none) : aK Tryz.prog 151 [.pointer (some ⟨bf, 0, none⟩), .slice pv v.length cv] [ao bf 90 [.int .i64 h.w, .int .i64 h.h, .int .i64 h.dep, .int .i64 h.ay, .bool h.cC, .slice pp pl.length cp, .slice pt tr.length ct, .slice pd nd cd, .slice pk (aa.bH h tr).length ck], Rk, Rv, R] (aR fun e G => e = .tuple #[.agg #[.int .u16 0, .int .u16 0, .int .u16 0, .int .u16 0], .bool false] ∧ G = [ao bf 90 [.int .i64 h.w, .int .i64 h.h, .int .i64 h.dep, .int .i64 h.ay, .bool h.cC, .slice pp pl.length cp, .slice pt tr.length ct, .slice pd nd cd, .slice pk (aa.bH h tr).length ck], Rk, Rv, R]) := by
  by_cases h3 : h.ay = 3
  · have hx := hvx (v.getD 0 0) (aa.jj (by have := aa.ik (c := h.ay) (d := h.dep) (by unfold aa.gC at hf; exact hf.1); omega))
    obtain ⟨k, hk⟩ : ∃ k : Nat, v.getD 0 0 = (k : Int) := ⟨(v.getD 0 0).toNat, by omega⟩
    rw [aa.wH h3, hk] at hpx
    refine BQ h bf pp pl cp pt tr ct pd nd cd pk ck R hP hT hcp hB hBt hpl htl pv cv v Rk Rv hRk hRv hf hvl hvx h3 k hk (by omega) ?_
    refine Classical.not_not.1 fun q => ?_
    rw [show ((k : Int)).toNat = k from rfl, aa.Ck q] at hpx
    cases hpx
  · rw [aa.tC h3] at hpx; cases hpx
theorem EW (h : aa.Hd) (bf : Nat) (pp : Option Addr) (pl : List Int) (cp : Nat) (pt : Option Addr) (tr : List Int) (ct : Nat) (pd : Option Addr) (nd cd : Nat) (pk : Option Addr) (ck : Nat) (R : ab) (hP : ∀ w0 h, R w0 h → aS U5 pp pl.length pl w0 h) (hT : ∀ w0 h, R w0 h → aS U5 pt tr.length tr w0 h) (hcp : pl.length ≤ cp) (hB : ak.az pl) (hBt : ak.az tr) (hpl : pl.length < 500000000) (htl : tr.length < 500000000) (pv : Option Addr) (cv : Nat) (v : List Int) (Rk Rv : ab) (hRk : ∀ w0 h_, Rk w0 h_ → aS (aW 3 .i64) pk (aa.bH h tr).length (aa.bH h tr) w0 h_) (hRv : ∀ w0 h_, Rv w0 h_ → aS (aW 3 .i64) pv v.length v w0 h_) (hf : aa.gC ⟨h, pl, tr⟩) (hvl : v.length = (aa.parts h.ay).toNat) (hvx : ∀ x ∈ v, 0 ≤ x ∧ x < 2 ^ h.dep.toNat) (hk2 : v.getD 0 0 < 100000000) (c0 c1 c2 c3 : Int) (hpx : aa.je ⟨h, pl, tr⟩ v = some [c0, c1, c2, c3]) : aK Tryz.prog 151 [.pointer (some ⟨bf, 0, none⟩), .slice pv v.length cv] [ao bf 90 [.int .i64 h.w, .int .i64 h.h, .int .i64 h.dep, .int .i64 h.ay, .bool h.cC, .slice pp pl.length cp, .slice pt tr.length ct, .slice pd nd cd, .slice pk (aa.bH h tr).length ck], Rk, Rv, R] (aR fun e G => e = .tuple #[.agg #[.int .u16 c0, .int .u16 c1, .int .u16 c2, .int .u16 c3], .bool true] ∧ G = [ao bf 90 [.int .i64 h.w, .int .i64 h.h, .int .i64 h.dep, .int .i64 h.ay, .bool h.cC, .slice pp pl.length cp, .slice pt tr.length ct, .slice pd nd cd, .slice pk (aa.bH h tr).length ck], Rk, Rv, R]) := by
  by_cases h3 : h.ay = 3
  · have hx := hvx (v.getD 0 0) (aa.jj (by have := aa.ik (c := h.ay) (d := h.dep) (by unfold aa.gC at hf; exact hf.1); omega))
    obtain ⟨k, hk⟩ : ∃ k : Nat, v.getD 0 0 = (k : Int) := ⟨(v.getD 0 0).toNat, by omega⟩
    rw [aa.wH h3, hk, show ((k : Int)).toNat = k from rfl] at hpx
    have q : ¬ pl.length / 3 ≤ k := fun q => by rw [aa.JA q] at hpx; cases hpx
    rw [aa.Ck q] at hpx
    obtain ⟨rfl, rfl, rfl, rfl⟩ := aa.vA hpx
    exact Cz h bf pp pl cp pt tr ct pd nd cd pk ck R hP hT hcp hB hBt hpl htl pv cv v Rk Rv hRk hRv hf hvl hvx h3 k hk (by omega) q
  · exact AV h bf pp pl cp pt tr ct pd nd cd pk ck R hP hT hcp hB hBt hpl htl pv cv v Rk Rv hRk hRv hf hvl hvx h3 c0 c1 c2 c3 hpx
end Go.Proofs.YtmaiakpjgomnpaaGreat
namespace Go.Proofs.YtmaiakpjgomnpaaGreat
open Go.Sl 
theorem bg : dC Tryz.prog ⟨[22], []⟩ = true := by kernel_rfl
attribute [local irreducible] ak.az aa.off aa.rF aa.pB aa.gz aa.jD aa.kt aa.gw aa.jN aa.OX aa.rJ
set_option maxHeartbeats 1000000 in
theorem fT (a : Int) (ha : -255 ≤ a ∧ a ≤ 510) (y : Int) (hy : 0 ≤ y ∧ y < 256) : aK Tryz.prog 163 [.int .i64 a, .int .i64 y] [] (aR fun v G => v = .int .i64 (aa.off a y) ∧ G = []) := by
 refine ax [(0, _), (1, _)] Tryz.func163 rfl Tryz.ntmps163 rfl rfl ?_
 intro w0 F
 refine Ca bg 13 rfl (by omega) ?_
 refine oV (cN (v := .int .i64 (aa.off a y)) (zT rfl rfl) (congrArg (Value.int .i64) (aa.LI a y))) ?_
 refine rO bg 4 rfl ?_
 exact aj (aC rfl) ⟨rfl, rfl⟩ (sub .nil au)
set_option maxHeartbeats 1000000 in
theorem GH (x : Int) (hx : 0 ≤ x ∧ x < 256) (y : Int) (hy : 0 ≤ y ∧ y < 256) (z : Int) (hz : 0 ≤ z ∧ z < 256) : aK Tryz.prog 165 [.int .u8 x, .int .u8 y, .int .u8 z] [] (aR fun v G => v = .int .u8 (aa.rF x y z) ∧ G = []) := by
 refine ax [(0, _), (1, _), (2, _)] Tryz.func165 rfl Tryz.ntmps165 rfl rfl ?_
 intro w0 F
 refine rT bg 8 rfl ?_
 refine oV (bE V.u5 Tryz.underlying3 rfl wI) ?_
 refine oV (aG rfl) ?_
 refine oV (bE V.u5 Tryz.underlying3 rfl wI) ?_
 refine oV (aG rfl) ?_
 refine oV (bE V.u5 Tryz.underlying3 rfl wI) ?_
 refine rO bg 5 rfl ?_
 rcases (aa.PL x y z) with ⟨q1, q2, hs⟩ | ⟨q1, q2, q3, hs⟩ | ⟨q1, q2, q3, hs⟩ | ⟨q1, q3, hs⟩ | ⟨q1, q3, hs⟩
 ·refine fQ bg 16 rfl (by omega) ?_
  refine ai (fT (x + y - z) (by omega) x hx) V.ic  rfl .nil rfl ?_
  rintro _ _ ⟨rfl, rfl⟩
  refine rO bg 2 rfl ?_
  refine ai (fT (x + y - z) (by omega) y hy) V.ic  rfl .nil rfl ?_
  rintro _ _ ⟨rfl, rfl⟩
  refine oV (aU (eG rfl rfl) q1) ?_
  refine rO bg 3 rfl ?_
  refine ae rfl ?_
  refine ai (fT (x + y - z) (by omega) x hx) V.ic  rfl .nil rfl ?_
  rintro _ _ ⟨rfl, rfl⟩
  refine rO bg 2 rfl ?_
  refine ae rfl ?_
  refine ai (fT (x + y - z) (by omega) z hz) V.ic  rfl .nil rfl ?_
  rintro _ _ ⟨rfl, rfl⟩
  refine ae rfl ?_
  refine oV (aU (eG rfl rfl) q2) ?_
  refine rO bg 14 rfl ?_
  exact aj (aC rfl) ⟨congrArg (Value.int .u8) hs.symm, rfl⟩ (sub .nil au)
 ·refine fQ bg 16 rfl (by omega) ?_
  refine ai (fT (x + y - z) (by omega) x hx) V.ic  rfl .nil rfl ?_
  rintro _ _ ⟨rfl, rfl⟩
  refine rO bg 2 rfl ?_
  refine ai (fT (x + y - z) (by omega) y hy) V.ic  rfl .nil rfl ?_
  rintro _ _ ⟨rfl, rfl⟩
  refine oV (aU (eG rfl rfl) q1) ?_
  refine rO bg 3 rfl ?_
  refine ae rfl ?_
  refine ai (fT (x + y - z) (by omega) x hx) V.ic  rfl .nil rfl ?_
  rintro _ _ ⟨rfl, rfl⟩
  refine rO bg 2 rfl ?_
  refine ae rfl ?_
  refine ai (fT (x + y - z) (by omega) z hz) V.ic  rfl .nil rfl ?_
  rintro _ _ ⟨rfl, rfl⟩
  refine ae rfl ?_
  refine oV (aA (eG rfl rfl) q2) ?_
  refine rO bg 9 rfl ?_
  refine ai (fT (x + y - z) (by omega) y hy) V.ic  rfl .nil rfl ?_
  rintro _ _ ⟨rfl, rfl⟩
  refine rO bg 2 rfl ?_
  refine ai (fT (x + y - z) (by omega) z hz) V.ic  rfl .nil rfl ?_
  rintro _ _ ⟨rfl, rfl⟩
  refine oV (aU (eG rfl rfl) q3) ?_
  refine rO bg 13 rfl ?_
  exact aj (aC rfl) ⟨congrArg (Value.int .u8) hs.symm, rfl⟩ (sub .nil au)
 ·refine fQ bg 16 rfl (by omega) ?_
  refine ai (fT (x + y - z) (by omega) x hx) V.ic  rfl .nil rfl ?_
  rintro _ _ ⟨rfl, rfl⟩
  refine rO bg 2 rfl ?_
  refine ai (fT (x + y - z) (by omega) y hy) V.ic  rfl .nil rfl ?_
  rintro _ _ ⟨rfl, rfl⟩
  refine oV (aU (eG rfl rfl) q1) ?_
  refine rO bg 3 rfl ?_
  refine ae rfl ?_
  refine ai (fT (x + y - z) (by omega) x hx) V.ic  rfl .nil rfl ?_
  rintro _ _ ⟨rfl, rfl⟩
  refine rO bg 2 rfl ?_
  refine ae rfl ?_
  refine ai (fT (x + y - z) (by omega) z hz) V.ic  rfl .nil rfl ?_
  rintro _ _ ⟨rfl, rfl⟩
  refine ae rfl ?_
  refine oV (aA (eG rfl rfl) q2) ?_
  refine rO bg 9 rfl ?_
  refine ai (fT (x + y - z) (by omega) y hy) V.ic  rfl .nil rfl ?_
  rintro _ _ ⟨rfl, rfl⟩
  refine rO bg 2 rfl ?_
  refine ai (fT (x + y - z) (by omega) z hz) V.ic  rfl .nil rfl ?_
  rintro _ _ ⟨rfl, rfl⟩
  refine oV (aA (eG rfl rfl) q3) ?_
  refine rO bg 14 rfl ?_
  exact aj (aC rfl) ⟨congrArg (Value.int .u8) hs.symm, rfl⟩ (sub .nil au)
 ·refine fQ bg 16 rfl (by omega) ?_
  refine ai (fT (x + y - z) (by omega) x hx) V.ic  rfl .nil rfl ?_
  rintro _ _ ⟨rfl, rfl⟩
  refine rO bg 2 rfl ?_
  refine ai (fT (x + y - z) (by omega) y hy) V.ic  rfl .nil rfl ?_
  rintro _ _ ⟨rfl, rfl⟩
  refine oV (aA (eG rfl rfl) q1) ?_
  refine rO bg 17 rfl ?_
  refine ai (fT (x + y - z) (by omega) y hy) V.ic  rfl .nil rfl ?_
  rintro _ _ ⟨rfl, rfl⟩
  refine rO bg 2 rfl ?_
  refine ai (fT (x + y - z) (by omega) z hz) V.ic  rfl .nil rfl ?_
  rintro _ _ ⟨rfl, rfl⟩
  refine oV (aU (eG rfl rfl) q3) ?_
  refine rO bg 13 rfl ?_
  exact aj (aC rfl) ⟨congrArg (Value.int .u8) hs.symm, rfl⟩ (sub .nil au)
 ·refine fQ bg 16 rfl (by omega) ?_
  refine ai (fT (x + y - z) (by omega) x hx) V.ic  rfl .nil rfl ?_
  rintro _ _ ⟨rfl, rfl⟩
  refine rO bg 2 rfl ?_
  refine ai (fT (x + y - z) (by omega) y hy) V.ic  rfl .nil rfl ?_
  rintro _ _ ⟨rfl, rfl⟩
  refine oV (aA (eG rfl rfl) q1) ?_
  refine rO bg 17 rfl ?_
  refine ai (fT (x + y - z) (by omega) y hy) V.ic  rfl .nil rfl ?_
  rintro _ _ ⟨rfl, rfl⟩
  refine rO bg 2 rfl ?_
  refine ai (fT (x + y - z) (by omega) z hz) V.ic  rfl .nil rfl ?_
  rintro _ _ ⟨rfl, rfl⟩
  refine oV (aA (eG rfl rfl) q3) ?_
  refine rO bg 14 rfl ?_
  exact aj (aC rfl) ⟨congrArg (Value.int .u8) hs.symm, rfl⟩ (sub .nil au)
set_option maxHeartbeats 1000000 in
theorem Et (p : Option Addr) (c n : Nat) (L : List Int) (R : ab) (hR : ∀ w0 h, R w0 h → aS U5 p n L w0 h) (hn : L.length = n) (hB : ak.az L) (j : Int) : aK Tryz.prog 164 [.slice p n c, .int .i64 j] [R] (aR fun v G => v = .int .u8 (aa.rJ L j) ∧ G = [R]) := by
 refine ax [(0, _), (1, _)] Tryz.func164 rfl Tryz.ntmps164 rfl rfl ?_
 intro w0 F
 refine rT bg 5 rfl ?_
 rcases (aa.Py L j) with ⟨q1, hs⟩ | ⟨q1, q2, hs⟩ | ⟨q1, q2, hs⟩
 ·refine rC bg 4 rfl ?_
  refine oV (aU (bD rfl rfl) (by omega)) ?_
  refine rO bg 16 rfl ?_
  exact aj (aC rfl) ⟨congrArg (Value.int .u8) hs.symm, rfl⟩ (sub (aw .nil) au)
 ·refine rC bg 4 rfl ?_
  refine oV (aA (bD rfl rfl) (by omega)) ?_
  refine rO bg 4 rfl ?_
  refine ae rfl ?_
  refine oV (aU (fq rfl rfl) (by omega)) ?_
  refine rO bg 11 rfl ?_
  exact aj (aC rfl) ⟨congrArg (Value.int .u8) hs.symm, rfl⟩ (sub (aw .nil) au)
 ·refine rC bg 4 rfl ?_
  refine oV (aA (bD rfl rfl) (by omega)) ?_
  refine rO bg 4 rfl ?_
  refine ae rfl ?_
  refine oV (aA (fq rfl rfl) (by omega)) ?_
  refine rO bg 10 rfl ?_
  refine oV (xI V.bP (by exact aY hR an)) ?_
  refine oV (xL V.s5 (by exact aY hR an)) ?_
  refine rO bg 4 rfl ?_
  exact aj (aC rfl) ⟨congrArg (Value.int .u8) hs.symm, rfl⟩ (sub (aw .nil) au)
set_option maxHeartbeats 1000000 in
theorem JW (kind : Int) (p1 : Option Addr) (c1 n1 : Nat) (L1 : List Int) (R1 : ab) (hR1 : ∀ w0 h, R1 w0 h → aS U5 p1 n1 L1 w0 h) (hn1 : L1.length = n1) (hB1 : ak.az L1) (p2 : Option Addr) (c2 n2 : Nat) (L2 : List Int) (R2 : ab) (hR2 : ∀ w0 h, R2 w0 h → aS U5 p2 n2 L2 w0 h) (hn2 : L2.length = n2) (hB2 : ak.az L2) (i back : Nat) (hi : i < 500000000) (hbk : back ≤ 8) : aK Tryz.prog 141 [.int .i64 kind, .slice p1 n1 c1, .slice p2 n2 c2, .int .i64 (back : Int), .int .i64 (i : Int)] [R1, R2] (aR fun v G => v = .int .u8 (aa.pB kind (aa.gz L1 i back) (L2.getD i 0) (aa.gz L2 i back)) ∧ G = [R1, R2]) := by
 refine ax [(0, _), (1, _), (2, _), (3, _), (4, _)] Tryz.func141 rfl Tryz.ntmps141 rfl rfl ?_
 intro w0 F
 have ha := aa.FG hB1 i back
 have hb : 0 ≤ (L2.getD i 0) ∧ (L2.getD i 0) < 256 := hB2.get i
 have hd := aa.FG hB2 i back
 refine Ca bg 11 rfl (by omega) ?_
 refine ai (Et p1 c1 n1 L1 R1 hR1 hn1 hB1 ((i : Int) - (back : Int))) V.D6  rfl (aw .nil) rfl ?_
 rintro _ _ ⟨rfl, rfl⟩
 rw [aa.C0]
 refine rO bg 2 rfl ?_
 refine ai (Et p2 c2 n2 L2 R2 hR2 hn2 hB2 (i : Int)) V.D6  rfl (.cons aE .nil) rfl ?_
 rintro _ _ ⟨rfl, rfl⟩
 rw [aa.HQ]
 refine cV bg 4 rfl (by omega) ?_
 refine ai (Et p2 c2 n2 L2 R2 hR2 hn2 hB2 ((i : Int) - (back : Int))) V.D6  rfl (aw .nil) rfl ?_
 rintro _ _ ⟨rfl, rfl⟩
 rw [aa.C0]
 refine rO bg 5 rfl ?_
 rcases (aa.P4 kind (aa.gz L1 i back) (L2.getD i 0) (aa.gz L2 i back)) with ⟨q1, hs⟩ | ⟨q1, q2, hs⟩ | ⟨q1, q2, q3, hs⟩ | ⟨q1, q2, q3, q4, hs⟩ | ⟨q1, q2, q3, q4, hs⟩
 ·refine rC bg 9 rfl ?_
  refine oV (aU (av rfl rfl) (by omega)) ?_
  refine rO bg 13 rfl ?_
  exact aj (aC rfl) ⟨congrArg (Value.int .u8) hs.symm, rfl⟩ (sub (.cons aE (aw .nil)) au)
 ·refine rC bg 9 rfl ?_
  refine oV (aA (av rfl rfl) (by omega)) ?_
  refine rO bg 6 rfl ?_
  refine oV (aU (av rfl rfl) (by omega)) ?_
  refine rO bg 13 rfl ?_
  exact aj (aC rfl) ⟨congrArg (Value.int .u8) hs.symm, rfl⟩ (sub (.cons aE (aw .nil)) au)
 ·refine rC bg 9 rfl ?_
  refine oV (aA (av rfl rfl) (by omega)) ?_
  refine rO bg 6 rfl ?_
  refine oV (aA (av rfl rfl) (by omega)) ?_
  refine rO bg 6 rfl ?_
  refine oV (aU (av rfl rfl) (by omega)) ?_
  refine rO bg 7 rfl ?_
  refine oV (bE V.u5 Tryz.underlying3 rfl wI) ?_
  refine oV (aG rfl) ?_
  refine oV (bE V.u5 Tryz.underlying3 rfl wI) ?_
  refine cV bg 1 rfl (by omega) ?_
  refine oV (fZ (r := ((aa.gz L1 i back) + (L2.getD i 0)) / 2) rfl rfl (by omega) (jO (by omega) (by omega) (by omega))) ?_
  refine oV (bE V.u3 Tryz.underlying5 rfl (lq (by omega) (by omega))) ?_
  refine rO bg 6 rfl ?_
  exact aj (aC rfl) ⟨congrArg (Value.int .u8) hs.symm, rfl⟩ (sub (.cons aE (aw .nil)) au)
 ·refine rC bg 9 rfl ?_
  refine oV (aA (av rfl rfl) (by omega)) ?_
  refine rO bg 6 rfl ?_
  refine oV (aA (av rfl rfl) (by omega)) ?_
  refine rO bg 6 rfl ?_
  refine oV (aA (av rfl rfl) (by omega)) ?_
  refine rO bg 6 rfl ?_
  refine oV (aU (av rfl rfl) (by omega)) ?_
  refine rO bg 9 rfl ?_
  refine ai (GH (aa.gz L1 i back) ha (L2.getD i 0) hb (aa.gz L2 i back) hd) V.Pl  rfl .nil rfl ?_
  rintro _ _ ⟨rfl, rfl⟩
  refine rO bg 6 rfl ?_
  exact aj (aC rfl) ⟨congrArg (Value.int .u8) hs.symm, rfl⟩ (sub (.cons aE (aw .nil)) au)
 ·refine rC bg 9 rfl ?_
  refine oV (aA (av rfl rfl) (by omega)) ?_
  refine rO bg 6 rfl ?_
  refine oV (aA (av rfl rfl) (by omega)) ?_
  refine rO bg 6 rfl ?_
  refine oV (aA (av rfl rfl) (by omega)) ?_
  refine rO bg 6 rfl ?_
  refine oV (aA (av rfl rfl) (by omega)) ?_
  refine rO bg 13 rfl ?_
  exact aj (aC rfl) ⟨congrArg (Value.int .u8) hs.symm, rfl⟩ (sub (.cons aE (aw .nil)) au)
set_option maxHeartbeats 1000000 in
theorem F4 (kind : Int) (p1 : Option Addr) (c1 n1 : Nat) (L1 : List Int) (R1 : ab) (hR1 : ∀ w0 h, R1 w0 h → aS U5 p1 n1 L1 w0 h) (hn1 : L1.length = n1) (hB1 : ak.az L1) (p2 : Option Addr) (c2 n2 : Nat) (L2 : List Int) (R2 : ab) (hR2 : ∀ w0 h, R2 w0 h → aS U5 p2 n2 L2 w0 h) (hn2 : L2.length = n2) (hB2 : ak.az L2) (back : Nat) (hbk : 1 ≤ back ∧ back ≤ 8) (h2 : n2 = 0 ∨ n2 = n1) (hk : 0 ≤ kind) (hn1s : n1 < 500000000) (t : Bool) (ht : t = decide (kind < 5)) : aK Tryz.prog 140 [.int .i64 kind, .slice p1 n1 c1, .slice p2 n2 c2, .int .i64 (back : Int)] [R1, R2] (aR fun v G => v = .bool t ∧ G = [R1, R2]) := by
 refine ax [(0, _), (1, _), (2, _), (3, _)] Tryz.func140 rfl Tryz.ntmps140 rfl rfl ?_
 intro w0 F
 refine rT bg 5 rfl ?_
 rcases ((by by_cases h : kind < 5; exact (Nat.eq_zero_or_pos n2).elim (fun q => .inr (.inl ⟨h, q⟩)) (fun q => .inr (.inr ⟨h, q⟩)); exact .inl h : ¬ kind < 5 ∨ (kind < 5 ∧ n2 = 0) ∨ (kind < 5 ∧ 0 < n2))) with hq | ⟨hq, hz⟩ | ⟨hq, hz⟩
 ·refine rC bg 3 rfl ?_
  refine oV (aU (fq rfl rfl) (by omega)) ?_
  refine rO bg 2 rfl ?_
  refine ae rfl ?_
  refine oV (aA (bD rfl rfl) hq) ?_
  refine rO bg 25 rfl ?_
  (obtain rfl : t = false := ht.trans (decide_eq_false hq); exact aj (G := [R1, R2]) (aC rfl) ⟨rfl, rfl⟩ (sub (bp .nil) au))
 ·refine rC bg 3 rfl ?_
  refine oV (aU (fq rfl rfl) (by omega)) ?_
  refine rO bg 2 rfl ?_
  refine ae rfl ?_
  refine oV (aU (bD rfl rfl) hq) ?_
  refine rO bg 3 rfl ?_
  refine ae rfl ?_
  refine oV (aU (fq rfl rfl) (by omega)) ?_
  refine rO bg 3 rfl ?_
  refine ae rfl ?_
  refine oV (aU (eG rfl rfl) (by omega)) ?_
  refine rO bg 4 rfl ?_
  refine ae rfl ?_
  refine oV (aU (av rfl rfl) (by omega)) ?_
  refine rO bg 12 rfl ?_
  (obtain rfl : t = true := ht.trans (decide_eq_true hq); exact aj (G := [R1, R2]) (aC rfl) ⟨rfl, rfl⟩ (sub (bp .nil) au))
 ·refine rC bg 3 rfl ?_
  refine oV (aU (fq rfl rfl) (by omega)) ?_
  refine rO bg 2 rfl ?_
  refine ae rfl ?_
  refine oV (aU (bD rfl rfl) hq) ?_
  refine rO bg 3 rfl ?_
  refine ae rfl ?_
  refine oV (aU (fq rfl rfl) (by omega)) ?_
  refine rO bg 3 rfl ?_
  refine ae rfl ?_
  refine oV (aU (eG rfl rfl) (by omega)) ?_
  refine rO bg 4 rfl ?_
  refine ae rfl ?_
  refine oV (aA (av rfl rfl) (by omega)) ?_
  refine rO bg 5 rfl ?_
  refine ae rfl ?_
  refine oV (aU (av rfl rfl) (by omega)) ?_
  refine rO bg 6 rfl ?_
  (obtain rfl : t = true := ht.trans (decide_eq_true hq); exact aj (G := [R1, R2]) (aC rfl) ⟨rfl, rfl⟩ (sub (bp .nil) au))
set_option maxHeartbeats 2000000 in
theorem BU (kind : Int) (p1 : Option Addr) (c1 n1 : Nat) (L1 : List Int) (R1 : ab) (hR1 : ∀ w0 h, R1 w0 h → aS U5 p1 n1 L1 w0 h) (hn1 : L1.length = n1) (hB1 : ak.az L1) (p2 : Option Addr) (c2 n2 : Nat) (L2 : List Int) (R2 : ab) (hR2 : ∀ w0 h, R2 w0 h → aS U5 p2 n2 L2 w0 h) (hn2 : L2.length = n2) (hB2 : ak.az L2) (back : Nat) (hbk : 1 ≤ back ∧ back ≤ 8) (h2 : n2 = 0 ∨ n2 = n1) (hk : 0 ≤ kind) (hn1s : n1 < 500000000) : aK Tryz.prog 120 [.int .i64 kind, .slice p1 n1 c1, .slice p2 n2 c2, .int .i64 (back : Int)] [R1, R2] (aR fun v G => (4 < kind ∧ v = .tuple #[.slice none 0 0, .bool false] ∧ G = [R1, R2]) ∨ (¬ 4 < kind ∧ ∃ q cq, v = .tuple #[.slice q n1 cq, .bool true] ∧ G = [Row U5 q n1 cq (aa.gw kind L1 L2 back), R1, R2])) := by
 refine ax [(0, _), (1, _), (2, _), (3, _)] Tryz.func120 rfl Tryz.ntmps120 rfl rfl ?_
 intro w0 F
 refine rT bg 6 rfl ?_
 rcases (Int.lt_or_le 4 kind) with hq | hq
 ·refine rC bg 7 rfl ?_
  refine ai (F4 kind p1 c1 n1 L1 R1 hR1 hn1 hB1 p2 c2 n2 L2 R2 hR2 hn2 hB2 back hbk h2 hk hn1s false (decide_eq_false (by omega)).symm) V.Ki  rfl (bp .nil) rfl ?_
  rintro _ _ ⟨rfl, rfl⟩
  refine rO bg 12 rfl ?_
  exact aj (fH rfl rfl) (.inl ⟨hq, rfl, rfl⟩) (sub (bp .nil) au)
 ·refine rC bg 7 rfl ?_
  refine ai (F4 kind p1 c1 n1 L1 R1 hR1 hn1 hB1 p2 c2 n2 L2 R2 hR2 hn2 hB2 back hbk h2 hk hn1s true (decide_eq_true (by omega)).symm) V.Ki  rfl (bp .nil) rfl ?_
  rintro _ _ ⟨rfl, rfl⟩
  refine rO bg 10 rfl ?_
  refine nW n1 n1 (U5) rfl rfl V.bP V.z5 rfl rfl rfl rfl (by omega) (by omega) rfl rfl ?_
  intro m0
  refine rO bg 12 rfl ?_
  rw [show List.replicate n1 U5.d = aa.jN kind L1 L2 back 0 from by rw [aa.K7, hn1]]
  refine dV (fun (i : Nat) => [(0, .int .i64 kind), (2, .slice p2 n2 c2), (3, .int .i64 (back : Int)), (10, .slice (some ⟨m0, 0, none⟩) n1 n1), (22, .slice p1 n1 c1), (23, .int .i64 (n1 : Int)), (24, .int .i64 (i : Int))]) (fun (i : Nat) => Row U5 (some ⟨m0, 0, none⟩) n1 n1 (aa.jN kind L1 L2 back i) :: R1 :: R2 :: F) (fun (i : Nat) => i ≤ n1) (fun (i : Nat) => n1 - i) (i1 (0) ?_ (kF (dk ln)) (sub (im .nil) au)) ?_
  ·exact Nat.zero_le _
  intro i
  rintro hi
  refine rL bg 6 rfl ?_
  refine aP rfl (fun h25 => ?_) (fun h25 => ?_)
  ·refine rC bg 7 rfl ?_
   refine oV (xI V.bP (by exact aY hR1 bY)) ?_
   refine oV (xL V.s5 (by exact aY hR1 bY)) ?_
   refine rO bg 13 rfl ?_
   refine ai (JW kind (some ⟨m0, 0, none⟩) n1 n1 (aa.jN kind L1 L2 back i) (Row U5 (some ⟨m0, 0, none⟩) n1 n1 (aa.jN kind L1 L2 back i)) (fun _ _ hh => hh.rd) (by rw [aa.EY (by omega)]; exact hn1) aa.D9 p2 c2 n2 L2 R2 hR2 hn2 hB2 i back (by omega) hbk.2) V.PF  rfl (aw (.cons aE .nil)) rfl ?_
   rintro _ _ ⟨rfl, rfl⟩
   rw [aa.GV (by omega)]
   refine oV (dz (r := (aa.kt kind L1 L2 back (aa.jD kind L1 L2 back i) i)) rfl rfl ((aa.eB _).trans (aa.Gu rfl rfl))) ?_
   refine oV (xI V.bP (own an)) ?_
   refine aQ (ir (c := (U5)) (_) V.s5 rfl rfl rfl (by exact cZ) (by omega) (by omega) rfl rfl) ?_
   refine cV bg 7 rfl (by omega) ?_
   rw [show List.set (aa.jN kind L1 L2 back i) ((i : Int)).toNat (aa.kt kind L1 L2 back (aa.jD kind L1 L2 back i) i) = aa.jN kind L1 L2 back (i + 1) from aa.Ek (by omega)]
   exact j1 (i + 1) ⟨by omega, by omega⟩ (kF (dk ln)) (sub (aw (.cons aE (.cons dX .nil))) au)
  ·refine rC bg 6 rfl ?_
   obtain rfl : i = n1 := by omega
   rw [show aa.jN kind L1 L2 back i = aa.gw kind L1 L2 back from hn1 ▸ aa.DW kind L1 L2 back]
   refine rC bg 7 rfl ?_
   exact aj (fH rfl rfl) (.inr ⟨by omega, _, _, rfl, rfl⟩) (sub (im .nil) au)
end Go.Proofs.YtmaiakpjgomnpaaGreat
namespace Go.Proofs.YtmaiakpjgomnpaaGreat
open Go.Sl
theorem V.D4 : aJ Tryz.prog 120 = true := by kernel_rfl
theorem V.I7 : aJ Tryz.prog 121 = true := by kernel_rfl
theorem V.JY : aJ Tryz.prog 151 = true := by kernel_rfl
theorem V.P8 : aJ Tryz.prog 152 = true := by kernel_rfl
theorem V.IE : bW Tryz.prog 145 0 = some 0 := by kernel_rfl
theorem V.QL : bW Tryz.prog 145 1 = some 1 := by kernel_rfl
theorem V.Rn : bW Tryz.prog 145 2 = some 2 := by kernel_rfl
theorem V.Ra : bW Tryz.prog 145 3 = some 3 := by kernel_rfl
end Go.Proofs.YtmaiakpjgomnpaaGreat
namespace Go.Proofs.YtmaiakpjgomnpaaGreat
open Go.Sl 
theorem dg : dC Tryz.prog ⟨[47], [(35, 2, 2), (35, 3, 3), (90, 0, 0), (145, 0, 0), (145, 1, 1), (145, 2, 2), (145, 3, 3), (145, 4, 4), (145, 5, 5)]⟩ = true := by kernel_rfl
attribute [local irreducible] ak.az aa.bS aa.up aa.c4 aa.ij aa.jX aa.deep aa.parts HW aa.bH aa.je aa.fF aa.qO aa.ky aa.gC aa.gO aa.fz aa.l5 aa.k6 aa.gw aa.fh
theorem Ld (h : aa.Hd) (bf : Nat) (pp : Option Addr) (pl : List Int) (cp : Nat) (pt : Option Addr) (tr : List Int) (ct : Nat) (pd : Option Addr) (nd cd : Nat) (pk : Option Addr) (ck : Nat) (R : ab) (hP : ∀ w0 h, R w0 h → aS U5 pp pl.length pl w0 h) (hT : ∀ w0 h, R w0 h → aS U5 pt tr.length tr w0 h) (hcp : pl.length ≤ cp) (hB : ak.az pl) (hBt : ak.az tr) (hpl : pl.length < 500000000) (htl : tr.length < 500000000) (pv : Option Addr) (cv : Nat) (v : List Int) (Rk Rv : ab) (hRk : ∀ w0 h_, Rk w0 h_ → aS (aW 3 .i64) pk (aa.bH h tr).length (aa.bH h tr) w0 h_) (hRv : ∀ w0 h_, Rv w0 h_ → aS (aW 3 .i64) pv v.length v w0 h_) (hf : aa.gC ⟨h, pl, tr⟩) (hvl : v.length = (aa.parts h.ay).toNat) (hvx : ∀ x ∈ v, 0 ≤ x ∧ x < 2 ^ h.dep.toNat) (nv : Nat) (hnv : v.length = nv) (hk2 : v.getD 0 0 < 100000000) (hpx : aa.je ⟨h, pl, tr⟩ v = none) : aK Tryz.prog 151 [.pointer (some ⟨bf, 0, none⟩), .slice pv nv cv] [ao bf 90 [.int .i64 h.w, .int .i64 h.h, .int .i64 h.dep, .int .i64 h.ay, .bool h.cC, .slice pp pl.length cp, .slice pt tr.length ct, .slice pd nd cd, .slice pk (aa.bH h tr).length ck], Rk, Rv, R] (aR fun e G => e = .tuple #[.agg #[.int .u16 0, .int .u16 0, .int .u16 0, .int .u16 0], .bool false] ∧ G = [ao bf 90 [.int .i64 h.w, .int .i64 h.h, .int .i64 h.dep, .int .i64 h.ay, .bool h.cC, .slice pp pl.length cp, .slice pt tr.length ct, .slice pd nd cd, .slice pk (aa.bH h tr).length ck], Rk, Rv, R]) := by
 subst hnv
 exact E3 h bf pp pl cp pt tr ct pd nd cd pk ck R hP hT hcp hB hBt hpl htl pv cv v Rk Rv hRk hRv hf hvl hvx hk2 hpx
theorem Ly (h : aa.Hd) (bf : Nat) (pp : Option Addr) (pl : List Int) (cp : Nat) (pt : Option Addr) (tr : List Int) (ct : Nat) (pd : Option Addr) (nd cd : Nat) (pk : Option Addr) (ck : Nat) (R : ab) (hP : ∀ w0 h, R w0 h → aS U5 pp pl.length pl w0 h) (hT : ∀ w0 h, R w0 h → aS U5 pt tr.length tr w0 h) (hcp : pl.length ≤ cp) (hB : ak.az pl) (hBt : ak.az tr) (hpl : pl.length < 500000000) (htl : tr.length < 500000000) (pv : Option Addr) (cv : Nat) (v : List Int) (Rk Rv : ab) (hRk : ∀ w0 h_, Rk w0 h_ → aS (aW 3 .i64) pk (aa.bH h tr).length (aa.bH h tr) w0 h_) (hRv : ∀ w0 h_, Rv w0 h_ → aS (aW 3 .i64) pv v.length v w0 h_) (hf : aa.gC ⟨h, pl, tr⟩) (hvl : v.length = (aa.parts h.ay).toNat) (hvx : ∀ x ∈ v, 0 ≤ x ∧ x < 2 ^ h.dep.toNat) (nv : Nat) (hnv : v.length = nv) (hk2 : v.getD 0 0 < 100000000) (c0 c1 c2 c3 : Int) (hpx : aa.je ⟨h, pl, tr⟩ v = some [c0, c1, c2, c3]) : aK Tryz.prog 151 [.pointer (some ⟨bf, 0, none⟩), .slice pv nv cv] [ao bf 90 [.int .i64 h.w, .int .i64 h.h, .int .i64 h.dep, .int .i64 h.ay, .bool h.cC, .slice pp pl.length cp, .slice pt tr.length ct, .slice pd nd cd, .slice pk (aa.bH h tr).length ck], Rk, Rv, R] (aR fun e G => e = .tuple #[.agg #[.int .u16 c0, .int .u16 c1, .int .u16 c2, .int .u16 c3], .bool true] ∧ G = [ao bf 90 [.int .i64 h.w, .int .i64 h.h, .int .i64 h.dep, .int .i64 h.ay, .bool h.cC, .slice pp pl.length cp, .slice pt tr.length ct, .slice pd nd cd, .slice pk (aa.bH h tr).length ck], Rk, Rv, R]) := by
 subst hnv
 exact EW h bf pp pl cp pt tr ct pd nd cd pk ck R hP hT hcp hB hBt hpl htl pv cv v Rk Rv hRk hRv hf hvl hvx hk2 c0 c1 c2 c3 hpx
theorem Gc {h : aa.Hd} {row : List Int} {i : Nat} (hd : aa.jC h.dep) (hp : 1 ≤ aa.parts h.ay) : (aa.fF h row i).getD 0 0 < 100000000 := by
 have h1 := aa.uh (h := h) (row := row) (x := i) _ (aa.jj (l := aa.fF h row i) (i := 0) (by rw [aa.lT]; omega))
 have := aa.mP hd
 omega
set_option maxHeartbeats 8000000 in
theorem Ft (h : aa.Hd) (bf : Nat) (pp : Option Addr) (pl : List Int) (cp : Nat) (pt : Option Addr) (tr : List Int) (ct : Nat) (pd : Option Addr) (nd cd : Nat) (pk : Option Addr) (ck : Nat) (R : ab) (hP : ∀ w0 h, R w0 h → aS U5 pp pl.length pl w0 h) (hT : ∀ w0 h, R w0 h → aS U5 pt tr.length tr w0 h) (hcp : pl.length ≤ cp) (hB : ak.az pl) (hBt : ak.az tr) (hpl : pl.length < 500000000) (htl : tr.length < 500000000) (Rk : ab) (hRk : ∀ w0 h_, Rk w0 h_ → aS (aW 3 .i64) pk (aa.bH h tr).length (aa.bH h tr) w0 h_) (hf : aa.gC ⟨h, pl, tr⟩) (hs : aa.bS h.w h.h = 0) (q : Option Addr) (n c : Nat) (hn : (n : Int) = 4 * h.w * h.h) (hcap : n ≤ c) (dG : List Int) (hpx0 : dG.length = n) (p : aa.Ps) (hp : aa.k6 p h.w h.h) (yy : Nat) (hyy : (yy : Int) < p.h) (pb : Option Addr) (cb : Nat) (row : List Int) (hrl : row.length < 500000000) (hBr : ak.az row) (Rb : ab) (hRb : ∀ w0 h, Rb w0 h → aS U5 pb row.length row w0 h) (hbits : ∀ i : Nat, (i : Int) < p.w → i * (aa.parts h.ay).toNat * h.dep.toNat + (aa.parts h.ay).toNat * h.dep.toNat ≤ 8 * row.length) : aK Tryz.prog 121 [.pointer (some ⟨bf, 0, none⟩), .agg #[.int .i64 h.w, .int .i64 h.h, .slice q n c], .agg #[.int .i64 p.x, .int .i64 p.y, .int .i64 p.dx, .int .i64 p.dy, .int .i64 p.w, .int .i64 p.h], .int .i64 (yy : Int), .slice pb row.length cb] [ao bf 90 [.int .i64 h.w, .int .i64 h.h, .int .i64 h.dep, .int .i64 h.ay, .bool h.cC, .slice pp pl.length cp, .slice pt tr.length ct, .slice pd nd cd, .slice pk (aa.bH h tr).length ck], Row (aW 62 .u16) q n c dG, Rk, Rb, R] (aR fun v G => (aa.gO ⟨h, pl, tr⟩ p (yy : Int) row p.w.toNat 0 dG = none ∧ v = .bool false ∧ ∃ P, P.length = n ∧ G = [ao bf 90 [.int .i64 h.w, .int .i64 h.h, .int .i64 h.dep, .int .i64 h.ay, .bool h.cC, .slice pp pl.length cp, .slice pt tr.length ct, .slice pd nd cd, .slice pk (aa.bH h tr).length ck], Row (aW 62 .u16) q n c P, Rk, Rb, R]) ∨ ∃ P, aa.gO ⟨h, pl, tr⟩ p (yy : Int) row p.w.toNat 0 dG = some P ∧ P.length = n ∧ v = .bool true ∧ G = [ao bf 90 [.int .i64 h.w, .int .i64 h.h, .int .i64 h.dep, .int .i64 h.ay, .bool h.cC, .slice pp pl.length cp, .slice pt tr.length ct, .slice pd nd cd, .slice pk (aa.bH h tr).length ck], Row (aW 62 .u16) q n c P, Rk, Rb, R]) := by
 refine ax [(0, _), (1, _), (2, _), (3, _), (4, _)] Tryz.func121 rfl Tryz.ntmps121 rfl rfl ?_
 intro w0 F
 have hde : aa.deep h.ay h.dep := by unfold aa.gC at hf; exact hf.1
 have hpc := aa.ik hde
 have hdi := aa.jV (aa.iC hde)
 obtain ⟨N, hN⟩ : ∃ N, N = (aa.parts h.ay).toNat := ⟨_, rfl⟩
 obtain ⟨D, hD⟩ : ∃ D, D = h.dep.toNat := ⟨_, rfl⟩
 have hN2 : aa.parts h.ay = (N : Int) := by omega
 have hD2 : h.dep = (D : Int) := by omega
 have hpo := hp
 unfold aa.k6 aa.j6 at hpo
 obtain ⟨⟨hx0, hx1, hy0, hy1, hdx, hdy, hw0, hw1, hh0, hh1⟩, hix, hiy⟩ := hpo
 have hsd := aa.kC hs
 obtain ⟨RES, hRES⟩ : ∃ r, r = aa.gO ⟨h, pl, tr⟩ p (yy : Int) row p.w.toNat 0 dG := ⟨_, rfl⟩
 rw [← hRES]
 refine rT dg 2 rfl ?_
 refine eU rfl (cs := [_, _, _]) rfl rfl ?_
 intro b6
 refine eU rfl (cs := [_, _, _, _, _, _]) rfl rfl ?_
 intro b7
 refine rO dg 6 rfl ?_
 refine ai (xC pb cb row Rb hRb hrl) V.JL  rfl (.cons kd .nil) rfl ?_
 rintro _ _ ⟨bx, rfl, rfl⟩
 refine rO dg 9 rfl ?_
 refine oV (af V.s3 rfl jv rfl) ?_
 refine ai (iu h.ay) V.oo  rfl .nil rfl ?_
 rintro _ _ ⟨rfl, rfl⟩
 rw [hN2]
 refine nW N N (I3) rfl rfl V.cU V.z3 rfl rfl rfl rfl (by omega) (by omega) rfl rfl ?_
 intro b25
 refine rO dg 7 rfl ?_
 refine oV (af V.s3 rfl eL rfl) ?_
 refine rO dg 4 rfl ?_
 rw [show HW bx row 0 [] 0 = HW bx row (0 * N * D) [] 0 from by rw [Nat.zero_mul, Nat.zero_mul]]
 rw [show List.replicate N (aW 3 .i64).d = List.replicate N 0 from rfl]
 refine j0 (fun (i : Nat) (Vo : List Int) (P : List Int) => [(0, .pointer (some ⟨bf, 0, none⟩)), (3, .int .i64 (yy : Int)), (6, .pointer (some ⟨b6, 0, none⟩)), (7, .pointer (some ⟨b7, 0, none⟩)), (11, .pointer (some ⟨bx, 0, none⟩)), (12, .slice (some ⟨b25, 0, none⟩) N N), (27, .int .i64 p.w), (28, .int .i64 (i : Int))]) (fun (i : Nat) (Vo : List Int) (P : List Int) => HW bx row (i * N * D) [] 0 :: Row (aW 3 .i64) (some ⟨b25, 0, none⟩) N N Vo :: ao b6 26 [.int .i64 h.w, .int .i64 h.h, .slice q n c] :: ao b7 145 [.int .i64 p.x, .int .i64 p.y, .int .i64 p.dx, .int .i64 p.dy, .int .i64 p.w, .int .i64 p.h] :: ao bf 90 [.int .i64 h.w, .int .i64 h.h, .int .i64 h.dep, .int .i64 h.ay, .bool h.cC, .slice pp pl.length cp, .slice pt tr.length ct, .slice pd nd cd, .slice pk (aa.bH h tr).length ck] :: Row (aW 62 .u16) q n c P :: Rk :: Rb :: R :: F) (fun (i : Nat) (Vo : List Int) (P : List Int) => (i : Int) ≤ p.w ∧ Vo.length = N ∧ P.length = n ∧ aa.gO ⟨h, pl, tr⟩ p (yy : Int) row (p.w.toNat - i) i P = RES) (fun (i : Nat) (Vo : List Int) (P : List Int) => p.w.toNat - i) (i3 (0) (List.replicate N 0) (dG) ?_ (jm (dk ln)) (sub (.cons aE (aw (.cons bK (.cons aE (.cons aE (.cons aE (.cons aE (.cons dX (.cons dX .nil))))))))) au)) ?_
 ·exact ⟨by omega, List.length_replicate, hpx0, hRES.symm⟩
 intro i Vo P
 rintro ⟨hi, hVl, hPl, hres⟩
 have hSl : (aa.fF h row i).length = N := by rw [aa.lT, hN]
 refine rL dg 6 rfl ?_
 refine aP rfl (fun h29 => ?_) (fun h29 => ?_)
 ·refine rC dg 19 rfl ?_
  rw [show HW bx row (i * N * D) [] 0 = HW bx row (i * N * D + 0 * D) [] 0 from by rw [Nat.zero_mul, Nat.add_zero], show Row (aW 3 .i64) (some ⟨b25, 0, none⟩) N N Vo = Row (aW 3 .i64) (some ⟨b25, 0, none⟩) N N (aa.vN (aa.fF h row i) Vo 0) from by rw [aa.P3]]
  refine dV (fun (k : Nat) => [(0, .pointer (some ⟨bf, 0, none⟩)), (3, .int .i64 (yy : Int)), (6, .pointer (some ⟨b6, 0, none⟩)), (7, .pointer (some ⟨b7, 0, none⟩)), (11, .pointer (some ⟨bx, 0, none⟩)), (12, .slice (some ⟨b25, 0, none⟩) N N), (13, .int .i64 (i : Int)), (27, .int .i64 p.w), (28, .int .i64 (i : Int)), (32, .int .i64 (N : Int)), (33, .int .i64 (k : Int))]) (fun (k : Nat) => HW bx row (i * N * D + k * D) [] 0 :: Row (aW 3 .i64) (some ⟨b25, 0, none⟩) N N (aa.vN (aa.fF h row i) Vo k) :: ao b6 26 [.int .i64 h.w, .int .i64 h.h, .slice q n c] :: ao b7 145 [.int .i64 p.x, .int .i64 p.y, .int .i64 p.dx, .int .i64 p.dy, .int .i64 p.w, .int .i64 p.h] :: ao bf 90 [.int .i64 h.w, .int .i64 h.h, .int .i64 h.dep, .int .i64 h.ay, .bool h.cC, .slice pp pl.length cp, .slice pt tr.length ct, .slice pd nd cd, .slice pk (aa.bH h tr).length ck] :: Row (aW 62 .u16) q n c P :: Rk :: Rb :: R :: F) (fun (k : Nat) => k ≤ N) (fun (k : Nat) => N - k) (i1 (0) ?_ (kR (dk (dk ln))) (sub (nz (pA .nil)) au)) ?_
  ·exact Nat.zero_le _
  intro k
  rintro hk
  refine rL dg 6 rfl ?_
  refine aP rfl (fun h34 => ?_) (fun h34 => ?_)
  ·refine rC dg 10 rfl ?_
   have hkD : k * D + D ≤ N * D := by have := Nat.mul_le_mul_right D (show k + 1 ≤ N by omega); rwa [Nat.add_mul, Nat.one_mul] at this
   have hbi : i * N * D + N * D ≤ 8 * row.length := by rw [hN, hD]; exact hbits i (by omega)
   have hvl := aa.J0 (S := (aa.fF h row i)) (old := Vo) (k := k) (by omega) (by omega)
   refine rC dg 8 rfl ?_
   refine oV (cN (v := .int .i64 (D : Int)) (af V.s3 rfl jv rfl) (congrArg (Value.int .i64) hD2)) ?_
   refine ai (kD bx row (i * N * D + k * D) [] 0 D hrl hBr (by omega) (by omega)) V.tH  rfl (aw .nil) rfl ?_
   rintro _ _ ⟨rfl, rfl⟩
   refine oV (xI V.cU (own bY)) ?_
   refine aQ (ir (c := (I3)) (_) V.s3 rfl rfl rfl (by exact jG) (by omega) (by omega) rfl rfl) ?_
   refine cV dg 7 rfl (by omega) ?_
   rw [aa.OV hN hD hVl (by omega), show i * N * D + k * D + D = i * N * D + (k + 1) * D from by rw [Nat.add_mul, Nat.one_mul, Nat.add_assoc]]
   exact j1 (k + 1) ⟨by omega, by omega⟩ (kR (dk (dk ln))) (sub (nz (pA .nil)) au)
  ·refine rC dg 5 rfl ?_
   rcases (aa.GS ⟨h, pl, tr⟩ (aa.fF h row i)) with hpx | ⟨c0, c1, c2, c3, hpx⟩
   ·refine rC dg 1 rfl ?_
    obtain rfl : N = k := by omega
    rw [show aa.vN (aa.fF h row i) Vo N = (aa.fF h row i) from hSl ▸ aa.Je (by omega)]
    refine rC dg 3 rfl ?_
    refine ai (Ld h bf pp pl cp pt tr ct pd nd cd pk ck R hP hT hcp hB hBt hpl htl (some ⟨b25, 0, none⟩) N (aa.fF h row i) Rk (Row (aW 3 .i64) (some ⟨b25, 0, none⟩) N N (aa.fF h row i)) hRk (fun _ _ hh => by rw [hSl]; exact hh.rd) hf (aa.lT h row i) aa.uh N hSl (Gc (aa.iC hde) (by omega)) hpx) V.JY  rfl (.cons jH (.cons kd (.cons aE (.cons kd .nil)))) rfl ?_
    rintro _ _ ⟨rfl, rfl⟩
    refine rO dg 3 rfl ?_
    refine cB V.pC rfl ?_
    intro b15
    refine aQ (aD V.me rfl rfl (us := [_, _, _, _]) rfl rfl (by exact cZ) (by exact Nat.le_of_ble_eq_true rfl) rfl) ?_
    refine rO dg 23 rfl ?_
    exact aj (aC rfl) (.inl ⟨aa.IW (f := ⟨h, pl, tr⟩) (by omega) hpx hres, rfl, P, hPl, rfl⟩) (sub (.cons aE (.cons Jo (.cons aE (.cons om (.cons bK .nil))))) FP)
   ·refine rC dg 1 rfl ?_
    obtain rfl : N = k := by omega
    rw [show aa.vN (aa.fF h row i) Vo N = (aa.fF h row i) from hSl ▸ aa.Je (by omega)]
    refine rC dg 3 rfl ?_
    refine ai (Ly h bf pp pl cp pt tr ct pd nd cd pk ck R hP hT hcp hB hBt hpl htl (some ⟨b25, 0, none⟩) N (aa.fF h row i) Rk (Row (aW 3 .i64) (some ⟨b25, 0, none⟩) N N (aa.fF h row i)) hRk (fun _ _ hh => by rw [hSl]; exact hh.rd) hf (aa.lT h row i) aa.uh N hSl (Gc (aa.iC hde) (by omega)) c0 c1 c2 c3 hpx) V.JY  rfl (.cons jH (.cons kd (.cons aE (.cons kd .nil)))) rfl ?_
    rintro _ _ ⟨rfl, rfl⟩
    refine rO dg 3 rfl ?_
    refine cB V.pC rfl ?_
    intro b15
    refine aQ (aD V.me rfl rfl (us := [_, _, _, _]) rfl rfl (by exact cZ) (by exact Nat.le_of_ble_eq_true rfl) rfl) ?_
    refine rO dg 13 rfl ?_
    have hnn : 0 ≤ (i : Int) * p.dx := Int.mul_nonneg (by omega) (by omega)
    have hnm : 0 ≤ (yy : Int) * p.dy := Int.mul_nonneg (by omega) (by omega)
    have hxx := hix i (by omega) (by omega)
    have hyv := hiy yy (by omega) (by omega)
    have hpi := aa.xH (w := h.w) (h := h.h) (x := (p.x + ((i : Int) * p.dx))) (y := (p.y + ((yy : Int) * p.dy))) ⟨by omega, by omega⟩ ⟨by omega, by omega⟩
    have h44 : 4 * h.w * h.h = 4 * (h.w * h.h) := Int.mul_assoc _ _ _
    refine bo ?_
    refine oV (bX V.eX rfl Jh (vs := [_, _, _]) rfl rfl) ?_
    refine oV (aF V.IE rfl) ?_
    refine oV (af V.s3 rfl wq rfl) ?_
    refine rO dg 2 rfl ?_
    refine oV (af V.s3 rfl wq rfl) ?_
    refine cV dg 3 rfl (by omega) ?_
    refine oV (af V.s3 rfl wq rfl) ?_
    refine rO dg 2 rfl ?_
    refine oV (af V.s3 rfl wq rfl) ?_
    refine cV dg 2 rfl (by omega) ?_
    refine oV (bX V.me rfl an (vs := [_, _, _, _]) rfl rfl) ?_
    refine ai (No h.w h.h hs q n c hn hcap P (p.x + ((i : Int) * p.dx)) (p.y + ((yy : Int) * p.dy)) ⟨by omega, by omega⟩ ⟨by omega, by omega⟩ c0 c1 c2 c3) V.P8  rfl (.cons JH .nil) rfl ?_
    rintro _ _ ⟨rfl, rfl⟩
    refine cV dg 7 rfl (by omega) ?_
    rw [show i * N * D + N * D = (i + 1) * N * D from by rw [Nat.add_mul, Nat.add_mul, Nat.one_mul]]
    exact j3 (i + 1) (aa.fF h row i) (aa.l5 h.w P (p.x + ((i : Int) * p.dx)) (p.y + ((yy : Int) * p.dy)) [c0, c1, c2, c3]) ⟨⟨by omega, hSl, by rw [aa.D3 rfl (by omega)]; exact hPl, aa.JQ (f := ⟨h, pl, tr⟩) (by omega) hpx hres⟩, by omega⟩ (jm (dk ln)) (sub (.cons om (.cons jH (.cons kd (.cons kd (.cons bK (aw (.cons aE (.cons bK (.cons aE .nil))))))))) cG)
 ·refine rC dg 11 rfl ?_
  exact aj (aC rfl) (.inr ⟨P, aa.LJ (f := ⟨h, pl, tr⟩) (by omega) hres, hPl, rfl, rfl⟩) (sub (.cons jH (.cons jH (.cons jH (.cons jH (.cons jH .nil))))) mE)
theorem Hh (kind : Int) (p1 : Option Addr) (c1 n1 : Nat) (L1 : List Int) (R1 : ab) (hR1 : ∀ w0 h, R1 w0 h → aS U5 p1 n1 L1 w0 h) (hn1 : L1.length = n1) (hB1 : ak.az L1) (p2 : Option Addr) (c2 n2 : Nat) (L2 : List Int) (R2 : ab) (hR2 : ∀ w0 h, R2 w0 h → aS U5 p2 n2 L2 w0 h) (hn2 : L2.length = n2) (hB2 : ak.az L2) (back : Nat) (hbk : 1 ≤ back ∧ back ≤ 8) (h2 : n2 = 0 ∨ n2 = n1) (hk : 0 ≤ kind) (hn1s : n1 < 500000000) (hq : 4 < kind) : aK Tryz.prog 120 [.int .i64 kind, .slice p1 n1 c1, .slice p2 n2 c2, .int .i64 (back : Int)] [R1, R2] (aR fun v G => v = .tuple #[.slice none 0 0, .bool false] ∧ G = [R1, R2]) := by
 refine (BU kind p1 c1 n1 L1 R1 hR1 hn1 hB1 p2 c2 n2 L2 R2 hR2 hn2 hB2 back hbk h2 hk hn1s).mono ?_
 rintro e2 G ⟨v, rfl, (⟨_, rfl, rfl⟩ | ⟨h, _⟩)⟩
 ·exact ⟨_, rfl, rfl, rfl⟩
 ·exact absurd hq h
theorem yo (kind : Int) (p1 : Option Addr) (c1 n1 : Nat) (L1 : List Int) (R1 : ab) (hR1 : ∀ w0 h, R1 w0 h → aS U5 p1 n1 L1 w0 h) (hn1 : L1.length = n1) (hB1 : ak.az L1) (p2 : Option Addr) (c2 n2 : Nat) (L2 : List Int) (R2 : ab) (hR2 : ∀ w0 h, R2 w0 h → aS U5 p2 n2 L2 w0 h) (hn2 : L2.length = n2) (hB2 : ak.az L2) (back : Nat) (hbk : 1 ≤ back ∧ back ≤ 8) (h2 : n2 = 0 ∨ n2 = n1) (hk : 0 ≤ kind) (hn1s : n1 < 500000000) (hq : ¬ 4 < kind) : aK Tryz.prog 120 [.int .i64 kind, .slice p1 n1 c1, .slice p2 n2 c2, .int .i64 (back : Int)] [R1, R2] (aR fun v G => ∃ a : Option Addr × Nat, v = .tuple #[.slice a.1 n1 a.2, .bool true] ∧ G = [Row U5 a.1 n1 a.2 (aa.gw kind L1 L2 back), R1, R2]) := by
 refine (BU kind p1 c1 n1 L1 R1 hR1 hn1 hB1 p2 c2 n2 L2 R2 hR2 hn2 hB2 back hbk h2 hk hn1s).mono ?_
 rintro e2 G ⟨v, rfl, (⟨h, _⟩ | ⟨_, q, cq, rfl, rfl⟩)⟩
 ·exact absurd h hq
 ·exact ⟨_, rfl, (q, cq), rfl, rfl⟩
theorem Js (h : aa.Hd) (bf : Nat) (pp : Option Addr) (pl : List Int) (cp : Nat) (pt : Option Addr) (tr : List Int) (ct : Nat) (pd : Option Addr) (nd cd : Nat) (pk : Option Addr) (ck : Nat) (R : ab) (hP : ∀ w0 h, R w0 h → aS U5 pp pl.length pl w0 h) (hT : ∀ w0 h, R w0 h → aS U5 pt tr.length tr w0 h) (hcp : pl.length ≤ cp) (hB : ak.az pl) (hBt : ak.az tr) (hpl : pl.length < 500000000) (htl : tr.length < 500000000) (Rk : ab) (hRk : ∀ w0 h_, Rk w0 h_ → aS (aW 3 .i64) pk (aa.bH h tr).length (aa.bH h tr) w0 h_) (hf : aa.gC ⟨h, pl, tr⟩) (hs : aa.bS h.w h.h = 0) (q : Option Addr) (n c : Nat) (hn : (n : Int) = 4 * h.w * h.h) (hcap : n ≤ c) (dG : List Int) (hpx0 : dG.length = n) (p : aa.Ps) (hp : aa.k6 p h.w h.h) (yy : Nat) (hyy : (yy : Int) < p.h) (pb : Option Addr) (cb : Nat) (row : List Int) (hrl : row.length < 500000000) (hBr : ak.az row) (Rb : ab) (hRb : ∀ w0 h, Rb w0 h → aS U5 pb row.length row w0 h) (hbits : ∀ i : Nat, (i : Int) < p.w → i * (aa.parts h.ay).toNat * h.dep.toNat + (aa.parts h.ay).toNat * h.dep.toNat ≤ 8 * row.length) (nl : Nat) (hnl : row.length = nl) (hr : aa.gO ⟨h, pl, tr⟩ p (yy : Int) row p.w.toNat 0 dG = none) : aK Tryz.prog 121 [.pointer (some ⟨bf, 0, none⟩), .agg #[.int .i64 h.w, .int .i64 h.h, .slice q n c], .agg #[.int .i64 p.x, .int .i64 p.y, .int .i64 p.dx, .int .i64 p.dy, .int .i64 p.w, .int .i64 p.h], .int .i64 (yy : Int), .slice pb nl cb] [ao bf 90 [.int .i64 h.w, .int .i64 h.h, .int .i64 h.dep, .int .i64 h.ay, .bool h.cC, .slice pp pl.length cp, .slice pt tr.length ct, .slice pd nd cd, .slice pk (aa.bH h tr).length ck], Row (aW 62 .u16) q n c dG, Rk, Rb, R] (aR fun v G => v = .bool false ∧ ∃ P, P.length = n ∧ G = [ao bf 90 [.int .i64 h.w, .int .i64 h.h, .int .i64 h.dep, .int .i64 h.ay, .bool h.cC, .slice pp pl.length cp, .slice pt tr.length ct, .slice pd nd cd, .slice pk (aa.bH h tr).length ck], Row (aW 62 .u16) q n c P, Rk, Rb, R]) := by
 subst hnl
 refine (Ft h bf pp pl cp pt tr ct pd nd cd pk ck R hP hT hcp hB hBt hpl htl Rk hRk hf hs q n c hn hcap dG hpx0 p hp yy hyy pb cb row hrl hBr Rb hRb hbits).mono ?_
 rintro e2 G ⟨v, rfl, (⟨_, rfl, P, h1, rfl⟩ | ⟨P, h, _⟩)⟩
 ·exact ⟨_, rfl, rfl, P, h1, rfl⟩
 ·rw [hr] at h; cases h
theorem LA (h : aa.Hd) (bf : Nat) (pp : Option Addr) (pl : List Int) (cp : Nat) (pt : Option Addr) (tr : List Int) (ct : Nat) (pd : Option Addr) (nd cd : Nat) (pk : Option Addr) (ck : Nat) (R : ab) (hP : ∀ w0 h, R w0 h → aS U5 pp pl.length pl w0 h) (hT : ∀ w0 h, R w0 h → aS U5 pt tr.length tr w0 h) (hcp : pl.length ≤ cp) (hB : ak.az pl) (hBt : ak.az tr) (hpl : pl.length < 500000000) (htl : tr.length < 500000000) (Rk : ab) (hRk : ∀ w0 h_, Rk w0 h_ → aS (aW 3 .i64) pk (aa.bH h tr).length (aa.bH h tr) w0 h_) (hf : aa.gC ⟨h, pl, tr⟩) (hs : aa.bS h.w h.h = 0) (q : Option Addr) (n c : Nat) (hn : (n : Int) = 4 * h.w * h.h) (hcap : n ≤ c) (dG : List Int) (hpx0 : dG.length = n) (p : aa.Ps) (hp : aa.k6 p h.w h.h) (yy : Nat) (hyy : (yy : Int) < p.h) (pb : Option Addr) (cb : Nat) (row : List Int) (hrl : row.length < 500000000) (hBr : ak.az row) (Rb : ab) (hRb : ∀ w0 h, Rb w0 h → aS U5 pb row.length row w0 h) (hbits : ∀ i : Nat, (i : Int) < p.w → i * (aa.parts h.ay).toNat * h.dep.toNat + (aa.parts h.ay).toNat * h.dep.toNat ≤ 8 * row.length) (nl : Nat) (hnl : row.length = nl) (P2 : List Int) (hr : aa.gO ⟨h, pl, tr⟩ p (yy : Int) row p.w.toNat 0 dG = some P2) : aK Tryz.prog 121 [.pointer (some ⟨bf, 0, none⟩), .agg #[.int .i64 h.w, .int .i64 h.h, .slice q n c], .agg #[.int .i64 p.x, .int .i64 p.y, .int .i64 p.dx, .int .i64 p.dy, .int .i64 p.w, .int .i64 p.h], .int .i64 (yy : Int), .slice pb nl cb] [ao bf 90 [.int .i64 h.w, .int .i64 h.h, .int .i64 h.dep, .int .i64 h.ay, .bool h.cC, .slice pp pl.length cp, .slice pt tr.length ct, .slice pd nd cd, .slice pk (aa.bH h tr).length ck], Row (aW 62 .u16) q n c dG, Rk, Rb, R] (aR fun v G => P2.length = n ∧ v = .bool true ∧ G = [ao bf 90 [.int .i64 h.w, .int .i64 h.h, .int .i64 h.dep, .int .i64 h.ay, .bool h.cC, .slice pp pl.length cp, .slice pt tr.length ct, .slice pd nd cd, .slice pk (aa.bH h tr).length ck], Row (aW 62 .u16) q n c P2, Rk, Rb, R]) := by
 subst hnl
 refine (Ft h bf pp pl cp pt tr ct pd nd cd pk ck R hP hT hcp hB hBt hpl htl Rk hRk hf hs q n c hn hcap dG hpx0 p hp yy hyy pb cb row hrl hBr Rb hRb hbits).mono ?_
 rintro e2 G ⟨v, rfl, (⟨h, _⟩ | ⟨P, h, h1, rfl, rfl⟩)⟩
 ·rw [hr] at h; cases h
 ·rw [hr] at h; cases h; exact ⟨_, rfl, h1, rfl, rfl⟩
structure Fj where
 a : Nat
 pz : Option Addr
 cz : Nat
 pa : Option Addr
 na : Nat
 ca : Nat
 A : List Int
 P : List Int
set_option maxHeartbeats 8000000 in
theorem BA (h : aa.Hd) (bf : Nat) (pp : Option Addr) (pl : List Int) (cp : Nat) (pt : Option Addr) (tr : List Int) (ct : Nat) (pd : Option Addr) (nd cd : Nat) (pk : Option Addr) (ck : Nat) (R : ab) (hP : ∀ w0 h, R w0 h → aS U5 pp pl.length pl w0 h) (hT : ∀ w0 h, R w0 h → aS U5 pt tr.length tr w0 h) (hcp : pl.length ≤ cp) (hB : ak.az pl) (hBt : ak.az tr) (hpl : pl.length < 500000000) (htl : tr.length < 500000000) (Rk : ab) (hRk : ∀ w0 h_, Rk w0 h_ → aS (aW 3 .i64) pk (aa.bH h tr).length (aa.bH h tr) w0 h_) (hf : aa.gC ⟨h, pl, tr⟩) (hs : aa.bS h.w h.h = 0) (q : Option Addr) (n c : Nat) (hn : (n : Int) = 4 * h.w * h.h) (hcap : n ≤ c) (dG : List Int) (hpx0 : dG.length = n) (p : aa.Ps) (hp : aa.k6 p h.w h.h) (Dt : List Int) (hDB : ak.az Dt) (hDl : Dt.length < 500000000) (nr : Nat) (hnr : (nr : Int) = aa.fh p.w (aa.parts h.ay * h.dep)) (back : Nat) (hback : (back : Int) = max 1 ((aa.parts h.ay * h.dep) / 8)) (at0 : Nat) (hat : at0 + p.h.toNat * (1 + nr) ≤ Dt.length) (pb : Option Addr) (cb : Nat) (Rb : ab) (hRb : ∀ w0 h, Rb w0 h → aS U5 pb (Dt.length - at0) (Dt.drop at0) w0 h) (hcb : Dt.length - at0 ≤ cb) : aK Tryz.prog 86 [.pointer (some ⟨bf, 0, none⟩), .agg #[.int .i64 h.w, .int .i64 h.h, .slice q n c], .agg #[.int .i64 p.x, .int .i64 p.y, .int .i64 p.dx, .int .i64 p.dy, .int .i64 p.w, .int .i64 p.h], .slice pb (Dt.length - at0) cb] [ao bf 90 [.int .i64 h.w, .int .i64 h.h, .int .i64 h.dep, .int .i64 h.ay, .bool h.cC, .slice pp pl.length cp, .slice pt tr.length ct, .slice pd nd cd, .slice pk (aa.bH h tr).length ck], Row (aW 62 .u16) q n c dG, Rk, Rb, R] (aR fun v G => (aa.fz ⟨h, pl, tr⟩ Dt nr back p p.h.toNat 0 at0 [] dG = none ∧ v = .tuple #[.slice none 0 0, .bool false] ∧ ∃ P, P.length = n ∧ G = [ao bf 90 [.int .i64 h.w, .int .i64 h.h, .int .i64 h.dep, .int .i64 h.ay, .bool h.cC, .slice pp pl.length cp, .slice pt tr.length ct, .slice pd nd cd, .slice pk (aa.bH h tr).length ck], Row (aW 62 .u16) q n c P, Rk, Rb, R]) ∨ ∃ at2 P pz cz, aa.fz ⟨h, pl, tr⟩ Dt nr back p p.h.toNat 0 at0 [] dG = some (at2, P) ∧ P.length = n ∧ at2 = at0 + p.h.toNat * (1 + nr) ∧ (∀ w0 h, Rb w0 h → aS U5 pz (Dt.length - at2) (Dt.drop at2) w0 h) ∧ Dt.length - at2 ≤ cz ∧ v = .tuple #[.slice pz (Dt.length - at2) cz, .bool true] ∧ G = [ao bf 90 [.int .i64 h.w, .int .i64 h.h, .int .i64 h.dep, .int .i64 h.ay, .bool h.cC, .slice pp pl.length cp, .slice pt tr.length ct, .slice pd nd cd, .slice pk (aa.bH h tr).length ck], Row (aW 62 .u16) q n c P, Rk, Rb, R]) := by
 refine ax [(0, _), (1, _), (2, _), (3, _)] Tryz.func86 rfl Tryz.ntmps86 rfl rfl ?_
 intro w0 F
 have hde : aa.deep h.ay h.dep := by unfold aa.gC at hf; exact hf.1
 have hpc := aa.ik hde
 have hdi := aa.jV (aa.iC hde)
 have hpo := hp
 unfold aa.k6 aa.j6 at hpo
 obtain ⟨⟨hx0, hx1, hy0, hy1, hdx, hdy, hw0, hw1, hh0, hh1⟩, hix, hiy⟩ := hpo
 have hsd := aa.kC hs
 have hbits := aa.mn hde
 have hbk : 1 ≤ back ∧ back ≤ 8 := by omega
 obtain ⟨RES, hRES⟩ : ∃ r, r = aa.fz ⟨h, pl, tr⟩ Dt nr back p p.h.toNat 0 at0 [] dG := ⟨_, rfl⟩
 rw [← hRES]
 refine rT dg 2 rfl ?_
 refine eU rfl (cs := [_, _, _]) rfl rfl ?_
 intro b5
 refine eU rfl (cs := [_, _, _, _, _, _]) rfl rfl ?_
 intro b6
 refine rO dg 5 rfl ?_
 refine wN [pz 0 [] [0], pz 1 [0] [], pz 3 [1] [], pz 7 [2] [], pz 15 [3] [], pz 31 [4] [], pz 0 [] [0], pz 64 [6] [], pz 192 [7] [], pz 448 [8] [], pz 960 [9] [], pz 2047 [5, 10] [], pz 4095 [11] []] [⟨fun y => ao b6 145 [.int .i64 p.x, .int .i64 p.y, .int .i64 p.dx, .int .i64 p.dy, .int .i64 p.w, .int .i64 p.h], none, none, []⟩, ⟨fun y => ao b5 26 [.int .i64 h.w, .int .i64 h.h, .slice q n c], none, none, []⟩, ⟨fun y => ao bf 90 [.int .i64 h.w, .int .i64 h.h, .int .i64 h.dep, .int .i64 h.ay, .bool h.cC, .slice pp pl.length cp, .slice pt tr.length ct, .slice pd nd cd, .slice pk (aa.bH h tr).length ck], none, none, [4, 10]⟩, ⟨fun y => Row (aW 62 .u16) q n c dG, none, none, []⟩, ⟨fun y => Rk, none, none, []⟩, ⟨fun y => Rb, none, none, []⟩, ⟨fun y => R, none, none, []⟩] F V.mixed ?_
 refine nM ?_
 refine nN ?_
 refine nG V.iH ?_
 refine nG V.ph ?_
 refine nR (fun y FF hA => af V.s3 rfl an rfl) ?_
 refine nE (fun y FF hA => bM (Post := []) (iu h.ay) V.oo rfl .nil (fun v G h => by rcases h with ⟨rfl, rfl⟩; exact ⟨rfl, .refl _⟩)) ?_
 refine nM ?_
 refine nN ?_
 refine nG V.iH ?_
 refine nG V.lD ?_
 refine nR (fun y FF hA => af V.s3 rfl an rfl) ?_
 refine nV (fun y hA L => jQ (r := (aa.parts h.ay * h.dep)) rfl rfl wI) ?_
 refine nA ?_
 refine aX ?_
 intro y hA
 clear hA
 refine bu ?_
 refine cy [(0, .pointer (some ⟨bf, 0, none⟩)), (3, .slice pb (Dt.length - at0) cb), (5, .pointer (some ⟨b5, 0, none⟩)), (6, .pointer (some ⟨b6, 0, none⟩)), (10, .int .i64 (aa.parts h.ay * h.dep))] (.cons (d := 0) rfl (.cons (d := 3) rfl (.cons (d := 5) rfl (.cons (d := 6) rfl (.cons (d := 10) rfl (.nil _)))))) ?_
 refine bR (M := ao b6 145 [.int .i64 p.x, .int .i64 p.y, .int .i64 p.dx, .int .i64 p.dy, .int .i64 p.w, .int .i64 p.h] :: ao b5 26 [.int .i64 h.w, .int .i64 h.h, .slice q n c] :: ao bf 90 [.int .i64 h.w, .int .i64 h.h, .int .i64 h.dep, .int .i64 h.ay, .bool h.cC, .slice pp pl.length cp, .slice pt tr.length ct, .slice pd nd cd, .slice pk (aa.bH h tr).length ck] :: Row (aW 62 .u16) q n c dG :: Rk :: Rb :: R :: F) (fun _ _ h => h) ?_
 refine rC dg 3 rfl ?_
 refine oV (af V.s3 rfl an rfl) ?_
 refine oV (aG rfl) ?_
 refine ai (Fz p.w (aa.parts h.ay * h.dep) ⟨hw0, hw1⟩ ⟨by omega, by omega⟩) V.Ko  rfl .nil rfl ?_
 rintro _ _ ⟨rfl, rfl⟩
 rw [← hnr]
 refine oV (aG rfl) ?_
 refine oV (fZ rfl rfl (by omega) (jO (by omega) (by omega) (by omega))) ?_
 refine oV (cN (v := .int .i64 (back : Int)) (zT rfl rfl) (congrArg (Value.int .i64) ((aa.Kf _).trans hback.symm))) ?_
 refine rO dg 13 rfl ?_
 refine oV (af V.s3 rfl an rfl) ?_
 refine rO dg 4 rfl ?_
 refine hH (Row U5 none 0 0 []) (Row.nil _ _ _) ?_
 refine iq (fun (yv : Nat) (s : Fj) => [(0, .pointer (some ⟨bf, 0, none⟩)), (3, .slice s.pz (Dt.length - s.a) s.cz), (5, .pointer (some ⟨b5, 0, none⟩)), (6, .pointer (some ⟨b6, 0, none⟩)), (11, .int .i64 (nr : Int)), (12, .int .i64 (back : Int)), (13, .slice s.pa s.na s.ca), (37, .int .i64 p.h), (38, .int .i64 (yv : Int))]) (fun (yv : Nat) (s : Fj) => Rb :: Row U5 s.pa s.na s.ca s.A :: ao b5 26 [.int .i64 h.w, .int .i64 h.h, .slice q n c] :: ao b6 145 [.int .i64 p.x, .int .i64 p.y, .int .i64 p.dx, .int .i64 p.dy, .int .i64 p.w, .int .i64 p.h] :: ao bf 90 [.int .i64 h.w, .int .i64 h.h, .int .i64 h.dep, .int .i64 h.ay, .bool h.cC, .slice pp pl.length cp, .slice pt tr.length ct, .slice pd nd cd, .slice pk (aa.bH h tr).length ck] :: Row (aW 62 .u16) q n c s.P :: Rk :: R :: F) (fun (yv : Nat) (s : Fj) => (yv : Int) ≤ p.h ∧ s.a = at0 + yv * (1 + nr) ∧ s.P.length = n ∧ s.A.length = s.na ∧ (s.na = 0 ∨ s.na = nr) ∧ ak.az s.A ∧ (∀ w0 h, Rb w0 h → aS U5 s.pz (Dt.length - s.a) (Dt.drop s.a) w0 h) ∧ Dt.length - s.a ≤ s.cz ∧ aa.fz ⟨h, pl, tr⟩ Dt nr back p (p.h.toNat - yv) yv s.a s.A s.P = RES) (fun (yv : Nat) (s : Fj) => p.h.toNat - yv) (i2 (0) (⟨at0, pb, cb, none, 0, 0, [], dG⟩) ?_ (eN (dk ln)) (sub (.cons om (aw (.cons aE (.cons dX (.cons dX (.cons dX (.cons dX (.cons dX .nil)))))))) au)) ?_
 ·exact ⟨by omega, by simp, hpx0, rfl, .inl rfl, aa.jx, hRb, hcb, hRES.symm⟩
 intro yv s
 rintro ⟨hy, ha, hPl, hAl, hAn, hAB, hz, hcz, hres⟩
 refine rL dg 6 rfl ?_
 refine aP rfl (fun h39 => ?_) (fun h39 => ?_)
 ·refine rC dg 10 rfl ?_
  rcases (aa.NU ⟨h, pl, tr⟩ Dt nr back p yv s.a s.A s.P) with hk4 | ⟨hk4, hr⟩ | ⟨hk4, P2, hr⟩
  ·refine rC dg 1 rfl ?_
   have hyh : (yv : Int) < p.h := by omega
   have hya : (yv + 1) * (1 + nr) ≤ p.h.toNat * (1 + nr) := Nat.mul_le_mul_right _ (by omega)
   rw [Nat.add_mul, Nat.one_mul] at hya
   have hKD : U5.g (Dt.drop s.a) 0 = (Dt.getD s.a 0) := aa.fc Dt s.a 0
   have hKB : 0 ≤ U5.g (Dt.drop s.a) 0 ∧ U5.g (Dt.drop s.a) 0 < 256 := hKD ▸ hDB.get _
   have hdl : (Dt.drop s.a).length = Dt.length - s.a := List.length_drop
   have hL1l : ((Dt.drop (s.a + 1)).take nr).length = nr := by rw [List.length_take, List.length_drop]; omega
   have hUl : (aa.gw (Dt.getD s.a 0) ((Dt.drop (s.a + 1)).take nr) s.A back).length = nr := (aa.uv ..).trans hL1l
   have hS1 : ∀ w0 h, Rb w0 h → aS U5 (eo s.pz 1 s.cz 1) nr ((Dt.drop (s.a + 1)).take nr) w0 h := fun w0 h hh => by have := lY (cap := 0) (gW (c := U5) hz hdl 1 s.cz (by omega) hcz) nr (by omega) w0 h hh; rwa [List.drop_drop] at this
   refine wN [pz 0 [] [3], pz 1 [0] [], pz 3 [1] [], pz 7 [2] [], pz 0 [] [3], pz 0 [] [11], pz 32 [5] [], pz 112 [4, 6] [], pz 0 [] [13], pz 0 [] [12], pz 1023 [3, 7, 8, 9] [], pz 2047 [10] [], pz 4095 [11] [], pz 4095 [11] [], pz 8191 [12] [], pz 32767 [13] []] [⟨fun y => Rb, none, none, [1, 2, 10]⟩, ⟨fun y => Row U5 s.pa s.na s.ca s.A, none, none, [10]⟩, ⟨fun y => ao b5 26 [.int .i64 h.w, .int .i64 h.h, .slice q n c], none, none, []⟩, ⟨fun y => ao b6 145 [.int .i64 p.x, .int .i64 p.y, .int .i64 p.dx, .int .i64 p.dy, .int .i64 p.w, .int .i64 p.h], none, none, []⟩, ⟨fun y => ao bf 90 [.int .i64 h.w, .int .i64 h.h, .int .i64 h.dep, .int .i64 h.ay, .bool h.cC, .slice pp pl.length cp, .slice pt tr.length ct, .slice pd nd cd, .slice pk (aa.bH h tr).length ck], none, none, []⟩, ⟨fun y => Row (aW 62 .u16) q n c s.P, none, none, []⟩, ⟨fun y => Rk, none, none, []⟩, ⟨fun y => R, none, none, []⟩] F V.mixed ?_
   refine nM ?_
   refine nR (fun y FF hA => xI V.bP (by exact aY hz an)) ?_
   refine nR (fun y FF hA => xL V.s5 (by exact aY hz an)) ?_
   refine nV (fun y hA L => cN (v := .int .i64 (Dt.getD s.a 0)) (bE V.u5 Tryz.underlying3 rfl (aa.sS hKB)) (congrArg (Value.int .i64) hKD)) ?_
   iterate 2 refine nM ?_
   refine nV (fun y hA L => cN (v := .int .i64 ((nr + 1 : Nat) : Int)) (dz (r := 1 + (nr : Int)) rfl rfl wI) (congrArg (Value.int .i64) (by omega))) ?_
   refine nV (fun y hA L => dW 1 (nr + 1) s.cz V.bP rfl ⟨_, rfl⟩ ⟨_, rfl⟩ rfl (by omega) (by omega) (by omega)) ?_
   iterate 2 refine nM ?_
   refine nE (fun y FF hA => bM (Post := [Rb, Row U5 s.pa s.na s.ca s.A]) (Hh (Dt.getD s.a 0) (eo s.pz 1 s.cz 1) (s.cz - 1) nr ((Dt.drop (s.a + 1)).take nr) Rb hS1 hL1l (aa.fN (aa.ej hDB _) _) s.pa s.ca s.na s.A (Row U5 s.pa s.na s.ca s.A) (fun _ _ hh => hh.rd) hAl hAB back hbk (by omega) (hDB.get _).1 (by omega) hk4) V.D4 rfl (bp .nil) (fun v G h => by rcases h with ⟨rfl, rfl⟩; exact ⟨rfl, .refl _⟩)) ?_
   refine nM ?_
   iterate 2 refine nV (fun y hA L => eE rfl rfl) ?_
   iterate 2 refine nA ?_
   refine aX ?_
   intro y hA
   clear hA
   refine bu ?_
   refine cy [(0, .pointer (some ⟨bf, 0, none⟩)), (3, .slice s.pz (Dt.length - s.a) s.cz), (5, .pointer (some ⟨b5, 0, none⟩)), (6, .pointer (some ⟨b6, 0, none⟩)), (11, .int .i64 (nr : Int)), (12, .int .i64 (back : Int)), (14, .int .i64 (yv : Int)), (15, .slice none 0 0), (16, .bool false), (37, .int .i64 p.h), (38, .int .i64 (yv : Int))] (.cons (d := 0) rfl (.cons (d := 3) rfl (.cons (d := 5) rfl (.cons (d := 6) rfl (.cons (d := 11) rfl (.cons (d := 12) rfl (.cons (d := 14) rfl (.cons (d := 15) rfl (.cons (d := 16) rfl (.cons (d := 37) rfl (.cons (d := 38) rfl (.nil _)))))))))))) ?_
   refine bR (M := Rb :: Row U5 s.pa s.na s.ca s.A :: ao b5 26 [.int .i64 h.w, .int .i64 h.h, .slice q n c] :: ao b6 145 [.int .i64 p.x, .int .i64 p.y, .int .i64 p.dx, .int .i64 p.dy, .int .i64 p.w, .int .i64 p.h] :: ao bf 90 [.int .i64 h.w, .int .i64 h.h, .int .i64 h.dep, .int .i64 h.ay, .bool h.cC, .slice pp pl.length cp, .slice pt tr.length ct, .slice pd nd cd, .slice pk (aa.bH h tr).length ck] :: Row (aW 62 .u16) q n c s.P :: Rk :: R :: F) (fun _ _ h => h) ?_
   refine bR (sub .nil (.keep (.skip (.keep (.keep (.keep (.keep (.keep (.keep .refl))))))))) ?_
   simp only [List.nil_append]
   refine rC dg 30 rfl ?_
   (exact aj (G := [ao bf 90 [.int .i64 h.w, .int .i64 h.h, .int .i64 h.dep, .int .i64 h.ay, .bool h.cC, .slice pp pl.length cp, .slice pt tr.length ct, .slice pd nd cd, .slice pk (aa.bH h tr).length ck], Row (aW 62 .u16) q n c s.P, Rk, Rb, R]) (fH rfl rfl) (.inl ⟨aa.Ic hyh hk4 hres, rfl, s.P, hPl, rfl⟩) (sub (.cons eg (.cons eg (.cons eg (aw (.cons bK .nil))))) fS))
  ·refine rC dg 1 rfl ?_
   have hyh : (yv : Int) < p.h := by omega
   have hya : (yv + 1) * (1 + nr) ≤ p.h.toNat * (1 + nr) := Nat.mul_le_mul_right _ (by omega)
   rw [Nat.add_mul, Nat.one_mul] at hya
   have hKD : U5.g (Dt.drop s.a) 0 = (Dt.getD s.a 0) := aa.fc Dt s.a 0
   have hKB : 0 ≤ U5.g (Dt.drop s.a) 0 ∧ U5.g (Dt.drop s.a) 0 < 256 := hKD ▸ hDB.get _
   have hdl : (Dt.drop s.a).length = Dt.length - s.a := List.length_drop
   have hL1l : ((Dt.drop (s.a + 1)).take nr).length = nr := by rw [List.length_take, List.length_drop]; omega
   have hUl : (aa.gw (Dt.getD s.a 0) ((Dt.drop (s.a + 1)).take nr) s.A back).length = nr := (aa.uv ..).trans hL1l
   have hS1 : ∀ w0 h, Rb w0 h → aS U5 (eo s.pz 1 s.cz 1) nr ((Dt.drop (s.a + 1)).take nr) w0 h := fun w0 h hh => by have := lY (cap := 0) (gW (c := U5) hz hdl 1 s.cz (by omega) hcz) nr (by omega) w0 h hh; rwa [List.drop_drop] at this
   refine kW [pz 0 [] [3], pz 1 [0] [], pz 3 [1] [], pz 7 [2] [], pz 0 [] [3], pz 0 [] [11], pz 32 [5] [], pz 112 [4, 6] [], pz 0 [] [13], pz 0 [] [12], pz 1023 [3, 7, 8, 9] [], pz 2047 [10] [], pz 4095 [11] [], pz 4095 [11] [], pz 8191 [12] [], pz 32767 [13] []] [⟨fun y => Rb, none, none, [1, 2, 10]⟩, ⟨fun y => Row U5 s.pa s.na s.ca s.A, none, none, [10]⟩, ⟨fun y => ao b5 26 [.int .i64 h.w, .int .i64 h.h, .slice q n c], none, none, []⟩, ⟨fun y => ao b6 145 [.int .i64 p.x, .int .i64 p.y, .int .i64 p.dx, .int .i64 p.dy, .int .i64 p.w, .int .i64 p.h], none, none, []⟩, ⟨fun y => ao bf 90 [.int .i64 h.w, .int .i64 h.h, .int .i64 h.dep, .int .i64 h.ay, .bool h.cC, .slice pp pl.length cp, .slice pt tr.length ct, .slice pd nd cd, .slice pk (aa.bH h tr).length ck], none, none, []⟩, ⟨fun y => Row (aW 62 .u16) q n c s.P, none, none, []⟩, ⟨fun y => Rk, none, none, []⟩, ⟨fun y => R, none, none, []⟩, ⟨fun y => Row U5 (jI (y 10)).1 nr (jI (y 10)).2 (aa.gw (Dt.getD s.a 0) ((Dt.drop (s.a + 1)).take nr) s.A back), some 10, none, []⟩] F V.mixed (by kernel_rfl) rfl (fun _ => .refl _) (cg _ (cg _ (cg _ (cg _ (cg _ (cg _ (cg _ (cg _ (eh _ rfl (by intro y y2 h; simp only [h 10 (.inl rfl)]) gX))))))))) ?_
   refine nM ?_
   refine nR (fun y FF hA => xI V.bP (by exact aY hz an)) ?_
   refine nR (fun y FF hA => xL V.s5 (by exact aY hz an)) ?_
   refine nV (fun y hA L => cN (v := .int .i64 (Dt.getD s.a 0)) (bE V.u5 Tryz.underlying3 rfl (aa.sS hKB)) (congrArg (Value.int .i64) hKD)) ?_
   iterate 2 refine nM ?_
   refine nV (fun y hA L => cN (v := .int .i64 ((nr + 1 : Nat) : Int)) (dz (r := 1 + (nr : Int)) rfl rfl wI) (congrArg (Value.int .i64) (by omega))) ?_
   refine nV (fun y hA L => dW 1 (nr + 1) s.cz V.bP rfl ⟨_, rfl⟩ ⟨_, rfl⟩ rfl (by omega) (by omega) (by omega)) ?_
   iterate 2 refine nM ?_
   refine gD (fun y v => .tuple #[.slice (jI v).1 nr (jI v).2, .bool true]) (fun y v => True) _ _ (fun y v => [Row U5 (jI v).1 nr (jI v).2 (aa.gw (Dt.getD s.a 0) ((Dt.drop (s.a + 1)).take nr) s.A back)]) _ (fun y => rfl) (fun y => rfl) (fun y => rfl) (fun y => rfl) (fun y FF hA => sB (α := Option Addr × Nat) (fun a => .tuple #[.slice a.1 nr a.2, .bool true]) jI (fun a => [Row U5 a.1 nr a.2 (aa.gw (Dt.getD s.a 0) ((Dt.drop (s.a + 1)).take nr) s.A back), Rb, Row U5 s.pa s.na s.ca s.A]) (yo (Dt.getD s.a 0) (eo s.pz 1 s.cz 1) (s.cz - 1) nr ((Dt.drop (s.a + 1)).take nr) Rb hS1 hL1l (aa.fN (aa.ej hDB _) _) s.pa s.ca s.na s.A (Row U5 s.pa s.na s.ca s.A) (fun _ _ hh => hh.rd) hAl hAB back hbk (by omega) (hDB.get _).1 (by omega) hk4) (fun a => rfl) V.D4 rfl (bp .nil)) (by intros; rfl) (by intros; rfl) (by intros; rfl) (by intro y y2 h; simp only [h 10 (.inl rfl)]) (by intro y y2 h; rfl) ?_
   refine bU _ (fun y => rfl) rfl rfl rfl (fun y hA L => dp (aG rfl) ⟨rfl, rfl⟩) (by intros; rfl) (by intro y y2 h; simp only [h 10 (.inr (by decide))]) ?_
   refine bU _ (fun y => rfl) rfl rfl rfl (fun y hA L => dp (eE rfl rfl) ⟨rfl, rfl⟩) (by intros; rfl) (by intro y y2 h; simp only [h 10 (.inr (by decide))]) ?_
   refine nV (fun y hA L => eE rfl rfl) ?_
   refine bU _ (fun y => rfl) rfl rfl rfl (fun y hA L => dp (ed rfl) ⟨rfl, rfl⟩) (by intros; rfl) (by intro y y2 h; simp only [h 10 (.inr (by decide))]) ?_
   refine nA ?_
   refine aX ?_
   intro y hA
   clear hA
   refine bu ?_
   refine cy [(0, .pointer (some ⟨bf, 0, none⟩)), (3, .slice s.pz (Dt.length - s.a) s.cz), (5, .pointer (some ⟨b5, 0, none⟩)), (6, .pointer (some ⟨b6, 0, none⟩)), (11, .int .i64 (nr : Int)), (12, .int .i64 (back : Int)), (14, .int .i64 (yv : Int)), (15, .slice (jI (y 10)).1 nr (jI (y 10)).2), (16, .bool true), (37, .int .i64 p.h), (38, .int .i64 (yv : Int))] (.cons (d := 0) rfl (.cons (d := 3) rfl (.cons (d := 5) rfl (.cons (d := 6) rfl (.cons (d := 11) rfl (.cons (d := 12) rfl (.cons (d := 14) rfl (.cons (d := 15) rfl (.cons (d := 16) rfl (.cons (d := 37) rfl (.cons (d := 38) rfl (.nil _)))))))))))) ?_
   refine bR (M := Rb :: Row U5 s.pa s.na s.ca s.A :: ao b5 26 [.int .i64 h.w, .int .i64 h.h, .slice q n c] :: ao b6 145 [.int .i64 p.x, .int .i64 p.y, .int .i64 p.dx, .int .i64 p.dy, .int .i64 p.w, .int .i64 p.h] :: ao bf 90 [.int .i64 h.w, .int .i64 h.h, .int .i64 h.dep, .int .i64 h.ay, .bool h.cC, .slice pp pl.length cp, .slice pt tr.length ct, .slice pd nd cd, .slice pk (aa.bH h tr).length ck] :: Row (aW 62 .u16) q n c s.P :: Rk :: R :: Row U5 (jI (y 10)).1 nr (jI (y 10)).2 (aa.gw (Dt.getD s.a 0) ((Dt.drop (s.a + 1)).take nr) s.A back) :: F) (fun _ _ h => h) ?_
   refine bR (sub .nil (.keep (.skip (.keep (.keep (.keep (.keep (.keep (.keep (.keep .refl)))))))))) ?_
   simp only [List.nil_append]
   generalize (jI (y 10)).1 = q15
   generalize (jI (y 10)).2 = c15
   refine rC dg 7 rfl ?_
   refine ae rfl ?_
   refine oV (bX V.eX rfl bY (vs := [_, _, _]) rfl rfl) ?_
   refine ae rfl ?_
   refine oV (bX V.a145 rfl cx (vs := [_, _, _, _, _, _]) rfl rfl) ?_
   refine rO dg 2 rfl ?_
   refine ae rfl ?_
   refine ai (Js h bf pp pl cp pt tr ct pd nd cd pk ck R hP hT hcp hB hBt hpl htl Rk hRk hf hs q n c hn hcap s.P hPl p hp yv hyh q15 c15 (aa.gw (Dt.getD s.a 0) ((Dt.drop (s.a + 1)).take nr) s.A back) (by rw [hUl]; omega) (aa.uu ..) (Row U5 q15 nr c15 (aa.gw (Dt.getD s.a 0) ((Dt.drop (s.a + 1)).take nr) s.A back)) (fun _ _ hh => by rw [hUl]; exact hh.rd) (by rw [hUl]; exact aa.wA (by omega) (by omega) hnr) nr hUl hr) V.I7  rfl (.cons eg (.cons eg (.cons eg (.cons jH (.cons eg .nil))))) rfl ?_
   rintro _ _ ⟨rfl, P2, hP2, rfl⟩
   refine rO dg 18 rfl ?_
   (exact aj (G := [ao bf 90 [.int .i64 h.w, .int .i64 h.h, .int .i64 h.dep, .int .i64 h.ay, .bool h.cC, .slice pp pl.length cp, .slice pt tr.length ct, .slice pd nd cd, .slice pk (aa.bH h tr).length ck], Row (aW 62 .u16) q n c P2, Rk, Rb, R]) (fH rfl rfl) (.inl ⟨aa.GC hyh hk4 hr hres, rfl, P2, hP2, rfl⟩) (sub (im (.cons bK (.cons aE .nil))) n4))
  ·refine rC dg 1 rfl ?_
   have hyh : (yv : Int) < p.h := by omega
   have hya : (yv + 1) * (1 + nr) ≤ p.h.toNat * (1 + nr) := Nat.mul_le_mul_right _ (by omega)
   rw [Nat.add_mul, Nat.one_mul] at hya
   have hKD : U5.g (Dt.drop s.a) 0 = (Dt.getD s.a 0) := aa.fc Dt s.a 0
   have hKB : 0 ≤ U5.g (Dt.drop s.a) 0 ∧ U5.g (Dt.drop s.a) 0 < 256 := hKD ▸ hDB.get _
   have hdl : (Dt.drop s.a).length = Dt.length - s.a := List.length_drop
   have hL1l : ((Dt.drop (s.a + 1)).take nr).length = nr := by rw [List.length_take, List.length_drop]; omega
   have hUl : (aa.gw (Dt.getD s.a 0) ((Dt.drop (s.a + 1)).take nr) s.A back).length = nr := (aa.uv ..).trans hL1l
   have hS1 : ∀ w0 h, Rb w0 h → aS U5 (eo s.pz 1 s.cz 1) nr ((Dt.drop (s.a + 1)).take nr) w0 h := fun w0 h hh => by have := lY (cap := 0) (gW (c := U5) hz hdl 1 s.cz (by omega) hcz) nr (by omega) w0 h hh; rwa [List.drop_drop] at this
   refine kW [pz 0 [] [3], pz 1 [0] [], pz 3 [1] [], pz 7 [2] [], pz 0 [] [3], pz 0 [] [11], pz 32 [5] [], pz 112 [4, 6] [], pz 0 [] [13], pz 0 [] [12], pz 1023 [3, 7, 8, 9] [], pz 2047 [10] [], pz 4095 [11] [], pz 4095 [11] [], pz 8191 [12] [], pz 32767 [13] []] [⟨fun y => Rb, none, none, [1, 2, 10]⟩, ⟨fun y => Row U5 s.pa s.na s.ca s.A, none, none, [10]⟩, ⟨fun y => ao b5 26 [.int .i64 h.w, .int .i64 h.h, .slice q n c], none, none, []⟩, ⟨fun y => ao b6 145 [.int .i64 p.x, .int .i64 p.y, .int .i64 p.dx, .int .i64 p.dy, .int .i64 p.w, .int .i64 p.h], none, none, []⟩, ⟨fun y => ao bf 90 [.int .i64 h.w, .int .i64 h.h, .int .i64 h.dep, .int .i64 h.ay, .bool h.cC, .slice pp pl.length cp, .slice pt tr.length ct, .slice pd nd cd, .slice pk (aa.bH h tr).length ck], none, none, []⟩, ⟨fun y => Row (aW 62 .u16) q n c s.P, none, none, []⟩, ⟨fun y => Rk, none, none, []⟩, ⟨fun y => R, none, none, []⟩, ⟨fun y => Row U5 (jI (y 10)).1 nr (jI (y 10)).2 (aa.gw (Dt.getD s.a 0) ((Dt.drop (s.a + 1)).take nr) s.A back), some 10, none, []⟩] F V.mixed (by kernel_rfl) rfl (fun _ => .refl _) (cg _ (cg _ (cg _ (cg _ (cg _ (cg _ (cg _ (cg _ (eh _ rfl (by intro y y2 h; simp only [h 10 (.inl rfl)]) gX))))))))) ?_
   refine nM ?_
   refine nR (fun y FF hA => xI V.bP (by exact aY hz an)) ?_
   refine nR (fun y FF hA => xL V.s5 (by exact aY hz an)) ?_
   refine nV (fun y hA L => cN (v := .int .i64 (Dt.getD s.a 0)) (bE V.u5 Tryz.underlying3 rfl (aa.sS hKB)) (congrArg (Value.int .i64) hKD)) ?_
   iterate 2 refine nM ?_
   refine nV (fun y hA L => cN (v := .int .i64 ((nr + 1 : Nat) : Int)) (dz (r := 1 + (nr : Int)) rfl rfl wI) (congrArg (Value.int .i64) (by omega))) ?_
   refine nV (fun y hA L => dW 1 (nr + 1) s.cz V.bP rfl ⟨_, rfl⟩ ⟨_, rfl⟩ rfl (by omega) (by omega) (by omega)) ?_
   iterate 2 refine nM ?_
   refine gD (fun y v => .tuple #[.slice (jI v).1 nr (jI v).2, .bool true]) (fun y v => True) _ _ (fun y v => [Row U5 (jI v).1 nr (jI v).2 (aa.gw (Dt.getD s.a 0) ((Dt.drop (s.a + 1)).take nr) s.A back)]) _ (fun y => rfl) (fun y => rfl) (fun y => rfl) (fun y => rfl) (fun y FF hA => sB (α := Option Addr × Nat) (fun a => .tuple #[.slice a.1 nr a.2, .bool true]) jI (fun a => [Row U5 a.1 nr a.2 (aa.gw (Dt.getD s.a 0) ((Dt.drop (s.a + 1)).take nr) s.A back), Rb, Row U5 s.pa s.na s.ca s.A]) (yo (Dt.getD s.a 0) (eo s.pz 1 s.cz 1) (s.cz - 1) nr ((Dt.drop (s.a + 1)).take nr) Rb hS1 hL1l (aa.fN (aa.ej hDB _) _) s.pa s.ca s.na s.A (Row U5 s.pa s.na s.ca s.A) (fun _ _ hh => hh.rd) hAl hAB back hbk (by omega) (hDB.get _).1 (by omega) hk4) (fun a => rfl) V.D4 rfl (bp .nil)) (by intros; rfl) (by intros; rfl) (by intros; rfl) (by intro y y2 h; simp only [h 10 (.inl rfl)]) (by intro y y2 h; rfl) ?_
   refine bU _ (fun y => rfl) rfl rfl rfl (fun y hA L => dp (aG rfl) ⟨rfl, rfl⟩) (by intros; rfl) (by intro y y2 h; simp only [h 10 (.inr (by decide))]) ?_
   refine bU _ (fun y => rfl) rfl rfl rfl (fun y hA L => dp (eE rfl rfl) ⟨rfl, rfl⟩) (by intros; rfl) (by intro y y2 h; simp only [h 10 (.inr (by decide))]) ?_
   refine nV (fun y hA L => eE rfl rfl) ?_
   refine bU _ (fun y => rfl) rfl rfl rfl (fun y hA L => dp (ed rfl) ⟨rfl, rfl⟩) (by intros; rfl) (by intro y y2 h; simp only [h 10 (.inr (by decide))]) ?_
   refine nA ?_
   refine aX ?_
   intro y hA
   clear hA
   refine bu ?_
   refine cy [(0, .pointer (some ⟨bf, 0, none⟩)), (3, .slice s.pz (Dt.length - s.a) s.cz), (5, .pointer (some ⟨b5, 0, none⟩)), (6, .pointer (some ⟨b6, 0, none⟩)), (11, .int .i64 (nr : Int)), (12, .int .i64 (back : Int)), (14, .int .i64 (yv : Int)), (15, .slice (jI (y 10)).1 nr (jI (y 10)).2), (16, .bool true), (37, .int .i64 p.h), (38, .int .i64 (yv : Int))] (.cons (d := 0) rfl (.cons (d := 3) rfl (.cons (d := 5) rfl (.cons (d := 6) rfl (.cons (d := 11) rfl (.cons (d := 12) rfl (.cons (d := 14) rfl (.cons (d := 15) rfl (.cons (d := 16) rfl (.cons (d := 37) rfl (.cons (d := 38) rfl (.nil _)))))))))))) ?_
   refine bR (M := Rb :: Row U5 s.pa s.na s.ca s.A :: ao b5 26 [.int .i64 h.w, .int .i64 h.h, .slice q n c] :: ao b6 145 [.int .i64 p.x, .int .i64 p.y, .int .i64 p.dx, .int .i64 p.dy, .int .i64 p.w, .int .i64 p.h] :: ao bf 90 [.int .i64 h.w, .int .i64 h.h, .int .i64 h.dep, .int .i64 h.ay, .bool h.cC, .slice pp pl.length cp, .slice pt tr.length ct, .slice pd nd cd, .slice pk (aa.bH h tr).length ck] :: Row (aW 62 .u16) q n c s.P :: Rk :: R :: Row U5 (jI (y 10)).1 nr (jI (y 10)).2 (aa.gw (Dt.getD s.a 0) ((Dt.drop (s.a + 1)).take nr) s.A back) :: F) (fun _ _ h => h) ?_
   refine bR (sub .nil (.keep (.skip (.keep (.keep (.keep (.keep (.keep (.keep (.keep .refl)))))))))) ?_
   simp only [List.nil_append]
   generalize (jI (y 10)).1 = q15
   generalize (jI (y 10)).2 = c15
   refine rC dg 7 rfl ?_
   refine ae rfl ?_
   refine oV (bX V.eX rfl bY (vs := [_, _, _]) rfl rfl) ?_
   refine ae rfl ?_
   refine oV (bX V.a145 rfl cx (vs := [_, _, _, _, _, _]) rfl rfl) ?_
   refine rO dg 2 rfl ?_
   refine ae rfl ?_
   refine ai (LA h bf pp pl cp pt tr ct pd nd cd pk ck R hP hT hcp hB hBt hpl htl Rk hRk hf hs q n c hn hcap s.P hPl p hp yv hyh q15 c15 (aa.gw (Dt.getD s.a 0) ((Dt.drop (s.a + 1)).take nr) s.A back) (by rw [hUl]; omega) (aa.uu ..) (Row U5 q15 nr c15 (aa.gw (Dt.getD s.a 0) ((Dt.drop (s.a + 1)).take nr) s.A back)) (fun _ _ hh => by rw [hUl]; exact hh.rd) (by rw [hUl]; exact aa.wA (by omega) (by omega) hnr) nr hUl P2 hr) V.I7  rfl (.cons eg (.cons eg (.cons eg (.cons jH (.cons eg .nil))))) rfl ?_
   rintro _ _ ⟨hP2, rfl, rfl⟩
   refine rO dg 7 rfl ?_
   refine oB V.mixed (by kernel_rfl) ?_
   refine rR dg 3 rfl ?_
   refine oR (cN (v := .int .i64 ((nr + 1 : Nat) : Int)) (dz (r := 1 + (nr : Int)) rfl rfl wI) (congrArg (Value.int .i64) (by omega))) ?_
   refine oR (dW (nr + 1) (Dt.length - s.a) s.cz V.bP rfl ⟨_, rfl⟩ ⟨rfl, rfl⟩ rfl (by omega) (by omega) (by omega)) ?_
   refine rR dg 2 rfl ?_
   refine Rg.cH ?_
   refine Ll dg 6 rfl (by omega) ?_
   rw [show Dt.length - s.a - (nr + 1) = Dt.length - (s.a + 1 + nr) from by omega]
   exact j2 (yv + 1) ⟨s.a + 1 + nr, eo s.pz (nr + 1) s.cz 1, s.cz - (nr + 1), q15, nr, c15, (aa.gw (Dt.getD s.a 0) ((Dt.drop (s.a + 1)).take nr) s.A back), P2⟩ ⟨⟨by omega, by show s.a + 1 + nr = _; rw [Nat.add_mul, Nat.one_mul]; omega, hP2, hUl, .inr rfl, aa.uu .., (fun w0 h hh => by have := gW (c := U5) hz hdl (nr + 1) s.cz (by omega) hcz w0 h hh; rw [List.drop_drop] at this; rwa [show Dt.length - s.a - (nr + 1) = Dt.length - (s.a + 1 + nr) by omega, show s.a + (nr + 1) = s.a + 1 + nr by omega] at this), by show Dt.length - (s.a + 1 + nr) ≤ s.cz - (nr + 1); omega, aa.Ij hyh hk4 hr hres⟩, by omega⟩ (eN (dk ln)) (sub (.cons kd (.cons eg (.cons jH (.cons jH (nz .nil))))) au)
 ·refine rC dg 13 rfl ?_
  have hyE : yv = p.h.toNat := by omega
  exact aj (fH rfl rfl) (.inr ⟨s.a, s.P, s.pz, s.cz, aa.Ib (by omega) hres, hPl, by rw [ha, hyE], hz, hcz, rfl, rfl⟩) (sub (.cons jH (.cons jH (.cons jH (aw (.cons eg .nil))))) n4)
end Go.Proofs.YtmaiakpjgomnpaaGreat
namespace Go.Proofs.YtmaiakpjgomnpaaGreat
open Go.Sl
theorem V.wG : aJ Tryz.prog 17 = true := by kernel_rfl
theorem V.zr : aJ Tryz.prog 37 = true := by kernel_rfl
theorem V.BK : aJ Tryz.prog 38 = true := by kernel_rfl
theorem V.Mj : aJ Tryz.prog 39 = true := by kernel_rfl
theorem V.Kv : aJ Tryz.prog 40 = true := by kernel_rfl
theorem V.Oi : aJ Tryz.prog 41 = true := by kernel_rfl
theorem V.Q4 : aJ Tryz.prog 42 = true := by kernel_rfl
theorem V.Q9 : aJ Tryz.prog 81 = true := by kernel_rfl
theorem V.Qv : aJ Tryz.prog 82 = true := by kernel_rfl
theorem V.Rr : aJ Tryz.prog 83 = true := by kernel_rfl
theorem V.QE : aJ Tryz.prog 84 = true := by kernel_rfl
theorem V.QA : aJ Tryz.prog 85 = true := by kernel_rfl
theorem V.OH : aJ Tryz.prog 86 = true := by kernel_rfl
end Go.Proofs.YtmaiakpjgomnpaaGreat

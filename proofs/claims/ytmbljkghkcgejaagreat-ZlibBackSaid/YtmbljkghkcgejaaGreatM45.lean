/- Walks of functions that the law reaches, and what they lean on; no conditions. -/
import Derived.Test.YtmbljkghkcgejaaGreatM30
import Derived.Test.YtmbljkghkcgejaaGreatSl22
import Derived.KernelRfl
import Derived.Test.YtmbljkghkcgejaaGreatM44
import Derived.Test.YtmbljkghkcgejaaGreatM35
import Derived.Test.YtmbljkghkcgejaaGreatM33
import Derived.Test.YtmbljkghkcgejaaGreatM39
set_option linter.unusedVariables false
set_option linter.unusedSimpArgs false
set_option maxRecDepth 100000
namespace Go.Proofs.YtmbljkghkcgejaaGreat
open Go.Sl 
theorem bo : dJ Tryz.prog ⟨[22, 77], [(106, 0, 0), (106, 1, 1), (106, 2, 2)]⟩ = true := by kernel_rfl
attribute [local irreducible] List.replicate ad.hs ad.x3 ad.kJ ad.gB ad.oa ad.cV ad.du ad.gv
theorem Da (bf bh bn : Nat) (p : Option Addr) (c : Nat) (B : List Int) (R : ae) (hR : ∀ w0 h, R w0 h → bJ U5 p B.length B w0 h) (hB : af.aY B) (hl : B.length ≤ 4194304) (a : Nat) (ha : a + 3 ≤ B.length) : aD Tryz.prog 86 [.pointer (some ⟨bf, 0, none⟩), .int .i64 (a : Int)] [av bf 106 [.slice p B.length c, .slice (some ⟨bh, 0, none⟩) 8192 8192, .slice (some ⟨bn, 0, none⟩) B.length B.length], R] (aK fun v G => v = .int .i64 (ad.hs B a) ∧ G = [av bf 106 [.slice p B.length c, .slice (some ⟨bh, 0, none⟩) 8192 8192, .slice (some ⟨bn, 0, none⟩) B.length B.length], R]) := by
  refine ax [(0, _), (1, _)] Tryz.func86 rfl Tryz.ntmps86 rfl rfl ?_
  intro w0 F
  refine rT bo 6 rfl ?_
  refine lz V.mixed (by kernel_rfl) ?_
  refine rR bo 3 rfl ?_
  refine oR (ag V.eL rfl ak rfl) ?_
  refine oR (aB rfl) ?_
  refine oR (xI V.bH (by exact bd hR bB)) ?_
  refine oR (xL V.s5 (by exact bd hR bB)) ?_
  refine oR (bq V.u5 Tryz.underlying48 rfl (ad.uC (hB.get _) (gE (a) (by omega)))) ?_
  refine oR (eI rfl rfl (by decide) rfl) ?_
  refine rR bo 3 rfl ?_
  refine oR (ag V.eL rfl ak rfl) ?_
  refine mn bo 2 rfl (by omega) ?_
  refine oR (xI V.bH (by exact bd hR bB)) ?_
  refine oR (xL V.s5 (by exact bd hR bB)) ?_
  refine oR (bq V.u5 Tryz.underlying48 rfl (ad.uC (hB.get _) (gE (a + 1) (by omega)))) ?_
  refine oR (eI rfl rfl (by decide) rfl) ?_
  refine oR (jy rfl rfl rfl) ?_
  refine rR bo 3 rfl ?_
  refine oR (ag V.eL rfl ak rfl) ?_
  refine mn bo 2 rfl (by omega) ?_
  refine oR (xI V.bH (by exact bd hR bB)) ?_
  refine oR (xL V.s5 (by exact bd hR bB)) ?_
  refine oR (bq V.u5 Tryz.underlying48 rfl (ad.uC (hB.get _) (gE (a + 2) (by omega)))) ?_
  refine oR (de (v := .int .u32 (ad.x3 (B.getD a 0) (B.getD (a + 1) 0) (B.getD (a + 2) 0))) (jy rfl rfl rfl) (ad.LB _ _ _)) ?_
  refine oR (cE rfl) ?_
  refine Rg.bC ?_
  refine rN bo 4 rfl ?_
  refine oV (vD rfl rfl rfl) ?_
  refine oV (de (v := .int .u32 (ad.hs B a)) (dK rfl rfl (by decide) rfl) (ad.KN _ _)) ?_
  refine oV (bq V.CS Tryz.underlying3 rfl (gQ (by have := ad.rP B a; omega) (by have := ad.rP B a; omega))) ?_
  refine rO bo 4 rfl ?_
  exact an (bu rfl) ⟨rfl, rfl⟩ (sub (aE .nil) ao)
set_option maxHeartbeats 2000000 in
theorem HP (bf bh bn : Nat) (p : Option Addr) (c : Nat) (B : List Int) (R : ae) (hR : ∀ w0 h, R w0 h → bJ U5 p B.length B w0 h) (hB : af.aY B) (hl : B.length ≤ 4194304) (o a : Nat) (ho : o < a) (ha : a < B.length) : aD Tryz.prog 87 [.pointer (some ⟨bf, 0, none⟩), .int .i64 (o : Int), .int .i64 (a : Int)] [av bf 106 [.slice p B.length c, .slice (some ⟨bh, 0, none⟩) 8192 8192, .slice (some ⟨bn, 0, none⟩) B.length B.length], R] (aK fun v G => v = .int .i64 (ad.oF B o a : Int) ∧ G = [av bf 106 [.slice p B.length c, .slice (some ⟨bh, 0, none⟩) 8192 8192, .slice (some ⟨bn, 0, none⟩) B.length B.length], R]) := by
  refine ax [(0, _), (1, _), (2, _)] Tryz.func87 rfl Tryz.ntmps87 rfl rfl ?_
  intro w0 F
  refine rT bo 12 rfl ?_
  refine cx (fun (n : Nat) => [(0, .pointer (some ⟨bf, 0, none⟩)), (1, .int .i64 (o : Int)), (2, .int .i64 (a : Int)), (7, .int .i64 (n : Int))]) (fun (n : Nat) => av bf 106 [.slice p B.length c, .slice (some ⟨bh, 0, none⟩) 8192 8192, .slice (some ⟨bn, 0, none⟩) B.length B.length] :: R :: F) (fun (n : Nat) => n ≤ 258 ∧ ad.oF B o a = ad.kJ B o a (258 - n) n ∧ a + n ≤ B.length) (fun (n : Nat) => 258 - n) (i1 (0) ?_ (dI ln) (sub (aE .nil) ao)) ?_
  ·
    exact ⟨Nat.zero_le _, rfl, by omega⟩
  intro n
  rintro ⟨hn, hk, hr⟩
  refine rL bo 2 rfl ?_
  refine lz V.mixed (by kernel_rfl) ?_
  refine rR bo 3 rfl ?_
  refine Rg.ee 10 rfl (fun h10 => ?_) (fun h10 => ?_)
  ·
    refine mn bo 6 rfl (by omega) ?_
    refine Rg.al rfl ?_
    refine oR (ag V.eL rfl ak rfl) ?_
    refine rR bo 4 rfl ?_
    refine Rg.ee 21 rfl (fun h21 => ?_) (fun h21 => ?_)
    ·
      refine rR bo 3 rfl ?_
      refine Rg.al rfl ?_
      refine oR (ag V.eL rfl ak rfl) ?_
      refine mn bo 3 rfl (by omega) ?_
      refine Rg.al rfl ?_
      refine oR (xI V.bH (by exact bd hR bB)) ?_
      refine Rg.al rfl ?_
      refine oR (xL V.s5 (by exact bd hR bB)) ?_
      refine rR bo 3 rfl ?_
      refine Rg.al rfl ?_
      refine oR (ag V.eL rfl ak rfl) ?_
      refine mn bo 3 rfl (by omega) ?_
      refine Rg.al rfl ?_
      refine oR (xI V.bH (by exact bd hR bB)) ?_
      refine Rg.al rfl ?_
      refine oR (xL V.s5 (by exact bd hR bB)) ?_
      refine rR bo 2 rfl ?_
      refine Rg.bC ?_
      refine bp ?_
      refine aj rfl (fun h41 => ?_) (fun h41 => ?_)
      ·
        refine cy bo 9 rfl (by omega) ?_
        have hc : a + n < B.length ∧ B.getD (o + n) 0 = B.getD (a + n) 0 := ⟨by omega, by rw [← gE (c := U5) (e := (o : Int) + (n : Int)) _ (by omega), ← gE (c := U5) (e := (a : Int) + (n : Int)) _ (by omega)]; assumption⟩
        refine j1 (n + 1) ?_ (dI ln) (sub (aE .nil) ao)
        exact ⟨⟨by omega, hk.trans (ad.Ay (by omega) hc), by omega⟩, by omega⟩
      ·
        refine rC bo 6 rfl ?_
        have hz : ad.oF B o a = n := by
          rw [hk]
          refine ad.pD (by omega) (fun h1 => ?_)
          (rw [← gE (c := U5) (e := (o : Int) + (n : Int)) _ (by omega), ← gE (c := U5) (e := (a : Int) + (n : Int)) _ (by omega)] at h1; exact absurd h1.2.2 (by assumption))
        refine rC bo 6 rfl ?_
        exact an (bu rfl) ⟨by rw [hz], rfl⟩ (sub (aE .nil) ao)
    ·
      refine rR bo 20 rfl ?_
      refine Rg.bC ?_
      refine rN bo 8 rfl ?_
      have hz : ad.oF B o a = n := by
        rw [hk]
        refine ad.pD (by omega) (fun h1 => ?_)
        omega
      refine rC bo 6 rfl ?_
      exact an (bu rfl) ⟨by rw [hz], rfl⟩ (sub (aE .nil) ao)
  ·
    refine rR bo 31 rfl ?_
    refine Rg.bC ?_
    refine rN bo 8 rfl ?_
    have hz : ad.oF B o a = n := by
      rw [hk]
      refine ad.pD (by omega) (fun h1 => ?_)
      omega
    refine rC bo 6 rfl ?_
    exact an (bu rfl) ⟨by rw [hz], rfl⟩ (sub (aE .nil) ao)
theorem LC (bf bh bn : Nat) (p : Option Addr) (c : Nat) (B : List Int) (R : ae) (hR : ∀ w0 h, R w0 h → bJ U5 p B.length B w0 h) (hB : af.aY B) (hl : B.length ≤ 4194304) (f : ad.Fd) (a : Nat) (hf : ad.mG B a f) (ha : a < B.length) : aD Tryz.prog 72 [.pointer (some ⟨bf, 0, none⟩), .int .i64 (a : Int)] [av bf 106 [.slice p B.length c, .slice (some ⟨bh, 0, none⟩) 8192 8192, .slice (some ⟨bn, 0, none⟩) B.length B.length], Row I3 (some ⟨bh, 0, none⟩) 8192 8192 f.hd, Row I3 (some ⟨bn, 0, none⟩) B.length B.length f.nx, R] (aK fun v G => v = .tuple #[] ∧ G = [av bf 106 [.slice p B.length c, .slice (some ⟨bh, 0, none⟩) 8192 8192, .slice (some ⟨bn, 0, none⟩) B.length B.length], Row I3 (some ⟨bh, 0, none⟩) 8192 8192 (ad.oa B f a).hd, Row I3 (some ⟨bn, 0, none⟩) B.length B.length (ad.oa B f a).nx, R]) := by
  refine ax [(0, _), (1, _)] Tryz.func72 rfl Tryz.ntmps72 rfl rfl ?_
  intro w0 F
  have hh := ad.rP B a
  refine rZ bo 8 rfl (by omega) ?_
  refine oV (ag V.eL rfl ak rfl) ?_
  refine rO bo 4 rfl ?_
  refine aj rfl (fun h12 => ?_) (fun h12 => ?_)
  ·
    rw [ad.HT (f := f) (by omega : B.length < a + 3)]
    refine rC bo 2 rfl ?_
    exact an dN ⟨rfl, rfl⟩ (sub (gA .nil) ao)
  ·
    obtain ⟨e1, e2⟩ := ad.FJ (f := f) (by omega : ¬ B.length < a + 3)
    rw [e1, e2]
    refine rC bo 6 rfl ?_
    refine ai (Da bf bh bn p c B R hR hB hl a (by omega)) V.Mb  rfl (au (.cons aS .nil)) rfl ?_
    rintro _ _ ⟨rfl, rfl⟩
    refine rO bo 4 rfl ?_
    refine Ms V.mixed (by kernel_rfl) ?_
    refine rR bo 3 rfl ?_
    refine oR (ag V.fk rfl ak rfl) ?_
    refine rR bo 4 rfl ?_
    refine oR (ag V.fk rfl ak rfl) ?_
    refine oR (aB rfl) ?_
    refine oR (xI V.aF (own dE)) ?_
    refine oR (xL V.s3 (own dE)) ?_
    refine oR (xI V.aF (own fZ)) ?_
    refine Rg.bC ?_
    refine bM (eb (c := (I3)) (_) V.s3 rfl rfl rfl (by exact LQ) (by omega) (by omega) rfl rfl) ?_
    refine rO bo 6 rfl ?_
    refine oV (ag V.fk rfl ak rfl) ?_
    refine rO bo 2 rfl ?_
    refine oV (xI V.aF (own dE)) ?_
    refine bM (eb (c := (I3)) (_) V.s3 rfl rfl rfl (by exact nc) (by omega) (by omega) rfl rfl) ?_
    refine bC ?_
    exact dT dN ⟨rfl, rfl⟩ (sub (au (.cons ar (.cons ar (.cons dg .nil)))) ao)
set_option maxHeartbeats 2000000 in
theorem KG (bf bh bn : Nat) (p : Option Addr) (c : Nat) (B : List Int) (R : ae) (hR : ∀ w0 h, R w0 h → bJ U5 p B.length B w0 h) (hB : af.aY B) (hl : B.length ≤ 4194304) (f : ad.Fd) (a : Nat) (hf : ad.mG B a f) (ha : a < B.length) : aD Tryz.prog 71 [.pointer (some ⟨bf, 0, none⟩), .int .i64 (a : Int)] [av bf 106 [.slice p B.length c, .slice (some ⟨bh, 0, none⟩) 8192 8192, .slice (some ⟨bn, 0, none⟩) B.length B.length], Row I3 (some ⟨bh, 0, none⟩) 8192 8192 f.hd, Row I3 (some ⟨bn, 0, none⟩) B.length B.length f.nx, R] (aK fun v G => v = .tuple #[.int .i64 (ad.cV B f a).1, .int .i64 (ad.cV B f a).2] ∧ G = [av bf 106 [.slice p B.length c, .slice (some ⟨bh, 0, none⟩) 8192 8192, .slice (some ⟨bn, 0, none⟩) B.length B.length], Row I3 (some ⟨bh, 0, none⟩) 8192 8192 f.hd, Row I3 (some ⟨bn, 0, none⟩) B.length B.length f.nx, R]) := by
  refine ax [(0, _), (1, _)] Tryz.func71 rfl Tryz.ntmps71 rfl rfl ?_
  intro w0 F
  have hh := ad.rP B a
  refine rZ bo 14 rfl (by omega) ?_
  refine oV (ag V.eL rfl ak rfl) ?_
  refine rO bo 4 rfl ?_
  refine aj rfl (fun h17 => ?_) (fun h17 => ?_)
  ·
    refine rC bo 8 rfl ?_
    have e : ad.cV B f a = (0, 0) := by exact ad.Hm (by omega)
    rw [e]
    exact an (bT rfl rfl) ⟨rfl, rfl⟩ (sub (gA .nil) ao)
  ·
    refine rC bo 9 rfl ?_
    refine wN [pz 0 [] [0], pz 1 [0] [], pz 3 [1] [], pz 7 [2] [], pz 0 [] [0], pz 0 [] [1], pz 48 [4, 5] [], pz 127 [3, 6] [], pz 255 [7] [], pz 511 [8] []] [⟨fun y => av bf 106 [.slice p B.length c, .slice (some ⟨bh, 0, none⟩) 8192 8192, .slice (some ⟨bn, 0, none⟩) B.length B.length], none, none, [3, 6]⟩, ⟨fun y => Row I3 (some ⟨bh, 0, none⟩) 8192 8192 f.hd, none, none, [7, 8]⟩, ⟨fun y => Row I3 (some ⟨bn, 0, none⟩) B.length B.length f.nx, none, none, []⟩, ⟨fun y => R, none, none, [6]⟩] F V.mixed ?_
    refine nM ?_
    refine nN ?_
    refine nG V.IZ ?_
    refine nR (fun y FF hA => ag V.fk rfl ak rfl) ?_
    iterate 2 refine nM ?_
    refine nE (fun y FF hA => dx (Post := [av bf 106 [.slice p B.length c, .slice (some ⟨bh, 0, none⟩) 8192 8192, .slice (some ⟨bn, 0, none⟩) B.length B.length], R]) (Da bf bh bn p c B R hR hB hl a (by omega)) V.Mb rfl (aE .nil) (fun v G h => by rcases h with ⟨rfl, rfl⟩; exact ⟨rfl, .refl _⟩)) ?_
    refine nR (fun y FF hA => xI V.aF (own ak)) ?_
    refine nR (fun y FF hA => xL V.s3 (own ak)) ?_
    refine nA ?_
    refine aM ?_
    intro y hA
    clear hA
    refine bp ?_
    refine bW _ (.cons (d := 0) rfl (.cons (d := 1) rfl (.cons (d := 6) rfl (.cons (d := 7) rfl (.cons (d := 8) rfl (.nil _)))))) ?_
    refine bR (M := av bf 106 [.slice p B.length c, .slice (some ⟨bh, 0, none⟩) 8192 8192, .slice (some ⟨bn, 0, none⟩) B.length B.length] :: Row I3 (some ⟨bh, 0, none⟩) 8192 8192 f.hd :: Row I3 (some ⟨bn, 0, none⟩) B.length B.length f.nx :: R :: F) (fun _ _ h => h) ?_
    refine rC bo 2 rfl ?_
    have hh0 := hf.h (ad.hs B a).toNat (by omega)
    have hg : I3.g f.hd (ad.hs B a) = f.hd.getD (ad.hs B a).toNat 0 := rfl
    have hs0 := ad.Ig (f := f) (by omega : ¬ B.length < a + 3)
    have hhl := hf.hl
    refine rC bo 5 rfl ?_
    refine kW (fun (k : Nat) (old : Int) (n : Int) (aL : Int) => [(0, .pointer (some ⟨bf, 0, none⟩)), (1, .int .i64 (a : Int)), (6, .int .i64 n), (7, .int .i64 aL), (8, .int .i64 old), (27, .int .i64 (k : Int))]) (fun (k : Nat) (old : Int) (n : Int) (aL : Int) => av bf 106 [.slice p B.length c, .slice (some ⟨bh, 0, none⟩) 8192 8192, .slice (some ⟨bn, 0, none⟩) B.length B.length] :: Row I3 (some ⟨bh, 0, none⟩) 8192 8192 f.hd :: Row I3 (some ⟨bn, 0, none⟩) B.length B.length f.nx :: R :: F) (fun (k : Nat) (old : Int) (n : Int) (aL : Int) => k ≤ 24 ∧ ad.cV B f a = ad.gB B f.nx a (24 - k) old n aL ∧ -1 ≤ old ∧ old < a) (fun (k : Nat) (old : Int) (n : Int) (aL : Int) => 24 - k) (i4 (0) (_) (_) (_) ?_ (fO (aX ln)) (sub (gA .nil) ao)) ?_
    ·
      exact ⟨Nat.zero_le _, hs0, hh0⟩
    intro k old n aL
    rintro ⟨hk, he, h0, h1⟩
    refine rL bo 6 rfl ?_
    refine aj rfl (fun h28 => ?_) (fun h28 => ?_)
    ·
      refine rC bo 10 rfl ?_
      refine ee 31 rfl (fun h31 => ?_) (fun h31 => ?_)
      ·
        refine rO bo 24 rfl ?_
        have e : ad.cV B f a = (n, aL) := by exact he.trans (ad.r7 (by omega) (.inl (by assumption)))
        rw [e]
        exact an (bT rfl rfl) ⟨rfl, rfl⟩ (sub (gA .nil) ao)
      ·
        refine bN bo 7 rfl (by omega) ?_
        refine aj rfl (fun h36 => ?_) (fun h36 => ?_)
        ·
          refine rC bo 16 rfl ?_
          have e : ad.cV B f a = (n, aL) := by exact he.trans (ad.r7 (by omega) (.inr (by omega)))
          rw [e]
          exact an (bT rfl rfl) ⟨rfl, rfl⟩ (sub (gA .nil) ao)
        ·
          refine rC bo 4 rfl ?_
          obtain ⟨o, rfl⟩ : ∃ o : Nat, old = (o : Int) := ⟨old.toNat, by omega⟩
          have hnx := hf.x o (by omega)
          have hgx : I3.g f.nx (o : Int) = f.nx.getD o 0 := rfl
          have hnl := hf.nl
          refine rC bo 4 rfl ?_
          refine ai (HP bf bh bn p c B R hR hB hl o a (by omega) ha) V.Jw  rfl (au (.cons aS .nil)) rfl ?_
          rintro _ _ ⟨rfl, rfl⟩
          refine rO bo 10 rfl ?_
          refine aj rfl (fun h43 => ?_) (fun h43 => ?_)
          ·
            refine cy bo 13 rfl (by omega) ?_
            refine oV (ag V.fk rfl ak rfl) ?_
            refine oV (aB rfl) ?_
            refine oV (xI V.aF (own fZ)) ?_
            refine oV (xL V.s3 (own fZ)) ?_
            refine bN bo 8 rfl (by omega) ?_
            exact j4 (k + 1) _ _ _ ⟨⟨by omega, he.trans (ad.AW (by omega) (by assumption) (by omega) (by assumption)), by omega, by omega⟩, by omega⟩ (fO (aX ln)) (sub (au (.cons ar (.cons ar (.cons dg .nil)))) ao)
          ·
            refine rC bo 6 rfl ?_
            refine oV (ag V.fk rfl ak rfl) ?_
            refine oV (aB rfl) ?_
            refine oV (xI V.aF (own fZ)) ?_
            refine oV (xL V.s3 (own fZ)) ?_
            refine bN bo 8 rfl (by omega) ?_
            exact j4 (k + 1) _ _ _ ⟨⟨by omega, he.trans (ad.Cu (by omega) (by assumption) (by omega) (by assumption)), by omega, by omega⟩, by omega⟩ (fO (aX ln)) (sub (au (.cons ar (.cons ar (.cons dg .nil)))) ao)
    ·
      refine rC bo 14 rfl ?_
      have e : ad.cV B f a = (n, aL) := by exact he.trans (ad.AH (by omega))
      rw [e]
      exact an (bT rfl rfl) ⟨rfl, rfl⟩ (sub (gA .nil) ao)
theorem yz (t : ad.aZ) : Instr.fill (fun i => some (i * 3, 3)) ((List.replicate 1 [.int .i64 0, .int .i64 0, .int .i64 0]).flatten.toArray) [(0, .agg #[.int .i64 t.lit, .int .i64 t.n, .int .i64 t.aL])] = some ([t].flatMap TK.e).toArray := by simp [Instr.fill, Value.cells, List.replicate]
set_option maxHeartbeats 4000000 in
theorem ES (p : Option Addr) (c : Nat) (B : List Int) (R : ae) (hR : ∀ w0 h, R w0 h → bJ U5 p B.length B w0 h) (hB : af.aY B) (hl : B.length ≤ 4194304) : aD Tryz.prog 58 [.slice p B.length c] [R] (aK fun v G => ∃ q cq, v = .slice q (ad.du B).length cq ∧ G = [Row TK q (ad.du B).length cq (ad.du B), R]) := by
  refine ax [(0, _)] Tryz.func58 rfl Tryz.ntmps58 rfl rfl ?_
  intro w0 F
  refine rT bo 6 rfl ?_
  refine mL [pz 0 [] [0], pz 0 [] [], pz 0 [] [0], pz 4 [2] [], pz 12 [3] [], pz 31 [0, 1, 4] [], pz 63 [5] [], pz 127 [6] []] [⟨fun y => R, none, none, []⟩, ⟨fun y => Row (I3) (some ⟨(cK (bY (y 1))), 0, none⟩) 8192 8192 (List.replicate 8192 (I3).d), some 1, none, []⟩, ⟨fun y => Row (I3) (some ⟨(cK (bY (y 4))), 0, none⟩) B.length B.length (List.replicate B.length (I3).d), some 4, none, []⟩, ⟨fun y => av (iH (y 6)) 106 [.slice p B.length c, .slice (some ⟨(cK (bY (y 1))), 0, none⟩) 8192 8192, .slice (some ⟨(cK (bY (y 4))), 0, none⟩) B.length B.length], some 6, none, []⟩] F V.mixed (by kernel_rfl) rfl (fun _ => .refl _) (dV _ (ea _ rfl (by intro y y2 h; simp only [h 1 (.inl rfl)]) (ea _ rfl (by intro y y2 h; simp only [h 4 (.inl rfl)]) (ea _ rfl (by intro y y2 h; simp only [h 1 (.inr (by decide)), h 4 (.inr (by decide)), h 6 (.inl rfl)]) jb)))) ?_
  refine nM ?_
  refine fD (fun y v => .slice (some ⟨cK (bY v), 0, none⟩) 8192 8192) (fun y v => True) _ _ (fun y v => [Row (I3) (some ⟨(cK (bY v)), 0, none⟩) 8192 8192 (List.replicate 8192 (I3).d)]) _ (fun y => rfl) (fun y => rfl) (fun y => rfl) (fun y => rfl) (fun y FF hA => kV ?_) (by intros; rfl) (by intros; rfl) (by intros; rfl) (by intro y y2 h; simp only [h 1 (.inl rfl)]) (by intro y y2 h; rfl) ?_
  · refine pC (by_ := 8) (k1 := .i64) (k2 := .i64) (zs := [.int .i64 0]) (i1 := 8192) (i2 := 8192) 8192 8192 (I3) ?_ ?_ ?_ ?_ ?_ ?_ ?_ ?_ ?_ ?_ ?_
    · decide
    · decide
    · exact V.aF
    · exact V.z3
    · rfl
    · rfl
    · rfl
    · rfl
    · omega
    · omega
    · rfl
  refine nM ?_
  refine nV (fun y hA L => eF (ty' := 0) Tryz.underlying22 rfl) ?_
  refine fD (fun y v => .slice (some ⟨cK (bY v), 0, none⟩) B.length B.length) (fun y v => True) _ _ (fun y v => [Row (I3) (some ⟨(cK (bY v)), 0, none⟩) B.length B.length (List.replicate B.length (I3).d)]) _ (fun y => rfl) (fun y => rfl) (fun y => rfl) (fun y => rfl) (fun y FF hA => kV (pC B.length B.length (I3) rfl rfl V.aF V.z3 rfl rfl rfl rfl (by omega) (by omega) rfl)) (by intros; rfl) (by intros; rfl) (by intros; rfl) (by intro y y2 h; simp only [h 4 (.inl rfl)]) (by intro y y2 h; rfl) ?_
  refine aR _ (fun y => rfl) rfl rfl rfl (fun y hA L => cu (de (v := .agg #[.slice p B.length c, .slice (some ⟨(cK (bY (y 1))), 0, none⟩) 8192 8192, .slice (some ⟨(cK (bY (y 4))), 0, none⟩) B.length B.length]) (eP V.K2 V.MG rfl (cs := [_, _, _]) rfl) rfl) ⟨rfl, rfl⟩) (by intros; rfl) (by intro y y2 h; simp only [h 1 (.inr (by decide)), h 4 (.inr (by decide))]) ?_
  refine fD (fun y v => .pointer (some ⟨iH v, 0, none⟩)) (fun y v => True) _ _ (fun y v => [av (iH v) 106 [.slice p B.length c, .slice (some ⟨(cK (bY (y 1))), 0, none⟩) 8192 8192, .slice (some ⟨(cK (bY (y 4))), 0, none⟩) B.length B.length]]) _ (fun y => rfl) (fun y => rfl) (fun y => rfl) (fun y => rfl) (fun y FF hA => Dt (Kl rfl rfl)) (by intros; rfl) (by intros; rfl) (by intros; rfl) (by intro y y2 h; simp only [h 1 (.inr (by decide)), h 4 (.inr (by decide)), h 6 (.inl rfl)]) (by intro y y2 h; rfl) ?_
  refine aR _ (fun y => rfl) rfl rfl rfl (fun y hA L => cu (cE rfl) ⟨rfl, rfl⟩) (by intros; rfl) (by intro y y2 h; simp only [h 6 (.inr (by decide))]) ?_
  refine aM ?_
  intro y hA
  clear hA
  refine bp ?_
  refine bW [(0, .slice p B.length c), (3, .pointer (some ⟨(iH (y 6)), 0, none⟩))] (.cons (d := 0) rfl (.cons (d := 3) rfl (.nil _))) ?_
  refine bR (M := R :: Row (I3) (some ⟨(cK (bY (y 1))), 0, none⟩) 8192 8192 (List.replicate 8192 (I3).d) :: Row (I3) (some ⟨(cK (bY (y 4))), 0, none⟩) B.length B.length (List.replicate B.length (I3).d) :: av (iH (y 6)) 106 [.slice p B.length c, .slice (some ⟨(cK (bY (y 1))), 0, none⟩) 8192 8192, .slice (some ⟨(cK (bY (y 4))), 0, none⟩) B.length B.length] :: F) (fun _ _ h => h) ?_
  generalize (cK (bY (y 1))) = iI
  generalize (cK (bY (y 4))) = mV
  generalize (iH (y 6)) = eU
  refine rC bo 6 rfl ?_
  refine oV (ag V.fk rfl fZ rfl) ?_
  refine rO bo 5 rfl ?_
  rw [show List.replicate 8192 I3.d = List.replicate 0 (-1) ++ List.replicate (8192 - 0) 0 from by rw [List.replicate_zero, List.nil_append]]
  refine cx (fun (i : Nat) => [(0, .slice p B.length c), (3, .pointer (some ⟨eU, 0, none⟩)), (20, .int .i64 8192), (21, .int .i64 (i : Int))]) (fun (i : Nat) => av eU 106 [.slice p B.length c, .slice (some ⟨iI, 0, none⟩) 8192 8192, .slice (some ⟨mV, 0, none⟩) B.length B.length] :: Row I3 (some ⟨iI, 0, none⟩) 8192 8192 (List.replicate i (-1) ++ List.replicate (8192 - i) 0) :: Row I3 (some ⟨mV, 0, none⟩) B.length B.length (List.replicate B.length 0) :: R :: F) (fun (i : Nat) => i ≤ 8192) (fun (i : Nat) => 8192 - i) (i1 (0) ?_ (dI ln) (sub (.cons dC (.cons ar (.cons ar (au .nil)))) ao)) ?_
  ·
    exact Nat.zero_le _
  intro i
  rintro hi
  refine rL bo 6 rfl ?_
  refine aj rfl (fun h22 => ?_) (fun h22 => ?_)
  ·
    refine rC bo 14 rfl ?_
    refine oV (ag V.fk rfl ak rfl) ?_
    refine oV (aB rfl) ?_
    refine oV (xI V.aF (own bB)) ?_
    refine bM (eb (c := (I3)) (_) V.s3 rfl rfl rfl (by exact uT) (by omega) (by omega) rfl rfl) ?_
    refine bN bo 7 rfl (by omega) ?_
    rw [show ((i : Int)).toNat = i from rfl, ad.D1 (by omega)]
    refine j1 (i + 1) ?_ (dI ln) (sub (gA .nil) ao)
    exact ⟨by omega, by omega⟩
  ·
    refine rC bo 17 rfl ?_
    obtain rfl : i = 8192 := by omega
    rw [Nat.sub_self, List.replicate_zero, List.append_nil]
    refine eW (Row TK none 0 0 []) (Row.nil _ _ _) ?_
    refine mR (fun (a : Nat) (f : ad.Fd) (q : Option Addr) (cq : Nat) (l : List ad.aZ) => [(0, .slice p B.length c), (3, .pointer (some ⟨eU, 0, none⟩)), (5, .slice q l.length cq), (6, .int .i64 (a : Int))]) (fun (a : Nat) (f : ad.Fd) (q : Option Addr) (cq : Nat) (l : List ad.aZ) => Row TK q l.length cq l :: av eU 106 [.slice p B.length c, .slice (some ⟨iI, 0, none⟩) 8192 8192, .slice (some ⟨mV, 0, none⟩) B.length B.length] :: Row I3 (some ⟨iI, 0, none⟩) 8192 8192 f.hd :: Row I3 (some ⟨mV, 0, none⟩) B.length B.length f.nx :: R :: F) (fun (a : Nat) (f : ad.Fd) (q : Option Addr) (cq : Nat) (l : List ad.aZ) => a ≤ B.length ∧ ad.mG B a f ∧ l ++ ad.gv B (B.length - a) f a = ad.du B ∧ l.length ≤ a) (fun (a : Nat) (f : ad.Fd) (q : Option Addr) (cq : Nat) (l : List ad.aZ) => B.length - a) (i5 (0) (ad.zq B) (none) (0) ([]) ?_ (dI ln) (sub (lF .nil) ao)) ?_
    ·
      exact ⟨Nat.zero_le _, ad.mG.start B, ad.G0 B, Nat.le_refl _⟩
    intro a f q cq l
    rintro ⟨ha, hf, hk, hll⟩
    refine rL bo 9 rfl ?_
    refine aj rfl (fun h34 => ?_) (fun h34 => ?_)
    ·
      refine rC bo 7 rfl ?_
      refine ai (KG eU iI mV p c B R hR hB hl f a hf (by omega)) V.NL  rfl (.cons ar (.cons ar (.cons ar (.cons ar .nil)))) rfl ?_
      rintro _ _ ⟨rfl, rfl⟩
      refine rO bo 7 rfl ?_
      refine Hb (fun (n : Nat) (q2 : Option Addr) (cq2 : Nat) (l2 : List ad.aZ) => [(0, .slice p B.length c), (3, .pointer (some ⟨eU, 0, none⟩)), (5, .slice q2 l2.length cq2), (6, .int .i64 (a : Int)), (7, .int .i64 (n : Int))]) (fun (n : Nat) (q2 : Option Addr) (cq2 : Nat) (l2 : List ad.aZ) => Row TK q2 l2.length cq2 l2 :: av eU 106 [.slice p B.length c, .slice (some ⟨iI, 0, none⟩) 8192 8192, .slice (some ⟨mV, 0, none⟩) B.length B.length] :: Row I3 (some ⟨iI, 0, none⟩) 8192 8192 f.hd :: Row I3 (some ⟨mV, 0, none⟩) B.length B.length f.nx :: R :: F) (fun (n : Nat) (q2 : Option Addr) (cq2 : Nat) (l2 : List ad.aZ) => 1 ≤ n ∧ n ≤ 258 ∧ a + n ≤ B.length ∧ l2 ++ ad.gv B (B.length - (a + n)) (ad.lj B f a n) (a + n) = ad.du B ∧ l2.length ≤ a + n) ?_ ?_
      ·
        refine rL bo 6 rfl ?_
        refine aj rfl (fun h42 => ?_) (fun h42 => ?_)
        ·
          refine rC bo 1 rfl ?_
          have hlt : a < B.length := by omega
          have hby := hB.get a
          refine rC bo 4 rfl ?_
          refine oV (xI V.bH (by exact bd hR fZ)) ?_
          refine oV (xL V.s5 (by exact bd hR fZ)) ?_
          rw [show U5.g B (a : Int) = B.getD a 0 from rfl]
          refine oV (bq V.u5 Tryz.underlying3 rfl wI) ?_
          refine oV (de (v := .agg #[.int .i64 (B.getD a 0), .int .i64 0, .int .i64 0]) (eP V.GL V.z109 rfl (cs := [_, _, _]) rfl) rfl) ?_
          refine bP TK [(ad.aZ.mk (B.getD a 0) 0 0)] V.tV V.z109 rfl rfl rfl (yz (ad.aZ.mk (B.getD a 0) 0 0)) rfl rfl ?_
          intro sb
          refine bQ (c := (TK)) V.tV V.z109 rfl rfl rfl rfl qy (own ak) (by omega) rfl ?_
          intro p51 c51
          refine rO bo 6 rfl ?_
          (rw [show l.length + 1 = (l ++ [(ad.aZ.mk (B.getD a 0) 0 0)]).length from by rw [List.length_append]; rfl]; exact j4 1 _ _ (l ++ [(ad.aZ.mk (B.getD a 0) 0 0)]) ⟨Nat.le_refl _, by omega, by omega, by rw [List.append_assoc, List.singleton_append, ← ad.Cy hlt (by assumption)]; exact hk, by rw [List.length_append]; exact Nat.succ_le_succ hll⟩ (aX ln) (sub (au (.cons ar (.cons ar (.cons ar (.cons ar .nil))))) cw))
        ·
          obtain ⟨m, dd, em, ed, m1, m2, m3⟩ := ad.EW hf (by omega)
          refine rC bo 4 rfl ?_
          refine oV (de (v := .agg #[.int .i64 0, .int .i64 (ad.cV B f a).1, .int .i64 (ad.cV B f a).2]) (eP V.GL V.z109 rfl (cs := [_, _, _]) rfl) rfl) ?_
          refine bP TK [(ad.aZ.mk 0 (ad.cV B f a).1 (ad.cV B f a).2)] V.tV V.z109 rfl rfl rfl (yz (ad.aZ.mk 0 (ad.cV B f a).1 (ad.cV B f a).2)) rfl rfl ?_
          intro gp
          refine bQ (c := (TK)) V.tV V.z109 rfl rfl rfl rfl qy (own ak) (by omega) rfl ?_
          intro p57 c57
          refine rO bo 2 rfl ?_
          (rw [show l.length + 1 = (l ++ [(ad.aZ.mk 0 (ad.cV B f a).1 (ad.cV B f a).2)]).length from by rw [List.length_append]; rfl, show Value.int .i64 (ad.cV B f a).1 = .int .i64 (m : Int) from by rw [em]]; exact j4 m _ _ (l ++ [(ad.aZ.mk 0 (ad.cV B f a).1 (ad.cV B f a).2)]) ⟨by omega, by omega, by omega, by rw [List.append_assoc, List.singleton_append, ← ad.EJ (by omega) (by assumption) em]; exact hk, by rw [List.length_append]; simp; omega⟩ (aX ln) (sub (au (.cons ar (.cons ar (.cons ar (.cons ar .nil))))) cw))
      ·
        intro n q2 cq2 l2
        rintro ⟨hn1, hn2, hn3, hn4, hn5⟩
        refine rC bo 7 rfl ?_
        rw [show ((6 : Nat), Value.int .i64 (a : Int)) = (6, .int .i64 ((a : Int) + ((0 : Nat) : Int))) from by simp]
        refine cx (fun (j : Nat) => [(0, .slice p B.length c), (3, .pointer (some ⟨eU, 0, none⟩)), (5, .slice q2 l2.length cq2), (6, .int .i64 ((a : Int) + (j : Int))), (58, .int .i64 (n : Int)), (59, .int .i64 (j : Int))]) (fun (j : Nat) => av eU 106 [.slice p B.length c, .slice (some ⟨iI, 0, none⟩) 8192 8192, .slice (some ⟨mV, 0, none⟩) B.length B.length] :: Row I3 (some ⟨iI, 0, none⟩) 8192 8192 (ad.lj B f a j).hd :: Row I3 (some ⟨mV, 0, none⟩) B.length B.length (ad.lj B f a j).nx :: R :: Row TK q2 l2.length cq2 l2 :: F) (fun (j : Nat) => j ≤ n) (fun (j : Nat) => n - j) (i1 (0) ?_ (fO (aX ln)) (sub (.cons ar (.cons ar (.cons ar (.cons ar (au .nil))))) ao)) ?_
        ·
          exact Nat.zero_le _
        intro j
        rintro hj
        refine rL bo 6 rfl ?_
        refine aj rfl (fun h60 => ?_) (fun h60 => ?_)
        ·
          refine rC bo 8 rfl ?_
          refine ai (LC eU iI mV p c B R hR hB hl (ad.lj B f a j) (a + j) (hf.wK j) (by omega)) V.NS  rfl (gA .nil) rfl ?_
          rintro _ _ ⟨rfl, rfl⟩
          refine bN bo 13 rfl (by omega) ?_
          rw [show (a : Int) + (j : Int) + 1 = (a : Int) + ((j + 1 : Nat) : Int) from by omega]
          refine j1 (j + 1) ?_ (fO (aX ln)) (sub (lF .nil) ao)
          exact ⟨by omega, by omega⟩
        ·
          refine rC bo 5 rfl ?_
          obtain rfl : j = n := by omega
          rw [show (a : Int) + (j : Int) = ((a + j : Nat) : Int) from rfl]
          exact j5 (a + j) (ad.lj B f a j) _ _ _ ⟨⟨hn3, hf.wK j, hn4, hn5⟩, by omega⟩ (dI ln) (sub (.cons lh (gA .nil)) ao)
    ·
      refine rC bo 12 rfl ?_
      obtain rfl : a = B.length := by omega
      have hk2 : l = ad.du B := by rw [← hk]; simp [ad.gv]
      subst hk2
      exact an (bu rfl) ⟨q, cq, rfl, rfl⟩ (sub (au (.cons dC .nil)) jj)
end Go.Proofs.YtmbljkghkcgejaaGreat
namespace Go.Proofs.YtmbljkghkcgejaaGreat
open Go.Sl 
theorem cc : dJ Tryz.prog ⟨[97], [(109, 0, 0), (109, 1, 1), (109, 2, 2), (114, 0, 0), (114, 1, 1), (114, 2, 2)]⟩ = true := by kernel_rfl
attribute [local irreducible] ad.lI ad.ma ad.eM ad.ij ad.iG ad.ef ad.jw ad.jV ad.jt ad.cv ab.aO ab.wb ab.ord ab.bx ab.words ab.cF ab.gF ab.eC ab.fT
set_option maxHeartbeats 1000000 in
theorem wC (n : Int) (hn : 3 ≤ n ∧ n ≤ 258) : aD Tryz.prog 89 [.int .i64 n] [] (aK fun v G => v = .tuple #[.int .i64 (ad.eM n), .int .i64 (ad.ij n : Int), .int .i64 (ad.iG n)] ∧ G = []) := by
 refine ax [(0, _)] Tryz.func89 rfl Tryz.ntmps89 rfl rfl ?_
 intro w0 F
 refine rZ cc 23 rfl (by omega) ?_
 refine aj rfl (fun h7 => ?_) (fun h7 => ?_)
 ·refine rC cc 10 rfl ?_
  have e1 : ad.eM n = 285 := by unfold ad.eM; rw [if_pos (by omega)]
  have e2 : ad.ij n = 0 := by unfold ad.ij; rw [if_pos (by omega)]
  have e3 : ad.iG n = 0 := by unfold ad.iG; rw [if_pos (by omega)]
  rw [e1, e2, e3]
  exact an (dL rfl rfl rfl) ⟨rfl, rfl⟩ (sub .nil ao)
 ·refine rC cc 7 rfl ?_
  refine aj rfl (fun h10 => ?_) (fun h10 => ?_)
  ·refine cy cc 12 rfl (by omega) ?_
   have e1 : ad.eM n = 257 + (n - 3) := by unfold ad.eM; rw [if_neg (by omega), if_pos (by omega)]
   have e2 : ad.ij n = 0 := by unfold ad.ij; rw [if_neg (by omega), if_pos (by omega)]
   have e3 : ad.iG n = 0 := by unfold ad.iG; rw [if_neg (by omega), if_pos (by omega)]
   rw [e1, e2, e3]
   exact an (dL rfl rfl rfl) ⟨rfl, rfl⟩ (sub .nil ao)
  ·refine rC cc 5 rfl ?_
   refine cx (fun (k : Nat) => [(0, .int .i64 (n - 3)), (3, .int .i64 (k : Int))]) (fun (k : Nat) => F) (fun (k : Nat) => k ≤ 14 ∧ ad.lI 8 (n - 3) = ad.ma 8 (n - 3) (16 - k) k) (fun (k : Nat) => 16 - k) (i1 (0) ?_ (kr ln) (sub .nil ao)) ?_
   ·exact ⟨by omega, by unfold ad.lI; rfl⟩
   intro k
   rintro ⟨hk, hk2⟩
   refine rL cc 5 rfl ?_
   refine oV (dK (r := (n - 3) / 2 ^ k) rfl rfl (by omega) (af.mE (by omega) rfl)) ?_
   refine rO cc 3 rfl ?_
   refine aj rfl (fun h18 => ?_) (fun h18 => ?_)
   ·refine cy cc 9 rfl (by omega) ?_
    have hk13 : k < 13 := by
     rcases Nat.lt_or_ge k 13 with h1 | h1
     ·exact h1
     ·have := ad.wi (x := (n - 3)) (by omega) h1; omega
    refine j1 (k + 1) ?_ (kr ln) (sub .nil ao)
    exact ⟨⟨by omega, hk2.trans (ad.sV (by omega) (by omega))⟩, by omega⟩
   ·refine rC cc 6 rfl ?_
    have hM := ad.tc (lim := 8) (x := (n - 3)) (by decide) (by omega)
    have hkm : ad.lI 8 (n - 3) = k := hk2.trans (ad.vo (by omega) _)
    have hk13 := hM.le
    rw [hkm] at hk13
    have hp13 := ad.pe hk13
    have hqb : 0 ≤ (n - 3) / 2 ^ k := Int.ediv_nonneg (by omega) (by omega)
    have hqc : (n - 3) / 2 ^ k ≤ (n - 3) := Int.ediv_le_self _ (by omega)
    refine lz V.mixed (by kernel_rfl) ?_
    refine mn cc 5 rfl (by omega) ?_
    refine oR (dK (r := (n - 3) / 2 ^ k) rfl rfl (by omega) (af.mE (by omega) rfl)) ?_
    refine mn cc 4 rfl (by omega) ?_
    refine oR (eI (r := 2 ^ k) rfl rfl (by omega) (ad.GK (by omega))) ?_
    refine mn cc 1 rfl (by omega) ?_
    refine oR (gu (r := (n - 3) % 2 ^ k) rfl rfl (ad.za (by omega) (by omega))) ?_
    refine rR cc 3 rfl ?_
    refine Rg.bC ?_
    refine rN cc 2 rfl ?_
    have e1 : ad.eM n = 257 + 4 * (k : Int) + (n - 3) / 2 ^ k := by unfold ad.eM; rw [if_neg (by omega), if_neg (by omega), hkm]
    have e2 : ad.ij n = k := by unfold ad.ij; rw [if_neg (by omega), if_neg (by omega), hkm]
    have e3 : ad.iG n = (n - 3) % 2 ^ k := by unfold ad.iG; rw [if_neg (by omega), if_neg (by omega), hkm]
    rw [e1, e2, e3]
    exact an (dL rfl rfl rfl) ⟨rfl, rfl⟩ (sub .nil ao)
set_option maxHeartbeats 1000000 in
theorem Cx (n : Int) (hn : 1 ≤ n ∧ n ≤ 32768) : aD Tryz.prog 90 [.int .i64 n] [] (aK fun v G => v = .tuple #[.int .i64 (ad.ef n), .int .i64 (ad.jw n : Int), .int .i64 (ad.jV n)] ∧ G = []) := by
 refine ax [(0, _)] Tryz.func90 rfl Tryz.ntmps90 rfl rfl ?_
 intro w0 F
 refine rZ cc 21 rfl (by omega) ?_
 refine aj rfl (fun h8 => ?_) (fun h8 => ?_)
 ·refine rC cc 10 rfl ?_
  have e1 : ad.ef n = n - 1 := by unfold ad.ef; rw [if_pos (by omega)]
  have e2 : ad.jw n = 0 := by unfold ad.jw; rw [if_pos (by omega)]
  have e3 : ad.jV n = 0 := by unfold ad.jV; rw [if_pos (by omega)]
  rw [e1, e2, e3]
  exact an (dL rfl rfl rfl) ⟨rfl, rfl⟩ (sub .nil ao)
 ·refine rC cc 4 rfl ?_
  refine cx (fun (k : Nat) => [(0, .int .i64 (n - 1)), (3, .int .i64 (k : Int))]) (fun (k : Nat) => F) (fun (k : Nat) => k ≤ 14 ∧ ad.lI 4 (n - 1) = ad.ma 4 (n - 1) (16 - k) k) (fun (k : Nat) => 16 - k) (i1 (0) ?_ (kr ln) (sub .nil ao)) ?_
  ·exact ⟨by omega, by unfold ad.lI; rfl⟩
  intro k
  rintro ⟨hk, hk2⟩
  refine rL cc 5 rfl ?_
  refine oV (dK (r := (n - 1) / 2 ^ k) rfl rfl (by omega) (af.mE (by omega) rfl)) ?_
  refine rO cc 3 rfl ?_
  refine aj rfl (fun h13 => ?_) (fun h13 => ?_)
  ·refine cy cc 9 rfl (by omega) ?_
   have hk13 : k < 13 := by
    rcases Nat.lt_or_ge k 13 with h1 | h1
    ·exact h1
    ·have := ad.wi (x := (n - 1)) (by omega) h1; omega
   refine j1 (k + 1) ?_ (kr ln) (sub .nil ao)
   exact ⟨⟨by omega, hk2.trans (ad.sV (by omega) (by omega))⟩, by omega⟩
  ·refine rC cc 6 rfl ?_
   have hM := ad.tc (lim := 4) (x := (n - 1)) (by decide) (by omega)
   have hkm : ad.lI 4 (n - 1) = k := hk2.trans (ad.vo (by omega) _)
   have hk13 := hM.le
   rw [hkm] at hk13
   have hp13 := ad.pe hk13
   have hqb : 0 ≤ (n - 1) / 2 ^ k := Int.ediv_nonneg (by omega) (by omega)
   have hqc : (n - 1) / 2 ^ k ≤ (n - 1) := Int.ediv_le_self _ (by omega)
   refine lz V.mixed (by kernel_rfl) ?_
   refine mn cc 4 rfl (by omega) ?_
   refine oR (dK (r := (n - 1) / 2 ^ k) rfl rfl (by omega) (af.mE (by omega) rfl)) ?_
   refine mn cc 4 rfl (by omega) ?_
   refine oR (eI (r := 2 ^ k) rfl rfl (by omega) (ad.GK (by omega))) ?_
   refine mn cc 1 rfl (by omega) ?_
   refine oR (gu (r := (n - 1) % 2 ^ k) rfl rfl (ad.za (by omega) (by omega))) ?_
   refine rR cc 3 rfl ?_
   refine Rg.bC ?_
   refine rN cc 2 rfl ?_
   have e1 : ad.ef n = 2 * (k : Int) + (n - 1) / 2 ^ k := by unfold ad.ef; rw [if_neg (by omega), hkm]
   have e2 : ad.jw n = k := by unfold ad.jw; rw [if_neg (by omega), hkm]
   have e3 : ad.jV n = (n - 1) % 2 ^ k := by unfold ad.jV; rw [if_neg (by omega), hkm]
   rw [e1, e2, e3]
   exact an (dL rfl rfl rfl) ⟨rfl, rfl⟩ (sub .nil ao)
theorem FQ (x : Int) (n : Nat) (hn : n ≤ 1000) : aD Tryz.prog 73 [.int .i64 x, .int .i64 (n : Int)] [] (aK fun v G => ∃ q c, v = .slice q n c ∧ G = [Row I3 q n c (List.replicate n x)]) := by
 refine ax [(0, _), (1, _)] Tryz.func73 rfl Tryz.ntmps73 rfl rfl ?_
 intro w0 F
 refine rT cc 18 rfl ?_
 refine eW (Row I3 none 0 0 (List.replicate 0 x)) (Row.nil _ _ _) ?_
 refine eJ (fun (k : Nat) (q : Option Addr) (c : Nat) => [(0, .int .i64 x), (5, .slice q k c), (6, .int .i64 (n : Int)), (7, .int .i64 (k : Int))]) (fun (k : Nat) (q : Option Addr) (c : Nat) => Row I3 q k c (List.replicate k x) :: F) (fun (k : Nat) (q : Option Addr) (c : Nat) => k ≤ n) (fun (k : Nat) (q : Option Addr) (c : Nat) => n - k) (i3 (0) (none) (0) ?_ (dI ln) (sub (au .nil) ao)) ?_
 ·exact Nat.zero_le _
 intro k q c
 rintro hk
 refine rL cc 6 rfl ?_
 refine aj rfl (fun h8 => ?_) (fun h8 => ?_)
 ·refine rC cc 7 rfl ?_
  refine bP (I3) [x] V.aF V.z3 rfl rfl rfl rfl rfl rfl ?_
  intro iV
  refine bQ (c := (I3)) V.aF V.z3 rfl rfl rfl rfl ar (own ak) (by omega) rfl ?_
  intro p12 c12
  refine bN cc 8 rfl (by omega) ?_
  rw [show List.replicate k x ++ [x] = List.replicate (k + 1) x from List.replicate_succ'.symm]
  refine j3 (k + 1) (_) (_) ?_ (dI ln) (sub (au .nil) cw)
  exact ⟨by omega, by omega⟩
 ·refine rC cc 12 rfl ?_
  obtain rfl : k = n := by omega
  exact an (bu rfl) ⟨q, c, rfl, rfl⟩ (sub (au .nil) ao)
theorem zm  : aD Tryz.prog 79 [] [] (aK fun v G => ∃ q, v = .slice (some ⟨q, 0, none⟩) 19 19 ∧ G = [Row I3 (some ⟨q, 0, none⟩) 19 19 aa.dv]) := by
 refine ax [] Tryz.func79 rfl Tryz.ntmps79 rfl rfl ?_
 intro w0 F
 refine rT cc 7 rfl ?_
 refine bP (I3) [16, 17, 18, 0, 8, 7, 9, 6, 10, 5, 11, 4, 12, 3, 13, 2, 14, 1, 15] V.aF V.z3 rfl rfl rfl rfl rfl rfl ?_
 intro b1
 refine rO cc 4 rfl ?_
 exact an (bu rfl) ⟨b1, rfl, rfl⟩ (sub (au .nil) ao)
set_option maxHeartbeats 4000000 in
theorem yF (bl : Nat) (pa : Option Addr) (a : List Int) (ca : Nat) (pd : Option Addr) (d : List Int) (cd : Nat) (q : Option Addr) (cq : Nat) (l : List ad.aZ) (bs : List Int) (RT RA RD : ae) (hRT : ∀ w0 h, RT w0 h → bJ TK q l.length l w0 h) (hRA : ∀ w0 h, RA w0 h → bJ I3 pa a.length a w0 h) (hRD : ∀ w0 h, RD w0 h → bJ I3 pd d.length d w0 h) (hEa : ab.aO a = 0) (hEd : ab.aO d = 0) (hF : ad.Fits a d l) (hl : l.length ≤ 4194304) (hb : bs.length ≤ 20000) : aD Tryz.prog 75 [.agg #[.pointer (some ⟨bl, 0, none⟩), .slice pa a.length ca, .slice pd d.length cd], .slice q l.length cq] [WB bl bs, RT, RA, RD] (aK fun v G => v = .tuple #[] ∧ G = [WB bl (bs ++ (ad.cv a d l ++ ab.wb a 256)), RT, RA, RD]) := by
 refine ax [(0, _), (1, _)] Tryz.func75 rfl Tryz.ntmps75 rfl rfl ?_
 intro w0 F
 have hVa := (ab.cM hEa).1
 have hVd := (ab.cM hEd).1
 refine rT cc 2 rfl ?_
 refine fG rfl (cs := [_, _, _]) rfl rfl ?_
 intro b2
 refine rO cc 5 rfl ?_
 refine oV (ag V.fk rfl ak rfl) ?_
 refine ai (nS pa ca a RA hRA hEa) V.CW  rfl (.cons dC .nil) rfl ?_
 rintro _ _ ⟨ha, rfl, rfl⟩
 refine rO cc 10 rfl ?_
 refine oV (ag V.fk rfl dE rfl) ?_
 refine ai (nS pd cd d RD hRD hEd) V.CW  rfl (.cons qy .nil) rfl ?_
 rintro _ _ ⟨hd, rfl, rfl⟩
 refine rO cc 16 rfl ?_
 rw [show WB bl bs = WB bl (bs ++ ad.cv a d (l.take 0)) from by rw [ad.Ci, List.append_nil]]
 refine cx (fun (k : Nat) => [(2, .pointer (some ⟨b2, 0, none⟩)), (4, .pointer (some ⟨ha, 0, none⟩)), (6, .pointer (some ⟨hd, 0, none⟩)), (25, .slice q l.length cq), (26, .int .i64 (l.length : Int)), (27, .int .i64 (k : Int))]) (fun (k : Nat) => WB bl (bs ++ (ad.cv a d (l.take k))) :: HC ha a :: HC hd d :: av b2 114 [.pointer (some ⟨bl, 0, none⟩), .slice pa a.length ca, .slice pd d.length cd] :: RT :: RA :: RD :: F) (fun (k : Nat) => k ≤ l.length) (fun (k : Nat) => l.length - k) (i1 (0) ?_ (fO (aX ln)) (sub (.cons qy (.cons aS (au (.cons aS (.cons aS (.cons ar (.cons dg .nil))))))) ao)) ?_
 ·exact Nat.zero_le _
 intro k
 rintro hk
 refine rL cc 6 rfl ?_
 refine aj rfl (fun h28 => ?_) (fun h28 => ?_)
 ·refine rC cc 5 rfl ?_
  have hk2 : k < l.length := by omega
  have hxe : (TK.g l (k : Int)) = l[k] := by simp [Ec.g, hk2]
  have hxm : (TK.g l (k : Int)) ∈ l := by rw [hxe]; exact List.getElem_mem hk2
  have hto := hF.ok _ hxm
  have hor := hto.pT
  have hnx := ad.AK (ls := a) (ds := d) hk2
  have htl := ad.jG hVa hVd (l := l.take k) (fun t ht => hF.ok t (List.mem_of_mem_take ht))
  rw [List.length_take] at htl
  refine aW ?_
  refine oV (xI V.tV (by exact bd hRT iz)) ?_
  refine oV (dQ (c := (TK)) V.a109 rfl (by exact bd hRT iz) (by omega) (by omega) rfl) ?_
  refine fR V.z109 rfl ?_
  intro b9
  refine bM (fc V.a109 rfl rfl (us := [_, _, _]) rfl rfl (by exact dO) (by exact Nat.le_of_ble_eq_true rfl) rfl) ?_
  refine rO cc 6 rfl ?_
  refine oV (ag V.s3 rfl ak rfl) ?_
  refine rO cc 3 rfl ?_
  refine aj rfl (fun h33 => ?_) (fun h33 => ?_)
  ·refine rC cc 4 rfl ?_
   refine oV (ag V.dw rfl iz rfl) ?_
   refine oV (iD V.JQ rfl) ?_
   refine oV (ag V.s3 rfl ak rfl) ?_
   refine ai (mw ha a bl (bs ++ (ad.cv a d (l.take k))) (TK.g l (k : Int)).lit hEa (hF.lit _ hxm h33).2 (by rw [List.length_append]; omega)) V.CX  rfl (.cons aS (.cons ar .nil)) rfl ?_
   rintro _ _ ⟨rfl, rfl⟩
   refine bN cc 10 rfl (by omega) ?_
   (rw [List.append_assoc, show ab.wb a (TK.g l (k : Int)).lit = ad.jt a d l[k] from by rw [← hxe, ad.FB h33], hnx]; exact j1 (k + 1) ⟨by omega, by omega⟩ (fO (aX ln)) (sub (.cons ar (au (.cons ar (.cons ar (.cons ar (.cons ar (.cons ar .nil))))))) cw))
  ·refine rC cc 3 rfl ?_
   have hcp := hF.cp _ hxm h33
   have hln := ad.rJ (n := (TK.g l (k : Int)).n) (by omega)
   have hds := ad.rm (f := (TK.g l (k : Int)).aL) (by omega)
   have hp1 := ad.pe hln.2.2.2.2.2.2
   have hp2 := ad.pe hds.2.2.2.2.2.2
   have hw1 : (ab.wb a (ad.eM (TK.g l (k : Int)).n)).length ≤ 15 := by rw [ab.jM]; have := ab.mB hVa (ad.eM (TK.g l (k : Int)).n); omega
   have hw2 : (ab.wb d (ad.ef (TK.g l (k : Int)).aL)).length ≤ 15 := by rw [ab.jM]; have := ab.mB hVd (ad.ef (TK.g l (k : Int)).aL); omega
   refine rC cc 2 rfl ?_
   refine oV (ag V.s3 rfl ak rfl) ?_
   refine ai (wC (TK.g l (k : Int)).n (by omega)) V.LU  rfl .nil rfl ?_
   rintro _ _ ⟨rfl, rfl⟩
   refine rO cc 13 rfl ?_
   refine oV (ag V.dw rfl iz rfl) ?_
   refine oV (aB rfl) ?_
   refine ai (mw ha a bl (bs ++ (ad.cv a d (l.take k))) (ad.eM (TK.g l (k : Int)).n) hEa hcp.2.1 (by rw [List.length_append]; omega)) V.CX  rfl (.cons aS (.cons ar .nil)) rfl ?_
   rintro _ _ ⟨rfl, rfl⟩
   refine rO cc 5 rfl ?_
   refine oV (ag V.dw rfl iz rfl) ?_
   refine rO cc 2 rfl ?_
   refine ai (ld bl (bs ++ (ad.cv a d (l.take k)) ++ ab.wb a (ad.eM (TK.g l (k : Int)).n)) (ad.iG (TK.g l (k : Int)).n) (ad.ij (TK.g l (k : Int)).n) ⟨hln.2.2.2.2.1, by omega⟩ (by omega) (by simp only [List.length_append]; omega)) V.qT  rfl (.cons ar .nil) rfl ?_
   rintro _ _ ⟨rfl, rfl⟩
   refine rO cc 5 rfl ?_
   refine oV (ag V.s3 rfl dE rfl) ?_
   refine ai (Cx (TK.g l (k : Int)).aL (by omega)) V.LO  rfl .nil rfl ?_
   rintro _ _ ⟨rfl, rfl⟩
   refine rO cc 13 rfl ?_
   refine oV (ag V.dw rfl iz rfl) ?_
   refine oV (aB rfl) ?_
   refine ai (mw hd d bl (bs ++ (ad.cv a d (l.take k)) ++ ab.wb a (ad.eM (TK.g l (k : Int)).n) ++ af.aQ (ad.iG (TK.g l (k : Int)).n) (ad.ij (TK.g l (k : Int)).n)) (ad.ef (TK.g l (k : Int)).aL) hEd hcp.2.2.2 (by simp only [List.length_append, af.dH]; omega)) V.CX  rfl (.cons dC (au .nil)) rfl ?_
   rintro _ _ ⟨rfl, rfl⟩
   refine rO cc 4 rfl ?_
   refine oV (ag V.dw rfl iz rfl) ?_
   refine rO cc 2 rfl ?_
   refine ai (ld bl (bs ++ (ad.cv a d (l.take k)) ++ ab.wb a (ad.eM (TK.g l (k : Int)).n) ++ af.aQ (ad.iG (TK.g l (k : Int)).n) (ad.ij (TK.g l (k : Int)).n) ++ ab.wb d (ad.ef (TK.g l (k : Int)).aL)) (ad.jV (TK.g l (k : Int)).aL) (ad.jw (TK.g l (k : Int)).aL) ⟨hds.2.2.2.2.1, by omega⟩ (by omega) (by simp only [List.length_append, af.dH]; omega)) V.qT  rfl (.cons ar .nil) rfl ?_
   rintro _ _ ⟨rfl, rfl⟩
   refine bN cc 7 rfl (by omega) ?_
   (rw [show bs ++ (ad.cv a d (l.take k)) ++ ab.wb a (ad.eM (TK.g l (k : Int)).n) ++ af.aQ (ad.iG (TK.g l (k : Int)).n) (ad.ij (TK.g l (k : Int)).n) ++ ab.wb d (ad.ef (TK.g l (k : Int)).aL) ++ af.aQ (ad.jV (TK.g l (k : Int)).aL) (ad.jw (TK.g l (k : Int)).aL) = bs ++ ((ad.cv a d (l.take k)) ++ ad.jt a d l[k]) from by rw [← hxe, ad.zl h33]; simp only [List.append_assoc], hnx]; exact j1 (k + 1) ⟨by omega, by omega⟩ (fO (aX ln)) (sub (au (.cons ar (.cons dg (.cons ar (.cons ar (.cons ar (.cons ar .nil))))))) cw))
 ·refine rC cc 5 rfl ?_
  obtain rfl : k = l.length := by omega
  rw [List.take_length]
  have htl := ad.jG hVa hVd (l := l) hF.ok
  refine rC cc 3 rfl ?_
  refine oV (ag V.dw rfl fZ rfl) ?_
  refine ai (mw ha a bl (bs ++ ad.cv a d l) 256 hEa hF.end_.2 (by rw [List.length_append]; omega)) V.CX  rfl (.cons ar (au .nil)) rfl ?_
  rintro _ _ ⟨rfl, rfl⟩
  refine bC ?_
  rw [List.append_assoc]
  exact dT dN ⟨rfl, rfl⟩ (sub (.cons ar (.cons dC (.cons dC (.cons dC .nil)))) jj)
end Go.Proofs.YtmbljkghkcgejaaGreat
namespace Go.Proofs.YtmbljkghkcgejaaGreat
open Go.Sl 
theorem dp : dJ Tryz.prog ⟨[77, 97], [(109, 0, 0), (109, 1, 1), (109, 2, 2)]⟩ = true := by kernel_rfl
attribute [local irreducible] ad.jA ad.qe ad.dn ad.rr ad.jv ad.lq ad.fH ad.eN ad.fK ad.iA ad.k6 ad.eM ad.ij ad.iG ad.ef ad.jw ad.jV List.replicate
set_option maxHeartbeats 2000000 in
theorem Ke (q : Option Addr) (c : Nat) (fr : List Int) (hb : ∀ i, 0 ≤ fr.getD i 0 ∧ fr.getD i 0 ≤ 8388608) (hl : fr.length ≤ 1000) : aD Tryz.prog 91 [.slice q fr.length c] [Row I3 q fr.length c fr] (aK fun v G => v = .slice q fr.length c ∧ G = [Row I3 q fr.length c (ad.lq fr)]) := by
 refine ax [(0, _)] Tryz.func91 rfl Tryz.ntmps91 rfl rfl ?_
 intro w0 F
 refine rT dp 19 rfl ?_
 rw [show ((3 : Nat), Value.int .i64 0) = (3, .int .i64 (ad.jA fr 0)) from by unfold ad.jA; rfl]
 refine cx (fun (k : Nat) => [(0, .slice q fr.length c), (3, .int .i64 (ad.jA fr k)), (9, .slice q fr.length c), (10, .int .i64 (fr.length : Int)), (11, .int .i64 (k : Int))]) (fun (k : Nat) => Row I3 q fr.length c fr :: F) (fun (k : Nat) => k ≤ fr.length) (fun (k : Nat) => fr.length - k) (i1 (0) ?_ (aX ln) (sub (au .nil) ao)) ?_
 ·exact Nat.zero_le _
 intro k
 rintro hk
 refine rL dp 6 rfl ?_
 refine aj rfl (fun h12 => ?_) (fun h12 => ?_)
 ·refine rC dp 6 rfl ?_
  refine oV (xI V.aF (own ak)) ?_
  refine oV (xL V.s3 (own ak)) ?_
  refine rO dp 6 rfl ?_
  refine oV (vG rfl rfl) ?_
  refine bN dp 8 rfl (by omega) ?_
  rw [show (if ad.jA fr k < I3.g fr (k : Int) then I3.g fr (k : Int) else ad.jA fr k) = ad.jA fr (k + 1) from by rw [show I3.g fr (k : Int) = fr.getD k 0 from rfl]; simp only [ad.jA]]
  refine j1 (k + 1) ?_ (aX ln) (sub (au .nil) ao)
  exact ⟨by omega, by omega⟩
 ·refine rC dp 6 rfl ?_
  obtain rfl : k = fr.length := by omega
  refine rC dp 6 rfl ?_
  have hm0 := ad.wA fr fr.length
  have hm1 := ad.wc (N := 8388608) (by decide) (fun i => (hb i).2) fr.length
  refine cx (fun (d : Nat) => [(0, .slice q fr.length c), (3, .int .i64 (ad.jA fr fr.length)), (6, .int .i64 (d : Int))]) (fun (d : Nat) => Row I3 q fr.length c fr :: F) (fun (d : Nat) => d ≤ 4 ∧ ad.dn fr = ad.qe (ad.jA fr fr.length) (16 - d) d) (fun (d : Nat) => 16 - d) (i1 (0) ?_ (fL ln) (sub (au .nil) ao)) ?_
  ·exact ⟨by omega, by unfold ad.dn; rfl⟩
  intro d
  rintro ⟨hd, hd2⟩
  refine rL dp 5 rfl ?_
  refine oV (dK (r := ad.jA fr fr.length / 2 ^ d) rfl rfl (by omega) (af.mE (by omega) rfl)) ?_
  refine rO dp 3 rfl ?_
  refine aj rfl (fun h22 => ?_) (fun h22 => ?_)
  ·refine cy dp 9 rfl (by omega) ?_
   have hd4 : d < 4 := by
    rcases Nat.lt_or_ge d 4 with h1 | h1
    ·exact h1
    ·exact absurd (by assumption) (ad.zN (x := ad.jA fr fr.length) ⟨hm0, hm1⟩ h1)
   refine j1 (d + 1) ?_ (fL ln) (sub (au .nil) ao)
   exact ⟨⟨by omega, hd2.trans (ad.FE (by omega) (by assumption))⟩, by omega⟩
  ·refine rC dp 14 rfl ?_
   have hdd : ad.dn fr = d := hd2.trans (ad.Iz (by assumption) _)
   rw [show Row I3 q fr.length c fr = Row I3 q fr.length c (ad.jv fr d 0) from by simp only [ad.jv]]
   refine cx (fun (i : Nat) => [(0, .slice q fr.length c), (6, .int .i64 (d : Int)), (25, .slice q fr.length c), (26, .int .i64 (fr.length : Int)), (27, .int .i64 (i : Int))]) (fun (i : Nat) => Row I3 q fr.length c (ad.jv fr d i) :: F) (fun (i : Nat) => i ≤ fr.length) (fun (i : Nat) => fr.length - i) (i1 (0) ?_ (aX ln) (sub (au .nil) ao)) ?_
   ·exact Nat.zero_le _
   intro i
   rintro hi
   refine rL dp 6 rfl ?_
   refine aj rfl (fun h28 => ?_) (fun h28 => ?_)
   ·refine rC dp 7 rfl ?_
    refine oV (xI V.aF (own ak)) ?_
    refine oV (xL V.s3 (own ak)) ?_
    have hi2 : i < fr.length := by omega
    have hgi := ad.pK fr d i i hi2
    rw [if_neg (by omega)] at hgi
    have hgl := ad.np fr d i
    rw [show I3.g (ad.jv fr d i) (i : Int) = fr.getD i 0 from hgi]
    have hbi := hb i
    refine rO dp 10 rfl ?_
    refine aj rfl (fun h33 => ?_) (fun h33 => ?_)
    ·refine rC dp 5 rfl ?_
     refine oV (dK (r := fr.getD i 0 / 2 ^ d) rfl rfl (by omega) (af.mE (by omega) rfl)) ?_
     refine oV (vG rfl rfl) ?_
     refine oV (xI V.aF (own ak)) ?_
     refine bM (eb (c := (I3)) (_) V.s3 rfl rfl rfl (by exact dO) (by omega) (by omega) rfl rfl) ?_
     refine bN dp 7 rfl (by omega) ?_
     (rw [show ((i : Int)).toNat = i from rfl, ← ad.D3 (d := d) h33]; exact j1 (i + 1) ⟨by omega, by omega⟩ (aX ln) (sub (au .nil) ao))
    ·refine cy dp 7 rfl (by omega) ?_
     (rw [← ad.Hr (d := d) hi2 h33]; exact j1 (i + 1) ⟨by omega, by omega⟩ (aX ln) (sub (au .nil) ao))
   ·refine rC dp 12 rfl ?_
    obtain rfl : i = fr.length := by omega
    exact an (bu rfl) ⟨rfl, by unfold ad.lq; rw [hdd]⟩ (sub (au .nil) ao)
theorem yH (q : Option Addr) (c n : Nat) (fr : List Int) (hb : ∀ i, 0 ≤ fr.getD i 0 ∧ fr.getD i 0 ≤ 8388608) (hn : fr.length = n) (hl : n ≤ 1000) : aD Tryz.prog 91 [.slice q n c] [Row I3 q n c fr] (aK fun v G => v = .slice q n c ∧ G = [Row I3 q n c (ad.lq fr)]) := by
 subst hn
 exact Ke q c fr hb hl
theorem pP {l l' : List Int} {s v : Int} (h : ad.fH l s = l') (hv : v = I3.g l s) : l.set s.toNat (v + 1) = l' := by
 rw [← h, hv]; unfold ad.fH; rfl
theorem Jg (l : List ad.aZ) : (List.replicate 286 I3.d).set ((256 : Int)).toNat 1 = ad.eN (l.take 0) ad.iA := by
 rw [List.take_zero]; unfold ad.iA; simp only [ad.eN]; rfl
theorem KE (l : List ad.aZ) : List.replicate 30 I3.d = ad.fK (l.take 0) ad.k6 := by
 rw [List.take_zero]; unfold ad.k6; simp only [ad.fK]
set_option maxHeartbeats 4000000 in
theorem DL (q : Option Addr) (cq : Nat) (l : List ad.aZ) (RT : ae) (hRT : ∀ w0 h, RT w0 h → bJ TK q l.length l w0 h) (hok : ∀ t ∈ l, ad.iu t) (hl : l.length ≤ 4194304) : aD Tryz.prog 77 [.slice q l.length cq] [RT] (aK fun v G => ∃ ba bb, v = .tuple #[.slice (some ⟨ba, 0, none⟩) 286 286, .slice (some ⟨bb, 0, none⟩) 30 30] ∧ G = [Row I3 (some ⟨ba, 0, none⟩) 286 286 (ad.fA l), Row I3 (some ⟨bb, 0, none⟩) 30 30 (ad.fB l), RT]) := by
 refine ax [(0, _)] Tryz.func77 rfl Tryz.ntmps77 rfl rfl ?_
 intro w0 F
 refine rT dp 7 rfl ?_
 refine mL [pz 0 [] [], pz 0 [] [], pz 1 [0] [], pz 7 [1] []] [⟨fun y => RT, none, none, []⟩, ⟨fun y => Row (I3) (some ⟨(cK (bY (y 0))), 0, none⟩) 286 286 (List.replicate 286 (I3).d), some 0, none, []⟩, ⟨fun y => Row (I3) (some ⟨(cK (bY (y 1))), 0, none⟩) 30 30 (List.replicate 30 (I3).d), some 1, none, []⟩] F V.mixed (by kernel_rfl) rfl (fun _ => .refl _) (dV _ (ea _ rfl (by intro y y2 h; simp only [h 0 (.inl rfl)]) (ea _ rfl (by intro y y2 h; simp only [h 1 (.inl rfl)]) jb))) ?_
 refine fD (fun y v => .slice (some ⟨cK (bY v), 0, none⟩) 286 286) (fun y v => True) _ _ (fun y v => [Row (I3) (some ⟨(cK (bY v)), 0, none⟩) 286 286 (List.replicate 286 (I3).d)]) _ (fun y => rfl) (fun y => rfl) (fun y => rfl) (fun y => rfl) (fun y FF hA => kV (pC 286 286 (I3) rfl rfl V.aF V.z3 rfl rfl rfl rfl (by omega) (by omega) rfl)) (by intros; rfl) (by intros; rfl) (by intros; rfl) (by intro y y2 h; simp only [h 0 (.inl rfl)]) (by intro y y2 h; rfl) ?_
 refine fD (fun y v => .slice (some ⟨cK (bY v), 0, none⟩) 30 30) (fun y v => True) _ _ (fun y v => [Row (I3) (some ⟨(cK (bY v)), 0, none⟩) 30 30 (List.replicate 30 (I3).d)]) _ (fun y => rfl) (fun y => rfl) (fun y => rfl) (fun y => rfl) (fun y FF hA => kV (pC 30 30 (I3) rfl rfl V.aF V.z3 rfl rfl rfl rfl (by omega) (by omega) rfl)) (by intros; rfl) (by intros; rfl) (by intros; rfl) (by intro y y2 h; simp only [h 1 (.inl rfl)]) (by intro y y2 h; rfl) ?_
 refine aR _ (fun y => rfl) rfl rfl rfl (fun y hA L => cu (cE rfl) ⟨rfl, rfl⟩) (by intros; rfl) (by intro y y2 h; simp only [h 0 (.inr (by decide))]) ?_
 refine aR _ (fun y => rfl) rfl rfl rfl (fun y hA L => cu (cE rfl) ⟨rfl, rfl⟩) (by intros; rfl) (by intro y y2 h; simp only [h 1 (.inr (by decide))]) ?_
 refine aM ?_
 intro y hA
 clear hA
 refine bp ?_
 refine bW [(0, .slice q l.length cq), (4, .slice (some ⟨(cK (bY (y 0))), 0, none⟩) 286 286), (5, .slice (some ⟨(cK (bY (y 1))), 0, none⟩) 30 30)] (.cons (d := 0) rfl (.cons (d := 4) rfl (.cons (d := 5) rfl (.nil _)))) ?_
 refine bR (M := RT :: Row (I3) (some ⟨(cK (bY (y 0))), 0, none⟩) 286 286 (List.replicate 286 (I3).d) :: Row (I3) (some ⟨(cK (bY (y 1))), 0, none⟩) 30 30 (List.replicate 30 (I3).d) :: F) (fun _ _ h => h) ?_
 generalize (cK (bY (y 0))) = iV
 generalize (cK (bY (y 1))) = qx
 refine rC dp 3 rfl ?_
 refine oV (xI V.aF (own bB)) ?_
 refine bM (eb (c := (I3)) (_) V.s3 rfl rfl rfl (by exact uT) (by omega) (by omega) rfl rfl) ?_
 refine rO dp 11 rfl ?_
 rw [Jg l, KE l]
 refine cx (fun (k : Nat) => [(4, .slice (some ⟨iV, 0, none⟩) 286 286), (5, .slice (some ⟨qx, 0, none⟩) 30 30), (15, .slice q l.length cq), (16, .int .i64 (l.length : Int)), (17, .int .i64 (k : Int))]) (fun (k : Nat) => Row I3 (some ⟨iV, 0, none⟩) 286 286 (ad.eN (l.take k) ad.iA) :: Row I3 (some ⟨qx, 0, none⟩) 30 30 (ad.fK (l.take k) ad.k6) :: RT :: F) (fun (k : Nat) => k ≤ l.length) (fun (k : Nat) => l.length - k) (i1 (0) ?_ (aX ln) (sub (.cons ar (.cons ar (au .nil))) ao)) ?_
 ·exact Nat.zero_le _
 intro k
 rintro hk
 refine rL dp 6 rfl ?_
 refine aj rfl (fun h18 => ?_) (fun h18 => ?_)
 ·refine rC dp 5 rfl ?_
  have hk2 : k < l.length := by omega
  have hxe : (TK.g l (k : Int)) = l[k] := by simp [Ec.g, hk2]
  have hxm : (TK.g l (k : Int)) ∈ l := by rw [hxe]; exact List.getElem_mem hk2
  have hto := hok _ hxm
  have hor := hto.pT
  have hgA := fun i => ad.xd (l := l.take k) (by rw [List.length_take]; omega) i
  have hgB := fun i => ad.wP (l := l.take k) (by rw [List.length_take]; omega) i
  have hAl : (ad.eN (l.take k) ad.iA).length = 286 := (ad.j0 _ _).trans ad.gW
  have hBl : (ad.fK (l.take k) ad.k6).length = 30 := (ad.lW _ _).trans ad.kh
  refine aW ?_
  refine oV (xI V.tV (by exact bd hRT dE)) ?_
  refine oV (dQ (c := (TK)) V.a109 rfl (by exact bd hRT dE) (by omega) (by omega) rfl) ?_
  refine fR V.z109 rfl ?_
  intro b7
  refine bM (fc V.a109 rfl rfl (us := [_, _, _]) rfl rfl (by exact dO) (by exact Nat.le_of_ble_eq_true rfl) rfl) ?_
  refine rO dp 6 rfl ?_
  refine oV (ag V.s3 rfl ak rfl) ?_
  refine rO dp 3 rfl ?_
  refine aj rfl (fun h23 => ?_) (fun h23 => ?_)
  ·refine rC dp 1 rfl ?_
   have hor2 : 0 ≤ (TK.g l (k : Int)).lit ∧ (TK.g l (k : Int)).lit < 256 := by omega
   have hv : 0 ≤ I3.g (ad.eN (l.take k) ad.iA) (TK.g l (k : Int)).lit ∧ I3.g (ad.eN (l.take k) ad.iA) (TK.g l (k : Int)).lit ≤ 8388608 := hgA _
   refine rC dp 3 rfl ?_
   refine oV (ag V.s3 rfl ak rfl) ?_
   refine oV (xI V.aF (own bB)) ?_
   refine oV (xL V.s3 (own bB)) ?_
   refine bN dp 1 rfl (by omega) ?_
   refine oV (xI V.aF (own bB)) ?_
   refine bM (eb (c := (I3)) (_) V.s3 rfl rfl rfl (by exact uT) (by omega) (by omega) rfl rfl) ?_
   refine bN dp 10 rfl (by omega) ?_
   (rw [pP (l := ad.eN (l.take k) ad.iA) (l' := ad.eN (l.take (k + 1)) ad.iA) (s := (TK.g l (k : Int)).lit) (by rw [hxe]; exact ad.FG hk2 _ (by rw [← hxe]; exact h23)) rfl, ad.D8 hk2 _ (by rw [← hxe]; exact h23)]; exact j1 (k + 1) ⟨by omega, by omega⟩ (aX ln) (sub (.cons ar (.cons ar (.cons ar .nil))) cw))
  ·refine rC dp 3 rfl ?_
   have hln := ad.rJ (n := (TK.g l (k : Int)).n) (by omega)
   have hds := ad.rm (f := (TK.g l (k : Int)).aL) (by omega)
   have hv : 0 ≤ I3.g (ad.eN (l.take k) ad.iA) (ad.eM (TK.g l (k : Int)).n) ∧ I3.g (ad.eN (l.take k) ad.iA) (ad.eM (TK.g l (k : Int)).n) ≤ 8388608 := hgA _
   have hv2 : 0 ≤ I3.g (ad.fK (l.take k) ad.k6) (ad.ef (TK.g l (k : Int)).aL) ∧ I3.g (ad.fK (l.take k) ad.k6) (ad.ef (TK.g l (k : Int)).aL) ≤ 8388608 := hgB _
   refine rC dp 2 rfl ?_
   refine oV (ag V.s3 rfl ak rfl) ?_
   refine ai (wC (TK.g l (k : Int)).n (by omega)) V.LU  rfl .nil rfl ?_
   rintro _ _ ⟨rfl, rfl⟩
   refine rO dp 13 rfl ?_
   refine oV (xI V.aF (own bB)) ?_
   refine oV (xL V.s3 (own bB)) ?_
   refine bN dp 1 rfl (by omega) ?_
   refine oV (xI V.aF (own bB)) ?_
   refine bM (eb (c := (I3)) (_) V.s3 rfl rfl rfl (by exact uT) (by omega) (by omega) rfl rfl) ?_
   refine rO dp 5 rfl ?_
   refine oV (ag V.s3 rfl ak rfl) ?_
   refine ai (Cx (TK.g l (k : Int)).aL (by omega)) V.LO  rfl .nil rfl ?_
   rintro _ _ ⟨rfl, rfl⟩
   refine rO dp 10 rfl ?_
   refine oV (xI V.aF (own dE)) ?_
   refine oV (xL V.s3 (own dE)) ?_
   refine bN dp 1 rfl (by omega) ?_
   refine oV (xI V.aF (own dE)) ?_
   refine bM (eb (c := (I3)) (_) V.s3 rfl rfl rfl (by exact nc) (by omega) (by omega) rfl rfl) ?_
   refine bN dp 7 rfl (by omega) ?_
   (rw [pP (l := ad.eN (l.take k) ad.iA) (l' := ad.eN (l.take (k + 1)) ad.iA) (s := ad.eM (TK.g l (k : Int)).n) (by rw [hxe]; exact ad.H0 hk2 _ (by rw [← hxe]; exact h23)) rfl, pP (l := ad.fK (l.take k) ad.k6) (l' := ad.fK (l.take (k + 1)) ad.k6) (s := ad.ef (TK.g l (k : Int)).aL) (by rw [hxe]; exact ad.G4 hk2 _ (by rw [← hxe]; exact h23)) rfl]; exact j1 (k + 1) ⟨by omega, by omega⟩ (aX ln) (sub (.cons ar (.cons ar (.cons ar .nil))) cw))
 ·refine rC dp 6 rfl ?_
  obtain rfl : k = l.length := by omega
  rw [List.take_length]
  refine rC dp 2 rfl ?_
  refine ai (yH (some ⟨iV, 0, none⟩) 286 286 (ad.eN l ad.iA) (ad.xd hl) ((ad.j0 _ _).trans ad.gW) (by decide)) V.L2  rfl (au .nil) rfl ?_
  rintro _ _ ⟨rfl, rfl⟩
  refine oV (aB rfl) ?_
  refine ai (yH (some ⟨qx, 0, none⟩) 30 30 (ad.fK l ad.k6) (ad.wP hl) ((ad.lW _ _).trans ad.kh) (by decide)) V.L2  rfl (.cons ar .nil) rfl ?_
  rintro _ _ ⟨rfl, rfl⟩
  refine rO dp 5 rfl ?_
  exact an (bT rfl rfl) ⟨iV, qx, rfl, by unfold ad.fA ad.fB; rfl⟩ (sub (.cons ar (aE .nil)) ao)
end Go.Proofs.YtmbljkghkcgejaaGreat

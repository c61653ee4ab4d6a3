/- Walks of functions that the law reaches, and what they lean on; no conditions. -/
import Derived.Test.YtmbljkghkcgejaaGreatM30
import Derived.Test.YtmbljkghkcgejaaGreatSl22
import Derived.KernelRfl
import Derived.Test.YtmbljkghkcgejaaGreatM43
import Derived.Test.YtmbljkghkcgejaaGreatM50
import Derived.Test.YtmbljkghkcgejaaGreatM52
import Derived.Test.YtmbljkghkcgejaaGreatM46
import Derived.Test.YtmbljkghkcgejaaGreatM34
import Derived.Test.YtmbljkghkcgejaaGreatSl25
set_option linter.unusedVariables false
set_option linter.unusedSimpArgs false
set_option maxRecDepth 100000
namespace Go.Proofs.YtmbljkghkcgejaaGreat
open Go.Sl 
theorem cP : dJ Tryz.prog ⟨[22], []⟩ = true := by kernel_rfl
attribute [local irreducible] ad.eB aa.gU ad.most af.aY aH.eV
set_option maxHeartbeats 2000000 in
theorem IU (p : Option Addr) (c : Nat) (B : List Int) (R : ae) (hR : ∀ w0 h, R w0 h → bJ U5 p B.length B w0 h) (hl : B.length < 500000000) (hB : af.aY B) : aD Tryz.prog 42 [.int .u32 1, .slice p B.length c] [R] (aK fun v G => v = .int .u32 (aH.iT B) ∧ G = [R]) := by
 refine ax [(0, _), (1, _)] Tryz.func42 rfl Tryz.ntmps42 rfl rfl ?_
 intro w0 F
 refine rT cP 8 rfl ?_
 refine oV (gu (r := 1) rfl rfl rfl) ?_
 refine oV (aB rfl) ?_
 refine oV (dK (r := 0) rfl rfl (by decide) rfl) ?_
 refine rO cP 13 rfl ?_
 rw [show ((5 : Nat), Value.int .u32 1) = (5, .int .u32 (aH.eV (B.take 0)).1) from by rw [List.take_zero, aH.ru], show ((6 : Nat), Value.int .u32 0) = (6, .int .u32 (aH.eV (B.take 0)).2) from by rw [List.take_zero, aH.ru]]
 refine cx (fun (i : Nat) => [(5, .int .u32 (aH.eV (B.take i)).1), (6, .int .u32 (aH.eV (B.take i)).2), (13, .slice p B.length c), (14, .int .i64 (B.length : Int)), (15, .int .i64 (i : Int))]) (fun (i : Nat) => R :: F) (fun (i : Nat) => i ≤ B.length) (fun (i : Nat) => B.length - i) (i1 (0) ?_ (aX ln) (sub (au .nil) ao)) ?_
 ·exact Nat.zero_le _
 intro i
 rintro hi
 refine rL cP 6 rfl ?_
 refine aj rfl (fun h16 => ?_) (fun h16 => ?_)
 ·refine rC cP 6 rfl ?_
  refine oV (xI V.bH (by exact bd hR ak)) ?_
  refine oV (xL V.s5 (by exact bd hR ak)) ?_
  refine rO cP 4 rfl ?_
  have hv : 0 ≤ (U5.g B (i : Int)) ∧ (U5.g B (i : Int)) < 256 := hB.get i
  have hs := aH.qX (B.take i)
  refine rC cP 3 rfl ?_
  refine oV (bq V.u5 Tryz.underlying48 rfl (aH.wrap32 (by omega) (by omega))) ?_
  refine oV (bU rfl rfl (aH.wrap32 (by omega) (by omega))) ?_
  refine oV (ic (r := ((aH.eV (B.take i)).1 + (U5.g B (i : Int))) % 65521) rfl rfl (by omega) (jx (by omega))) ?_
  refine rO cP 6 rfl ?_
  refine oV (bU rfl rfl (aH.wrap32 (by omega) (by omega))) ?_
  refine oV (ic (r := ((aH.eV (B.take i)).2 + ((aH.eV (B.take i)).1 + (U5.g B (i : Int))) % 65521) % 65521) rfl rfl (by omega) (jx (by omega))) ?_
  refine bN cP 8 rfl (by omega) ?_
  have e5 : ((aH.eV (B.take i)).1 + (U5.g B (i : Int))) % 65521 = (aH.eV (B.take (i + 1))).1 := by rw [aH.oO (by omega)]; rfl
  have e6 : ((aH.eV (B.take i)).2 + (aH.eV (B.take (i + 1))).1) % 65521 = (aH.eV (B.take (i + 1))).2 := by rw [aH.oO (by omega)]; rfl
  rw [e5, e6]
  exact j1 (i + 1) ⟨by omega, by omega⟩ (aX ln) (sub (au .nil) ao)
 ·refine rC cP 6 rfl ?_
  obtain rfl : i = B.length := by omega
  rw [List.take_length]
  have hs := aH.qX B
  refine rC cP 2 rfl ?_
  refine oV (eI (r := (aH.eV B).2 * 65536) rfl rfl (by decide) (aH.qJ (n := 16) rfl (by decide) rfl (by omega) (by omega))) ?_
  refine oV (aB rfl) ?_
  refine oV (jy (r := (aH.eV B).2 * 65536 + (aH.eV B).1) rfl rfl (aH.qd (u := (aH.eV B).2) (n := 16) rfl (by omega) (by omega) (by omega))) ?_
  refine rO cP 4 rfl ?_
  exact an (bu rfl) ⟨by unfold aH.iT; rfl, rfl⟩ (sub (au .nil) ao)
set_option maxHeartbeats 2000000 in
theorem CE (p : Option Addr) (c : Nat) (B : List Int) (R : ae) (hR : ∀ w0 h, R w0 h → bJ U5 p B.length B w0 h) (hl : B.length < 500000000) (hB : af.aY B) : aD Tryz.prog 17 [.int .u32 1, .slice p B.length c] [R] (aK fun v G => v = .int .u32 (aH.iT B) ∧ G = [R]) := by
 refine ax [(0, _), (1, _)] Tryz.func17 rfl Tryz.ntmps17 rfl rfl ?_
 intro w0 F
 refine rT cP 8 rfl ?_
 refine oV (gu (r := 1) rfl rfl rfl) ?_
 refine oV (aB rfl) ?_
 refine oV (dK (r := 0) rfl rfl (by decide) rfl) ?_
 refine rO cP 11 rfl ?_
 rw [show ((5 : Nat), Value.int .u32 1) = (5, .int .u32 (aH.eV (B.take 0)).1) from by rw [List.take_zero, aH.ru], show ((6 : Nat), Value.int .u32 0) = (6, .int .u32 (aH.eV (B.take 0)).2) from by rw [List.take_zero, aH.ru]]
 refine cx (fun (i : Nat) => [(1, .slice p B.length c), (5, .int .u32 (aH.eV (B.take i)).1), (6, .int .u32 (aH.eV (B.take i)).2), (7, .int .i64 (i : Int))]) (fun (i : Nat) => R :: F) (fun (i : Nat) => i ≤ B.length) (fun (i : Nat) => B.length - i) (i1 (0) ?_ (dI ln) (sub (au .nil) ao)) ?_
 ·exact Nat.zero_le _
 intro i
 rintro hi
 refine rL cP 9 rfl ?_
 refine aj rfl (fun h15 => ?_) (fun h15 => ?_)
 ·refine rC cP 5 rfl ?_
  have hv : 0 ≤ (U5.g B (i : Int)) ∧ (U5.g B (i : Int)) < 256 := hB.get i
  have hs := aH.qX (B.take i)
  refine rC cP 4 rfl ?_
  refine oV (xI V.bH (by exact bd hR ak)) ?_
  refine oV (xL V.s5 (by exact bd hR ak)) ?_
  refine oV (bq V.u5 Tryz.underlying48 rfl (aH.wrap32 (by omega) (by omega))) ?_
  refine oV (bU rfl rfl (aH.wrap32 (by omega) (by omega))) ?_
  refine oV (ic (r := ((aH.eV (B.take i)).1 + (U5.g B (i : Int))) % 65521) rfl rfl (by omega) (jx (by omega))) ?_
  refine rO cP 6 rfl ?_
  refine oV (bU rfl rfl (aH.wrap32 (by omega) (by omega))) ?_
  refine oV (ic (r := ((aH.eV (B.take i)).2 + ((aH.eV (B.take i)).1 + (U5.g B (i : Int))) % 65521) % 65521) rfl rfl (by omega) (jx (by omega))) ?_
  refine bN cP 9 rfl (by omega) ?_
  have e5 : ((aH.eV (B.take i)).1 + (U5.g B (i : Int))) % 65521 = (aH.eV (B.take (i + 1))).1 := by rw [aH.oO (by omega)]; rfl
  have e6 : ((aH.eV (B.take i)).2 + (aH.eV (B.take (i + 1))).1) % 65521 = (aH.eV (B.take (i + 1))).2 := by rw [aH.oO (by omega)]; rfl
  rw [e5, e6]
  exact j1 (i + 1) ⟨by omega, by omega⟩ (dI ln) (sub (au .nil) ao)
 ·refine rC cP 6 rfl ?_
  obtain rfl : i = B.length := by omega
  rw [List.take_length]
  have hs := aH.qX B
  refine rC cP 2 rfl ?_
  refine oV (eI (r := (aH.eV B).2 * 65536) rfl rfl (by decide) (aH.qJ (n := 16) rfl (by decide) rfl (by omega) (by omega))) ?_
  refine oV (aB rfl) ?_
  refine oV (jy (r := (aH.eV B).2 * 65536 + (aH.eV B).1) rfl rfl (aH.qd (u := (aH.eV B).2) (n := 16) rfl (by omega) (by omega) (by omega))) ?_
  refine rO cP 4 rfl ?_
  exact an (bu rfl) ⟨by unfold aH.iT; rfl, rfl⟩ (sub (au .nil) ao)
theorem Hg (p : Option Addr) (c : Nat) (B : List Int) (R : ae) (hR : ∀ w0 h, R w0 h → bJ U5 p B.length B w0 h) (hl : B.length < 500000000) (hB : af.aY B) : aD Tryz.prog 26 [.slice p B.length c] [R] (aK fun v G => v = .int .u32 (aH.iT B) ∧ G = [R]) := by
 refine ax [(0, _)] Tryz.func26 rfl Tryz.ntmps26 rfl rfl ?_
 intro w0 F
 refine rT cP 8 rfl ?_
 refine ai (IU p c B R hR hl hB) V.Me  rfl (au .nil) rfl ?_
 rintro _ _ ⟨rfl, rfl⟩
 refine rO cP 4 rfl ?_
 exact an (bu rfl) ⟨rfl, rfl⟩ (sub (au .nil) ao)
set_option maxHeartbeats 2000000 in
theorem CY (p : Option Addr) (c : Nat) (B : List Int) (R : ae) (hR : ∀ w0 h, R w0 h → bJ U5 p B.length B w0 h) (hl : 2 ≤ B.length) (hB : af.aY B) (t : Bool) (ht : t = decide (aH.Hd (B.getD 0 0) (B.getD 1 0))) : aD Tryz.prog 13 [.slice p B.length c] [R] (aK fun v G => v = .bool t ∧ G = [R]) := by
 refine ax [(0, _)] Tryz.func13 rfl Tryz.ntmps13 rfl rfl ?_
 intro w0 F
 have hv : 0 ≤ (U5.g B 0) ∧ (U5.g B 0) < 256 := hB.get 0
 have hw : 0 ≤ (U5.g B 1) ∧ (U5.g B 1) < 256 := hB.get 1
 have ht2 : t = decide (aH.Hd (U5.g B 0) (U5.g B 1)) := ht
 clear ht
 refine rT cP 6 rfl ?_
 refine lz V.mixed (by kernel_rfl) ?_
 refine oR (aB rfl) ?_
 refine oR (xI V.bH (by exact bd hR ak)) ?_
 refine oR (xL V.s5 (by exact bd hR ak)) ?_
 refine oR (bq V.u5 Tryz.underlying3 rfl wI) ?_
 refine oR (aB rfl) ?_
 refine oR (xI V.bH (by exact bd hR ak)) ?_
 refine oR (xL V.s5 (by exact bd hR ak)) ?_
 refine oR (bq V.u5 Tryz.underlying3 rfl wI) ?_
 refine rR cP 2 rfl ?_
 refine Rg.bC ?_
 refine bp ?_
 rcases (aH.Li (U5.g B 0) (U5.g B 1)) with h1 | ⟨h1, h2⟩ | ⟨h1, h2, h3⟩ | ⟨h1, h2, h3, h4⟩ | ⟨h1, h2, h3, h4⟩
 ·refine rC cP 3 rfl ?_
  refine oV (gu (r := (U5.g B 0) % 16) rfl rfl (aH.tK hv)) ?_
  refine oV (bA (cg rfl rfl) (by omega)) ?_
  refine rO cP 22 rfl ?_
  (obtain rfl : t = false := ht2.trans (decide_eq_false (by unfold aH.Hd; intro hh; omega)); exact an (G := [R]) (bu rfl) ⟨rfl, rfl⟩ (sub (au .nil) ao))
 ·refine rC cP 3 rfl ?_
  refine oV (gu (r := (U5.g B 0) % 16) rfl rfl (aH.tK hv)) ?_
  refine oV (ck (cg rfl rfl) (by omega)) ?_
  refine rO cP 2 rfl ?_
  refine al rfl ?_
  refine oV (dK (r := (U5.g B 0) / 16) rfl rfl (by decide) (aH.Ga hv.1)) ?_
  refine al rfl ?_
  refine oV (bA (iM rfl rfl) (by omega)) ?_
  refine rO cP 18 rfl ?_
  (obtain rfl : t = false := ht2.trans (decide_eq_false (by unfold aH.Hd; intro hh; omega)); exact an (G := [R]) (bu rfl) ⟨rfl, rfl⟩ (sub (au .nil) ao))
 ·refine rC cP 3 rfl ?_
  refine oV (gu (r := (U5.g B 0) % 16) rfl rfl (aH.tK hv)) ?_
  refine oV (ck (cg rfl rfl) (by omega)) ?_
  refine rO cP 2 rfl ?_
  refine al rfl ?_
  refine oV (dK (r := (U5.g B 0) / 16) rfl rfl (by decide) (aH.Ga hv.1)) ?_
  refine al rfl ?_
  refine oV (ck (iM rfl rfl) (by omega)) ?_
  refine rO cP 3 rfl ?_
  refine al rfl ?_
  refine oV (eI (r := (U5.g B 0) * 256) rfl rfl (by decide) (aH.EC (n := 8) rfl (by decide) rfl (by omega) (by omega))) ?_
  refine al rfl ?_
  refine oV (aB rfl) ?_
  refine al rfl ?_
  refine oV (jy (r := (U5.g B 0) * 256 + (U5.g B 1)) rfl rfl (aH.uq (u := (U5.g B 0)) (n := 8) rfl hv.1 (by omega) (by omega))) ?_
  refine al rfl ?_
  refine oV (ic (r := ((U5.g B 0) * 256 + (U5.g B 1)) % 31) rfl rfl (by omega) (jx (by omega))) ?_
  refine al rfl ?_
  refine oV (bA (cg rfl rfl) (by omega)) ?_
  refine rO cP 10 rfl ?_
  (obtain rfl : t = false := ht2.trans (decide_eq_false (by unfold aH.Hd; intro hh; omega)); exact an (G := [R]) (bu rfl) ⟨rfl, rfl⟩ (sub (au .nil) ao))
 ·refine rC cP 3 rfl ?_
  refine oV (gu (r := (U5.g B 0) % 16) rfl rfl (aH.tK hv)) ?_
  refine oV (ck (cg rfl rfl) (by omega)) ?_
  refine rO cP 2 rfl ?_
  refine al rfl ?_
  refine oV (dK (r := (U5.g B 0) / 16) rfl rfl (by decide) (aH.Ga hv.1)) ?_
  refine al rfl ?_
  refine oV (ck (iM rfl rfl) (by omega)) ?_
  refine rO cP 3 rfl ?_
  refine al rfl ?_
  refine oV (eI (r := (U5.g B 0) * 256) rfl rfl (by decide) (aH.EC (n := 8) rfl (by decide) rfl (by omega) (by omega))) ?_
  refine al rfl ?_
  refine oV (aB rfl) ?_
  refine al rfl ?_
  refine oV (jy (r := (U5.g B 0) * 256 + (U5.g B 1)) rfl rfl (aH.uq (u := (U5.g B 0)) (n := 8) rfl hv.1 (by omega) (by omega))) ?_
  refine al rfl ?_
  refine oV (ic (r := ((U5.g B 0) * 256 + (U5.g B 1)) % 31) rfl rfl (by omega) (jx (by omega))) ?_
  refine al rfl ?_
  refine oV (ck (cg rfl rfl) (by omega)) ?_
  refine rO cP 3 rfl ?_
  refine al rfl ?_
  refine oV (gu (r := 32 * ((U5.g B 1) / 32 % 2)) rfl rfl (aH.Gq hw)) ?_
  refine al rfl ?_
  refine oV (bA (cg rfl rfl) (by omega)) ?_
  refine rO cP 5 rfl ?_
  (obtain rfl : t = false := ht2.trans (decide_eq_false (by unfold aH.Hd; intro hh; omega)); exact an (G := [R]) (bu rfl) ⟨rfl, rfl⟩ (sub (au .nil) ao))
 ·refine rC cP 3 rfl ?_
  refine oV (gu (r := (U5.g B 0) % 16) rfl rfl (aH.tK hv)) ?_
  refine oV (ck (cg rfl rfl) (by omega)) ?_
  refine rO cP 2 rfl ?_
  refine al rfl ?_
  refine oV (dK (r := (U5.g B 0) / 16) rfl rfl (by decide) (aH.Ga hv.1)) ?_
  refine al rfl ?_
  refine oV (ck (iM rfl rfl) (by omega)) ?_
  refine rO cP 3 rfl ?_
  refine al rfl ?_
  refine oV (eI (r := (U5.g B 0) * 256) rfl rfl (by decide) (aH.EC (n := 8) rfl (by decide) rfl (by omega) (by omega))) ?_
  refine al rfl ?_
  refine oV (aB rfl) ?_
  refine al rfl ?_
  refine oV (jy (r := (U5.g B 0) * 256 + (U5.g B 1)) rfl rfl (aH.uq (u := (U5.g B 0)) (n := 8) rfl hv.1 (by omega) (by omega))) ?_
  refine al rfl ?_
  refine oV (ic (r := ((U5.g B 0) * 256 + (U5.g B 1)) % 31) rfl rfl (by omega) (jx (by omega))) ?_
  refine al rfl ?_
  refine oV (ck (cg rfl rfl) (by omega)) ?_
  refine rO cP 3 rfl ?_
  refine al rfl ?_
  refine oV (gu (r := 32 * ((U5.g B 1) / 32 % 2)) rfl rfl (aH.Gq hw)) ?_
  refine al rfl ?_
  refine oV (ck (cg rfl rfl) (by omega)) ?_
  refine rO cP 5 rfl ?_
  (obtain rfl : t = true := ht2.trans (decide_eq_true (by unfold aH.Hd; exact ⟨h1, h2, h3, h4⟩)); exact an (G := [R]) (bu rfl) ⟨rfl, rfl⟩ (sub (au .nil) ao))
set_option maxHeartbeats 2000000 in
theorem zY (p : Option Addr) (c : Nat) (B : List Int) (R : ae) (hR : ∀ w0 h, R w0 h → bJ U5 p B.length B w0 h) (hl : B.length < 500000000) (hB : af.aY B) : aD Tryz.prog 15 [.slice p B.length c] [R] (aK fun v G => v = .string (strOfNums (aH.kF B)) ∧ G = [R]) := by
 refine ax [(0, _)] Tryz.func15 rfl Tryz.ntmps15 rfl rfl ?_
 intro w0 F
 have hn := aH.xe B
 refine rT cP 8 rfl ?_
 refine ai (Hg p c B R hR hl hB) V.vn  rfl (au .nil) rfl ?_
 rintro _ _ ⟨rfl, rfl⟩
 refine rO cP 6 rfl ?_
 refine oV (dK (r := aH.iT B / 2 ^ 24) rfl rfl (by decide) (aH.DS (n := 24) rfl (by decide))) ?_
 refine oV (bq V.CS Tryz.underlying5 rfl ((af.kC _).trans (show (aH.iT B / 2 ^ 24) % 256 = aH.iT B / 16777216 from by omega))) ?_
 refine oV (aB rfl) ?_
 refine oV (dK (r := aH.iT B / 2 ^ 16) rfl rfl (by decide) (aH.DS (n := 16) rfl (by decide))) ?_
 refine oV (bq V.CS Tryz.underlying5 rfl ((af.kC _).trans (show (aH.iT B / 2 ^ 16) % 256 = aH.iT B / 65536 % 256 from by omega))) ?_
 refine oV (aB rfl) ?_
 refine oV (dK (r := aH.iT B / 2 ^ 8) rfl rfl (by decide) (aH.DS (n := 8) rfl (by decide))) ?_
 refine oV (bq V.CS Tryz.underlying5 rfl ((af.kC _).trans (show (aH.iT B / 2 ^ 8) % 256 = aH.iT B / 256 % 256 from by omega))) ?_
 refine oV (aB rfl) ?_
 refine oV (bq V.CS Tryz.underlying5 rfl ((af.kC _).trans (show (aH.iT B) % 256 = aH.iT B % 256 from by omega))) ?_
 refine bP (U5) (aH.kF B) V.bH V.z5 rfl rfl rfl rfl rfl rfl ?_
 intro Jh
 refine oV (nF (T := 5) Tryz.underlying22 Tryz.underlying5 Tryz.underlying9 rfl (own ak)) ?_
 refine rO cP 4 rfl ?_
 exact an (bu rfl) ⟨rfl, rfl⟩ (sub (.cons ar .nil) cw)
end Go.Proofs.YtmbljkghkcgejaaGreat
namespace Go.Proofs.YtmbljkghkcgejaaGreat
open Go.Sl 
theorem aN : dJ Tryz.prog ⟨[22], []⟩ = true := by kernel_rfl
attribute [local irreducible] ad.eB aa.gU ad.most af.aY aH.eV aH.kF aH.iT
section
variable {C : Ctx} {E : Env} {L : List ae} {ty : TypeId}
theorem Gl {x y : Operand} {t t' : TypeId} {s u : ByteArray} {r : Bool} (hr : (s.toList == u.toList) = r) (hx : ay E x = some (.string s)) (hy : ay E y = some (.string u)) : bX C (.binOp .neq t x y t') ty E L (.bool (!r)) L :=
 dR fun d pos aft g a w ha => by
  rw [jo d pos aft g (ha.eval hx) (ha.eval hy) (by simp [eqGuard])]
  simp [binOp, Op.stringOp, Sem.run_pure, ← hr, bne]
end
theorem I7 (p : Option Addr) (c n : Nat) (L : List Int) (R : ae) (hR : ∀ w0 h, R w0 h → bJ U5 p n L w0 h) (hn : L.length = n) (hl : n < 500000000) (hB : af.aY L) (mo : Int) (hm : mo < 500000000) (x : List Int) (u e : Int) (hq : aa.gU L mo (x, u, e)) : aD Tryz.prog 14 [.slice p n c, .int .i64 mo] [R] (aK fun v G => ∃ qq cq, v = .tuple #[.slice qq x.length cq, .int .i64 u, .int .i64 e] ∧ G = [Row U5 qq x.length cq x, R]) := by
 subst hn
 exact Lh p c L R hR hl hB mo hm (x, u, e) hq
theorem Ki (p : Option Addr) (c n : Nat) (L : List Int) (R : ae) (hR : ∀ w0 h, R w0 h → bJ U5 p n L w0 h) (hn : L.length = n) (hl : n < 500000000) (hB : af.aY L) (mo : Int) (hm : mo < 500000000) (x : List Int) (u e : Int) (hq : aa.gU L mo (x, u, e)) : aD Tryz.prog 16 [.slice p n c, .int .i64 mo] [R] (aK fun v G => ∃ qq cq, v = .tuple #[.slice qq x.length cq, .int .i64 u, .int .i64 e] ∧ G = [Row U5 qq x.length cq x, R]) := by
 subst hn
 exact KQ p c L R hR hl hB mo hm (x, u, e) hq
set_option maxHeartbeats 4000000 in
theorem Ja (p : Option Addr) (c : Nat) (B : List Int) (R : ae) (hR : ∀ w0 h, R w0 h → bJ U5 p B.length B w0 h) (hcap : B.length ≤ c) (hl : B.length < 500000000) (hB : af.aY B) (mo : Int) (hm : mo < 500000000) (q : List Int × Int) (hq : aH.qO B mo q) : aD Tryz.prog 8 [.slice p B.length c, .int .i64 mo] [R] (aK fun v G => ∃ qq cq, v = .tuple #[.slice qq q.1.length cq, .int .i64 q.2] ∧ G = [Row U5 qq q.1.length cq q.1, R]) := by
 refine ax [(0, _), (1, _)] Tryz.func8 rfl Tryz.ntmps8 rfl rfl ?_
 intro w0 F
 refine rT aN 8 rfl ?_
 rcases (hq.JI hB hm) with ⟨hb6, rfl⟩ | ⟨hb6, hhd, rfl⟩ | ⟨x, n, e, hb6, hhd, hr, hxB, hxl, hn, hws⟩
 ·refine rC aN 4 rfl ?_
  refine oV (ck (bZ rfl rfl) (by omega)) ?_
  refine rO aN 13 rfl ?_
  exact an (bT rfl rfl) ⟨none, 0, rfl, rfl⟩ (Sl.Sub.trans (cL (A := Row U5 none 0 0 []) (fun w0 => Row.nil U5 w0 _)) (sub (aE .nil) ao))
 ·refine rC aN 4 rfl ?_
  refine oV (bA (bZ rfl rfl) (by omega)) ?_
  refine rO aN 7 rfl ?_
  refine ai (CY p c B R hR (by omega) hB false (decide_eq_false hhd).symm) V.mV  rfl (au .nil) rfl ?_
  rintro _ _ ⟨rfl, rfl⟩
  refine rO aN 14 rfl ?_
  exact an (bT rfl rfl) ⟨none, 0, rfl, rfl⟩ (Sl.Sub.trans (cL (A := Row U5 none 0 0 []) (fun w0 => Row.nil U5 w0 _)) (sub (aE .nil) ao))
 ·refine rC aN 4 rfl ?_
  refine oV (bA (bZ rfl rfl) (by omega)) ?_
  refine rO aN 7 rfl ?_
  refine ai (CY p c B R hR (by omega) hB true (decide_eq_true hhd).symm) V.mV  rfl (au .nil) rfl ?_
  rintro _ _ ⟨rfl, rfl⟩
  refine rO aN 9 rfl ?_
  have hB2 := aH.jW hB 2
  have hD2 : ∀ w0 h, R w0 h → bJ U5 (gK p 2 c 1) (B.length - 2) (B.drop 2) w0 h := fun w0 h hh => j8 (c := U5) hR rfl 2 c (by omega) hcap w0 h hh
  refine rC aN 2 rfl ?_
  refine oV (fz 2 _ _ V.bH rfl ⟨_, rfl⟩ ⟨rfl, rfl⟩ rfl (by omega) (by omega) (by omega)) ?_
  refine oV (aB rfl) ?_
  refine ai (I7 (gK p 2 c 1) (c - 2) (B.length - 2) (B.drop 2) R hD2 List.length_drop (by omega) hB2 mo hm x (n : Int) e hr) V.NI  rfl (au .nil) rfl ?_
  rintro _ _ ⟨q22, c22, rfl, rfl⟩
  refine rO aN 10 rfl ?_
  have hBn := aH.jW hB (2 + n)
  have hDn : ∀ w0 h, R w0 h → bJ U5 (gK p (2 + n) c 1) (B.length - (2 + n)) (B.drop (2 + n)) w0 h := fun w0 h hh => j8 (c := U5) hR rfl (2 + n) c (by omega) hcap w0 h hh
  refine rC aN 3 rfl ?_
  refine oV (de (v := .int .i64 ((2 + n : Nat) : Int)) (bU rfl rfl wI) (by congr 1)) ?_
  refine oV (fz (2 + n) B.length c V.bH rfl ⟨_, rfl⟩ ⟨rfl, rfl⟩ rfl (by omega) (by omega) (by omega)) ?_
  refine rO aN 5 rfl ?_
  rcases (hws) with ⟨he, rfl⟩ | ⟨he, h4, rfl⟩ | ⟨he, h4, rfl⟩ | ⟨he, h4, hne, rfl⟩ | ⟨he, h4, heq, rfl⟩
  ·refine rC aN 3 rfl ?_
   refine oV (ck (cI rfl rfl) he) ?_
   refine rO aN 14 rfl ?_
   exact an (bT rfl rfl) ⟨none, 0, rfl, rfl⟩ (Sl.Sub.trans (cL (A := Row U5 none 0 0 []) (fun w0 => Row.nil U5 w0 _)) (sub (au (.cons ar .nil)) cw))
  ·refine rC aN 3 rfl ?_
   refine oV (bA (cI rfl rfl) (fun h => h he)) ?_
   refine rO aN 8 rfl ?_
   refine oV (ck (bZ rfl rfl) (by omega)) ?_
   refine rO aN 13 rfl ?_
   exact an (bT rfl rfl) ⟨none, 0, rfl, rfl⟩ (Sl.Sub.trans (cL (A := Row U5 none 0 0 []) (fun w0 => Row.nil U5 w0 _)) (sub (au (.cons ar .nil)) cw))
  ·refine rC aN 3 rfl ?_
   refine oV (bA (cI rfl rfl) (fun h => h he)) ?_
   refine rO aN 8 rfl ?_
   refine oV (bA (bZ rfl rfl) (by omega)) ?_
   refine rO aN 8 rfl ?_
   refine oV (ck (cB rfl rfl) (by omega)) ?_
   refine rO aN 13 rfl ?_
   exact an (bT rfl rfl) ⟨none, 0, rfl, rfl⟩ (Sl.Sub.trans (cL (A := Row U5 none 0 0 []) (fun w0 => Row.nil U5 w0 _)) (sub (au (.cons ar .nil)) cw))
  ·refine rC aN 3 rfl ?_
   refine oV (bA (cI rfl rfl) (fun h => h he)) ?_
   refine rO aN 8 rfl ?_
   refine oV (bA (bZ rfl rfl) (by omega)) ?_
   refine rO aN 8 rfl ?_
   refine oV (bA (cB rfl rfl) (by omega)) ?_
   refine rO aN 5 rfl ?_
   refine wN [pz 0 [] [9], pz 1 [0] [], pz 0 [] [6], pz 4 [2] [], pz 15 [1, 3] [], pz 31 [4] []] [⟨fun y => Row U5 q22 x.length c22 x, none, some 3, []⟩, ⟨fun y => R, none, none, [1]⟩, ⟨fun y => Row U5 q22 x.length c22 x, some 3, none, []⟩] F V.mixed ?_
   refine nM ?_
   refine nR (fun y FF hA => nF (T := 5) Tryz.underlying22 Tryz.underlying5 Tryz.underlying9 rfl (by exact bd hDn ak)) ?_
   refine nM ?_
   refine nE (fun y FF hA => dx (Post := [Row U5 q22 x.length c22 x]) (zY q22 c22 x (Row U5 q22 x.length c22 x) (fun _ _ hh => hh.rd) (by omega) hxB) V.eU rfl (au .nil) (fun v G h => by rcases h with ⟨rfl, rfl⟩; exact ⟨rfl, .refl _⟩)) ?_
   refine nV (fun y hA L => de (v := .bool true) (Gl (Lq (aH.uh hBn) (aH.uh (aH.rv x)) hne) rfl rfl) rfl) ?_
   refine nA ?_
   refine aM ?_
   intro y hA
   clear hA
   refine bp ?_
   refine bW _ (.cons (d := 6) rfl (.cons (d := 42) rfl (.nil _))) ?_
   refine bR (M := R :: Row U5 q22 x.length c22 x :: F) (fun _ _ h => h) ?_
   refine rC aN 10 rfl ?_
   exact an (bT rfl rfl) ⟨none, 0, rfl, rfl⟩ (Sl.Sub.trans (cL (A := Row U5 none 0 0 []) (fun w0 => Row.nil U5 w0 _)) (sub (aE .nil) cw))
  ·refine rC aN 3 rfl ?_
   refine oV (bA (cI rfl rfl) (fun h => h he)) ?_
   refine rO aN 8 rfl ?_
   refine oV (bA (bZ rfl rfl) (by omega)) ?_
   refine rO aN 8 rfl ?_
   refine oV (bA (cB rfl rfl) (by omega)) ?_
   refine rO aN 5 rfl ?_
   refine wN [pz 0 [] [9], pz 1 [0] [], pz 0 [] [6], pz 4 [2] [], pz 15 [1, 3] [], pz 31 [4] []] [⟨fun y => Row U5 q22 x.length c22 x, none, some 3, []⟩, ⟨fun y => R, none, none, [1]⟩, ⟨fun y => Row U5 q22 x.length c22 x, some 3, none, []⟩] F V.mixed ?_
   refine nM ?_
   refine nR (fun y FF hA => nF (T := 5) Tryz.underlying22 Tryz.underlying5 Tryz.underlying9 rfl (by exact bd hDn ak)) ?_
   refine nM ?_
   refine nE (fun y FF hA => dx (Post := [Row U5 q22 x.length c22 x]) (zY q22 c22 x (Row U5 q22 x.length c22 x) (fun _ _ hh => hh.rd) (by omega) hxB) V.eU rfl (au .nil) (fun v G h => by rcases h with ⟨rfl, rfl⟩; exact ⟨rfl, .refl _⟩)) ?_
   refine nV (fun y hA L => de (v := .bool false) (Gl (r := true) (by rw [heq]; exact beq_self_eq_true _) rfl rfl) rfl) ?_
   refine nA ?_
   refine aM ?_
   intro y hA
   clear hA
   refine bp ?_
   refine bW _ (.cons (d := 6) rfl (.cons (d := 42) rfl (.nil _))) ?_
   refine bR (M := R :: Row U5 q22 x.length c22 x :: F) (fun _ _ h => h) ?_
   refine rC aN 12 rfl ?_
   exact an (bT rfl rfl) ⟨q22, c22, rfl, rfl⟩ (sub (.cons ar (au .nil)) ao)
set_option maxHeartbeats 4000000 in
theorem I8 (p : Option Addr) (c : Nat) (B : List Int) (R : ae) (hR : ∀ w0 h, R w0 h → bJ U5 p B.length B w0 h) (hcap : B.length ≤ c) (hl : B.length < 500000000) (hB : af.aY B) (mo : Int) (hm : mo < 500000000) (q : List Int × Int) (hq : aH.qO B mo q) : aD Tryz.prog 9 [.slice p B.length c, .int .i64 mo] [R] (aK fun v G => ∃ qq cq, v = .tuple #[.slice qq q.1.length cq, .int .i64 q.2] ∧ G = [Row U5 qq q.1.length cq q.1, R]) := by
 refine ax [(0, _), (1, _)] Tryz.func9 rfl Tryz.ntmps9 rfl rfl ?_
 intro w0 F
 have hv : 0 ≤ (U5.g B 0) ∧ (U5.g B 0) < 256 := hB.get 0
 have hw : 0 ≤ (U5.g B 1) ∧ (U5.g B 1) < 256 := hB.get 1
 have hq2 := hq.JI hB hm
 rw [show B.getD 0 0 = (U5.g B 0) from rfl, show B.getD 1 0 = (U5.g B 1) from rfl] at hq2
 refine rT aN 6 rfl ?_
 rcases (hq2) with ⟨hb6, rfl⟩ | ⟨hb6, hhd, rfl⟩ | ⟨x, n, e, hb6, ⟨h1, h2, h3, h5⟩, hr, hxB, hxl, hn, hws⟩
 ·refine rC aN 5 rfl ?_
  refine oV (ck (bZ rfl rfl) (by omega)) ?_
  refine rO aN 11 rfl ?_
  exact an (bT rfl rfl) ⟨none, 0, rfl, rfl⟩ (Sl.Sub.trans (cL (A := Row U5 none 0 0 []) (fun w0 => Row.nil U5 w0 _)) (sub (aE .nil) ao))
 ·refine rC aN 5 rfl ?_
  refine oV (bA (bZ rfl rfl) (by omega)) ?_
  refine rO aN 5 rfl ?_
  rcases (aH.KY hhd) with h1 | ⟨h1, h2⟩ | ⟨h1, h2, h3⟩ | ⟨h1, h2, h3, h5⟩
  ·refine rC aN 2 rfl ?_
   refine lz V.mixed (by kernel_rfl) ?_
   refine oR (aB rfl) ?_
   refine oR (xI V.bH (by exact bd hR ak)) ?_
   refine oR (xL V.s5 (by exact bd hR ak)) ?_
   refine oR (gu (r := (U5.g B 0) % 16) rfl rfl (aH.qA hv)) ?_
   refine oR (ck (cI rfl rfl) (by omega)) ?_
   refine rR aN 28 rfl ?_
   refine Rg.bC ?_
   refine rN aN 10 rfl ?_
   exact an (bT rfl rfl) ⟨none, 0, rfl, rfl⟩ (Sl.Sub.trans (cL (A := Row U5 none 0 0 []) (fun w0 => Row.nil U5 w0 _)) (sub (aE .nil) ao))
  ·refine rC aN 2 rfl ?_
   refine lz V.mixed (by kernel_rfl) ?_
   refine oR (aB rfl) ?_
   refine oR (xI V.bH (by exact bd hR ak)) ?_
   refine oR (xL V.s5 (by exact bd hR ak)) ?_
   refine oR (gu (r := (U5.g B 0) % 16) rfl rfl (aH.qA hv)) ?_
   refine oR (bA (cI rfl rfl) (fun hh => hh (by omega))) ?_
   refine rR aN 2 rfl ?_
   refine Rg.al rfl ?_
   refine oR (xI V.bH (by exact bd hR ak)) ?_
   refine Rg.al rfl ?_
   refine oR (xL V.s5 (by exact bd hR ak)) ?_
   refine Rg.al rfl ?_
   refine oR (dK (r := (U5.g B 0) / 16) rfl rfl (by decide) (aH.AA hv.1)) ?_
   refine Rg.al rfl ?_
   refine oR (ck (cB rfl rfl) (by omega)) ?_
   refine rR aN 22 rfl ?_
   refine Rg.bC ?_
   refine rN aN 10 rfl ?_
   exact an (bT rfl rfl) ⟨none, 0, rfl, rfl⟩ (Sl.Sub.trans (cL (A := Row U5 none 0 0 []) (fun w0 => Row.nil U5 w0 _)) (sub (aE .nil) ao))
  ·refine rC aN 2 rfl ?_
   refine lz V.mixed (by kernel_rfl) ?_
   refine oR (aB rfl) ?_
   refine oR (xI V.bH (by exact bd hR ak)) ?_
   refine oR (xL V.s5 (by exact bd hR ak)) ?_
   refine oR (gu (r := (U5.g B 0) % 16) rfl rfl (aH.qA hv)) ?_
   refine oR (bA (cI rfl rfl) (fun hh => hh (by omega))) ?_
   refine rR aN 2 rfl ?_
   refine Rg.al rfl ?_
   refine oR (xI V.bH (by exact bd hR ak)) ?_
   refine Rg.al rfl ?_
   refine oR (xL V.s5 (by exact bd hR ak)) ?_
   refine Rg.al rfl ?_
   refine oR (dK (r := (U5.g B 0) / 16) rfl rfl (by decide) (aH.AA hv.1)) ?_
   refine Rg.al rfl ?_
   refine oR (bA (cB rfl rfl) (by omega)) ?_
   refine rR aN 3 rfl ?_
   refine Rg.al rfl ?_
   refine oR (xI V.bH (by exact bd hR ak)) ?_
   refine Rg.al rfl ?_
   refine oR (xL V.s5 (by exact bd hR ak)) ?_
   refine Rg.al rfl ?_
   refine oR (bq V.u5 Tryz.underlying3 rfl wI) ?_
   refine mn aN 2 rfl (by omega) ?_
   refine Rg.al rfl ?_
   refine oR (xI V.bH (by exact bd hR ak)) ?_
   refine Rg.al rfl ?_
   refine oR (xL V.s5 (by exact bd hR ak)) ?_
   refine Rg.al rfl ?_
   refine oR (bq V.u5 Tryz.underlying3 rfl wI) ?_
   refine mn aN 1 rfl (by omega) ?_
   refine Rg.al rfl ?_
   refine oR (ic (r := ((U5.g B 0) * 256 + (U5.g B 1)) % 31) rfl rfl (by omega) (jx (by omega))) ?_
   refine Rg.al rfl ?_
   refine oR (ck (cI rfl rfl) (by omega)) ?_
   refine rR aN 8 rfl ?_
   refine Rg.bC ?_
   refine rN aN 10 rfl ?_
   exact an (bT rfl rfl) ⟨none, 0, rfl, rfl⟩ (Sl.Sub.trans (cL (A := Row U5 none 0 0 []) (fun w0 => Row.nil U5 w0 _)) (sub (aE .nil) ao))
  ·refine rC aN 2 rfl ?_
   refine lz V.mixed (by kernel_rfl) ?_
   refine oR (aB rfl) ?_
   refine oR (xI V.bH (by exact bd hR ak)) ?_
   refine oR (xL V.s5 (by exact bd hR ak)) ?_
   refine oR (gu (r := (U5.g B 0) % 16) rfl rfl (aH.qA hv)) ?_
   refine oR (bA (cI rfl rfl) (fun hh => hh (by omega))) ?_
   refine rR aN 2 rfl ?_
   refine Rg.al rfl ?_
   refine oR (xI V.bH (by exact bd hR ak)) ?_
   refine Rg.al rfl ?_
   refine oR (xL V.s5 (by exact bd hR ak)) ?_
   refine Rg.al rfl ?_
   refine oR (dK (r := (U5.g B 0) / 16) rfl rfl (by decide) (aH.AA hv.1)) ?_
   refine Rg.al rfl ?_
   refine oR (bA (cB rfl rfl) (by omega)) ?_
   refine rR aN 3 rfl ?_
   refine Rg.al rfl ?_
   refine oR (xI V.bH (by exact bd hR ak)) ?_
   refine Rg.al rfl ?_
   refine oR (xL V.s5 (by exact bd hR ak)) ?_
   refine Rg.al rfl ?_
   refine oR (bq V.u5 Tryz.underlying3 rfl wI) ?_
   refine mn aN 2 rfl (by omega) ?_
   refine Rg.al rfl ?_
   refine oR (xI V.bH (by exact bd hR ak)) ?_
   refine Rg.al rfl ?_
   refine oR (xL V.s5 (by exact bd hR ak)) ?_
   refine Rg.al rfl ?_
   refine oR (bq V.u5 Tryz.underlying3 rfl wI) ?_
   refine mn aN 1 rfl (by omega) ?_
   refine Rg.al rfl ?_
   refine oR (ic (r := ((U5.g B 0) * 256 + (U5.g B 1)) % 31) rfl rfl (by omega) (jx (by omega))) ?_
   refine Rg.al rfl ?_
   refine oR (bA (cI rfl rfl) (fun hh => hh (by omega))) ?_
   refine rR aN 3 rfl ?_
   refine Rg.al rfl ?_
   refine oR (xI V.bH (by exact bd hR ak)) ?_
   refine Rg.al rfl ?_
   refine oR (xL V.s5 (by exact bd hR ak)) ?_
   refine Rg.al rfl ?_
   refine oR (gu (r := 32 * ((U5.g B 1) / 32 % 2)) rfl rfl (aH.Dp hw)) ?_
   refine Rg.al rfl ?_
   refine oR (ck (cI rfl rfl) (by omega)) ?_
   refine oR (mP rfl rfl) ?_
   refine Rg.bC ?_
   refine rN aN 10 rfl ?_
   exact an (bT rfl rfl) ⟨none, 0, rfl, rfl⟩ (Sl.Sub.trans (cL (A := Row U5 none 0 0 []) (fun w0 => Row.nil U5 w0 _)) (sub (aE .nil) ao))
 ·refine rC aN 5 rfl ?_
  refine oV (bA (bZ rfl rfl) (by omega)) ?_
  refine rO aN 7 rfl ?_
  refine lz V.mixed (by kernel_rfl) ?_
  refine oR (aB rfl) ?_
  refine oR (xI V.bH (by exact bd hR ak)) ?_
  refine oR (xL V.s5 (by exact bd hR ak)) ?_
  refine oR (gu (r := (U5.g B 0) % 16) rfl rfl (aH.qA hv)) ?_
  refine oR (bA (cI rfl rfl) (fun hh => hh (by omega))) ?_
  refine rR aN 2 rfl ?_
  refine Rg.al rfl ?_
  refine oR (xI V.bH (by exact bd hR ak)) ?_
  refine Rg.al rfl ?_
  refine oR (xL V.s5 (by exact bd hR ak)) ?_
  refine Rg.al rfl ?_
  refine oR (dK (r := (U5.g B 0) / 16) rfl rfl (by decide) (aH.AA hv.1)) ?_
  refine Rg.al rfl ?_
  refine oR (bA (cB rfl rfl) (by omega)) ?_
  refine rR aN 3 rfl ?_
  refine Rg.al rfl ?_
  refine oR (xI V.bH (by exact bd hR ak)) ?_
  refine Rg.al rfl ?_
  refine oR (xL V.s5 (by exact bd hR ak)) ?_
  refine Rg.al rfl ?_
  refine oR (bq V.u5 Tryz.underlying3 rfl wI) ?_
  refine mn aN 2 rfl (by omega) ?_
  refine Rg.al rfl ?_
  refine oR (xI V.bH (by exact bd hR ak)) ?_
  refine Rg.al rfl ?_
  refine oR (xL V.s5 (by exact bd hR ak)) ?_
  refine Rg.al rfl ?_
  refine oR (bq V.u5 Tryz.underlying3 rfl wI) ?_
  refine mn aN 1 rfl (by omega) ?_
  refine Rg.al rfl ?_
  refine oR (ic (r := ((U5.g B 0) * 256 + (U5.g B 1)) % 31) rfl rfl (by omega) (jx (by omega))) ?_
  refine Rg.al rfl ?_
  refine oR (bA (cI rfl rfl) (fun hh => hh (by omega))) ?_
  refine rR aN 3 rfl ?_
  refine Rg.al rfl ?_
  refine oR (xI V.bH (by exact bd hR ak)) ?_
  refine Rg.al rfl ?_
  refine oR (xL V.s5 (by exact bd hR ak)) ?_
  refine Rg.al rfl ?_
  refine oR (gu (r := 32 * ((U5.g B 1) / 32 % 2)) rfl rfl (aH.Dp hw)) ?_
  refine Rg.al rfl ?_
  refine oR (bA (cI rfl rfl) (fun hh => hh (by omega))) ?_
  refine oR (mP rfl rfl) ?_
  refine Rg.bC ?_
  refine rN aN 5 rfl ?_
  have hB2 := aH.jW hB 2
  have hD2 : ∀ w0 h, R w0 h → bJ U5 (gK p 2 c 1) (B.length - 2) (B.drop 2) w0 h := fun w0 h hh => j8 (c := U5) hR rfl 2 c (by omega) hcap w0 h hh
  refine rC aN 2 rfl ?_
  refine oV (fz 2 _ _ V.bH rfl ⟨_, rfl⟩ ⟨rfl, rfl⟩ rfl (by omega) (by omega) (by omega)) ?_
  refine oV (aB rfl) ?_
  refine ai (Ki (gK p 2 c 1) (c - 2) (B.length - 2) (B.drop 2) R hD2 List.length_drop (by omega) hB2 mo hm x (n : Int) e hr) V.mI  rfl (au .nil) rfl ?_
  rintro _ _ ⟨q22, c22, rfl, rfl⟩
  refine rO aN 9 rfl ?_
  rcases (hws) with ⟨he, rfl⟩ | ⟨he, h4, rfl⟩ | ⟨he, h4, rfl⟩ | ⟨he, h4, hne, rfl⟩ | ⟨he, h4, heq, rfl⟩
  ·refine rC aN 4 rfl ?_
   refine oV (ck (cI rfl rfl) he) ?_
   refine rO aN 12 rfl ?_
   exact an (bT rfl rfl) ⟨none, 0, rfl, rfl⟩ (Sl.Sub.trans (cL (A := Row U5 none 0 0 []) (fun w0 => Row.nil U5 w0 _)) (sub (au (.cons ar .nil)) cw))
  ·refine rC aN 4 rfl ?_
   refine oV (bA (cI rfl rfl) (fun h => h he)) ?_
   refine rO aN 6 rfl ?_
   have hBn := aH.jW hB (2 + n)
   have hDn : ∀ w0 h, R w0 h → bJ U5 (gK p (2 + n) c 1) (B.length - (2 + n)) (B.drop (2 + n)) w0 h := fun w0 h hh => j8 (c := U5) hR rfl (2 + n) c (by omega) hcap w0 h hh
   have hg0 : 0 ≤ (U5.g (B.drop (2 + n)) 0) ∧ (U5.g (B.drop (2 + n)) 0) < 256 := hBn.get 0
   have hg1 : 0 ≤ (U5.g (B.drop (2 + n)) 1) ∧ (U5.g (B.drop (2 + n)) 1) < 256 := hBn.get 1
   have hg2 : 0 ≤ (U5.g (B.drop (2 + n)) 2) ∧ (U5.g (B.drop (2 + n)) 2) < 256 := hBn.get 2
   have hg3 : 0 ≤ (U5.g (B.drop (2 + n)) 3) ∧ (U5.g (B.drop (2 + n)) 3) < 256 := hBn.get 3
   refine rC aN 3 rfl ?_
   refine oV (de (v := .int .i64 ((2 + n : Nat) : Int)) (bU rfl rfl wI) (by congr 1)) ?_
   refine oV (fz (2 + n) B.length c V.bH rfl ⟨_, rfl⟩ ⟨rfl, rfl⟩ rfl (by omega) (by omega) (by omega)) ?_
   refine rO aN 8 rfl ?_
   refine oV (ck (bZ rfl rfl) (by omega)) ?_
   refine rO aN 11 rfl ?_
   exact an (bT rfl rfl) ⟨none, 0, rfl, rfl⟩ (Sl.Sub.trans (cL (A := Row U5 none 0 0 []) (fun w0 => Row.nil U5 w0 _)) (sub (au (.cons ar .nil)) cw))
  ·refine rC aN 4 rfl ?_
   refine oV (bA (cI rfl rfl) (fun h => h he)) ?_
   refine rO aN 6 rfl ?_
   have hBn := aH.jW hB (2 + n)
   have hDn : ∀ w0 h, R w0 h → bJ U5 (gK p (2 + n) c 1) (B.length - (2 + n)) (B.drop (2 + n)) w0 h := fun w0 h hh => j8 (c := U5) hR rfl (2 + n) c (by omega) hcap w0 h hh
   have hg0 : 0 ≤ (U5.g (B.drop (2 + n)) 0) ∧ (U5.g (B.drop (2 + n)) 0) < 256 := hBn.get 0
   have hg1 : 0 ≤ (U5.g (B.drop (2 + n)) 1) ∧ (U5.g (B.drop (2 + n)) 1) < 256 := hBn.get 1
   have hg2 : 0 ≤ (U5.g (B.drop (2 + n)) 2) ∧ (U5.g (B.drop (2 + n)) 2) < 256 := hBn.get 2
   have hg3 : 0 ≤ (U5.g (B.drop (2 + n)) 3) ∧ (U5.g (B.drop (2 + n)) 3) < 256 := hBn.get 3
   refine rC aN 3 rfl ?_
   refine oV (de (v := .int .i64 ((2 + n : Nat) : Int)) (bU rfl rfl wI) (by congr 1)) ?_
   refine oV (fz (2 + n) B.length c V.bH rfl ⟨_, rfl⟩ ⟨rfl, rfl⟩ rfl (by omega) (by omega) (by omega)) ?_
   refine rO aN 8 rfl ?_
   refine oV (bA (bZ rfl rfl) (by omega)) ?_
   refine rO aN 10 rfl ?_
   refine oV (ck (cB rfl rfl) (by omega)) ?_
   refine rO aN 11 rfl ?_
   exact an (bT rfl rfl) ⟨none, 0, rfl, rfl⟩ (Sl.Sub.trans (cL (A := Row U5 none 0 0 []) (fun w0 => Row.nil U5 w0 _)) (sub (au (.cons ar .nil)) cw))
  ·refine rC aN 4 rfl ?_
   refine oV (bA (cI rfl rfl) (fun h => h he)) ?_
   refine rO aN 6 rfl ?_
   have hBn := aH.jW hB (2 + n)
   have hDn : ∀ w0 h, R w0 h → bJ U5 (gK p (2 + n) c 1) (B.length - (2 + n)) (B.drop (2 + n)) w0 h := fun w0 h hh => j8 (c := U5) hR rfl (2 + n) c (by omega) hcap w0 h hh
   have hg0 : 0 ≤ (U5.g (B.drop (2 + n)) 0) ∧ (U5.g (B.drop (2 + n)) 0) < 256 := hBn.get 0
   have hg1 : 0 ≤ (U5.g (B.drop (2 + n)) 1) ∧ (U5.g (B.drop (2 + n)) 1) < 256 := hBn.get 1
   have hg2 : 0 ≤ (U5.g (B.drop (2 + n)) 2) ∧ (U5.g (B.drop (2 + n)) 2) < 256 := hBn.get 2
   have hg3 : 0 ≤ (U5.g (B.drop (2 + n)) 3) ∧ (U5.g (B.drop (2 + n)) 3) < 256 := hBn.get 3
   refine rC aN 3 rfl ?_
   refine oV (de (v := .int .i64 ((2 + n : Nat) : Int)) (bU rfl rfl wI) (by congr 1)) ?_
   refine oV (fz (2 + n) B.length c V.bH rfl ⟨_, rfl⟩ ⟨rfl, rfl⟩ rfl (by omega) (by omega) (by omega)) ?_
   refine rO aN 8 rfl ?_
   refine oV (bA (bZ rfl rfl) (by omega)) ?_
   refine rO aN 10 rfl ?_
   refine oV (bA (cB rfl rfl) (by omega)) ?_
   refine rO aN 6 rfl ?_
   refine lz V.mixed (by kernel_rfl) ?_
   refine oR (aB rfl) ?_
   refine oR (xI V.bH (by exact bd hDn bB)) ?_
   refine oR (xL V.s5 (by exact bd hDn bB)) ?_
   refine oR (bq V.u5 Tryz.underlying48 rfl (aH.wrap32 (by omega) (by omega))) ?_
   refine oR (eI (r := (U5.g (B.drop (2 + n)) 0) * 16777216) rfl rfl (by decide) (aH.qJ (n := 24) rfl (by decide) rfl (by omega) (by omega))) ?_
   refine oR (aB rfl) ?_
   refine oR (xI V.bH (by exact bd hDn bB)) ?_
   refine oR (xL V.s5 (by exact bd hDn bB)) ?_
   refine oR (bq V.u5 Tryz.underlying48 rfl (aH.wrap32 (by omega) (by omega))) ?_
   refine oR (eI (r := (U5.g (B.drop (2 + n)) 1) * 65536) rfl rfl (by decide) (aH.qJ (n := 16) rfl (by decide) rfl (by omega) (by omega))) ?_
   refine oR (jy (r := ((U5.g (B.drop (2 + n)) 0) * 16777216 + (U5.g (B.drop (2 + n)) 1) * 65536)) rfl rfl (aH.qd (u := (U5.g (B.drop (2 + n)) 0)) (n := 24) rfl (by omega) (by omega) (by omega))) ?_
   refine oR (aB rfl) ?_
   refine oR (xI V.bH (by exact bd hDn bB)) ?_
   refine oR (xL V.s5 (by exact bd hDn bB)) ?_
   refine oR (bq V.u5 Tryz.underlying48 rfl (aH.wrap32 (by omega) (by omega))) ?_
   refine oR (eI (r := (U5.g (B.drop (2 + n)) 2) * 256) rfl rfl (by decide) (aH.qJ (n := 8) rfl (by decide) rfl (by omega) (by omega))) ?_
   refine oR (jy (r := ((U5.g (B.drop (2 + n)) 0) * 16777216 + (U5.g (B.drop (2 + n)) 1) * 65536 + (U5.g (B.drop (2 + n)) 2) * 256)) rfl rfl (aH.qd (u := (U5.g (B.drop (2 + n)) 0) * 256 + (U5.g (B.drop (2 + n)) 1)) (n := 16) (by omega) (by omega) (by omega) (by omega))) ?_
   refine oR (aB rfl) ?_
   refine oR (xI V.bH (by exact bd hDn bB)) ?_
   refine oR (xL V.s5 (by exact bd hDn bB)) ?_
   refine oR (bq V.u5 Tryz.underlying48 rfl (aH.wrap32 (by omega) (by omega))) ?_
   refine oR (jy (r := ((U5.g (B.drop (2 + n)) 0) * 16777216 + (U5.g (B.drop (2 + n)) 1) * 65536 + (U5.g (B.drop (2 + n)) 2) * 256 + (U5.g (B.drop (2 + n)) 3))) rfl rfl (aH.qd (u := (U5.g (B.drop (2 + n)) 0) * 65536 + (U5.g (B.drop (2 + n)) 1) * 256 + (U5.g (B.drop (2 + n)) 2)) (n := 8) (by omega) (by omega) (by omega) (by omega))) ?_
   refine oR (cE rfl) ?_
   refine Rg.bC ?_
   refine rN aN 6 rfl ?_
   refine ai (CE q22 c22 x (Row U5 q22 x.length c22 x) (fun _ _ hh => hh.rd) (by omega) hxB) V.Jh  rfl (au .nil) rfl ?_
   rintro _ _ ⟨rfl, rfl⟩
   refine oV (ck (cI rfl rfl) (fun hh => hne (aH.Hf (by rw [List.length_drop]; exact h4) hBn hh))) ?_
   refine rO aN 11 rfl ?_
   exact an (bT rfl rfl) ⟨none, 0, rfl, rfl⟩ (Sl.Sub.trans (cL (A := Row U5 none 0 0 []) (fun w0 => Row.nil U5 w0 _)) (sub (au (.cons ar .nil)) cw))
  ·refine rC aN 4 rfl ?_
   refine oV (bA (cI rfl rfl) (fun h => h he)) ?_
   refine rO aN 6 rfl ?_
   have hBn := aH.jW hB (2 + n)
   have hDn : ∀ w0 h, R w0 h → bJ U5 (gK p (2 + n) c 1) (B.length - (2 + n)) (B.drop (2 + n)) w0 h := fun w0 h hh => j8 (c := U5) hR rfl (2 + n) c (by omega) hcap w0 h hh
   have hg0 : 0 ≤ (U5.g (B.drop (2 + n)) 0) ∧ (U5.g (B.drop (2 + n)) 0) < 256 := hBn.get 0
   have hg1 : 0 ≤ (U5.g (B.drop (2 + n)) 1) ∧ (U5.g (B.drop (2 + n)) 1) < 256 := hBn.get 1
   have hg2 : 0 ≤ (U5.g (B.drop (2 + n)) 2) ∧ (U5.g (B.drop (2 + n)) 2) < 256 := hBn.get 2
   have hg3 : 0 ≤ (U5.g (B.drop (2 + n)) 3) ∧ (U5.g (B.drop (2 + n)) 3) < 256 := hBn.get 3
   refine rC aN 3 rfl ?_
   refine oV (de (v := .int .i64 ((2 + n : Nat) : Int)) (bU rfl rfl wI) (by congr 1)) ?_
   refine oV (fz (2 + n) B.length c V.bH rfl ⟨_, rfl⟩ ⟨rfl, rfl⟩ rfl (by omega) (by omega) (by omega)) ?_
   refine rO aN 8 rfl ?_
   refine oV (bA (bZ rfl rfl) (by omega)) ?_
   refine rO aN 10 rfl ?_
   refine oV (bA (cB rfl rfl) (by omega)) ?_
   refine rO aN 6 rfl ?_
   refine lz V.mixed (by kernel_rfl) ?_
   refine oR (aB rfl) ?_
   refine oR (xI V.bH (by exact bd hDn bB)) ?_
   refine oR (xL V.s5 (by exact bd hDn bB)) ?_
   refine oR (bq V.u5 Tryz.underlying48 rfl (aH.wrap32 (by omega) (by omega))) ?_
   refine oR (eI (r := (U5.g (B.drop (2 + n)) 0) * 16777216) rfl rfl (by decide) (aH.qJ (n := 24) rfl (by decide) rfl (by omega) (by omega))) ?_
   refine oR (aB rfl) ?_
   refine oR (xI V.bH (by exact bd hDn bB)) ?_
   refine oR (xL V.s5 (by exact bd hDn bB)) ?_
   refine oR (bq V.u5 Tryz.underlying48 rfl (aH.wrap32 (by omega) (by omega))) ?_
   refine oR (eI (r := (U5.g (B.drop (2 + n)) 1) * 65536) rfl rfl (by decide) (aH.qJ (n := 16) rfl (by decide) rfl (by omega) (by omega))) ?_
   refine oR (jy (r := ((U5.g (B.drop (2 + n)) 0) * 16777216 + (U5.g (B.drop (2 + n)) 1) * 65536)) rfl rfl (aH.qd (u := (U5.g (B.drop (2 + n)) 0)) (n := 24) rfl (by omega) (by omega) (by omega))) ?_
   refine oR (aB rfl) ?_
   refine oR (xI V.bH (by exact bd hDn bB)) ?_
   refine oR (xL V.s5 (by exact bd hDn bB)) ?_
   refine oR (bq V.u5 Tryz.underlying48 rfl (aH.wrap32 (by omega) (by omega))) ?_
   refine oR (eI (r := (U5.g (B.drop (2 + n)) 2) * 256) rfl rfl (by decide) (aH.qJ (n := 8) rfl (by decide) rfl (by omega) (by omega))) ?_
   refine oR (jy (r := ((U5.g (B.drop (2 + n)) 0) * 16777216 + (U5.g (B.drop (2 + n)) 1) * 65536 + (U5.g (B.drop (2 + n)) 2) * 256)) rfl rfl (aH.qd (u := (U5.g (B.drop (2 + n)) 0) * 256 + (U5.g (B.drop (2 + n)) 1)) (n := 16) (by omega) (by omega) (by omega) (by omega))) ?_
   refine oR (aB rfl) ?_
   refine oR (xI V.bH (by exact bd hDn bB)) ?_
   refine oR (xL V.s5 (by exact bd hDn bB)) ?_
   refine oR (bq V.u5 Tryz.underlying48 rfl (aH.wrap32 (by omega) (by omega))) ?_
   refine oR (jy (r := ((U5.g (B.drop (2 + n)) 0) * 16777216 + (U5.g (B.drop (2 + n)) 1) * 65536 + (U5.g (B.drop (2 + n)) 2) * 256 + (U5.g (B.drop (2 + n)) 3))) rfl rfl (aH.qd (u := (U5.g (B.drop (2 + n)) 0) * 65536 + (U5.g (B.drop (2 + n)) 1) * 256 + (U5.g (B.drop (2 + n)) 2)) (n := 8) (by omega) (by omega) (by omega) (by omega))) ?_
   refine oR (cE rfl) ?_
   refine Rg.bC ?_
   refine rN aN 6 rfl ?_
   refine ai (CE q22 c22 x (Row U5 q22 x.length c22 x) (fun _ _ hh => hh.rd) (by omega) hxB) V.Jh  rfl (au .nil) rfl ?_
   rintro _ _ ⟨rfl, rfl⟩
   refine oV (bA (cI rfl rfl) (fun hh => hh ((show ((U5.g (B.drop (2 + n)) 0) * 16777216 + (U5.g (B.drop (2 + n)) 1) * 65536 + (U5.g (B.drop (2 + n)) 2) * 256 + (U5.g (B.drop (2 + n)) 3)) = aH.wZ (B.drop (2 + n)) from rfl).trans (by rw [heq, aH.HH])))) ?_
   refine rO aN 13 rfl ?_
   exact an (bT rfl rfl) ⟨q22, c22, rfl, rfl⟩ (sub (aE .nil) ao)
set_option maxHeartbeats 2000000 in
theorem yM (p : Option Addr) (c : Nat) (B : List Int) (R : ae) (hR : ∀ w0 h, R w0 h → bJ U5 p B.length B w0 h) (hl : B.length ≤ 4194304) (hB : af.aY B) : aD Tryz.prog 11 [.slice p B.length c] [R] (aK fun v G => ∃ qq cq, v = .slice qq (aH.zS B).length cq ∧ G = [Row U5 qq (aH.zS B).length cq (aH.zS B), R]) := by
 refine ax [(0, _)] Tryz.func11 rfl Tryz.ntmps11 rfl rfl ?_
 intro w0 F
 have hsl := ad.qG (B := B) hB hl
 refine rT aN 10 rfl ?_
 refine oV (bA (cB rfl rfl) (by omega)) ?_
 refine rO aN 7 rfl ?_
 refine bP (U5) [120, 1] V.bH V.z5 rfl rfl rfl rfl rfl rfl ?_
 intro b7
 refine oV (aB rfl) ?_
 refine ai (KW p c B R hR hl hB) V.oC  rfl (.cons ar .nil) rfl ?_
 rintro _ _ ⟨qz, cz, rfl, rfl⟩
 refine bQ (c := (U5)) V.bH V.z5 rfl rfl rfl rfl aS (own ak) (by omega) rfl ?_
 intro p10 c10
 refine rO aN 7 rfl ?_
 refine ai (zY p c B R hR (by omega) hB) V.eU  rfl (.cons aS .nil) rfl ?_
 rintro _ _ ⟨rfl, rfl⟩
 refine Cq (T := 5) V.bH Tryz.underlying9 V.z5 rfl rfl rfl (aH.uh (aH.rv B)) ar (by rw [aH.oi]; omega) rfl ?_
 intro p14 c14
 refine rO aN 4 rfl ?_
 have hle : (2 + (ad.eB B).length + (aH.kF B).length) = (aH.zS B).length := by rw [aH.x7, aH.oi]; omega
 rw [hle, show [120, 1] ++ ad.eB B ++ aH.kF B = aH.zS B from rfl]
 exact an (bu rfl) ⟨_, _, rfl, rfl⟩ (sub (aE .nil) cw)
theorem BB (n : Int) (hn0 : 0 ≤ n) (hn : n ≤ 1000000000) : aD Tryz.prog 12 [.int .i64 n] [] (aK fun v G => v = .int .i64 (ad.most n + 6) ∧ G = []) := by
 refine ax [(0, _)] Tryz.func12 rfl Tryz.ntmps12 rfl rfl ?_
 intro w0 F
 have hme := ad.yI (n := n) hn0
 refine rT aN 8 rfl ?_
 refine ai (IN n (by omega)) V.NP  rfl .nil rfl ?_
 rintro _ _ ⟨rfl, rfl⟩
 refine bN aN 6 rfl (by omega) ?_
 rw [show ad.most n + 2 + 4 = ad.most n + 6 from by omega]
 exact an (bu rfl) ⟨rfl, rfl⟩ (sub .nil ao)
end Go.Proofs.YtmbljkghkcgejaaGreat

/- Walks of functions that the law reaches, and what they lean on; no conditions. -/
import Derived.Test.YtmbljkghkcgejaaGreatM30
import Derived.Test.YtmbljkghkcgejaaGreatSl22
import Derived.KernelRfl
import Derived.Test.YtmbljkghkcgejaaGreatM53
import Derived.Test.YtmbljkghkcgejaaGreatSl13
import Derived.Test.YtmbljkghkcgejaaGreatSlLim
import Derived.Test.YtmbljkghkcgejaaGreatM34
set_option linter.unusedVariables false
set_option linter.unusedSimpArgs false
set_option maxRecDepth 100000
namespace Go.Proofs.YtmbljkghkcgejaaGreat
open Go.Sl 
theorem ev : dJ Tryz.prog ⟨[22, 30], [(32, 0, 0), (32, 1, 1)]⟩ = true := by kernel_rfl
attribute [local irreducible] ad.eB aa.gU ad.most af.aY
set_option maxHeartbeats 4000000 in
theorem Jd (pb : Option Addr) (cb : Nat) (Ls : List (Td.Ty (.sl 5 (.int .u8)))) (pm : Option Addr) (cm : Nat) (M : List Int) (hM : af.aY M) (hlim : ∀ y ∈ Ls, y.cap ≤ 140737488351232) : aD Tryz.prog 10 [.agg #[.slice pb Ls.length cb, .slice pm M.length cm]] [Deep 22 (.sl 5 (.int .u8)) pb Ls.length Ls, bJ U5 pm M.length M] (aK fun v G => ∃ ok q c out, v = .tuple #[.slice q out.length c, .bool ok] ∧ af.aY out ∧ out.length ≤ 70000 ∧ G = [Row U5 q out.length c out, Deep 22 (.sl 5 (.int .u8)) pb Ls.length Ls, bJ U5 pm M.length M]) := by
 refine ax [(0, _)] Tryz.func10 rfl Tryz.ntmps10 rfl rfl ?_
 intro w0 F
 refine rT ev 2 rfl ?_
 refine fG rfl (cs := [_, _]) rfl rfl ?_
 intro b1
 refine rO ev 9 rfl ?_
 rcases (aa.MH (Ls.length ≤ 50) (Ls.length ≤ M.length) (M.length ≤ 100)) with ⟨hl1, hl2, hl3⟩ | ⟨hl1, hl2, hl3⟩ | ⟨hl1, hl2⟩ | hl1
 ·refine rC ev 4 rfl ?_
  refine oV (ag V.r4 rfl ak rfl) ?_
  refine oV (eF (ty' := 0) Tryz.underlying30 rfl) ?_
  refine oV (bA (cB rfl rfl) (by omega)) ?_
  refine rO ev 2 rfl ?_
  refine al rfl ?_
  refine oV (ag V.eL rfl ak rfl) ?_
  refine rO ev 2 rfl ?_
  refine al rfl ?_
  refine oV (ag V.r4 rfl ak rfl) ?_
  refine al rfl ?_
  refine oV (eF (ty' := 0) Tryz.underlying30 rfl) ?_
  refine al rfl ?_
  refine oV (bA (bZ rfl rfl) (by omega)) ?_
  refine rO ev 3 rfl ?_
  refine al rfl ?_
  refine oV (ag V.eL rfl ak rfl) ?_
  refine al rfl ?_
  refine oV (eF (ty' := 0) Tryz.underlying22 rfl) ?_
  refine al rfl ?_
  refine oV (bA (cB rfl rfl) (by omega)) ?_
  refine rO ev 13 rfl ?_
  refine eW (Row U5 none 0 0 []) (Row.nil _ _ _) ?_
  refine kW (fun (i : Nat) (q : Option Addr) (c : Nat) (out : List Int) => [(1, .pointer (some ⟨b1, 0, none⟩)), (4, .slice q out.length c), (5, .int .i64 (i : Int))]) (fun (i : Nat) (q : Option Addr) (c : Nat) (out : List Int) => Row U5 q out.length c out :: av b1 32 [.slice pb Ls.length cb, .slice pm M.length cm] :: Deep 22 (.sl 5 (.int .u8)) pb Ls.length Ls :: bJ U5 pm M.length M :: F) (fun (i : Nat) (q : Option Addr) (c : Nat) (out : List Int) => i ≤ Ls.length ∧ af.aY out ∧ out.length ≤ 70000) (fun (i : Nat) (q : Option Addr) (c : Nat) (out : List Int) => Ls.length - i) (i4 (0) (none) (0) ([]) ?_ (fL ln) (sub (gA .nil) ao)) ?_
  ·exact ⟨Nat.zero_le _, (by unfold af.aY; intro x hx; cases hx), by decide⟩
  intro i q c out
  rintro ⟨hi, hoB, hol⟩
  refine rL ev 5 rfl ?_
  refine oV (ag V.r4 rfl bB rfl) ?_
  refine rO ev 4 rfl ?_
  refine aj rfl (fun h30 => ?_) (fun h30 => ?_)
  ·refine rC ev 5 rfl ?_
   refine HU dE (fun hD => ?_)
   have hi2 : i < Ls.length := by omega
   have hx3 := hD _ (List.getElem_mem hi2)
   have hgm := (Td.ec 22 (.sl 5 (.int .u8))).s9 hi2
   rw [← hgm] at hx3
   have hXl : ((Td.ec 22 (.sl 5 (.int .u8))).g Ls (i : Int)).l.length ≤ 140737488351232 := by rw [hgm]; have h1 := (hlim _ (List.getElem_mem hi2)); have h2 := (hx3).1.1; rw [hgm] at h2; exact Nat.le_trans h2 h1
   refine eW (bJ U5 ((Td.ec 22 (.sl 5 (.int .u8))).g Ls (i : Int)).p ((Td.ec 22 (.sl 5 (.int .u8))).g Ls (i : Int)).l.length ((Td.ec 22 (.sl 5 (.int .u8))).g Ls (i : Int)).l) hx3.2.1 ?_
   have hxb : af.aY ((Td.ec 22 (.sl 5 (.int .u8))).g Ls (i : Int)).l := by unfold af.aY; exact fun x hx => yx (hx3.2.2 x hx)
   have hmv : 0 ≤ (U5.g M (i : Int)) ∧ (U5.g M (i : Int)) < 256 := af.aY.get hM _
   refine rC ev 5 rfl ?_
   refine kW (fun (k : Nat) (q2 : Option Addr) (c2 : Nat) (o2 : List Int) => [(1, .pointer (some ⟨b1, 0, none⟩)), (4, .slice q2 o2.length c2), (5, .int .i64 (i : Int)), (6, .int .i64 (k : Int))]) (fun (k : Nat) (q2 : Option Addr) (c2 : Nat) (o2 : List Int) => Row U5 q2 o2.length c2 o2 :: bJ U5 ((Td.ec 22 (.sl 5 (.int .u8))).g Ls (i : Int)).p ((Td.ec 22 (.sl 5 (.int .u8))).g Ls (i : Int)).l.length ((Td.ec 22 (.sl 5 (.int .u8))).g Ls (i : Int)).l :: av b1 32 [.slice pb Ls.length cb, .slice pm M.length cm] :: Deep 22 (.sl 5 (.int .u8)) pb Ls.length Ls :: bJ U5 pm M.length M :: F) (fun (k : Nat) (q2 : Option Addr) (c2 : Nat) (o2 : List Int) => k ≤ (U5.g M (i : Int)).toNat ∧ af.aY o2 ∧ o2.length ≤ 70000) (fun (k : Nat) (q2 : Option Addr) (c2 : Nat) (o2 : List Int) => (U5.g M (i : Int)).toNat - k) (i4 (0) (q) (c) (out) ?_ (dI ln) (sub (.cons ar (gA .nil)) ao)) ?_
   ·exact ⟨Nat.zero_le _, hoB, hol⟩
   intro k q2 c2 o2
   rintro ⟨hk, hoB2, hol2⟩
   refine rL ev 5 rfl ?_
   refine oV (ag V.eL rfl dE rfl) ?_
   refine oV (aB rfl) ?_
   refine oV (xI V.bH (by exact bd (fun _ _ h => h) iz)) ?_
   refine oV (xL V.s5 (by exact bd (fun _ _ h => h) iz)) ?_
   refine oV (bq V.u5 Tryz.underlying3 rfl wI) ?_
   refine rO ev 3 rfl ?_
   refine aj rfl (fun h40 => ?_) (fun h40 => ?_)
   ·refine rC ev 10 rfl ?_
    refine oV (ag V.r4 rfl dE rfl) ?_
    refine oV (aB rfl) ?_
    refine oV (oA (c := ((Td.ec 22 (.sl 5 (.int .u8))))) V.Aw rfl rfl (by exact vH fZ) (by omega) (by omega)) ?_
    refine oV (ye (c := ((Td.ec 22 (.sl 5 (.int .u8))))) V.eL rfl (by exact vH fZ) (by omega) (by omega) rfl rfl) ?_
    refine bN ev 5 rfl (by omega) ?_
    refine aj rfl (fun h52 => ?_) (fun h52 => ?_)
    ·refine rC ev 17 rfl ?_
     exact an (bT rfl rfl) ⟨false, none, 0, [], rfl, (by unfold af.aY; intro x hx; cases hx), by decide, rfl⟩ (Sl.Sub.trans (cL (A := Row U5 none 0 0 []) (fun w0 => Row.nil U5 w0 _)) (sub (au (.cons dC (.cons dC .nil))) jj))
    ·refine rC ev 5 rfl ?_
     refine oV (ag V.r4 rfl dE rfl) ?_
     refine oV (aB rfl) ?_
     refine oV (oA (c := ((Td.ec 22 (.sl 5 (.int .u8))))) V.Aw rfl rfl (by exact vH fZ) (by omega) (by omega)) ?_
     refine oV (ye (c := ((Td.ec 22 (.sl 5 (.int .u8))))) V.eL rfl (by exact vH fZ) (by omega) (by omega) rfl rfl) ?_
     refine bQ (c := (U5)) V.bH V.z5 rfl rfl rfl rfl dg (by exact bd (fun _ _ h => h) bB) (by omega) rfl ?_
     intro p59 c59
     refine bN ev 9 rfl (by omega) ?_
     rw [show o2.length + ((Td.ec 22 (.sl 5 (.int .u8))).g Ls (i : Int)).l.length = (o2 ++ ((Td.ec 22 (.sl 5 (.int .u8))).g Ls (i : Int)).l).length from List.length_append.symm]
     exact j4 (k + 1) _ _ (o2 ++ ((Td.ec 22 (.sl 5 (.int .u8))).g Ls (i : Int)).l) ⟨⟨by omega, ad.aY.app hoB2 hxb, by rw [List.length_append]; omega⟩, by omega⟩ (dI ln) (sub (lF .nil) ao)
   ·refine cy ev 11 rfl (by omega) ?_
    refine j4 (i + 1) (_) (_) (_) ?_ (fL ln) (sub (au (.cons ar (.cons ar (.cons ar .nil)))) cw)
    exact ⟨⟨by omega, by assumption, by assumption⟩, by omega⟩
  ·refine rC ev 13 rfl ?_
   exact an (bT rfl rfl) ⟨true, q, c, out, rfl, hoB, hol, rfl⟩ (sub (au (.cons ar (.cons ar .nil))) cw)
 ·refine rC ev 4 rfl ?_
  refine oV (ag V.r4 rfl ak rfl) ?_
  refine oV (eF (ty' := 0) Tryz.underlying30 rfl) ?_
  refine oV (bA (cB rfl rfl) (by omega)) ?_
  refine rO ev 2 rfl ?_
  refine al rfl ?_
  refine oV (ag V.eL rfl ak rfl) ?_
  refine rO ev 2 rfl ?_
  refine al rfl ?_
  refine oV (ag V.r4 rfl ak rfl) ?_
  refine al rfl ?_
  refine oV (eF (ty' := 0) Tryz.underlying30 rfl) ?_
  refine al rfl ?_
  refine oV (bA (bZ rfl rfl) (by omega)) ?_
  refine rO ev 3 rfl ?_
  refine al rfl ?_
  refine oV (ag V.eL rfl ak rfl) ?_
  refine al rfl ?_
  refine oV (eF (ty' := 0) Tryz.underlying22 rfl) ?_
  refine al rfl ?_
  refine oV (ck (cB rfl rfl) (by omega)) ?_
  refine rO ev 12 rfl ?_
  exact an (bT rfl rfl) ⟨false, none, 0, [], rfl, (by unfold af.aY; intro x hx; cases hx), by decide, rfl⟩ (Sl.Sub.trans (cL (A := Row U5 none 0 0 []) (fun w0 => Row.nil U5 w0 _)) (sub (au (.cons ar (.cons ar .nil))) cw))
 ·refine rC ev 4 rfl ?_
  refine oV (ag V.r4 rfl ak rfl) ?_
  refine oV (eF (ty' := 0) Tryz.underlying30 rfl) ?_
  refine oV (bA (cB rfl rfl) (by omega)) ?_
  refine rO ev 2 rfl ?_
  refine al rfl ?_
  refine oV (ag V.eL rfl ak rfl) ?_
  refine rO ev 2 rfl ?_
  refine al rfl ?_
  refine oV (ag V.r4 rfl ak rfl) ?_
  refine al rfl ?_
  refine oV (eF (ty' := 0) Tryz.underlying30 rfl) ?_
  refine al rfl ?_
  refine oV (ck (bZ rfl rfl) (by omega)) ?_
  refine rO ev 18 rfl ?_
  exact an (bT rfl rfl) ⟨false, none, 0, [], rfl, (by unfold af.aY; intro x hx; cases hx), by decide, rfl⟩ (Sl.Sub.trans (cL (A := Row U5 none 0 0 []) (fun w0 => Row.nil U5 w0 _)) (sub (au (.cons ar (.cons ar .nil))) cw))
 ·refine rC ev 4 rfl ?_
  refine oV (ag V.r4 rfl ak rfl) ?_
  refine oV (eF (ty' := 0) Tryz.underlying30 rfl) ?_
  refine oV (ck (cB rfl rfl) (by omega)) ?_
  refine rO ev 26 rfl ?_
  exact an (bT rfl rfl) ⟨false, none, 0, [], rfl, (by unfold af.aY; intro x hx; cases hx), by decide, rfl⟩ (Sl.Sub.trans (cL (A := Row U5 none 0 0 []) (fun w0 => Row.nil U5 w0 _)) (sub (au (.cons ar (.cons ar .nil))) cw))
end Go.Proofs.YtmbljkghkcgejaaGreat
namespace Go.Proofs.YtmbljkghkcgejaaGreat
open Go.Sl 
theorem fb : dJ Tryz.prog ⟨[22], []⟩ = true := by kernel_rfl
attribute [local irreducible] ad.eB aa.gU ad.most af.aY aH.eV aH.kF aH.iT
theorem uF (p : Option Addr) (c n : Nat) (L : List Int) (hn : L.length = n) (hl : n < 500000000) (hB : af.aY L) (mo : Int) (hm : mo < 500000000) (x : List Int) (e : Int) (hq : aH.qO L mo (x, e)) : aD Tryz.prog 8 [.slice p n c, .int .i64 mo] [Row U5 p n c L] (aK fun v G => ∃ qq cq, v = .tuple #[.slice qq x.length cq, .int .i64 e] ∧ G = [Row U5 qq x.length cq x, Row U5 p n c L]) := fun w0 F w hi => by
 subst hn
 have hcap : L.length ≤ c := by
  obtain ⟨F2, hb, h, a, h1, h2, d, l1, l2, hp, _⟩ := hi.mem (ak (L := F))
  rcases hp.2 with ⟨e1, e2, e3, _⟩ | ⟨b, o, pre, post, _, _, _, _, _, e⟩
  ·omega
  ·exact e
 exact Ja p c L (Row U5 p L.length c L) (fun _ _ hh => hh.rd) hcap hl hB mo hm (x, e) hq w0 F w hi
theorem Hn (p : Option Addr) (c n : Nat) (L : List Int) (hn : L.length = n) (hl : n < 500000000) (hB : af.aY L) (mo : Int) (hm : mo < 500000000) (x : List Int) (e : Int) (hq : aH.qO L mo (x, e)) : aD Tryz.prog 9 [.slice p n c, .int .i64 mo] [Row U5 p n c L] (aK fun v G => ∃ qq cq, v = .tuple #[.slice qq x.length cq, .int .i64 e] ∧ G = [Row U5 qq x.length cq x, Row U5 p n c L]) := fun w0 F w hi => by
 subst hn
 have hcap : L.length ≤ c := by
  obtain ⟨F2, hb, h, a, h1, h2, d, l1, l2, hp, _⟩ := hi.mem (ak (L := F))
  rcases hp.2 with ⟨e1, e2, e3, _⟩ | ⟨b, o, pre, post, _, _, _, _, _, e⟩
  ·omega
  ·exact e
 exact I8 p c L (Row U5 p L.length c L) (fun _ _ hh => hh.rd) hcap hl hB mo hm (x, e) hq w0 F w hi
theorem Fj (p : Option Addr) (c n : Nat) (B : List Int) (R : ae) (hR : ∀ w0 h, R w0 h → bJ U5 p n B w0 h) (hn : B.length = n) (hl : n ≤ 4194304) (hB : af.aY B) : aD Tryz.prog 11 [.slice p n c] [R] (aK fun v G => ∃ qq cq, v = .slice qq (aH.zS B).length cq ∧ G = [Row U5 qq (aH.zS B).length cq (aH.zS B), R]) := by
 subst hn
 exact yM p c B R hR hl hB
set_option maxHeartbeats 2000000 in
theorem Ip  : aD Tryz.prog 7 [] [] (aK fun v G => v = .bool true ∧ G = []) := by
 refine ax [] Tryz.func7 rfl Tryz.ntmps7 rfl rfl ?_
 intro w0 F
 have hab : af.aY ([97, 98, 99] : List Int) := by unfold af.aY; decide
 have hbd := ad.qG (B := ([97, 98, 99] : List Int)) hab (by decide)
 have hzl := aH.x7 ([97, 98, 99] : List Int)
 refine rT fb 7 rfl ?_
 refine bP (U5) [120, 1, 3, 0, 0, 0, 0, 1] V.bH V.z5 rfl rfl rfl rfl rfl rfl ?_
 intro b6
 refine ai (uF (some ⟨b6, 0, none⟩) 8 8 [120, 1, 3, 0, 0, 0, 0, 1] rfl (by decide) (by unfold af.aY; decide) 0 (by decide) ([] : List Int) 0 aH.Kd) V.b8  rfl (au .nil) rfl ?_
 rintro _ _ ⟨q7, c7, rfl, rfl⟩
 refine rO fb 9 rfl ?_
 refine bP (U5) [97, 98, 99] V.bH V.z5 rfl rfl rfl rfl rfl rfl ?_
 intro iV
 refine oV (HX (c := U5) Tryz.underlying22 Tryz.underlying5 rfl (by decide) dg) ?_
 refine ai (Fj (some ⟨iV, 0, none⟩) 3 3 ([97, 98, 99] : List Int) (bJ U5 (some ⟨iV, 0, none⟩) 3 ([97, 98, 99] : List Int)) (fun _ _ hh => hh) rfl (by decide) hab) V.iV  rfl (au .nil) rfl ?_
 rintro _ _ ⟨q13, c13, rfl, rfl⟩
 refine ai (uF q13 c13 (aH.zS ([97, 98, 99] : List Int)).length (aH.zS ([97, 98, 99] : List Int)) rfl (by omega) (aH.xS hab (by decide)) 3 (by decide) ([97, 98, 99] : List Int) 0 (aH.yo hab (by decide))) V.b8  rfl (au .nil) rfl ?_
 rintro _ _ ⟨q14, c14, rfl, rfl⟩
 refine rO fb 10 rfl ?_
 refine oV (ck (cg rfl rfl) rfl) ?_
 refine rO fb 3 rfl ?_
 refine al rfl ?_
 refine oV (ck (cg rfl rfl) rfl) ?_
 refine rO fb 3 rfl ?_
 refine al rfl ?_
 refine oV (ck (cg rfl rfl) rfl) ?_
 refine rO fb 3 rfl ?_
 refine al rfl ?_
 refine oV (nF (T := 5) Tryz.underlying22 Tryz.underlying5 Tryz.underlying9 rfl (own ak)) ?_
 refine al rfl ?_
 refine oV (tZ (s := strOfNums ([97, 98, 99] : List Int)) rfl rfl) ?_
 refine rO fb 5 rfl ?_
 exact an (bu rfl) ⟨rfl, rfl⟩ (sub .nil F3)
set_option maxHeartbeats 4000000 in
theorem Ko (pb : Option Addr) (cb : Nat) (Ls : List (Td.Ty (.sl 5 (.int .u8)))) (pm : Option Addr) (cm : Nat) (M : List Int) (hM : af.aY M) (hlim : ∀ y ∈ Ls, y.cap ≤ 140737488351232) : aD Tryz.prog 6 [.agg #[.slice pb Ls.length cb, .slice pm M.length cm]] [Deep 22 (.sl 5 (.int .u8)) pb Ls.length Ls, bJ U5 pm M.length M] (aK fun v G => v = .bool true ∧ G = [Deep 22 (.sl 5 (.int .u8)) pb Ls.length Ls, bJ U5 pm M.length M]) := by
 refine ax [(0, _)] Tryz.func6 rfl Tryz.ntmps6 rfl rfl ?_
 intro w0 F
 refine rT fb 2 rfl ?_
 refine fG rfl (cs := [_, _]) rfl rfl ?_
 intro b1
 refine rO fb 6 rfl ?_
 refine ai (Ip) V.b7  rfl .nil rfl ?_
 rintro _ _ ⟨rfl, rfl⟩
 refine rO fb 8 rfl ?_
 refine oV (nW V.NV rfl ak (vs := [_, _]) rfl rfl) ?_
 refine ai (Jd pb cb Ls pm cm M hM hlim) V.iI  rfl (.cons ar (.cons ar .nil)) rfl ?_
 rintro _ _ ⟨ok, q, c, out, rfl, hoB, hol, rfl⟩
 refine rO fb 7 rfl ?_
 rcases ((by cases ok; exact .inl rfl; exact .inr rfl : ok = false ∨ ok = true)) with rfl | rfl
 ·refine rC fb 15 rfl ?_
  exact an (bu rfl) ⟨rfl, rfl⟩ (sub (.cons ar (.cons ar .nil)) fg)
 ·refine rC fb 11 rfl ?_
  have hzl := aH.x7 out
  have hbd := ad.qG (B := out) hoB (by omega)
  have hg := ad.gd hoB (by omega)
  have hgm := hg.most
  have hme := ad.yI (n := (out.length : Int)) (by omega)
  refine rC fb 2 rfl ?_
  refine ai (yM q c out (Row U5 q out.length c out) (fun _ _ hh => hh.rd) (by omega) hoB) V.iV  rfl (au .nil) rfl ?_
  rintro _ _ ⟨q20, c20, rfl, rfl⟩
  refine rO fb 8 rfl ?_
  refine ai (uF q20 c20 (aH.zS out).length (aH.zS out) rfl (by omega) (aH.xS hoB (by omega)) (out.length : Int) (by omega) out 0 (aH.yo hoB (by omega))) V.b8  rfl (au .nil) rfl ?_
  rintro _ _ ⟨q25, c25, rfl, rfl⟩
  refine rO fb 12 rfl ?_
  refine ai (Hn q20 c20 (aH.zS out).length (aH.zS out) rfl (by omega) (aH.xS hoB (by omega)) (out.length : Int) (by omega) out 0 (aH.yo hoB (by omega))) V.b9  rfl (.cons ar .nil) rfl ?_
  rintro _ _ ⟨q32, c32, rfl, rfl⟩
  refine rO fb 10 rfl ?_
  refine oV (ck (cg rfl rfl) rfl) ?_
  refine rO fb 2 rfl ?_
  refine al rfl ?_
  refine oV (ck (cg rfl rfl) rfl) ?_
  refine rO fb 3 rfl ?_
  refine al rfl ?_
  refine oV (nF (T := 5) Tryz.underlying22 Tryz.underlying5 Tryz.underlying9 rfl (own dE)) ?_
  refine al rfl ?_
  refine oV (aB rfl) ?_
  refine al rfl ?_
  refine oV (nF (T := 5) Tryz.underlying22 Tryz.underlying5 Tryz.underlying9 rfl (own fZ)) ?_
  refine al rfl ?_
  refine oV (tZ rfl rfl) ?_
  refine rO fb 3 rfl ?_
  refine al rfl ?_
  refine oV (nF (T := 5) Tryz.underlying22 Tryz.underlying5 Tryz.underlying9 rfl (own ak)) ?_
  refine al rfl ?_
  refine oV (aB rfl) ?_
  refine al rfl ?_
  refine oV (nF (T := 5) Tryz.underlying22 Tryz.underlying5 Tryz.underlying9 rfl (own fZ)) ?_
  refine al rfl ?_
  refine oV (tZ rfl rfl) ?_
  refine rO fb 3 rfl ?_
  refine al rfl ?_
  refine oV (xI V.bH (own bB)) ?_
  refine al rfl ?_
  refine oV (xL V.s5 (own bB)) ?_
  refine al rfl ?_
  refine oV (ck (cg rfl rfl) (aH.MV out)) ?_
  refine rO fb 3 rfl ?_
  refine al rfl ?_
  refine oV (xI V.bH (own bB)) ?_
  refine al rfl ?_
  refine oV (xL V.s5 (own bB)) ?_
  refine al rfl ?_
  refine oV (ck (cg rfl rfl) (aH.My out)) ?_
  refine rO fb 6 rfl ?_
  refine al rfl ?_
  refine ai (BB (out.length : Int) (by omega) (by omega)) V.qx  rfl .nil rfl ?_
  rintro _ _ ⟨rfl, rfl⟩
  refine al rfl ?_
  refine oV (ck (iM rfl rfl) (by omega)) ?_
  refine rO fb 4 rfl ?_
  refine al rfl ?_
  refine ai (BB (out.length : Int) (by omega) (by omega)) V.qx  rfl .nil rfl ?_
  rintro _ _ ⟨rfl, rfl⟩
  refine bN fb 5 rfl (by omega) ?_
  refine al rfl ?_
  refine oV (ke (r := ((out.length : Int) + 65534) / 65535) rfl rfl (by decide) (lN (by omega) (by omega) (by omega))) ?_
  refine bN fb 3 rfl (by omega) ?_
  refine al rfl ?_
  refine oV (ck (cg rfl rfl) (by omega)) ?_
  refine rO fb 5 rfl ?_
  exact an (bu rfl) ⟨rfl, rfl⟩ (sub (.cons lh (.cons lh .nil)) F3)
end Go.Proofs.YtmbljkghkcgejaaGreat

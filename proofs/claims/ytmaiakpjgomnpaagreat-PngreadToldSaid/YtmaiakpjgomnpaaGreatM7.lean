/- Walks of functions that the law reaches, and what they lean on; no conditions. -/
import Derived.Test.YtmaiakpjgomnpaaGreatM1
import Derived.KernelRfl
import Derived.Test.YtmaiakpjgomnpaaGreatM6
import Derived.Test.YtmaiakpjgomnpaaGreatM3
import Derived.Test.YtmaiakpjgomnpaaGreatM2
import Derived.Test.YtmaiakpjgomnpaaGreatM4
set_option linter.unusedVariables false
set_option linter.unusedSimpArgs false
set_option maxRecDepth 100000
namespace Go.Proofs.YtmaiakpjgomnpaaGreat
open Go.Sl 
theorem cL : dU Tryz.prog ⟨[22, 84], [(88, 0, 0), (88, 1, 1), (137, 2, 2)]⟩ = true := by kernel_rfl
attribute [local irreducible] aj.au aa.gR aa.gL aa.eE aa.gh aa.eU aa.iC aa.bQ aa.a7 aa.bA aa.bV aa.cS aa.gN aa.eh aa.dG aa.de aa.walk aa.bo
theorem Kl (es : List Ce) (i : Nat) : ((es.map Ce.ch).map aa.Ch.k).getD i [] = (CK.g es (i : Int)).k := by
 show _ = (es.getD i _).k
 simp only [List.getD_eq_getElem?_getD, List.getElem?_map]
 cases es[i]? <;> rfl
theorem No (es : List Ce) (i : Nat) : ((es.map Ce.ch).map (·.d.length)).getD i 0 = (CK.g es (i : Int)).d.length := by
 show _ = (es.getD i _).d.length
 simp only [List.getD_eq_getElem?_getD, List.getElem?_map]
 cases es[i]? <;> rfl
theorem My {es : List Ce} {i : Nat} (h : i < es.length - 2) : (aa.bo (es.map Ce.ch))[i]? = some (CK.g ((es.drop 1).take (es.length - 1 - 1)) (i : Int)).ch := by
 rw [aa.HK (by rw [List.length_map]; exact h), List.getElem?_map]
 have e : CK.g ((es.drop 1).take (es.length - 1 - 1)) (i : Int) = es[1 + i]'(by omega) := by
  show ((es.drop 1).take (es.length - 1 - 1)).getD i _ = _
  rw [List.getD_eq_getElem?_getD, List.getElem?_take_of_lt (by omega), List.getElem?_drop, List.getElem?_eq_getElem (by omega)]
  rfl
 rw [e, List.getElem?_eq_getElem (by omega)]
 rfl
theorem lF {es : List Ce} {i : Nat} (P : Ce → Prop) (h : ∀ x ∈ es, P x) (hi : i < es.length) : P (CK.g es (i : Int)) := by
 have : CK.g es (i : Int) = es[i] := CK.vG hi
 rw [this]
 exact h _ (List.getElem_mem hi)
def G2 (es : List Ce) : Prop := ∀ x ∈ es, aj.au x.k ∧ x.k.length < 500000000
set_option maxHeartbeats 8000000 in
theorem oD (p : Option Addr) (c : Nat) (es : List Ce) (R : ad) (hR : ∀ w0 h, R w0 h → aS CK p es.length es w0 h) (hel : es.length ≤ 262144) (hok : G2 es) (hcap : es.length ≤ c) : aG Tryz.prog 38 [.slice p es.length c] [R] (aQ fun v G => v = .int .i64 (aa.Ep (es.map Ce.ch)) ∧ G = [R]) := by
 refine av [(0, _)] Tryz.func38 rfl Tryz.ntmps38 rfl rfl ?_
 intro w0 F
 have h6 := aa.Qd (es.map Ce.ch)
 rw [List.length_map, Kl, No, Kl, No, show (((0 : Nat) : Int)) = 0 from rfl] at h6
 refine rT cL 5 rfl ?_
 rcases (h6) with ⟨h3, ho⟩ | ⟨h3, hk0, ho⟩ | ⟨h3, hk0, hd0, ho⟩ | ⟨h3, hk0, hd0, hkn, ho⟩ | ⟨h3, hk0, hd0, hkn, hdn, ho⟩ | ⟨h3, hk0, hd0, hkn, hdn, ho⟩
 ·refine fH cL 12 rfl (by omega) ?_
  refine oV (aW (bu rfl rfl) (by omega)) ?_
  refine rO cL 42 rfl ?_
  rw [← aa.mr ho]
  exact ak (aC rfl) ⟨rfl, rfl⟩ (sub (ar .nil) aw)
 ·refine rC cL 4 rfl ?_
  refine oV (cK (v := .int .i64 (((es.length - 1) : Nat) : Int)) (fT rfl rfl wI) (by congr 1; omega)) ?_
  refine rO cL 5 rfl ?_
  have hb0 : aj.au (CK.g es 0).k := (lF (i := 0) (fun x => aj.au x.k ∧ x.k.length < 500000000) hok (by omega)).1
  have hbn := (lF (i := (es.length - 1)) (fun x => aj.au x.k ∧ x.k.length < 500000000) hok (by omega)).1
  refine rC cL 2 rfl ?_
  refine oV (aA (bu rfl rfl) (by omega)) ?_
  refine rO cL 2 rfl ?_
  refine ag rfl ?_
  refine oV (xI V.gv (by exact bE hR an)) ?_
  refine ag rfl ?_
  refine oV (aE V.nL rfl) ?_
  refine ag rfl ?_
  refine oV (dW (c := (CK)) 0 V.s9 rfl (by exact bE hR an) (by omega) (by omega) rfl rfl) ?_
  refine ag rfl ?_
  refine oV (cK (v := .bool true) (kx (r := false) (sP (aa.aY hb0) (aa.aY aa.Ho) hk0) rfl (show aq _ _ = some (.string (strOfNums aa.cS)) by unfold aa.cS; rfl)) rfl) ?_
  refine rO cL 36 rfl ?_
  rw [← aa.mr ho]
  exact ak (aC rfl) ⟨rfl, rfl⟩ (sub (ar .nil) aw)
 ·refine rC cL 4 rfl ?_
  refine oV (cK (v := .int .i64 (((es.length - 1) : Nat) : Int)) (fT rfl rfl wI) (by congr 1; omega)) ?_
  refine rO cL 5 rfl ?_
  have hb0 : aj.au (CK.g es 0).k := (lF (i := 0) (fun x => aj.au x.k ∧ x.k.length < 500000000) hok (by omega)).1
  have hbn := (lF (i := (es.length - 1)) (fun x => aj.au x.k ∧ x.k.length < 500000000) hok (by omega)).1
  refine rC cL 2 rfl ?_
  refine oV (aA (bu rfl rfl) (by omega)) ?_
  refine rO cL 2 rfl ?_
  refine ag rfl ?_
  refine oV (xI V.gv (by exact bE hR an)) ?_
  refine ag rfl ?_
  refine oV (aE V.nL rfl) ?_
  refine ag rfl ?_
  refine oV (dW (c := (CK)) 0 V.s9 rfl (by exact bE hR an) (by omega) (by omega) rfl rfl) ?_
  refine ag rfl ?_
  refine oV (cK (v := .bool false) (kx (r := true) (by rw [hk0]; exact beq_self_eq_true _) rfl (show aq _ _ = some (.string (strOfNums aa.cS)) by unfold aa.cS; rfl)) rfl) ?_
  refine rO cL 3 rfl ?_
  refine ag rfl ?_
  refine oV (xI V.gv (by exact bE hR an)) ?_
  refine ag rfl ?_
  refine oV (aE V.lx rfl) ?_
  refine ag rfl ?_
  refine oV (dW (c := (CK)) 1 V.eC rfl (by exact bE hR an) (by omega) (by omega) rfl rfl) ?_
  refine ag rfl ?_
  refine oV (ez (ty' := 0) Tryz.underlying22 rfl) ?_
  refine ag rfl ?_
  refine oV (aW (cx rfl rfl) (fun hh => hd0 (by omega))) ?_
  refine rO cL 28 rfl ?_
  rw [← aa.mr ho]
  exact ak (aC rfl) ⟨rfl, rfl⟩ (sub (ar .nil) aw)
 ·refine rC cL 4 rfl ?_
  refine oV (cK (v := .int .i64 (((es.length - 1) : Nat) : Int)) (fT rfl rfl wI) (by congr 1; omega)) ?_
  refine rO cL 5 rfl ?_
  have hb0 : aj.au (CK.g es 0).k := (lF (i := 0) (fun x => aj.au x.k ∧ x.k.length < 500000000) hok (by omega)).1
  have hbn := (lF (i := (es.length - 1)) (fun x => aj.au x.k ∧ x.k.length < 500000000) hok (by omega)).1
  refine rC cL 2 rfl ?_
  refine oV (aA (bu rfl rfl) (by omega)) ?_
  refine rO cL 2 rfl ?_
  refine ag rfl ?_
  refine oV (xI V.gv (by exact bE hR an)) ?_
  refine ag rfl ?_
  refine oV (aE V.nL rfl) ?_
  refine ag rfl ?_
  refine oV (dW (c := (CK)) 0 V.s9 rfl (by exact bE hR an) (by omega) (by omega) rfl rfl) ?_
  refine ag rfl ?_
  refine oV (cK (v := .bool false) (kx (r := true) (by rw [hk0]; exact beq_self_eq_true _) rfl (show aq _ _ = some (.string (strOfNums aa.cS)) by unfold aa.cS; rfl)) rfl) ?_
  refine rO cL 3 rfl ?_
  refine ag rfl ?_
  refine oV (xI V.gv (by exact bE hR an)) ?_
  refine ag rfl ?_
  refine oV (aE V.lx rfl) ?_
  refine ag rfl ?_
  refine oV (dW (c := (CK)) 1 V.eC rfl (by exact bE hR an) (by omega) (by omega) rfl rfl) ?_
  refine ag rfl ?_
  refine oV (ez (ty' := 0) Tryz.underlying22 rfl) ?_
  refine ag rfl ?_
  refine oV (aA (cx rfl rfl) (fun hh => hh (by omega))) ?_
  refine rO cL 4 rfl ?_
  refine ag rfl ?_
  refine oV (xI V.gv (by exact bE hR an)) ?_
  refine ag rfl ?_
  refine oV (aE V.nL rfl) ?_
  refine ag rfl ?_
  refine oV (dW (c := (CK)) 0 V.s9 rfl (by exact bE hR an) (by omega) (by omega) rfl rfl) ?_
  refine ag rfl ?_
  refine oV (cK (v := .bool true) (kx (r := false) (sP (aa.aY hbn) (aa.aY aa.wM) hkn) rfl (show aq _ _ = some (.string (strOfNums aa.bV)) by unfold aa.bV; rfl)) rfl) ?_
  refine rO cL 20 rfl ?_
  rw [← aa.mr ho]
  exact ak (aC rfl) ⟨rfl, rfl⟩ (sub (ar .nil) aw)
 ·refine rC cL 4 rfl ?_
  refine oV (cK (v := .int .i64 (((es.length - 1) : Nat) : Int)) (fT rfl rfl wI) (by congr 1; omega)) ?_
  refine rO cL 5 rfl ?_
  have hb0 : aj.au (CK.g es 0).k := (lF (i := 0) (fun x => aj.au x.k ∧ x.k.length < 500000000) hok (by omega)).1
  have hbn := (lF (i := (es.length - 1)) (fun x => aj.au x.k ∧ x.k.length < 500000000) hok (by omega)).1
  refine rC cL 2 rfl ?_
  refine oV (aA (bu rfl rfl) (by omega)) ?_
  refine rO cL 2 rfl ?_
  refine ag rfl ?_
  refine oV (xI V.gv (by exact bE hR an)) ?_
  refine ag rfl ?_
  refine oV (aE V.nL rfl) ?_
  refine ag rfl ?_
  refine oV (dW (c := (CK)) 0 V.s9 rfl (by exact bE hR an) (by omega) (by omega) rfl rfl) ?_
  refine ag rfl ?_
  refine oV (cK (v := .bool false) (kx (r := true) (by rw [hk0]; exact beq_self_eq_true _) rfl (show aq _ _ = some (.string (strOfNums aa.cS)) by unfold aa.cS; rfl)) rfl) ?_
  refine rO cL 3 rfl ?_
  refine ag rfl ?_
  refine oV (xI V.gv (by exact bE hR an)) ?_
  refine ag rfl ?_
  refine oV (aE V.lx rfl) ?_
  refine ag rfl ?_
  refine oV (dW (c := (CK)) 1 V.eC rfl (by exact bE hR an) (by omega) (by omega) rfl rfl) ?_
  refine ag rfl ?_
  refine oV (ez (ty' := 0) Tryz.underlying22 rfl) ?_
  refine ag rfl ?_
  refine oV (aA (cx rfl rfl) (fun hh => hh (by omega))) ?_
  refine rO cL 4 rfl ?_
  refine ag rfl ?_
  refine oV (xI V.gv (by exact bE hR an)) ?_
  refine ag rfl ?_
  refine oV (aE V.nL rfl) ?_
  refine ag rfl ?_
  refine oV (dW (c := (CK)) 0 V.s9 rfl (by exact bE hR an) (by omega) (by omega) rfl rfl) ?_
  refine ag rfl ?_
  refine oV (cK (v := .bool false) (kx (r := true) (by rw [hkn]; exact beq_self_eq_true _) rfl (show aq _ _ = some (.string (strOfNums aa.bV)) by unfold aa.bV; rfl)) rfl) ?_
  refine rO cL 4 rfl ?_
  refine ag rfl ?_
  refine oV (xI V.gv (by exact bE hR an)) ?_
  refine ag rfl ?_
  refine oV (aE V.lx rfl) ?_
  refine ag rfl ?_
  refine oV (dW (c := (CK)) 1 V.eC rfl (by exact bE hR an) (by omega) (by omega) rfl rfl) ?_
  refine ag rfl ?_
  refine oV (ez (ty' := 0) Tryz.underlying22 rfl) ?_
  refine ag rfl ?_
  refine oV (aW (bd rfl rfl) (by omega)) ?_
  refine rO cL 11 rfl ?_
  rw [← aa.mr ho]
  exact ak (aC rfl) ⟨rfl, rfl⟩ (sub (ar .nil) aw)
 ·refine rC cL 4 rfl ?_
  refine oV (cK (v := .int .i64 (((es.length - 1) : Nat) : Int)) (fT rfl rfl wI) (by congr 1; omega)) ?_
  refine rO cL 5 rfl ?_
  have hb0 : aj.au (CK.g es 0).k := (lF (i := 0) (fun x => aj.au x.k ∧ x.k.length < 500000000) hok (by omega)).1
  have hbn := (lF (i := (es.length - 1)) (fun x => aj.au x.k ∧ x.k.length < 500000000) hok (by omega)).1
  refine rC cL 2 rfl ?_
  refine oV (aA (bu rfl rfl) (by omega)) ?_
  refine rO cL 2 rfl ?_
  refine ag rfl ?_
  refine oV (xI V.gv (by exact bE hR an)) ?_
  refine ag rfl ?_
  refine oV (aE V.nL rfl) ?_
  refine ag rfl ?_
  refine oV (dW (c := (CK)) 0 V.s9 rfl (by exact bE hR an) (by omega) (by omega) rfl rfl) ?_
  refine ag rfl ?_
  refine oV (cK (v := .bool false) (kx (r := true) (by rw [hk0]; exact beq_self_eq_true _) rfl (show aq _ _ = some (.string (strOfNums aa.cS)) by unfold aa.cS; rfl)) rfl) ?_
  refine rO cL 3 rfl ?_
  refine ag rfl ?_
  refine oV (xI V.gv (by exact bE hR an)) ?_
  refine ag rfl ?_
  refine oV (aE V.lx rfl) ?_
  refine ag rfl ?_
  refine oV (dW (c := (CK)) 1 V.eC rfl (by exact bE hR an) (by omega) (by omega) rfl rfl) ?_
  refine ag rfl ?_
  refine oV (ez (ty' := 0) Tryz.underlying22 rfl) ?_
  refine ag rfl ?_
  refine oV (aA (cx rfl rfl) (fun hh => hh (by omega))) ?_
  refine rO cL 4 rfl ?_
  refine ag rfl ?_
  refine oV (xI V.gv (by exact bE hR an)) ?_
  refine ag rfl ?_
  refine oV (aE V.nL rfl) ?_
  refine ag rfl ?_
  refine oV (dW (c := (CK)) 0 V.s9 rfl (by exact bE hR an) (by omega) (by omega) rfl rfl) ?_
  refine ag rfl ?_
  refine oV (cK (v := .bool false) (kx (r := true) (by rw [hkn]; exact beq_self_eq_true _) rfl (show aq _ _ = some (.string (strOfNums aa.bV)) by unfold aa.bV; rfl)) rfl) ?_
  refine rO cL 4 rfl ?_
  refine ag rfl ?_
  refine oV (xI V.gv (by exact bE hR an)) ?_
  refine ag rfl ?_
  refine oV (aE V.lx rfl) ?_
  refine ag rfl ?_
  refine oV (dW (c := (CK)) 1 V.eC rfl (by exact bE hR an) (by omega) (by omega) rfl rfl) ?_
  refine ag rfl ?_
  refine oV (ez (ty' := 0) Tryz.underlying22 rfl) ?_
  refine ag rfl ?_
  refine oV (aA (bd rfl rfl) (by omega)) ?_
  refine rO cL 8 rfl ?_
  refine oV (cB V.NF V.Ql rfl (cs := [_, _, _, _]) rfl) ?_
  refine eN rfl (cs := [.bool false, .bool false, .bool false, .bool false]) rfl rfl ?_
  intro b45
  refine rO cL 5 rfl ?_
  have hM : ∀ w0 h, R w0 h → aS CK (eo p 1 c 2) ((es.length - 1) - 1) ((es.drop 1).take ((es.length - 1) - 1)) w0 h := fun w0 h hh => (hR w0 h hh).sub 1 (es.length - 1) c (by omega) (by omega) (by omega)
  refine rC cL 3 rfl ?_
  refine oV (dX 1 (es.length - 1) c V.gv rfl ⟨_, rfl⟩ ⟨_, rfl⟩ rfl (by omega) (by omega) (by omega)) ?_
  refine rO cL 5 rfl ?_
  refine il (fun (i : Nat) (w : aa.Wk) => [(4, .pointer (some ⟨b45, 0, none⟩)), (48, .slice (eo p 1 c 2) ((es.length - 1) - 1) (c - 1)), (49, .int .i64 (((es.length - 1) - 1 : Nat) : Int)), (50, .int .i64 (i : Int))]) (fun (i : Nat) (w : aa.Wk) => ao b45 137 [.bool w.plte, .bool w.trns, .bool w.c4, .bool w.kM] :: R :: F) (fun (i : Nat) (w : aa.Wk) => i ≤ es.length - 2 ∧ aa.walk ((aa.bo (es.map Ce.ch)).drop i) w = aa.walk (aa.bo (es.map Ce.ch)) aa.xz) (fun (i : Nat) (w : aa.Wk) => es.length - 2 - i) (i2 (0) (aa.xz) ?_ (fo ln) (sub (bF .nil) aw)) ?_
  ·exact ⟨Nat.zero_le _, rfl⟩
  intro i w
  rintro ⟨hi, hwk⟩
  refine rL cL 6 rfl ?_
  refine aN rfl (fun h51 => ?_) (fun h51 => ?_)
  ·refine rC cL 5 rfl ?_
   have hmi := My (es := es) (i := i) (by omega)
   have hxo : aj.au (CK.g ((es.drop 1).take ((es.length - 1) - 1)) (i : Int)).k ∧ (CK.g ((es.drop 1).take ((es.length - 1) - 1)) (i : Int)).k.length < 500000000 := lF (fun x => aj.au x.k ∧ x.k.length < 500000000) (fun x hx => hok x (List.mem_of_mem_drop (List.mem_of_mem_take hx))) (by rw [List.length_take, List.length_drop]; omega)
   have hwn := aa.Lo (w := w) _ hmi
   refine bK ?_
   refine oV (xI V.gv (by exact bE hM bW)) ?_
   refine oV (oa (c := (CK)) V.jS rfl (by exact bE hM bW) (by omega) (by omega) rfl) ?_
   refine cC V.lz rfl ?_
   intro b6
   refine aU (aF V.jS rfl rfl (us := [_, _]) rfl rfl (by exact cY) (by exact Nat.le_of_ble_eq_true rfl) rfl) ?_
   refine rO cL 2 rfl ?_
   rcases (aa.Ld (aa.de ⟨w.plte, w.trns, w.c4, w.kM⟩ (CK.g ((es.drop 1).take ((es.length - 1) - 1)) (i : Int)).ch).2) with hb | hb
   ·refine rC cL 3 rfl ?_
    refine oV (bG V.jS rfl an (vs := [_, _]) rfl rfl) ?_
    refine ai (CH b45 w.plte w.trns w.c4 w.kM (CK.g ((es.drop 1).take ((es.length - 1) - 1)) (i : Int)) hxo.1 hxo.2) V.LP  rfl (.cons ay .nil) rfl ?_
    rintro _ _ ⟨rfl, rfl⟩
    rw [hb]
    refine cQ cL 11 rfl (by omega) ?_
    have hb2 : (aa.de w (CK.g ((es.drop 1).take ((es.length - 1) - 1)) (i : Int)).ch).2 = true := hb
    rw [hb2] at hwn
    exact j2 (i + 1) (aa.de ⟨w.plte, w.trns, w.c4, w.kM⟩ (CK.g ((es.drop 1).take ((es.length - 1) - 1)) (i : Int)).ch).1 ⟨⟨by omega, hwn.symm.trans hwk⟩, by omega⟩ (fo ln) (sub (ar (.cons ay .nil)) cD)
   ·refine rC cL 3 rfl ?_
    refine oV (bG V.jS rfl an (vs := [_, _]) rfl rfl) ?_
    refine ai (CH b45 w.plte w.trns w.c4 w.kM (CK.g ((es.drop 1).take ((es.length - 1) - 1)) (i : Int)) hxo.1 hxo.2) V.LP  rfl (.cons ay .nil) rfl ?_
    rintro _ _ ⟨rfl, rfl⟩
    rw [hb]
    refine rO cL 15 rfl ?_
    have hb2 : (aa.de w (CK.g ((es.drop 1).take ((es.length - 1) - 1)) (i : Int)).ch).2 = false := hb
    rw [hb2] at hwn
    rw [← aa.mr (aa.Kd ho (hwk.symm.trans hwn))]
    exact ak (aC rfl) ⟨rfl, rfl⟩ (sub (.cons bX .nil) ie)
  ·refine rC cL 5 rfl ?_
   rcases (aa.Ld w.c4) with hb | hb
   ·refine rC cL 2 rfl ?_
    rw [aa.C8 (by rw [aa.zC (by rw [List.length_map]; omega), List.length_map]; omega)] at hwk
    refine rC cL 4 rfl ?_
    refine oV (ae V.s4 rfl an rfl) ?_
    rw [hb]
    refine rO cL 12 rfl ?_
    rw [← aa.pO ((aa.Cz ho hwk.symm).trans hb)]
    exact ak (aC rfl) ⟨rfl, rfl⟩ (sub (.cons ay .nil) cD)
   ·refine rC cL 2 rfl ?_
    rw [aa.C8 (by rw [aa.zC (by rw [List.length_map]; omega), List.length_map]; omega)] at hwk
    refine rC cL 4 rfl ?_
    refine oV (ae V.s4 rfl an rfl) ?_
    rw [hb]
    refine rO cL 11 rfl ?_
    rw [← aa.mr ((aa.Cz ho hwk.symm).trans hb)]
    exact ak (aC rfl) ⟨rfl, rfl⟩ (sub (.cons ay .nil) cD)
end Go.Proofs.YtmaiakpjgomnpaaGreat
namespace Go.Proofs.YtmaiakpjgomnpaaGreat
open Go.Sl
theorem V.RU : aH Tryz.prog 64 = true := by kernel_rfl
theorem V.Q1 : aH Tryz.prog 65 = true := by kernel_rfl
theorem V.Ro : aH Tryz.prog 66 = true := by kernel_rfl
theorem V.uj : fO Tryz.prog 57 = some [(0, 1), (1, 1)] := by kernel_rfl
theorem V.kl : sliceB Tryz.prog 59 = some (57, 2, 40) := by kernel_rfl
theorem V.nI : dH Tryz.prog 57 = some ([.string .empty, .slice none 0 0]) := by kernel_rfl
end Go.Proofs.YtmaiakpjgomnpaaGreat
namespace Go.Proofs.YtmaiakpjgomnpaaGreat
open Go.Sl 
theorem iE : dU Tryz.prog ⟨[22], []⟩ = true := by kernel_rfl
attribute [local irreducible] aj.au aa.gR aa.gL aa.eE aa.gh aa.eU aa.iC aa.ic aa.first aa.cut aa.gy aa.ff aa.bV aa.eh aa.nK
abbrev bj : Ec Ce := ⟨57, 2, fun x => [.string (strOfNums x.k), .slice x.p x.d.length x.c], ⟨[], none, 0, []⟩, fun _ => rfl, fun _ => rfl⟩
set_option maxHeartbeats 1000000 in
theorem Dl (kk : List Int) (hk : aj.au kk) (hkl : kk.length < 500000000) (t : Bool) (ht : t = decide (aa.eh kk)) : aG Tryz.prog 65 [.string (strOfNums kk)] [] (aQ fun v G => v = .bool t ∧ G = []) := by
 refine av [(0, _)] Tryz.func65 rfl Tryz.ntmps65 rfl rfl ?_
 intro w0 F
 refine rT iE 5 rfl ?_
 rcases (Classical.em (kk.length = 4)) with h4 | h4
 ·refine rC iE 4 rfl ?_
  refine oV (tq Tryz.underlying9 rfl (jm kk)) ?_
  refine oV (aA (cx rfl rfl) (fun hh => hh (by omega))) ?_
  refine rO iE 12 rfl ?_
  refine eb (fun (i : Nat) => [(0, .string (strOfNums kk)), (3, .int .i64 (i : Int))]) (fun (i : Nat) => F) (fun (i : Nat) => i ≤ 4 ∧ ∀ j, j < i → aa.kI (kk.getD j 0)) (fun (i : Nat) => 4 - i) (i1 (0) ?_ (kG ln) (sub .nil aw)) ?_
  ·exact ⟨Nat.zero_le _, fun j hj => by omega⟩
  intro i
  rintro ⟨hi, hall⟩
  refine rL iE 7 rfl ?_
  refine aN rfl (fun h9 => ?_) (fun h9 => ?_)
  ·refine rC iE 8 rfl ?_
   refine oV (qY i Tryz.underlying9 rfl rfl (aa.aY hk) rfl (by omega)) ?_
   refine oV (nq (r := (aa.nK (kk.getD i 0))) rfl rfl (by unfold aa.nK; rfl)) ?_
   refine rO iE 3 rfl ?_
   rcases (aa.o3 (hk.get i)) with ⟨h1, hn⟩ | ⟨h1, h2, hn⟩ | ⟨h1, h2, hl1⟩
   ·refine rC iE 3 rfl ?_
    refine oV (aW (bu rfl rfl) (by omega)) ?_
    refine rO iE 18 rfl ?_
    obtain rfl : t = false := ht.trans (decide_eq_false (aa.uK hn (by omega)))
    exact ak (aC rfl) ⟨rfl, rfl⟩ (sub .nil aw)
   ·refine rC iE 3 rfl ?_
    refine oV (aA (bu rfl rfl) (by omega)) ?_
    refine rO iE 2 rfl ?_
    refine ag rfl ?_
    refine oV (aW (bd rfl rfl) (by omega)) ?_
    refine rO iE 15 rfl ?_
    obtain rfl : t = false := ht.trans (decide_eq_false (aa.uK hn (by omega)))
    exact ak (aC rfl) ⟨rfl, rfl⟩ (sub .nil aw)
   ·refine rC iE 3 rfl ?_
    refine oV (aA (bu rfl rfl) (by omega)) ?_
    refine rO iE 2 rfl ?_
    refine ag rfl ?_
    refine oV (aA (bd rfl rfl) (by omega)) ?_
    refine cQ iE 12 rfl (by omega) ?_
    refine j1 (i + 1) ?_ (kG ln) (sub .nil aw)
    exact ⟨⟨by omega, fun j hj => (Nat.lt_succ_iff_lt_or_eq.1 hj).elim (hall j) (fun e => e ▸ hl1)⟩, by omega⟩
  ·refine rC iE 11 rfl ?_
   obtain rfl : i = 4 := by omega
   obtain rfl : t = true := ht.trans (decide_eq_true ((aa.y8 (by rw [h4]; exact hall)).2 h4))
   exact ak (aC rfl) ⟨rfl, rfl⟩ (sub .nil aw)
 ·refine rC iE 4 rfl ?_
  refine oV (tq Tryz.underlying9 rfl (jm kk)) ?_
  refine oV (aW (cx rfl rfl) (fun hh => h4 (by omega))) ?_
  refine rO iE 10 rfl ?_
  obtain rfl : t = false := ht.trans (decide_eq_false (aa.NQ h4))
  exact ak (aC rfl) ⟨rfl, rfl⟩ (sub .nil aw)
theorem KU  : aG Tryz.prog 64 [] [] (aQ fun v G => v = .string (strOfNums aa.ff) ∧ G = []) := by
 refine av [] Tryz.func64 rfl Tryz.ntmps64 rfl rfl ?_
 intro w0 F
 refine rT iE 11 rfl ?_
 exact ak (aC (show _ = some (.string (strOfNums aa.ff)) by unfold aa.ff; rfl)) ⟨rfl, rfl⟩ (sub .nil aw)
end Go.Proofs.YtmaiakpjgomnpaaGreat
namespace Go.Proofs.YtmaiakpjgomnpaaGreat
open Go.Sl
theorem V.tG : cy Tryz.prog 57 0 = some 0 := by kernel_rfl
theorem V.vS : cy Tryz.prog 57 1 = some 1 := by kernel_rfl
end Go.Proofs.YtmaiakpjgomnpaaGreat
namespace Go.Proofs.YtmaiakpjgomnpaaGreat
open Go.Sl 
theorem Sa : dU Tryz.prog ⟨[22, 59], [(57, 0, 0), (57, 1, 1)]⟩ = true := by kernel_rfl
attribute [local irreducible] aj.au aa.gR aa.gL aa.eE aa.gh aa.eU aa.iC aa.bQ aa.a7 aa.bA aa.bV aa.cS aa.eh aa.dG aa.eJ aa.lI aa.rS
theorem qp {es : List Ce} {i : Nat} (h : i < es.length) : (es.map Ce.ch)[i]? = some (bj.g es (i : Int)).ch := by
 rw [List.getElem?_map, List.getElem?_eq_getElem h]
 have : bj.g es (i : Int) = es[i] := bj.vG h
 rw [this]; rfl
theorem nb {es : List Ce} {i : Nat} (P : Ce → Prop) (h : ∀ x ∈ es, P x) (hi : i < es.length) : P (bj.g es (i : Int)) := by
 have : bj.g es (i : Int) = es[i] := bj.vG hi
 rw [this]
 exact h _ (List.getElem_mem hi)
end Go.Proofs.YtmaiakpjgomnpaaGreat
namespace Go.Proofs.YtmaiakpjgomnpaaGreat
open Go.Sl
theorem V.a145 : ia Tryz.prog 145 = some 6 := by kernel_rfl
theorem V.JC : ia Tryz.prog 181 = some 42 := by kernel_rfl
theorem V.ek : ia Tryz.prog 26 = some 3 := by kernel_rfl
theorem V.Gy : jT Tryz.prog 181 = some (7, 145, 6) := by kernel_rfl
theorem V.qL : aH Tryz.prog 115 = true := by kernel_rfl
theorem V.LM : aH Tryz.prog 144 = true := by kernel_rfl
theorem V.xm : aH Tryz.prog 58 = true := by kernel_rfl
theorem V.Hc : aH Tryz.prog 60 = true := by kernel_rfl
theorem V.Js : cy Tryz.prog 145 4 = some 4 := by kernel_rfl
theorem V.LD : cy Tryz.prog 145 5 = some 5 := by kernel_rfl
theorem V.oO : cy Tryz.prog 26 0 = some 0 := by kernel_rfl
theorem V.mf : cy Tryz.prog 26 1 = some 1 := by kernel_rfl
theorem V.oK : cy Tryz.prog 26 2 = some 2 := by kernel_rfl
theorem V.N4 : fO Tryz.prog 145 = some [(0, 1), (1, 1), (2, 1), (3, 1), (4, 1), (5, 1)] := by kernel_rfl
theorem V.mH : fO Tryz.prog 26 = some [(0, 1), (1, 1), (2, 1)] := by kernel_rfl
theorem V.nm : dq Tryz.prog 24 = true := by kernel_rfl
theorem V.tJ : sliceB Tryz.prog 140 = some (145, 6, 48) := by kernel_rfl
theorem V.gX : sliceB Tryz.prog 24 = some (62, 1, 2) := by kernel_rfl
theorem V.z145 : dH Tryz.prog 145 = some ([.int .i64 0, .int .i64 0, .int .i64 0, .int .i64 0, .int .i64 0, .int .i64 0]) := by kernel_rfl
theorem V.Ml : dH Tryz.prog 181 = some (List.replicate 42 (.int .i64 0)) := by kernel_rfl
theorem V.kJ : dH Tryz.prog 26 = some ([.int .i64 0, .int .i64 0, .slice none 0 0]) := by kernel_rfl
theorem V.GZ : dH Tryz.prog 62 = some ([.int .u16 0]) := by kernel_rfl
end Go.Proofs.YtmaiakpjgomnpaaGreat
namespace Go.Proofs.YtmaiakpjgomnpaaGreat
open Go.Sl 
theorem aL : dU Tryz.prog ⟨[24], [(26, 0, 0), (26, 1, 1), (26, 2, 2), (145, 4, 4), (145, 5, 5)]⟩ = true := by kernel_rfl
attribute [local irreducible] aa.bR aa.many aa.fk aa.fW aa.sW aa.pY aa.jj aa.jG
section
variable {C : Ctx} {E : Env} {L : List ad}
theorem NK {t T n b T' : Nat} {cs : List Value} (hs : ia C.P T = some n) (h1 : E.get t = some (.pointer (some ⟨b, 0, none⟩))) (hm : ao b T' cs ∈ L) (hn : cs.length = n) : lu C #[.cell t T] E L (.agg cs.toArray) := fun fn a w hr ha hi => by
 obtain ⟨g1, g2⟩ := lY hs w
 obtain ⟨F, hF⟩ := hi.mem hm
 have := run_loadCells_list (P := C.P) w ⟨b, 0, none⟩ cs (fun j v hj => by rw [Addr.fX, hF.ji, ← hj]; simp)
 rw [hn] at this
 simp [results, hr, ha.get _ _ h1, asAddr, loadVar, g1, g2, this]
end
set_option maxHeartbeats 1000000 in
theorem mY (w h : Int) : aG Tryz.prog 58 [.int .i64 w, .int .i64 h] [] (aQ fun v G => v = .int .i64 (aa.bR w h) ∧ G = []) := by
 refine av [(0, _), (1, _)] Tryz.func58 rfl Tryz.ntmps58 rfl rfl ?_
 intro w0 F
 refine rT aL 7 rfl ?_
 rcases (aa.Ai w h) with ⟨a0, hs⟩ | ⟨a0, a1, hs⟩ | ⟨a0, a1, a2, hs⟩ | ⟨a0, a1, a2, a3, hs⟩ | ⟨a0, a1, a2, a3, a4, hs⟩ | ⟨a0, a1, a2, a3, a4, hs⟩
 ·refine rC aL 3 rfl ?_
  refine oV (aW (bu rfl rfl) (by omega)) ?_
  refine rO aL 16 rfl ?_
  exact ak (aC rfl) ⟨congrArg (Value.int .i64) hs.symm, rfl⟩ (sub .nil aw)
 ·refine rC aL 3 rfl ?_
  refine oV (aA (bu rfl rfl) (by omega)) ?_
  refine rO aL 2 rfl ?_
  refine ag rfl ?_
  refine oV (aW (bu rfl rfl) (by omega)) ?_
  refine rO aL 13 rfl ?_
  exact ak (aC rfl) ⟨congrArg (Value.int .i64) hs.symm, rfl⟩ (sub .nil aw)
 ·refine rC aL 3 rfl ?_
  refine oV (aA (bu rfl rfl) (by omega)) ?_
  refine rO aL 2 rfl ?_
  refine ag rfl ?_
  refine oV (aA (bu rfl rfl) (by omega)) ?_
  refine rO aL 8 rfl ?_
  refine oV (aW (bd rfl rfl) (by omega)) ?_
  refine rO aL 22 rfl ?_
  exact ak (aC rfl) ⟨congrArg (Value.int .i64) hs.symm, rfl⟩ (sub .nil aw)
 ·refine rC aL 3 rfl ?_
  refine oV (aA (bu rfl rfl) (by omega)) ?_
  refine rO aL 2 rfl ?_
  refine ag rfl ?_
  refine oV (aA (bu rfl rfl) (by omega)) ?_
  refine rO aL 8 rfl ?_
  refine oV (aA (bd rfl rfl) (by omega)) ?_
  refine rO aL 2 rfl ?_
  refine ag rfl ?_
  refine oV (aW (bd rfl rfl) (by omega)) ?_
  refine rO aL 19 rfl ?_
  exact ak (aC rfl) ⟨congrArg (Value.int .i64) hs.symm, rfl⟩ (sub .nil aw)
 ·refine rC aL 3 rfl ?_
  refine oV (aA (bu rfl rfl) (by omega)) ?_
  refine rO aL 2 rfl ?_
  refine ag rfl ?_
  refine oV (aA (bu rfl rfl) (by omega)) ?_
  refine rO aL 8 rfl ?_
  refine oV (aA (bd rfl rfl) (by omega)) ?_
  refine rO aL 2 rfl ?_
  refine ag rfl ?_
  refine oV (aA (bd rfl rfl) (by omega)) ?_
  refine rO aL 4 rfl ?_
  refine ag rfl ?_
  refine oV (fY (r := 16384 / h) rfl rfl (by omega) (aa.sV (by omega))) ?_
  refine ag rfl ?_
  refine oV (aW (bd rfl rfl) (by omega)) ?_
  refine rO aL 13 rfl ?_
  exact ak (aC rfl) ⟨congrArg (Value.int .i64) hs.symm, rfl⟩ (sub .nil aw)
 ·refine rC aL 3 rfl ?_
  refine oV (aA (bu rfl rfl) (by omega)) ?_
  refine rO aL 2 rfl ?_
  refine ag rfl ?_
  refine oV (aA (bu rfl rfl) (by omega)) ?_
  refine rO aL 8 rfl ?_
  refine oV (aA (bd rfl rfl) (by omega)) ?_
  refine rO aL 2 rfl ?_
  refine ag rfl ?_
  refine oV (aA (bd rfl rfl) (by omega)) ?_
  refine rO aL 4 rfl ?_
  refine ag rfl ?_
  refine oV (fY (r := 16384 / h) rfl rfl (by omega) (aa.sV (by omega))) ?_
  refine ag rfl ?_
  refine oV (aA (bd rfl rfl) (by omega)) ?_
  refine rO aL 14 rfl ?_
  exact ak (aC rfl) ⟨congrArg (Value.int .i64) hs.symm, rfl⟩ (sub .nil aw)
set_option maxHeartbeats 1000000 in
theorem xo (w h : Int) : aG Tryz.prog 60 [.int .i64 w, .int .i64 h] [] (aQ fun v G => v = .int .i64 (aa.bR w h) ∧ G = []) := by
 refine av [(0, _), (1, _)] Tryz.func60 rfl Tryz.ntmps60 rfl rfl ?_
 intro w0 F
 refine rT aL 7 rfl ?_
 rcases (aa.Ai w h) with ⟨a0, hs⟩ | ⟨a0, a1, hs⟩ | ⟨a0, a1, a2, hs⟩ | ⟨a0, a1, a2, a3, hs⟩ | ⟨a0, a1, a2, a3, a4, hs⟩ | ⟨a0, a1, a2, a3, a4, hs⟩
 ·refine rC aL 3 rfl ?_
  refine oV (aW (bu rfl rfl) (by omega)) ?_
  refine rO aL 16 rfl ?_
  exact ak (aC rfl) ⟨congrArg (Value.int .i64) hs.symm, rfl⟩ (sub .nil aw)
 ·refine rC aL 3 rfl ?_
  refine oV (aA (bu rfl rfl) (by omega)) ?_
  refine rO aL 2 rfl ?_
  refine ag rfl ?_
  refine oV (aW (bu rfl rfl) (by omega)) ?_
  refine rO aL 13 rfl ?_
  exact ak (aC rfl) ⟨congrArg (Value.int .i64) hs.symm, rfl⟩ (sub .nil aw)
 ·refine rC aL 3 rfl ?_
  refine oV (aA (bu rfl rfl) (by omega)) ?_
  refine rO aL 2 rfl ?_
  refine ag rfl ?_
  refine oV (aA (bu rfl rfl) (by omega)) ?_
  refine rO aL 8 rfl ?_
  refine oV (aW (bd rfl rfl) (by omega)) ?_
  refine rO aL 22 rfl ?_
  exact ak (aC rfl) ⟨congrArg (Value.int .i64) hs.symm, rfl⟩ (sub .nil aw)
 ·refine rC aL 3 rfl ?_
  refine oV (aA (bu rfl rfl) (by omega)) ?_
  refine rO aL 2 rfl ?_
  refine ag rfl ?_
  refine oV (aA (bu rfl rfl) (by omega)) ?_
  refine rO aL 8 rfl ?_
  refine oV (aA (bd rfl rfl) (by omega)) ?_
  refine rO aL 2 rfl ?_
  refine ag rfl ?_
  refine oV (aW (bd rfl rfl) (by omega)) ?_
  refine rO aL 19 rfl ?_
  exact ak (aC rfl) ⟨congrArg (Value.int .i64) hs.symm, rfl⟩ (sub .nil aw)
 ·refine rC aL 3 rfl ?_
  refine oV (aA (bu rfl rfl) (by omega)) ?_
  refine rO aL 2 rfl ?_
  refine ag rfl ?_
  refine oV (aA (bu rfl rfl) (by omega)) ?_
  refine rO aL 8 rfl ?_
  refine oV (aA (bd rfl rfl) (by omega)) ?_
  refine rO aL 2 rfl ?_
  refine ag rfl ?_
  refine oV (aA (bd rfl rfl) (by omega)) ?_
  refine rO aL 4 rfl ?_
  refine ag rfl ?_
  refine oV (fY (r := 16384 / h) rfl rfl (by omega) (aa.sV (by omega))) ?_
  refine ag rfl ?_
  refine oV (aW (bd rfl rfl) (by omega)) ?_
  refine rO aL 13 rfl ?_
  exact ak (aC rfl) ⟨congrArg (Value.int .i64) hs.symm, rfl⟩ (sub .nil aw)
 ·refine rC aL 3 rfl ?_
  refine oV (aA (bu rfl rfl) (by omega)) ?_
  refine rO aL 2 rfl ?_
  refine ag rfl ?_
  refine oV (aA (bu rfl rfl) (by omega)) ?_
  refine rO aL 8 rfl ?_
  refine oV (aA (bd rfl rfl) (by omega)) ?_
  refine rO aL 2 rfl ?_
  refine ag rfl ?_
  refine oV (aA (bd rfl rfl) (by omega)) ?_
  refine rO aL 4 rfl ?_
  refine ag rfl ?_
  refine oV (fY (r := 16384 / h) rfl rfl (by omega) (aa.sV (by omega))) ?_
  refine ag rfl ?_
  refine oV (aA (bd rfl rfl) (by omega)) ?_
  refine rO aL 14 rfl ?_
  exact ak (aC rfl) ⟨congrArg (Value.int .i64) hs.symm, rfl⟩ (sub .nil aw)
set_option maxHeartbeats 1000000 in
theorem OW (w h : Int) : aG Tryz.prog 85 [.int .i64 w, .int .i64 h] [] (aQ fun v G => (aa.bR w h ≠ 0 ∧ v = .tuple #[.agg #[.int .i64 0, .int .i64 0, .slice none 0 0], .int .i64 (aa.bR w h)] ∧ G = []) ∨ (aa.bR w h = 0 ∧ ∃ b, v = .tuple #[.agg #[.int .i64 w, .int .i64 h, .slice (some ⟨b, 0, none⟩) ((4 * w * h).toNat) ((4 * w * h).toNat)], .int .i64 0] ∧ G = [Row (aP 62 .u16) (some ⟨b, 0, none⟩) ((4 * w * h).toNat) ((4 * w * h).toNat) (List.replicate (4 * w * h).toNat (aP 62 .u16).d)])) := by
 refine av [(0, _), (1, _)] Tryz.func85 rfl Tryz.ntmps85 rfl rfl ?_
 intro w0 F
 refine rT aL 2 rfl ?_
 refine cC V.kJ rfl ?_
 intro b4
 refine rO aL 8 rfl ?_
 refine ai (mY w h) V.xm  rfl .nil rfl ?_
 rintro _ _ ⟨rfl, rfl⟩
 refine rO aL 3 rfl ?_
 rcases (Classical.em (aa.bR w h = 0)) with hs | hs
 ·refine rC aL 3 rfl ?_
  refine oV (aA (cx rfl rfl) (by omega)) ?_
  refine rO aL 6 rfl ?_
  have h4 := aa.qi hs
  have h1 := aa.ke hs
  refine fH aL 6 rfl (by omega) ?_
  refine oV (cK (v := .int .i64 ((4 * w * h).toNat : Int)) (jv rfl rfl wI) (by congr 1; omega)) ?_
  refine om ((4 * w * h).toNat) ((4 * w * h).toNat) (aP 62 .u16) rfl rfl V.gX V.GZ rfl rfl rfl rfl (by omega) (by omega) rfl rfl ?_
  intro b20
  refine oV (cB V.mH V.kJ rfl (cs := [.int .i64 w, .int .i64 h, .slice (some ⟨b20, 0, none⟩) ((4 * w * h).toNat) ((4 * w * h).toNat)]) rfl) ?_
  refine aU (aF V.ek rfl rfl (us := [_, _, _]) rfl rfl (by exact mh) (by exact Nat.le_of_ble_eq_true rfl) rfl) ?_
  refine rO aL 4 rfl ?_
  exact ak (e9 V.ek rfl bW rfl rfl) (.inr ⟨hs, _, rfl, rfl⟩) (sub (ar .nil) cD)
 ·refine rC aL 3 rfl ?_
  refine oV (aW (cx rfl rfl) (by omega)) ?_
  refine rO aL 5 rfl ?_
  refine oV (cB V.mH V.kJ rfl (cs := [.int .i64 0, .int .i64 0, .slice none 0 0]) rfl) ?_
  refine oV (aK rfl) ?_
  refine aU (aF V.ek rfl rfl (us := [_, _, _]) rfl rfl (by exact cY) (by exact Nat.le_of_ble_eq_true rfl) rfl) ?_
  refine rO aL 5 rfl ?_
  exact ak (e9 V.ek rfl an rfl rfl) (.inl ⟨hs, rfl, rfl⟩) (sub .nil cD)
set_option maxHeartbeats 1000000 in
theorem Oz (w h : Int) : aG Tryz.prog 35 [.int .i64 w, .int .i64 h] [] (aQ fun v G => (aa.bR w h ≠ 0 ∧ v = .tuple #[.agg #[.int .i64 0, .int .i64 0, .slice none 0 0], .int .i64 (aa.bR w h)] ∧ G = []) ∨ (aa.bR w h = 0 ∧ ∃ b, v = .tuple #[.agg #[.int .i64 w, .int .i64 h, .slice (some ⟨b, 0, none⟩) ((4 * w * h).toNat) ((4 * w * h).toNat)], .int .i64 0] ∧ G = [Row (aP 62 .u16) (some ⟨b, 0, none⟩) ((4 * w * h).toNat) ((4 * w * h).toNat) (List.replicate (4 * w * h).toNat (aP 62 .u16).d)])) := by
 refine av [(0, _), (1, _)] Tryz.func35 rfl Tryz.ntmps35 rfl rfl ?_
 intro w0 F
 refine rT aL 2 rfl ?_
 refine cC V.kJ rfl ?_
 intro b4
 refine rO aL 7 rfl ?_
 refine ai (xo w h) V.Hc  rfl .nil rfl ?_
 rintro _ _ ⟨rfl, rfl⟩
 refine rO aL 3 rfl ?_
 rcases (Classical.em (aa.bR w h = 0)) with hs | hs
 ·refine rC aL 4 rfl ?_
  refine oV (aA (cx rfl rfl) (by omega)) ?_
  refine rO aL 6 rfl ?_
  have h4 := aa.qi hs
  have h1 := aa.ke hs
  refine fH aL 6 rfl (by omega) ?_
  refine oV (cK (v := .int .i64 ((4 * w * h).toNat : Int)) (jv rfl rfl wI) (by congr 1; omega)) ?_
  refine om ((4 * w * h).toNat) ((4 * w * h).toNat) (aP 62 .u16) rfl rfl V.gX V.GZ rfl rfl rfl rfl (by omega) (by omega) rfl rfl ?_
  intro b20
  refine oV (cB V.mH V.kJ rfl (cs := [.int .i64 w, .int .i64 h, .slice (some ⟨b20, 0, none⟩) ((4 * w * h).toNat) ((4 * w * h).toNat)]) rfl) ?_
  refine aU (aF V.ek rfl rfl (us := [_, _, _]) rfl rfl (by exact mh) (by exact Nat.le_of_ble_eq_true rfl) rfl) ?_
  refine rO aL 4 rfl ?_
  exact ak (e9 V.ek rfl bW rfl rfl) (.inr ⟨hs, _, rfl, rfl⟩) (sub (ar .nil) cD)
 ·refine rC aL 4 rfl ?_
  refine oV (aW (cx rfl rfl) (by omega)) ?_
  refine rO aL 5 rfl ?_
  refine oV (cB V.mH V.kJ rfl (cs := [.int .i64 0, .int .i64 0, .slice none 0 0]) rfl) ?_
  refine oV (aK rfl) ?_
  refine aU (aF V.ek rfl rfl (us := [_, _, _]) rfl rfl (by exact cY) (by exact Nat.le_of_ble_eq_true rfl) rfl) ?_
  refine rO aL 5 rfl ?_
  exact ak (e9 V.ek rfl an rfl rfl) (.inl ⟨hs, rfl, rfl⟩) (sub .nil cD)
set_option maxHeartbeats 1000000 in
theorem Nw (w h : Int) (q : Option Addr) (n c : Nat) (t : Bool) (ht : t = decide (aa.bR w h = 0 ∧ (n : Int) = 4 * w * h)) : aG Tryz.prog 67 [.agg #[.int .i64 w, .int .i64 h, .slice q n c]] [] (aQ fun v G => v = .bool t ∧ G = []) := by
 refine av [(0, _)] Tryz.func67 rfl Tryz.ntmps67 rfl rfl ?_
 intro w0 F
 refine rT aL 2 rfl ?_
 refine eN rfl (cs := [_, _, _]) rfl rfl ?_
 intro b1
 refine rO aL 3 rfl ?_
 rcases (Classical.em (aa.bR w h = 0)) with hs | hs
 ·refine rC aL 3 rfl ?_
  refine oV (ae V.s3 rfl an rfl) ?_
  refine oV (aE V.mf rfl) ?_
  refine oV (ae V.s3 rfl an rfl) ?_
  refine ai (mY w h) V.xm  rfl .nil rfl ?_
  rintro _ _ ⟨rfl, rfl⟩
  refine oV (aW (az rfl rfl) (by omega)) ?_
  refine rO aL 2 rfl ?_
  refine ag rfl ?_
  refine oV (ae V.nm rfl an rfl) ?_
  refine rO aL 2 rfl ?_
  refine ag rfl ?_
  refine oV (ae V.s3 rfl an rfl) ?_
  have h4 := aa.qi hs
  have h1 := aa.ke hs
  refine cQ aL 2 rfl (by omega) ?_
  refine ag rfl ?_
  refine oV (ae V.s3 rfl an rfl) ?_
  refine cQ aL 7 rfl (by omega) ?_
  (rw [show decide ((n : Int) = 4 * w * h) = t from by rw [ht]; congr 1; simp [hs]]; exact ak (G := []) (aC rfl) ⟨rfl, rfl⟩ (sub .nil cD))
 ·refine rC aL 3 rfl ?_
  refine oV (ae V.s3 rfl an rfl) ?_
  refine oV (aE V.mf rfl) ?_
  refine oV (ae V.s3 rfl an rfl) ?_
  refine ai (mY w h) V.xm  rfl .nil rfl ?_
  rintro _ _ ⟨rfl, rfl⟩
  refine oV (aA (az rfl rfl) (by omega)) ?_
  refine rO aL 16 rfl ?_
  (obtain rfl : t = false := by rw [ht]; exact decide_eq_false (fun hh => hs hh.1)
   exact ak (aC rfl) ⟨rfl, rfl⟩ (sub .nil cD))
set_option maxHeartbeats 1000000 in
theorem lC (w h : Int) (q : Option Addr) (n c : Nat) (t : Bool) (ht : t = decide (aa.bR w h = 0 ∧ (n : Int) = 4 * w * h)) : aG Tryz.prog 21 [.agg #[.int .i64 w, .int .i64 h, .slice q n c]] [] (aQ fun v G => v = .bool t ∧ G = []) := by
 refine av [(0, _)] Tryz.func21 rfl Tryz.ntmps21 rfl rfl ?_
 intro w0 F
 refine rT aL 2 rfl ?_
 refine eN rfl (cs := [_, _, _]) rfl rfl ?_
 intro b1
 refine rO aL 3 rfl ?_
 rcases (Classical.em (aa.bR w h = 0)) with hs | hs
 ·refine rC aL 3 rfl ?_
  refine oV (ae V.s3 rfl an rfl) ?_
  refine oV (aE V.mf rfl) ?_
  refine oV (ae V.s3 rfl an rfl) ?_
  refine ai (xo w h) V.Hc  rfl .nil rfl ?_
  rintro _ _ ⟨rfl, rfl⟩
  refine oV (aW (az rfl rfl) (by omega)) ?_
  refine rO aL 2 rfl ?_
  refine ag rfl ?_
  refine oV (ae V.nm rfl an rfl) ?_
  refine rO aL 2 rfl ?_
  refine ag rfl ?_
  refine oV (ae V.s3 rfl an rfl) ?_
  have h4 := aa.qi hs
  have h1 := aa.ke hs
  refine cQ aL 2 rfl (by omega) ?_
  refine ag rfl ?_
  refine oV (ae V.s3 rfl an rfl) ?_
  refine cQ aL 7 rfl (by omega) ?_
  (rw [show decide ((n : Int) = 4 * w * h) = t from by rw [ht]; congr 1; simp [hs]]; exact ak (G := []) (aC rfl) ⟨rfl, rfl⟩ (sub .nil cD))
 ·refine rC aL 3 rfl ?_
  refine oV (ae V.s3 rfl an rfl) ?_
  refine oV (aE V.mf rfl) ?_
  refine oV (ae V.s3 rfl an rfl) ?_
  refine ai (xo w h) V.Hc  rfl .nil rfl ?_
  rintro _ _ ⟨rfl, rfl⟩
  refine oV (aA (az rfl rfl) (by omega)) ?_
  refine rO aL 16 rfl ?_
  (obtain rfl : t = false := by rw [ht]; exact decide_eq_false (fun hh => hs hh.1)
   exact ak (aC rfl) ⟨rfl, rfl⟩ (sub .nil cD))
abbrev PK : Ec aa.Ps := ⟨145, 6, fun p => [.int .i64 p.x, .int .i64 p.y, .int .i64 p.dx, .int .i64 p.dy, .int .i64 p.w, .int .i64 p.h], ⟨0, 0, 0, 0, 0, 0⟩, fun _ => rfl, fun _ => rfl⟩
abbrev SN : Ec aa.Ps := ⟨67, 6, fun p => [.int .i64 p.x, .int .i64 p.y, .int .i64 p.dx, .int .i64 p.dy, .int .i64 p.w, .int .i64 p.h], ⟨0, 0, 0, 0, 0, 0⟩, fun _ => rfl, fun _ => rfl⟩
set_option maxHeartbeats 1000000 in
theorem vW (n : Int) (t : Bool) (ht : t = decide (0 ≤ n ∧ n ≤ 256)) : aG Tryz.prog 116 [.int .i64 n] [] (aQ fun v G => v = .bool t ∧ G = []) := by
 refine av [(0, _)] Tryz.func116 rfl Tryz.ntmps116 rfl rfl ?_
 intro w0 F
 refine rT aL 5 rfl ?_
 rcases (Classical.em (0 ≤ n)) with h0 | h0
 ·refine rC aL 3 rfl ?_
  refine oV (aW (ft rfl rfl) (by omega)) ?_
  refine rO aL 8 rfl ?_
  (rw [show decide (n ≤ 256) = t from by rw [ht]; congr 1; simp [h0]]; exact ak (G := []) (aC rfl) ⟨rfl, rfl⟩ (sub .nil aw))
 ·refine rC aL 3 rfl ?_
  refine oV (aA (ft rfl rfl) (by omega)) ?_
  refine rO aL 8 rfl ?_
  (obtain rfl : t = false := by rw [ht]; exact decide_eq_false (fun hh => h0 hh.1)
   exact ak (aC rfl) ⟨rfl, rfl⟩ (sub .nil aw))
set_option maxHeartbeats 1000000 in
theorem Cx (frm step en : Int) (hs : step = 1 ∨ step = 2 ∨ step = 4 ∨ step = 8) (hf : 0 ≤ frm ∧ frm ≤ 8) (he : 0 ≤ en ∧ en ≤ 256) : aG Tryz.prog 144 [.int .i64 frm, .int .i64 step, .int .i64 en] [] (aQ fun v G => v = .int .i64 (aa.many frm step en) ∧ G = []) := by
 refine av [(0, _), (1, _), (2, _)] Tryz.func144 rfl Tryz.ntmps144 rfl rfl ?_
 intro w0 F
 refine rT aL 5 rfl ?_
 rcases (Classical.em (en ≤ frm)) with h0 | h0
 ·refine rC aL 5 rfl ?_
  refine oV (aW (ft rfl rfl) (by omega)) ?_
  refine rO aL 10 rfl ?_
  rw [← aa.OY hs frm h0]
  exact ak (aC rfl) ⟨rfl, rfl⟩ (sub .nil aw)
 ·refine rC aL 5 rfl ?_
  refine oV (aA (ft rfl rfl) (by omega)) ?_
  refine cQ aL 14 rfl (by omega) ?_
  refine oV (fY (r := (en - frm + step - 1) / step) rfl rfl (by omega) (jL (m := en - frm + step - 1) (n := step) (by omega) (by omega) (by omega))) ?_
  refine rO aL 4 rfl ?_
  rw [← aa.GB h0]
  exact ak (aC rfl) ⟨rfl, rfl⟩ (sub .nil aw)
set_option maxHeartbeats 1000000 in
theorem qK (x y dx dy w h : Int) (hx : 0 ≤ x ∧ x ≤ 8) (hy : 0 ≤ y ∧ y ≤ 8) (hdx : dx = 1 ∨ dx = 2 ∨ dx = 4 ∨ dx = 8) (hdy : dy = 1 ∨ dy = 2 ∨ dy = 4 ∨ dy = 8) (hw : 0 ≤ w ∧ w ≤ 256) (hh : 0 ≤ h ∧ h ≤ 256) : aG Tryz.prog 115 [.int .i64 x, .int .i64 y, .int .i64 dx, .int .i64 dy, .int .i64 w, .int .i64 h] [] (aQ fun v G => v = .agg #[.int .i64 x, .int .i64 y, .int .i64 dx, .int .i64 dy, .int .i64 (aa.many x dx w), .int .i64 (aa.many y dy h)] ∧ G = []) := by
 refine av [(0, _), (1, _), (2, _), (3, _), (4, _), (5, _)] Tryz.func115 rfl Tryz.ntmps115 rfl rfl ?_
 intro w0 F
 refine rT aL 2 rfl ?_
 refine cC V.z145 rfl ?_
 intro b12
 refine rO aL 11 rfl ?_
 refine ai (Cx x dx w hdx hx hw) V.LM  rfl .nil rfl ?_
 rintro _ _ ⟨rfl, rfl⟩
 refine rO aL 3 rfl ?_
 refine ai (Cx y dy h hdy hy hh) V.LM  rfl .nil rfl ?_
 rintro _ _ ⟨rfl, rfl⟩
 refine oV (cB V.N4 V.z145 rfl (cs := [.int .i64 x, .int .i64 y, .int .i64 dx, .int .i64 dy, .int .i64 (aa.many x dx w), .int .i64 (aa.many y dy h)]) (by kernel_rfl)) ?_
 refine aU (aF V.a145 rfl rfl (us := [_, _, _, _, _, _]) rfl rfl (by exact cY) (by exact Nat.le_of_ble_eq_true rfl) rfl) ?_
 refine rO aL 3 rfl ?_
 exact ak (NK V.a145 rfl an rfl) ⟨rfl, rfl⟩ (sub .nil cD)
set_option maxHeartbeats 1000000 in
theorem Hy (w h : Int) (hs : aa.bR w h = 0) : aG Tryz.prog 81 [.int .i64 w, .int .i64 h] [] (aQ fun v G => ∃ p c, v = .slice p (aa.whole w h).length c ∧ G = [Row PK p (aa.whole w h).length c (aa.whole w h)]) := by
 refine av [(0, _), (1, _)] Tryz.func81 rfl Tryz.ntmps81 rfl rfl ?_
 intro w0 F
 have hsd := aa.ke hs
 have hw : 0 ≤ w ∧ w ≤ 256 := by omega
 have hh : 0 ≤ h ∧ h ≤ 256 := by omega
 refine rT aL 10 rfl ?_
 refine ai (mY w h) V.xm  rfl .nil rfl ?_
 rintro _ _ ⟨rfl, rfl⟩
 rw [hs]
 refine oV (aA (cx rfl rfl) (by omega)) ?_
 refine rO aL 9 rfl ?_
 refine ai (qK 0 0 1 1 w h (by decide) (by decide) (by decide) (by decide) hw hh) V.qL  rfl .nil rfl ?_
 rintro _ _ ⟨rfl, rfl⟩
 rw [aa.many1 hsd.1, aa.many1 hsd.2.2.1]
 refine cV (PK) [⟨0, 0, 1, 1, w, h⟩] V.tJ V.z145 rfl rfl rfl (by kernel_rfl) rfl rfl ?_
 intro b12
 refine rO aL 4 rfl ?_
 exact ak (aC rfl) ⟨_, _, rfl, rfl⟩ (sub (ar .nil) aw)
set_option maxHeartbeats 1000000 in
theorem ED (w h : Int) (hs : aa.bR w h = 0) : aG Tryz.prog 82 [.int .i64 w, .int .i64 h] [] (aQ fun v G => ∃ p c, v = .slice p (aa.gq w h).length c ∧ G = [Row PK p (aa.gq w h).length c (aa.gq w h)]) := by
 refine av [(0, _), (1, _)] Tryz.func82 rfl Tryz.ntmps82 rfl rfl ?_
 intro w0 F
 have hsd := aa.ke hs
 have hw : 0 ≤ w ∧ w ≤ 256 := by omega
 have hh : 0 ≤ h ∧ h ≤ 256 := by omega
 obtain ⟨Z, hZ⟩ : ∃ Z, Z = (aa.jj w h).flatMap PK.e := ⟨_, rfl⟩
 have hZl : Z.length = 42 := by rw [hZ]; unfold aa.jj; rfl
 have hZ1 : Z.all Value.oneCell' = true := by rw [hZ]; exact o1 PK _
 refine rT aL 10 rfl ?_
 refine ai (mY w h) V.xm  rfl .nil rfl ?_
 rintro _ _ ⟨rfl, rfl⟩
 rw [hs]
 refine oV (aA (cx rfl rfl) (by omega)) ?_
 refine rO aL 9 rfl ?_
 refine ai (qK 0 0 8 8 w h (by decide) (by decide) (by decide) (by decide) hw hh) V.qL  rfl .nil rfl ?_
 rintro _ _ ⟨rfl, rfl⟩
 refine rO aL 2 rfl ?_
 refine ai (qK 4 0 8 8 w h (by decide) (by decide) (by decide) (by decide) hw hh) V.qL  rfl .nil rfl ?_
 rintro _ _ ⟨rfl, rfl⟩
 refine rO aL 2 rfl ?_
 refine ai (qK 0 4 4 8 w h (by decide) (by decide) (by decide) (by decide) hw hh) V.qL  rfl .nil rfl ?_
 rintro _ _ ⟨rfl, rfl⟩
 refine rO aL 2 rfl ?_
 refine ai (qK 2 0 4 4 w h (by decide) (by decide) (by decide) (by decide) hw hh) V.qL  rfl .nil rfl ?_
 rintro _ _ ⟨rfl, rfl⟩
 refine rO aL 2 rfl ?_
 refine ai (qK 0 2 2 4 w h (by decide) (by decide) (by decide) (by decide) hw hh) V.qL  rfl .nil rfl ?_
 rintro _ _ ⟨rfl, rfl⟩
 refine rO aL 2 rfl ?_
 refine ai (qK 1 0 2 2 w h (by decide) (by decide) (by decide) (by decide) hw hh) V.qL  rfl .nil rfl ?_
 rintro _ _ ⟨rfl, rfl⟩
 refine rO aL 2 rfl ?_
 refine ai (qK 0 1 1 2 w h (by decide) (by decide) (by decide) (by decide) hw hh) V.qL  rfl .nil rfl ?_
 rintro _ _ ⟨rfl, rfl⟩
 refine oV (kY V.Gy V.Ml rfl (cs := Z) (by rw [hZ]; kernel_rfl)) ?_
 refine cC V.Ml rfl ?_
 intro b5
 refine aU (aF V.JC rfl rfl (us := Z) (cs' := Z) hZ1 hZl (by exact cY) (by decide) (by rw [List.take_zero, List.nil_append, List.drop_eq_nil_of_le (by decide), List.append_nil])) ?_
 refine rO aL 10 rfl ?_
 refine oV (bG V.JC rfl an (vs := Z) hZl (by rw [List.drop_zero, ← hZl, List.take_length])) ?_
 refine rO aL 4 rfl ?_
 rw [show ((6 : Nat), Value.slice none 0 0) = (6, .slice none (aa.jG w h 0).length 0) from by rw [aa.Bp]; rfl]
 refine gp (Row PK none (aa.jG w h 0).length 0 (aa.jG w h 0)) (by rw [aa.Bp]; exact Row.nil _ _ _) ?_
 refine iR (fun (i : Nat) (p6 : Option Addr) (c6 : Nat) => [(6, .slice p6 (aa.jG w h i).length c6), (35, .agg Z.toArray), (36, .int .i64 (i : Int))]) (fun (i : Nat) (p6 : Option Addr) (c6 : Nat) => Row PK p6 (aa.jG w h i).length c6 (aa.jG w h i) :: F) (fun (i : Nat) (p6 : Option Addr) (c6 : Nat) => i ≤ 7) (fun (i : Nat) (p6 : Option Addr) (c6 : Nat) => 7 - i) (i3 (0) (none) (0) ?_ (js ln) (sub (ar .nil) cD)) ?_
 ·exact Nat.zero_le _
 intro i p6 c6
 rintro hi
 have hpl := aa.Ee w h i
 obtain ⟨x, hx⟩ : ∃ x, x = (PK.g (aa.jj w h) (i : Int)) := ⟨_, rfl⟩
 have hx2 : (aa.jj w h).getD i ⟨0, 0, 0, 0, 0, 0⟩ = x := hx.symm
 refine rL aL 6 rfl ?_
 refine aN rfl (fun h37 => ?_) (fun h37 => ?_)
 ·refine rC aL 6 rfl ?_
  refine oV (cK (v := .agg #[.int .i64 x.x, .int .i64 x.y, .int .i64 x.dx, .int .i64 x.dy, .int .i64 x.w, .int .i64 x.h]) (I1 PK (aa.jj w h) i V.Gy V.a145 rfl hZ rfl rfl (by omega) (by rw [aa.Ed]; omega) rfl) (by rw [← hx])) ?_
  refine cC V.z145 rfl ?_
  intro b8
  refine aU (aF V.a145 rfl rfl (us := [_, _, _, _, _, _]) rfl rfl (by exact cY) (by exact Nat.le_of_ble_eq_true rfl) rfl) ?_
  refine rO aL 2 rfl ?_
  rcases (aa.Mq x) with ⟨q1, q2⟩ | ⟨q1, q3, q2⟩ | ⟨q1, q3, q2⟩
  ·refine rC aL 3 rfl ?_
   refine oV (ae V.s3 rfl an rfl) ?_
   refine oV (aA (bd rfl rfl) (by omega)) ?_
   refine cQ aL 15 rfl (by omega) ?_
   (rw [aa.Dg (i := i) (by omega) hx2 q2]; exact j3 (i + 1) _ _ ⟨by omega, by omega⟩ (js ln) (sub (.cons ay .nil) cD))
  ·refine rC aL 3 rfl ?_
   refine oV (ae V.s3 rfl an rfl) ?_
   refine oV (aW (bd rfl rfl) (by omega)) ?_
   refine rO aL 2 rfl ?_
   refine ag rfl ?_
   refine oV (ae V.s3 rfl an rfl) ?_
   refine ag rfl ?_
   refine oV (aA (bd rfl rfl) (by omega)) ?_
   refine cQ aL 11 rfl (by omega) ?_
   (rw [aa.Dg (i := i) (by omega) hx2 q2]; exact j3 (i + 1) _ _ ⟨by omega, by omega⟩ (js ln) (sub (.cons ay .nil) cD))
  ·refine rC aL 3 rfl ?_
   refine oV (ae V.s3 rfl an rfl) ?_
   refine oV (aW (bd rfl rfl) (by omega)) ?_
   refine rO aL 2 rfl ?_
   refine ag rfl ?_
   refine oV (ae V.s3 rfl an rfl) ?_
   refine ag rfl ?_
   refine oV (aW (bd rfl rfl) (by omega)) ?_
   refine rO aL 6 rfl ?_
   refine oV (bG V.a145 rfl an (vs := [_, _, _, _, _, _]) rfl rfl) ?_
   refine cV (PK) [x] V.tJ V.z145 rfl rfl rfl (by kernel_rfl) rfl rfl ?_
   intro b49
   refine dw (c := (PK)) V.tJ V.z145 rfl rfl rfl rfl bX (own an) (by omega) rfl ?_
   intro p50 c50
   refine cQ aL 8 rfl (by omega) ?_
   (have hl2 : (aa.jG w h i).length + 1 = (aa.jG w h (i + 1)).length := (congrArg List.length (aa.Dk (i := i) (p := x) (by omega) hx2 q2)).symm ▸ (by simp)
    rw [aa.Dk (i := i) (p := x) (by omega) hx2 q2, hl2]
    exact j3 (i + 1) _ _ ⟨by omega, by omega⟩ (js ln) (sub (ar .nil) ie))
 ·refine rC aL 6 rfl ?_
  obtain rfl : i = 7 := by omega
  rw [aa.LX]
  refine rC aL 6 rfl ?_
  exact ak (aC rfl) ⟨_, _, rfl, rfl⟩ (sub (ar .nil) aw)
end Go.Proofs.YtmaiakpjgomnpaaGreat
namespace Go.Proofs.YtmaiakpjgomnpaaGreat
open Go.Sl
theorem V.Fy : aH Tryz.prog 116 = true := by kernel_rfl
theorem V.LS : aH Tryz.prog 117 = true := by kernel_rfl
theorem V.Qq : aH Tryz.prog 129 = true := by kernel_rfl
theorem V.pH : aH Tryz.prog 19 = true := by kernel_rfl
theorem V.Pe : aH Tryz.prog 94 = true := by kernel_rfl
end Go.Proofs.YtmaiakpjgomnpaaGreat
namespace Go.Proofs.YtmaiakpjgomnpaaGreat
open Go.Sl 
theorem bJ : dU Tryz.prog ⟨[47, 64, 140], [(67, 0, 0), (67, 1, 1), (67, 2, 2), (67, 3, 3), (67, 4, 4), (67, 5, 5), (145, 4, 4), (145, 5, 5)]⟩ = true := by kernel_rfl
attribute [local irreducible] aa.bR aa.many aa.fk aa.fW aa.sW aa.pY aa.jj aa.jG aa.parts aa.deep aa.QU
set_option maxHeartbeats 1000000 in
theorem Gj (w bits : Int) (hw : 0 ≤ w ∧ w ≤ 256) (hb : 0 ≤ bits ∧ bits ≤ 64) : aG Tryz.prog 117 [.int .i64 w, .int .i64 bits] [] (aQ fun v G => v = .int .i64 (aa.fk w bits) ∧ G = []) := by
 refine av [(0, _), (1, _)] Tryz.func117 rfl Tryz.ntmps117 rfl rfl ?_
 intro w0 F
 have hr := aa.oc hw hb
 have he : (w * bits + 7) / 8 = (aa.fk w bits) := by unfold aa.fk; rfl
 refine rT bJ 9 rfl ?_
 refine ai (vW w true (decide_eq_true hw).symm) V.Fy  rfl .nil rfl ?_
 rintro _ _ ⟨rfl, rfl⟩
 refine rO bJ 3 rfl ?_
 refine ag rfl ?_
 refine oV (aA (bu rfl rfl) (by omega)) ?_
 refine rO bJ 3 rfl ?_
 refine ag rfl ?_
 refine oV (aA (bd rfl rfl) (by omega)) ?_
 refine cQ bJ 12 rfl (by omega) ?_
 refine oV (fY rfl rfl (by omega) (jL (by omega) (by omega) (by omega))) ?_
 refine rO bJ 4 rfl ?_
 exact ak (aC rfl) ⟨congrArg (Value.int .i64) he, rfl⟩ (sub .nil aw)
set_option maxHeartbeats 1000000 in
theorem HL (p : Option Addr) (c : Nat) (l : List aa.Ps) (bits : Int) (R : ad) (hR : ∀ w0 h, R w0 h → aS PK p l.length l w0 h) (hl : l.length ≤ 7) (hok : ∀ x ∈ l, aa.j6 x) (hb : 0 ≤ bits ∧ bits ≤ 64) : aG Tryz.prog 83 [.slice p l.length c, .int .i64 bits] [R] (aQ fun v G => v = .int .i64 (aa.fW l bits) ∧ G = [R]) := by
 refine av [(0, _), (1, _)] Tryz.func83 rfl Tryz.ntmps83 rfl rfl ?_
 intro w0 F
 refine rT bJ 10 rfl ?_
 refine oV (aA (bd rfl rfl) (by omega)) ?_
 refine rO bJ 2 rfl ?_
 refine ag rfl ?_
 refine oV (aA (bu rfl rfl) (by omega)) ?_
 refine rO bJ 3 rfl ?_
 refine ag rfl ?_
 refine oV (aA (bd rfl rfl) (by omega)) ?_
 refine rO bJ 20 rfl ?_
 rw [show ((5 : Nat), Value.int .i64 0) = (5, .int .i64 (aa.fW (l.take 0) bits)) from by rw [List.take_zero]; unfold aa.fW; rfl]
 refine eb (fun (i : Nat) => [(1, .int .i64 bits), (5, .int .i64 (aa.fW (l.take i) bits)), (19, .slice p l.length c), (20, .int .i64 (l.length : Int)), (21, .int .i64 (i : Int))]) (fun (i : Nat) => R :: F) (fun (i : Nat) => i ≤ l.length) (fun (i : Nat) => l.length - i) (i1 (0) ?_ (dp ln) (sub (ar .nil) aw)) ?_
 ·exact Nat.zero_le _
 intro i
 rintro hi
 obtain ⟨x, hx⟩ : ∃ x, x = (PK.g l (i : Int)) := ⟨_, rfl⟩
 refine rL bJ 6 rfl ?_
 refine aN rfl (fun h22 => ?_) (fun h22 => ?_)
 ·refine rC bJ 5 rfl ?_
  have hpo : aa.j6 x := hx ▸ aa.II hok (i := i) (by omega)
  have hpb := aa.BV hpo hb
  have hbi := aa.vh (l := l.take i) hb (fun q hq => hok q (List.mem_of_mem_take hq))
  have hli : (l.take i).length ≤ i := by rw [List.length_take]; omega
  obtain ⟨_, _, _, _, _, _, hw0, hw1, hh0, hh1⟩ := hpo
  have hrn := aa.oc (w := x.w) ⟨hw0, hw1⟩ hb
  refine bK ?_
  refine oV (xI V.tJ (by exact bE hR an)) ?_
  refine oV (cK (v := .agg #[.int .i64 x.x, .int .i64 x.y, .int .i64 x.dx, .int .i64 x.dy, .int .i64 x.w, .int .i64 x.h]) (oa (c := PK) V.a145 rfl (by exact bE hR an) (by omega) (by omega) rfl) (by rw [hx])) ?_
  refine cC V.z145 rfl ?_
  intro b7
  refine aU (aF V.a145 rfl rfl (us := [_, _, _, _, _, _]) rfl rfl (by exact cY) (by exact Nat.le_of_ble_eq_true rfl) rfl) ?_
  refine rO bJ 6 rfl ?_
  refine oV (ae V.s3 rfl an rfl) ?_
  refine ai (vW x.w true (decide_eq_true ⟨hw0, hw1⟩).symm) V.Fy  rfl .nil rfl ?_
  rintro _ _ ⟨rfl, rfl⟩
  refine rO bJ 3 rfl ?_
  refine ag rfl ?_
  refine oV (ae V.s3 rfl an rfl) ?_
  refine ag rfl ?_
  refine ai (vW x.h true (decide_eq_true ⟨hh0, hh1⟩).symm) V.Fy  rfl .nil rfl ?_
  rintro _ _ ⟨rfl, rfl⟩
  refine rO bJ 7 rfl ?_
  rcases (Classical.em (0 < x.w)) with hq | hq
  ·refine rC bJ 3 rfl ?_
   refine oV (ae V.s3 rfl an rfl) ?_
   refine oV (aW (bd rfl rfl) (by omega)) ?_
   refine rO bJ 3 rfl ?_
   refine wN [pz 0 [] [5], pz 0 [] [7], pz 2 [1] [], pz 0 [] [7], pz 8 [3] [], pz 0 [] [1], pz 56 [4, 5] [], pz 120 [6] [], pz 254 [2, 7] [], pz 511 [0, 8] [], pz 1023 [9] []] [⟨fun y => ao b7 145 [.int .i64 x.x, .int .i64 x.y, .int .i64 x.dx, .int .i64 x.dy, .int .i64 x.w, .int .i64 x.h], none, none, [2, 4]⟩, ⟨fun y => R, none, none, []⟩] F V.mixed ?_
   refine nM ?_
   refine nG V.LD ?_
   refine nR (fun y FF hA => ae V.s3 rfl an rfl) ?_
   refine nG V.Js ?_
   refine nR (fun y FF hA => ae V.s3 rfl an rfl) ?_
   refine nM ?_
   refine nE (fun y FF hA => bO (Post := []) (Gj x.w bits ⟨hw0, hw1⟩ hb) V.LS rfl .nil (fun v G h => by rcases h with ⟨rfl, rfl⟩; exact ⟨rfl, .refl _⟩)) ?_
   refine nV (fun y hA L => du rfl rfl wI) ?_
   refine nV (fun y hA L => jv (r := (x.h * (1 + aa.fk x.w bits))) rfl rfl wI) ?_
   refine nV (fun y hA L => du rfl rfl wI) ?_
   refine nA ?_
   refine aX ?_
   intro y hA
   clear hA
   show lL _ _ _ _ (ao b7 145 [.int .i64 x.x, .int .i64 x.y, .int .i64 x.dx, .int .i64 x.dy, .int .i64 x.w, .int .i64 x.h] :: R :: F)
   refine kC ?_
   refine bN ?_
   refine bK ?_
   refine oV (du rfl rfl wI) ?_
   refine oV (aK rfl) ?_
   refine cW ?_
   have ht := aa.rQ (l := l) (bits := bits) (i := i) (by omega)
   rw [show l.getD i ⟨0, 0, 0, 0, 0, 0⟩ = x from hx.symm] at ht
   (rw [aa.OG (by assumption)] at ht; rw [← ht]; exact j1 (i + 1) ⟨by omega, by omega⟩ (dp ln) (sub (.cons ay .nil) cD))
  ·refine rC bJ 3 rfl ?_
   refine oV (ae V.s3 rfl an rfl) ?_
   refine oV (aA (bd rfl rfl) (by omega)) ?_
   refine cQ bJ 10 rfl (by omega) ?_
   have ht := aa.rQ (l := l) (bits := bits) (i := i) (by omega)
   rw [show l.getD i ⟨0, 0, 0, 0, 0, 0⟩ = x from hx.symm] at ht
   (rw [aa.OX (by assumption), Int.add_zero] at ht; rw [← ht]; exact j1 (i + 1) ⟨by omega, by omega⟩ (dp ln) (sub (.cons ay .nil) cD))
 ·refine rC bJ 6 rfl ?_
  obtain rfl : i = l.length := by omega
  rw [List.take_length]
  refine rC bJ 6 rfl ?_
  exact ak (aC rfl) ⟨rfl, rfl⟩ (sub (ar .nil) aw)
set_option maxHeartbeats 1000000 in
theorem HP (p : Option Addr) (c : Nat) (l : List Int) (R : ad) (hR : ∀ w0 h, R w0 h → aS (aP 3 .i64) p l.length l w0 h) (hl : l.length < 500000000) (x : Int) : aG Tryz.prog 129 [.slice p l.length c, .int .i64 x] [R] (aQ fun v G => ∃ r : Int, v = .int .i64 r ∧ (0 ≤ r ↔ x ∈ l) ∧ G = [R]) := by
 refine av [(0, _), (1, _)] Tryz.func129 rfl Tryz.ntmps129 rfl rfl ?_
 intro w0 F
 refine rT bJ 14 rfl ?_
 refine eb (fun (i : Nat) => [(0, .slice p l.length c), (1, .int .i64 x), (7, .int .i64 (l.length : Int)), (8, .int .i64 (i : Int))]) (fun (i : Nat) => R :: F) (fun (i : Nat) => i ≤ l.length ∧ ∀ j, j < i → x ≠ l.getD j 0) (fun (i : Nat) => l.length - i) (i1 (0) ?_ (fo ln) (sub (ar .nil) aw)) ?_
 ·exact ⟨Nat.zero_le _, fun j hj => by omega⟩
 intro i
 rintro ⟨hi, hall⟩
 refine rL bJ 6 rfl ?_
 refine aN rfl (fun h9 => ?_) (fun h9 => ?_)
 ·refine rC bJ 10 rfl ?_
  rcases (Classical.em (x = ((aP 3 .i64).g l (i : Int)))) with hnx | hnx
  ·refine rC bJ 5 rfl ?_
   refine oV (xI V.cT (by exact bE hR an)) ?_
   refine oV (xL V.s3 (by exact bE hR an)) ?_
   refine oV (aW (az rfl rfl) hnx) ?_
   refine rO bJ 15 rfl ?_
   exact ak (aC rfl) ⟨_, rfl, ⟨fun _ => aa.K4 (i := i) (by omega) hnx, fun _ => by omega⟩, rfl⟩ (sub (ar .nil) aw)
  ·refine rC bJ 5 rfl ?_
   refine oV (xI V.cT (by exact bE hR an)) ?_
   refine oV (xL V.s3 (by exact bE hR an)) ?_
   refine oV (aA (az rfl rfl) hnx) ?_
   refine cQ bJ 10 rfl (by omega) ?_
   refine j1 (i + 1) ?_ (fo ln) (sub (ar .nil) aw)
   exact ⟨⟨by omega, fun j hj => (Nat.lt_succ_iff_lt_or_eq.1 hj).elim (hall j) (fun e => e ▸ hnx)⟩, by omega⟩
 ·refine rC bJ 11 rfl ?_
  obtain rfl : i = l.length := by omega
  exact ak (aC rfl) ⟨_, rfl, ⟨fun hh => absurd hh (by decide), fun hh => absurd hh (aa.IS hall)⟩, rfl⟩ (sub (ar .nil) aw)
set_option maxHeartbeats 1000000 in
theorem tU (p : Option Addr) (c : Nat) (l : List Int) (R : ad) (hR : ∀ w0 h, R w0 h → aS (aP 3 .i64) p l.length l w0 h) (hl : l.length < 500000000) (x : Int) (t : Bool) (ht : t = decide (x ∈ l)) : aG Tryz.prog 94 [.slice p l.length c, .int .i64 x] [R] (aQ fun v G => v = .bool t ∧ G = [R]) := by
 refine av [(0, _), (1, _)] Tryz.func94 rfl Tryz.ntmps94 rfl rfl ?_
 intro w0 F
 refine rT bJ 9 rfl ?_
 refine ai (HP p c l R hR hl x) V.Qq  rfl (ar .nil) rfl ?_
 rintro _ _ ⟨r7, rfl, hr7, rfl⟩
 refine rO bJ 5 rfl ?_
 rw [aa.Jk ht hr7]
 exact ak (aC rfl) ⟨rfl, rfl⟩ (sub (ar .nil) aw)
set_option maxHeartbeats 1000000 in
theorem iT (x : Int) : aG Tryz.prog 19 [.int .i64 x] [] (aQ fun v G => v = .int .i64 (aa.parts x) ∧ G = []) := by
 refine av [(0, _)] Tryz.func19 rfl Tryz.ntmps19 rfl rfl ?_
 intro w0 F
 refine rT bJ 5 rfl ?_
 rcases (aa.tl x) with ⟨a0, hs⟩ | ⟨a0, a1, hs⟩ | ⟨a0, a1, a2, hs⟩ | ⟨a0, a1, a2, a3, hs⟩ | ⟨a0, a1, a2, a3, a4, hs⟩ | ⟨a0, a1, a2, a3, a4, hs⟩
 ·refine rC bJ 10 rfl ?_
  refine oV (aW (az rfl rfl) (by omega)) ?_
  refine rO bJ 15 rfl ?_
  exact ak (aC rfl) ⟨congrArg (Value.int .i64) hs.symm, rfl⟩ (sub .nil aw)
 ·refine rC bJ 10 rfl ?_
  refine oV (aA (az rfl rfl) (by omega)) ?_
  refine rO bJ 5 rfl ?_
  refine oV (aW (az rfl rfl) (by omega)) ?_
  refine rO bJ 12 rfl ?_
  exact ak (aC rfl) ⟨congrArg (Value.int .i64) hs.symm, rfl⟩ (sub .nil aw)
 ·refine rC bJ 10 rfl ?_
  refine oV (aA (az rfl rfl) (by omega)) ?_
  refine rO bJ 5 rfl ?_
  refine oV (aA (az rfl rfl) (by omega)) ?_
  refine rO bJ 6 rfl ?_
  refine oV (aW (az rfl rfl) (by omega)) ?_
  refine rO bJ 12 rfl ?_
  exact ak (aC rfl) ⟨congrArg (Value.int .i64) hs.symm, rfl⟩ (sub .nil aw)
 ·refine rC bJ 10 rfl ?_
  refine oV (aA (az rfl rfl) (by omega)) ?_
  refine rO bJ 5 rfl ?_
  refine oV (aA (az rfl rfl) (by omega)) ?_
  refine rO bJ 6 rfl ?_
  refine oV (aA (az rfl rfl) (by omega)) ?_
  refine rO bJ 6 rfl ?_
  refine oV (aW (az rfl rfl) (by omega)) ?_
  refine rO bJ 12 rfl ?_
  exact ak (aC rfl) ⟨congrArg (Value.int .i64) hs.symm, rfl⟩ (sub .nil aw)
 ·refine rC bJ 10 rfl ?_
  refine oV (aA (az rfl rfl) (by omega)) ?_
  refine rO bJ 5 rfl ?_
  refine oV (aA (az rfl rfl) (by omega)) ?_
  refine rO bJ 6 rfl ?_
  refine oV (aA (az rfl rfl) (by omega)) ?_
  refine rO bJ 6 rfl ?_
  refine oV (aA (az rfl rfl) (by omega)) ?_
  refine rO bJ 6 rfl ?_
  refine oV (aW (az rfl rfl) (by omega)) ?_
  refine rO bJ 12 rfl ?_
  exact ak (aC rfl) ⟨congrArg (Value.int .i64) hs.symm, rfl⟩ (sub .nil aw)
 ·refine rC bJ 10 rfl ?_
  refine oV (aA (az rfl rfl) (by omega)) ?_
  refine rO bJ 5 rfl ?_
  refine oV (aA (az rfl rfl) (by omega)) ?_
  refine rO bJ 6 rfl ?_
  refine oV (aA (az rfl rfl) (by omega)) ?_
  refine rO bJ 6 rfl ?_
  refine oV (aA (az rfl rfl) (by omega)) ?_
  refine rO bJ 6 rfl ?_
  refine oV (aA (az rfl rfl) (by omega)) ?_
  refine rO bJ 13 rfl ?_
  exact ak (aC rfl) ⟨congrArg (Value.int .i64) hs.symm, rfl⟩ (sub .nil aw)
set_option maxHeartbeats 1000000 in
theorem m0 (x d : Int) (t : Bool) (ht : t = decide (aa.deep x d)) : aG Tryz.prog 57 [.int .i64 x, .int .i64 d] [] (aQ fun v G => v = .bool t ∧ G = []) := by
 refine av [(0, _), (1, _)] Tryz.func57 rfl Tryz.ntmps57 rfl rfl ?_
 intro w0 F
 refine rT bJ 5 rfl ?_
 rcases (aa.On x d) with ⟨a0, hs⟩ | ⟨a0, a1, hs⟩ | ⟨a0, a1, a2, hs⟩ | ⟨a0, a1, a2, a3, hs⟩ | ⟨a0, a1, a2, a3, hs⟩
 ·refine rC bJ 9 rfl ?_
  refine oV (aW (az rfl rfl) (by omega)) ?_
  refine rO bJ 6 rfl ?_
  refine cV (I3) [1, 2, 4, 8, 16] V.cT V.z3 rfl rfl rfl rfl rfl rfl ?_
  intro b8
  refine oV (aK rfl) ?_
  refine ai (tU (some ⟨b8, 0, none⟩) 5 [1, 2, 4, 8, 16] (Row (aP 3 .i64) (some ⟨b8, 0, none⟩) 5 5 [1, 2, 4, 8, 16]) (fun _ _ hh => hh.rd) (by decide) d t (ht.trans hs)) V.Pe  rfl (ar .nil) rfl ?_
  rintro _ _ ⟨rfl, rfl⟩
  refine rO bJ 6 rfl ?_
  (rw [ht.trans hs]; exact ak (G := []) (aC rfl) ⟨rfl, rfl⟩ (sub .nil cD))
 ·refine rC bJ 9 rfl ?_
  refine oV (aA (az rfl rfl) (by omega)) ?_
  refine rO bJ 6 rfl ?_
  refine oV (aW (az rfl rfl) (by omega)) ?_
  refine rO bJ 6 rfl ?_
  refine cV (I3) [1, 2, 4, 8] V.cT V.z3 rfl rfl rfl rfl rfl rfl ?_
  intro G7
  refine oV (aK rfl) ?_
  refine ai (tU (some ⟨G7, 0, none⟩) 4 [1, 2, 4, 8] (Row (aP 3 .i64) (some ⟨G7, 0, none⟩) 4 4 [1, 2, 4, 8]) (fun _ _ hh => hh.rd) (by decide) d t (ht.trans hs)) V.Pe  rfl (ar .nil) rfl ?_
  rintro _ _ ⟨rfl, rfl⟩
  refine rO bJ 6 rfl ?_
  (rw [ht.trans hs]; exact ak (G := []) (aC rfl) ⟨rfl, rfl⟩ (sub .nil cD))
 ·refine rC bJ 9 rfl ?_
  refine oV (aA (az rfl rfl) (by omega)) ?_
  refine rO bJ 6 rfl ?_
  refine oV (aA (az rfl rfl) (by omega)) ?_
  refine rO bJ 10 rfl ?_
  refine ai (iT x) V.pH  rfl .nil rfl ?_
  rintro _ _ ⟨rfl, rfl⟩
  refine oV (aA (bd rfl rfl) (by omega)) ?_
  refine rO bJ 12 rfl ?_
  (rw [← ht.trans hs]; exact ak (G := []) (aC rfl) ⟨rfl, rfl⟩ (sub .nil aw))
 ·refine rC bJ 9 rfl ?_
  refine oV (aA (az rfl rfl) (by omega)) ?_
  refine rO bJ 6 rfl ?_
  refine oV (aA (az rfl rfl) (by omega)) ?_
  refine rO bJ 10 rfl ?_
  refine ai (iT x) V.pH  rfl .nil rfl ?_
  rintro _ _ ⟨rfl, rfl⟩
  refine oV (aW (bd rfl rfl) (by omega)) ?_
  refine rO bJ 2 rfl ?_
  refine ag rfl ?_
  refine oV (aW (az rfl rfl) (by omega)) ?_
  refine rO bJ 9 rfl ?_
  (rw [← ht.trans hs]; exact ak (G := []) (aC rfl) ⟨rfl, rfl⟩ (sub .nil aw))
 ·refine rC bJ 9 rfl ?_
  refine oV (aA (az rfl rfl) (by omega)) ?_
  refine rO bJ 6 rfl ?_
  refine oV (aA (az rfl rfl) (by omega)) ?_
  refine rO bJ 10 rfl ?_
  refine ai (iT x) V.pH  rfl .nil rfl ?_
  rintro _ _ ⟨rfl, rfl⟩
  refine oV (aW (bd rfl rfl) (by omega)) ?_
  refine rO bJ 2 rfl ?_
  refine ag rfl ?_
  refine oV (aA (az rfl rfl) (by omega)) ?_
  refine rO bJ 9 rfl ?_
  (rw [← ht.trans hs]; exact ak (G := []) (aC rfl) ⟨rfl, rfl⟩ (sub .nil aw))
end Go.Proofs.YtmaiakpjgomnpaaGreat
namespace Go.Proofs.YtmaiakpjgomnpaaGreat
open Go.Sl
theorem V.Na : aH Tryz.prog 140 = true := by kernel_rfl
theorem V.P9 : aH Tryz.prog 141 = true := by kernel_rfl
theorem V.hH : aH Tryz.prog 163 = true := by kernel_rfl
theorem V.EA : aH Tryz.prog 164 = true := by kernel_rfl
theorem V.PY : aH Tryz.prog 165 = true := by kernel_rfl
end Go.Proofs.YtmaiakpjgomnpaaGreat
namespace Go.Proofs.YtmaiakpjgomnpaaGreat
open Go.Sl
theorem V.uo : jT Tryz.prog 68 = some (4, 62, 1) := by kernel_rfl
theorem V.Qo : aH Tryz.prog 161 = true := by kernel_rfl
theorem V.KO : aH Tryz.prog 172 = true := by kernel_rfl
theorem V.Qu : aH Tryz.prog 185 = true := by kernel_rfl
theorem V.mn : aH Tryz.prog 21 = true := by kernel_rfl
theorem V.FX : aH Tryz.prog 67 = true := by kernel_rfl
theorem V.PA : aH Tryz.prog 93 = true := by kernel_rfl
theorem V.Rm : cy Tryz.prog 158 0 = some 0 := by kernel_rfl
theorem V.NA : fO Tryz.prog 158 = some [(0, 4)] := by kernel_rfl
theorem V.Qc : dH Tryz.prog 158 = some ([.slice none 0 0, .slice none 0 0, .int .i64 0, .int .i64 0]) := by kernel_rfl
end Go.Proofs.YtmaiakpjgomnpaaGreat
namespace Go.Proofs.YtmaiakpjgomnpaaGreat
open Go.Sl 
theorem bT : dU Tryz.prog ⟨[22], [(26, 0, 0), (26, 1, 1), (38, 2, 2), (151, 0, 0), (151, 1, 1), (151, 2, 2), (156, 0, 0), (156, 2, 2), (158, 0, 0)]⟩ = true := by kernel_rfl
attribute [local irreducible] aj.au aa.bR aa.up aa.cZ aa.gZ
def HW (b : Nat) (B : List Int) (at_ : Nat) (out : List Int) (free : Int) : ad := fun w0 h => ∃ i : Lv, True ∧ dk w0 [ao b 158 [.slice i.p1 B.length i.c1, .slice i.p2 out.length i.c2, .int .i64 (at_ : Int), .int .i64 free], Row U5 i.p1 B.length i.c1 B, Row U5 i.p2 out.length i.c2 out] h
theorem sw {b at_ : Nat} {p1 p2 : Option Addr} {c1 c2 : Nat} {B out : List Int} {free : Int} {w0 : World} {h : Hp}
  (hh : dk w0 [ao b 158 [.slice p1 B.length c1, .slice p2 out.length c2, .int .i64 (at_ : Int), .int .i64 free], Row U5 p1 B.length c1 B, Row U5 p2 out.length c2 out] h) : HW b B at_ out free w0 h := ⟨⟨p1, c1, p2, c2⟩, trivial, hh⟩
theorem Iv (b : Nat) (B : List Int) (at_ : Nat) (out : List Int) (free : Int) (hl : B.length < 500000000) (ha : at_ ≤ 8 * B.length) : aG Tryz.prog 128 [.pointer (some ⟨b, 0, none⟩)] [HW b B at_ out free] (aQ fun v G => v = .int .i64 (8 * (B.length : Int) - (at_ : Int)) ∧ G = [HW b B at_ out free]) := by
 refine av [(0, _)] Tryz.func128 rfl Tryz.ntmps128 rfl rfl ?_
 intro w0 F
 refine gD (fun h hh => hh) ?_
 rintro ⟨p1, c1, p2, c2⟩ _
 dsimp only
 refine rT bT 6 rfl ?_
 refine oF V.mixed (by kernel_rfl) ?_
 refine rR bT 3 rfl ?_
 refine oR (ae V.eC rfl an rfl) ?_
 refine KS bT 5 rfl (by omega) ?_
 refine oR (ae V.s3 rfl an rfl) ?_
 refine KS bT 2 rfl (by omega) ?_
 refine Rg.cW ?_
 refine rN bT 2 rfl ?_
 exact ak (aC rfl) ⟨rfl, rfl⟩ (aV (gm .nil) aw (fun w0 h hh => sw hh))
theorem LY (b : Nat) (B : List Int) (at_ : Nat) (out : List Int) (free : Int) (n : Int) (hl : B.length < 500000000) (ha : at_ ≤ 8 * B.length) (hn : 0 ≤ n ∧ n ≤ 24 ∧ n ≤ 8 * (B.length : Int) - at_) : aG Tryz.prog 92 [.pointer (some ⟨b, 0, none⟩), .int .i64 n] [HW b B at_ out free] (aQ fun v G => v = .tuple #[] ∧ G = [HW b B at_ out free]) := by
 refine av [(0, _), (1, _)] Tryz.func92 rfl Tryz.ntmps92 rfl rfl ?_
 intro w0 F
 refine rT bT 3 rfl ?_
 refine oV (aA (bu rfl rfl) (by omega)) ?_
 refine rO bT 2 rfl ?_
 refine ag rfl ?_
 refine oV (aA (bd rfl rfl) (by omega)) ?_
 refine rO bT 4 rfl ?_
 refine ag rfl ?_
 refine ai (Iv b B at_ out free hl ha) V.Ad  rfl (ar .nil) rfl ?_
 rintro _ _ ⟨rfl, rfl⟩
 refine ag rfl ?_
 refine oV (aA (bd rfl rfl) (by omega)) ?_
 refine rO bT 5 rfl ?_
 exact jb fI ⟨rfl, rfl⟩ (sub (ar .nil) aw)
theorem Hk (b : Nat) (B : List Int) (at_ : Nat) (out : List Int) (free : Int) (hl : B.length < 500000000) (hB : aj.au B) (ha : at_ < 8 * B.length) : aG Tryz.prog 93 [.pointer (some ⟨b, 0, none⟩)] [HW b B at_ out free] (aQ fun v G => v = .int .i64 (aa.gZ B at_) ∧ G = [HW b B (at_ + 1) out free]) := by
 refine av [(0, _)] Tryz.func93 rfl Tryz.ntmps93 rfl rfl ?_
 intro w0 F
 refine gD (fun h hh => hh) ?_
 rintro ⟨p1, c1, p2, c2⟩ _
 dsimp only
 have hq : U5.g B ((at_ : Int) / 8) = B.getD (at_ / 8) 0 := gE (at_ / 8) (by omega)
 have hb := hB.get (at_ / 8)
 have hd := aj.yc hb.1 hb.2 (7 - at_ % 8)
 have hb2 := aa.rh B at_
 have hbd : B.getD (at_ / 8) 0 / 2 ^ (7 - at_ % 8) % 2 = aa.gZ B at_ := by unfold aa.gZ; rfl
 refine rT bT 6 rfl ?_
 refine oF V.mixed (by kernel_rfl) ?_
 refine rR bT 4 rfl ?_
 refine oR (ae V.eC rfl an rfl) ?_
 refine rR bT 4 rfl ?_
 refine oR (ae V.s3 rfl an rfl) ?_
 refine oR (fY rfl rfl (by omega) (jL (by omega) (by omega) (by omega))) ?_
 refine oR (xI V.bY (own bW)) ?_
 refine oR (xL V.s5 (own bW)) ?_
 refine rR bT 4 rfl ?_
 refine oR (ae V.s3 rfl an rfl) ?_
 refine oR (gV rfl rfl (by omega) (jy (by omega))) ?_
 refine KS bT 1 rfl (by omega) ?_
 refine oR (ed (r := B.getD (at_ / 8) 0 / 2 ^ (7 - at_ % 8)) rfl rfl (by omega) (by rw [hq]; exact aj.Lx hb.1 (by omega) (by omega))) ?_
 refine oR (eZ rfl) ?_
 refine Rg.cW ?_
 refine rN bT 7 rfl ?_
 refine oV (ae V.s3 rfl an rfl) ?_
 refine cQ bT 4 rfl (by omega) ?_
 refine aU (bZ V.s3 rfl rfl rfl (by exact cY) (by exact Nat.le_of_ble_eq_true rfl) rfl) ?_
 refine rO bT 5 rfl ?_
 refine oV (kg (r := aa.gZ B at_) rfl rfl ((aj.ya hd.1 hd.2).trans hbd)) ?_
 refine oV (bg V.u5 Tryz.underlying3 rfl wI) ?_
 refine rO bT 4 rfl ?_
 rw [show (at_ : Int) + 1 = ((at_ + 1 : Nat) : Int) from by omega]
 exact ak (aC rfl) ⟨rfl, rfl⟩ (aV (gm .nil) aw (fun w0 h hh => sw hh))
theorem kD (b : Nat) (B : List Int) (at_ : Nat) (out : List Int) (free : Int) (n : Nat) (hl : B.length < 500000000) (hB : aj.au B) (hn : n ≤ 24) (ha : at_ + n ≤ 8 * B.length) : aG Tryz.prog 56 [.pointer (some ⟨b, 0, none⟩), .int .i64 (n : Int)] [HW b B at_ out free] (aQ fun v G => v = .int .i64 (aa.cZ B at_ n) ∧ G = [HW b B (at_ + n) out free]) := by
 refine av [(0, _), (1, _)] Tryz.func56 rfl Tryz.ntmps56 rfl rfl ?_
 intro w0 F
 refine rT bT 11 rfl ?_
 refine ai (LY b B at_ out free n hl (by omega) (by omega)) V.Ks  rfl (ar .nil) rfl ?_
 rintro _ _ ⟨rfl, rfl⟩
 refine rO bT 15 rfl ?_
 rw [show ((5 : Nat), Value.int .i64 0) = (5, .int .i64 (aa.cZ B at_ 0)) from by unfold aa.cZ; rfl]
 refine eb (fun (k : Nat) => [(0, .pointer (some ⟨b, 0, none⟩)), (5, .int .i64 (aa.cZ B at_ k)), (11, .int .i64 (n : Int)), (12, .int .i64 (k : Int))]) (fun (k : Nat) => HW b B (at_ + k) out free :: F) (fun (k : Nat) => k ≤ n) (fun (k : Nat) => n - k) (i1 (0) ?_ (fo ln) (sub (ar .nil) aw)) ?_
 ·exact Nat.zero_le _
 intro k
 rintro hk
 refine rL bT 6 rfl ?_
 refine aN rfl (fun h13 => ?_) (fun h13 => ?_)
 ·refine rC bT 4 rfl ?_
  have hb := aa.rh B (at_ + k)
  have hnb := aa.uh B at_ (n := k) (by omega)
  refine rC bT 2 rfl ?_
  refine oV (gb (r := 2 * (aa.cZ B at_ k)) rfl rfl (by decide) (aa.Ol (by omega))) ?_
  refine oV (aK rfl) ?_
  refine ai (Hk b B (at_ + k) out free hl hB (by omega)) V.PA  rfl (ar .nil) rfl ?_
  rintro _ _ ⟨rfl, rfl⟩
  refine oV (nq (r := (aa.cZ B at_ (k + 1))) rfl rfl (aa.QV (by omega))) ?_
  refine cQ bT 8 rfl (by omega) ?_
  refine j1 (k + 1) ?_ (fo ln) (sub (ar .nil) aw)
  exact ⟨by omega, by omega⟩
 ·refine rC bT 12 rfl ?_
  obtain rfl : k = n := by omega
  exact ak (aC rfl) ⟨rfl, rfl⟩ (sub (ar .nil) aw)
theorem w4 (p : Option Addr) (cap : Nat) (B : List Int) (R : ad) (hR : ∀ w0 h, R w0 h → aS U5 p B.length B w0 h) (hl : B.length < 500000000) : aG Tryz.prog 54 [.slice p B.length cap] [R] (aQ fun v G => ∃ b, v = .pointer (some ⟨b, 0, none⟩) ∧ G = [HW b B 0 [] 0, R]) := by
 refine av [(0, _)] Tryz.func54 rfl Tryz.ntmps54 rfl rfl ?_
 intro w0 F
 refine rT bT 8 rfl ?_
 refine ai (oz p cap B R hR hl) V.ze  rfl (ar .nil) rfl ?_
 rintro _ _ ⟨q, c, rfl, rfl⟩
 refine oV (cB V.G1 V.z156 rfl (cs := [.slice q B.length c, .slice none 0 0, .int .i64 0, .int .i64 0]) rfl) ?_
 refine oV (cB V.NA V.Qc rfl (cs := [.slice q B.length c, .slice none 0 0, .int .i64 0, .int .i64 0]) rfl) ?_
 refine eN rfl (cs := [.slice q B.length c, .slice none 0 0, .int .i64 0, .int .i64 0]) rfl rfl ?_
 intro b7
 refine rO bT 4 rfl ?_
 exact ak (aC rfl) ⟨b7, rfl, rfl⟩ ((ej (A := Row U5 none 0 0 []) (fun w0 => Row.nil _ _ _)).trans ((aV (.cons ay (.cons ay (ar .nil))) aw (fun w0 h hh => sw (p1 := q) (c1 := c) (p2 := none) (c2 := 0) (B := B) (out := []) (at_ := 0) (free := 0) hh)).trans (sub (bF .nil) aw)))
theorem SD (w h ax : Int) (cA : Bool) (d x : Int) (hd : aa.jH d) (hx : 0 ≤ x ∧ x < 2 ^ d.toNat) : aG Tryz.prog 90 [.agg #[.int .i64 w, .int .i64 h, .int .i64 d, .int .i64 ax, .bool cA], .int .i64 x] [] (aQ fun v G => v = .int .u16 (aa.up d x) ∧ G = []) := by
 refine av [(0, _), (1, _)] Tryz.func90 rfl Tryz.ntmps90 rfl rfl ?_
 intro w0 F
 obtain ⟨P, hP⟩ : ∃ P : Int, P = 2 ^ d.toNat := ⟨_, rfl⟩
 have hpb : 2 ≤ P ∧ P ≤ 65536 := hP ▸ aa.mP hd
 have hdi := aa.jR hd
 have hxP : x < P := hP ▸ hx.2
 have hui := aa.Ae hd hx.1 hx.2
 have hq := Int.ediv_le_self (P - 1) (by decide : (0 : Int) ≤ 65535)
 have hq0 : 0 ≤ 65535 / (P - 1) := Int.ediv_nonneg (by decide) (by omega)
 refine rT bT 2 rfl ?_
 refine eN rfl (cs := [_, _, _, _, _]) rfl rfl ?_
 intro b2
 refine rO bT 7 rfl ?_
 refine oV (ae V.s3 rfl an rfl) ?_
 refine oV (bg V.u3 Tryz.underlying52 rfl (tv (by omega) (by omega))) ?_
 refine oV (gb (r := P) rfl rfl (by omega) ((aa.mO hd).trans hP.symm)) ?_
 refine cQ bT 1 rfl (by omega) ?_
 refine oV (fY (r := 65535 / (P - 1)) rfl rfl (by omega) (jL (by omega) (by omega) (by omega))) ?_
 refine oV (jv (r := (aa.up d x)) rfl rfl (aa.up_mul hP hd hx.1 hxP)) ?_
 refine oV (bg V.u3 Tryz.underlying62 rfl (aa.Bz hui)) ?_
 refine rO bT 4 rfl ?_
 exact ak (aC rfl) ⟨rfl, rfl⟩ (sub .nil cD)
set_option maxHeartbeats 1000000 in
theorem FM (d : Int) (hd : aa.jH d) : aG Tryz.prog 185 [.int .i64 d] [] (aQ fun v G => v = .bool true ∧ G = []) := by
 refine av [(0, _)] Tryz.func185 rfl Tryz.ntmps185 rfl rfl ?_
 intro w0 F
 refine rT bT 5 rfl ?_
 rcases (aa.It hd) with rfl | ⟨q0, rfl⟩ | ⟨q0, q1, rfl⟩ | ⟨q0, q1, q2, rfl⟩ | ⟨q0, q1, q2, q3, rfl⟩
 ·refine rC bT 10 rfl ?_
  refine oV (aW (az rfl rfl) (by decide)) ?_
  refine rO bT 15 rfl ?_
  exact ak (aC rfl) ⟨rfl, rfl⟩ (sub .nil aw)
 ·refine rC bT 10 rfl ?_
  refine oV (aA (az rfl rfl) (by decide)) ?_
  refine rO bT 6 rfl ?_
  refine oV (aW (az rfl rfl) (by decide)) ?_
  refine rO bT 15 rfl ?_
  exact ak (aC rfl) ⟨rfl, rfl⟩ (sub .nil aw)
 ·refine rC bT 10 rfl ?_
  refine oV (aA (az rfl rfl) (by decide)) ?_
  refine rO bT 6 rfl ?_
  refine oV (aA (az rfl rfl) (by decide)) ?_
  refine rO bT 6 rfl ?_
  refine oV (aW (az rfl rfl) (by decide)) ?_
  refine rO bT 15 rfl ?_
  exact ak (aC rfl) ⟨rfl, rfl⟩ (sub .nil aw)
 ·refine rC bT 10 rfl ?_
  refine oV (aA (az rfl rfl) (by decide)) ?_
  refine rO bT 6 rfl ?_
  refine oV (aA (az rfl rfl) (by decide)) ?_
  refine rO bT 6 rfl ?_
  refine oV (aA (az rfl rfl) (by decide)) ?_
  refine rO bT 6 rfl ?_
  refine oV (aW (az rfl rfl) (by decide)) ?_
  refine rO bT 15 rfl ?_
  exact ak (aC rfl) ⟨rfl, rfl⟩ (sub .nil aw)
 ·refine rC bT 10 rfl ?_
  refine oV (aA (az rfl rfl) (by decide)) ?_
  refine rO bT 6 rfl ?_
  refine oV (aA (az rfl rfl) (by decide)) ?_
  refine rO bT 6 rfl ?_
  refine oV (aA (az rfl rfl) (by decide)) ?_
  refine rO bT 6 rfl ?_
  refine oV (aA (az rfl rfl) (by decide)) ?_
  refine rO bT 5 rfl ?_
  refine oV (aW (az rfl rfl) (by decide)) ?_
  refine rO bT 12 rfl ?_
  exact ak (aC rfl) ⟨rfl, rfl⟩ (sub .nil aw)
set_option maxHeartbeats 1000000 in
theorem Lb (d x : Int) (hd : aa.jH d) (hx : 0 ≤ x ∧ x < 2 ^ d.toNat) : aG Tryz.prog 172 [.int .i64 x, .int .i64 d] [] (aQ fun v G => v = .tuple #[.int .u16 (aa.up d x), .bool true] ∧ G = []) := by
 refine av [(0, _), (1, _)] Tryz.func172 rfl Tryz.ntmps172 rfl rfl ?_
 intro w0 F
 obtain ⟨P, hP⟩ : ∃ P : Int, P = 2 ^ d.toNat := ⟨_, rfl⟩
 have hpb : 2 ≤ P ∧ P ≤ 65536 := hP ▸ aa.mP hd
 have hdi := aa.jR hd
 have hxP : x < P := hP ▸ hx.2
 have hui := aa.Ae hd hx.1 hx.2
 have hq := Int.ediv_le_self (P - 1) (by decide : (0 : Int) ≤ 65535)
 have hq0 : 0 ≤ 65535 / (P - 1) := Int.ediv_nonneg (by decide) (by omega)
 refine rT bT 10 rfl ?_
 refine ai (FM d hd) V.Qu  rfl .nil rfl ?_
 rintro _ _ ⟨rfl, rfl⟩
 refine rO bT 3 rfl ?_
 refine ag rfl ?_
 refine oV (aA (bu rfl rfl) (by omega)) ?_
 refine rO bT 4 rfl ?_
 refine ag rfl ?_
 refine oV (gb (r := P) rfl rfl (by omega) ((aa.mO hd).trans hP.symm)) ?_
 refine ag rfl ?_
 refine oV (aA (ft rfl rfl) (by omega)) ?_
 refine rO bT 10 rfl ?_
 refine oV (gb (r := P) rfl rfl (by omega) ((aa.mO hd).trans hP.symm)) ?_
 refine cQ bT 1 rfl (by omega) ?_
 refine oV (fY (r := 65535 / (P - 1)) rfl rfl (by omega) (jL (by omega) (by omega) (by omega))) ?_
 refine oV (jv (r := (aa.up d x)) rfl rfl (aa.up_mul hP hd hx.1 hxP)) ?_
 refine oV (bg V.u3 Tryz.underlying62 rfl (aa.Bz hui)) ?_
 refine rO bT 5 rfl ?_
 exact ak (fD rfl rfl) ⟨rfl, rfl⟩ (sub .nil aw)
theorem tj (x : Int) (hx : 0 ≤ x ∧ x < 256) : aG Tryz.prog 184 [.int .u8 x] [] (aQ fun v G => v = .int .u16 (x * 257) ∧ G = []) := by
 refine av [(0, _)] Tryz.func184 rfl Tryz.ntmps184 rfl rfl ?_
 intro w0 F
 refine rT bT 8 rfl ?_
 refine oV (bg V.u5 Tryz.underlying3 rfl wI) ?_
 refine ai (Lb 8 x (.inr (.inr (.inr (.inl rfl)))) hx) V.KO  rfl .nil rfl ?_
 rintro _ _ ⟨rfl, rfl⟩
 rw [aa.RI]
 refine rO bT 14 rfl ?_
 exact ak (aC rfl) ⟨rfl, rfl⟩ (sub .nil aw)
set_option maxHeartbeats 1000000 in
theorem P0 (w h : Int) (hs : aa.bR w h = 0) (q : Option Addr) (n c : Nat) (hn : (n : Int) = 4 * w * h) (xx yy : Int) (hx : 0 ≤ xx ∧ xx < w) (hy : 0 ≤ yy ∧ yy < h) : aG Tryz.prog 161 [.agg #[.int .i64 w, .int .i64 h, .slice q n c], .int .i64 xx, .int .i64 yy] [] (aQ fun v G => v = .tuple #[.int .i64 (4 * (yy * w + xx)), .bool true] ∧ G = []) := by
 refine av [(0, _), (1, _), (2, _)] Tryz.func161 rfl Tryz.ntmps161 rfl rfl ?_
 intro w0 F
 have hsd := aa.ke hs
 have hp := aa.wx hx hy
 have h44 : 4 * w * h = 4 * (w * h) := Int.mul_assoc _ _ _
 refine rT bT 2 rfl ?_
 refine eN rfl (cs := [_, _, _]) rfl rfl ?_
 intro b3
 refine rO bT 6 rfl ?_
 refine oV (bG V.ek rfl an (vs := [_, _, _]) rfl rfl) ?_
 refine ai (Nw w h q n c true (decide_eq_true ⟨hs, hn⟩).symm) V.FX  rfl .nil rfl ?_
 rintro _ _ ⟨rfl, rfl⟩
 refine rO bT 2 rfl ?_
 refine ag rfl ?_
 refine oV (aW (ft rfl rfl) (by omega)) ?_
 refine rO bT 4 rfl ?_
 refine ag rfl ?_
 refine oV (ae V.s3 rfl an rfl) ?_
 refine ag rfl ?_
 refine oV (aW (bu rfl rfl) (by omega)) ?_
 refine rO bT 3 rfl ?_
 refine ag rfl ?_
 refine oV (aW (ft rfl rfl) (by omega)) ?_
 refine rO bT 4 rfl ?_
 refine ag rfl ?_
 refine oV (ae V.s3 rfl an rfl) ?_
 refine ag rfl ?_
 refine oV (aW (bu rfl rfl) (by omega)) ?_
 refine rO bT 8 rfl ?_
 refine oV (ae V.s3 rfl an rfl) ?_
 refine cQ bT 10 rfl (by omega) ?_
 exact ak (fD rfl rfl) ⟨rfl, rfl⟩ (sub .nil cD)
set_option maxHeartbeats 2000000 in
theorem NW (w h : Int) (hs : aa.bR w h = 0) (q : Option Addr) (n c : Nat) (hn : (n : Int) = 4 * w * h) (hcap : n ≤ c) (l : List Int) (xx yy : Int) (hx : 0 ≤ xx ∧ xx < w) (hy : 0 ≤ yy ∧ yy < h) (c0 c1 c2 c3 : Int) : aG Tryz.prog 152 [.agg #[.int .i64 w, .int .i64 h, .slice q n c], .int .i64 xx, .int .i64 yy, .agg #[.int .u16 c0, .int .u16 c1, .int .u16 c2, .int .u16 c3]] [Row (aP 62 .u16) q n c l] (aQ fun v G => v = .bool true ∧ G = [Row (aP 62 .u16) q n c (aa.l8 w l xx yy [c0, c1, c2, c3])]) := by
 refine av [(0, _), (1, _), (2, _), (3, _)] Tryz.func152 rfl Tryz.ntmps152 rfl rfl ?_
 intro w0 F
 have hsd := aa.ke hs
 have hp := aa.wx hx hy
 have h44 : 4 * w * h = 4 * (w * h) := Int.mul_assoc _ _ _
 refine rT bT 2 rfl ?_
 refine eN rfl (cs := [_, _, _]) rfl rfl ?_
 intro b4
 refine eN rfl (cs := CA [] .u16 [c0, c1, c2, c3] []) rfl rfl ?_
 intro b7
 refine rO bT 5 rfl ?_
 refine oV (bG V.ek rfl bW (vs := [_, _, _]) rfl rfl) ?_
 refine rO bT 2 rfl ?_
 refine ai (P0 w h hs q n c hn xx yy hx hy) V.Qo  rfl .nil rfl ?_
 rintro _ _ ⟨rfl, rfl⟩
 refine rO bT 14 rfl ?_
 refine wN [pz 0 [] [4], pz 1 [0] [], pz 0 [] [9], pz 7 [1, 2] [], pz 0 [] [7], pz 31 [3, 4] []] [⟨fun y => ao b7 68 (CA [] .u16 [c0, c1, c2, c3] []), none, none, [5]⟩, ⟨fun y => ao b4 26 [.int .i64 w, .int .i64 h, .slice q n c], none, none, [1]⟩, ⟨fun y => Row (aP 62 .u16) q n c l, none, some 5, []⟩, ⟨fun y => Row (aP 62 .u16) q n c (aa.l8 w l xx yy [c0, c1, c2, c3]), some 5, none, []⟩] F V.mixed ?_
 refine nG V.oK ?_
 refine nR (fun y FF hA => ae V.nm rfl an rfl) ?_
 refine nM ?_
 refine nV (fun y hA L => dX ((4 * (yy * w + xx))).toNat _ _ V.gX rfl ⟨_, (show aq _ _ = some (.int _ (4 * (yy * w + xx))) from rfl).trans (by rw [Int.toNat_of_nonneg (by omega)])⟩ ⟨rfl, rfl⟩ rfl (by omega) (by omega) (by omega)) ?_
 refine nV (fun y hA L => By V.uo rfl) ?_
 refine nE (fun y FF hA => D9 (Ke (c := (aP 62 .u16)) (k := (4 * (yy * w + xx)).toNat) (n := n) (cap := c) (l := l) (ws := [c0, c1, c2, c3]) (cnt := 4) rfl V.gX rfl rfl iq.head (Ry (by exact .head _)) (by omega) (by omega) (by omega) (by omega)) (.refl _)) ?_
 refine aX ?_
 intro y hA
 clear hA
 refine bN ?_
 refine cu _ (.cons (d := 10) rfl (.nil _)) ?_
 refine bS (M := ao b7 68 (CA [] .u16 [c0, c1, c2, c3] []) :: ao b4 26 [.int .i64 w, .int .i64 h, .slice q n c] :: Row (aP 62 .u16) q n c (aa.l8 w l xx yy [c0, c1, c2, c3]) :: F) (fun _ _ h => h) ?_
 refine rC bT 7 rfl ?_
 exact ak (aC rfl) ⟨rfl, rfl⟩ (sub (.cons bX .nil) ie)
end Go.Proofs.YtmaiakpjgomnpaaGreat
namespace Go.Proofs.YtmaiakpjgomnpaaGreat
open Go.Sl
theorem V.jr : ia Tryz.prog 35 = some 5 := by kernel_rfl
theorem V.mm : ia Tryz.prog 68 = some 4 := by kernel_rfl
theorem V.JS : aH Tryz.prog 54 = true := by kernel_rfl
theorem V.Pl : aH Tryz.prog 55 = true := by kernel_rfl
theorem V.tp : aH Tryz.prog 56 = true := by kernel_rfl
theorem V.xf : aH Tryz.prog 57 = true := by kernel_rfl
theorem V.Al : cy Tryz.prog 35 0 = some 0 := by kernel_rfl
theorem V.ug : cy Tryz.prog 35 1 = some 1 := by kernel_rfl
theorem V.mb : cy Tryz.prog 35 2 = some 2 := by kernel_rfl
theorem V.qW : cy Tryz.prog 35 3 = some 3 := by kernel_rfl
theorem V.Se : cy Tryz.prog 35 4 = some 4 := by kernel_rfl
theorem V.pQ : fO Tryz.prog 35 = some [(0, 1), (1, 1), (2, 1), (3, 1), (4, 1)] := by kernel_rfl
theorem V.qh : dq Tryz.prog 105 = true := by kernel_rfl
theorem V.lD : dq Tryz.prog 62 = true := by kernel_rfl
theorem V.z105 : dH Tryz.prog 105 = some ([.pointer none]) := by kernel_rfl
theorem V.nF : dH Tryz.prog 35 = some ([.int .i64 0, .int .i64 0, .int .i64 0, .int .i64 0, .bool false]) := by kernel_rfl
theorem V.pG : dH Tryz.prog 68 = some ([.int .u16 0, .int .u16 0, .int .u16 0, .int .u16 0]) := by kernel_rfl
end Go.Proofs.YtmaiakpjgomnpaaGreat
namespace Go.Proofs.YtmaiakpjgomnpaaGreat
open Go.Sl 
theorem bB : dU Tryz.prog ⟨[22, 24], [(26, 0, 0), (26, 1, 1), (26, 2, 2), (35, 0, 0), (35, 1, 1), (35, 2, 2), (35, 3, 3), (35, 4, 4), (38, 0, 0), (38, 1, 1), (38, 2, 2), (38, 3, 3)]⟩ = true := by kernel_rfl
attribute [local irreducible] aj.au aa.bR aa.up aa.cZ aa.gZ aa.Dh aa.fc aa.iY aa.deep aa.parts HW
abbrev HV (h : aa.Hd) : Value := .agg #[.int .i64 h.w, .int .i64 h.h, .int .i64 h.dep, .int .i64 h.ax, .bool h.cA]
set_option maxHeartbeats 2000000 in
theorem wL (w1 h1 : Int) (q1 : Option Addr) (n1 c1 : Nat) (L1 : List Int) (hn1 : L1.length = n1) (R1 : ad) (hR1 : ∀ w0 h, R1 w0 h → aS (aP 62 .u16) q1 n1 L1 w0 h) (w2 h2 : Int) (q2 : Option Addr) (n2 c2 : Nat) (L2 : List Int) (hn2 : L2.length = n2) (R2 : ad) (hR2 : ∀ w0 h, R2 w0 h → aS (aP 62 .u16) q2 n2 L2 w0 h) (hs1 : n1 ≤ 100000000) (t : Bool) (ht : t = decide (aa.iY w1 h1 n1 w2 h2 n2 L1 L2)) : aG Tryz.prog 23 [.agg #[.int .i64 w1, .int .i64 h1, .slice q1 n1 c1], .agg #[.int .i64 w2, .int .i64 h2, .slice q2 n2 c2]] [R1, R2] (aQ fun v G => v = .bool t ∧ G = [R1, R2]) := by
 refine av [(0, _), (1, _)] Tryz.func23 rfl Tryz.ntmps23 rfl rfl ?_
 intro w0 F
 refine rT bB 2 rfl ?_
 refine eN rfl (cs := [_, _, _]) rfl rfl ?_
 intro b2
 refine eN rfl (cs := [_, _, _]) rfl rfl ?_
 intro b3
 refine rO bB 3 rfl ?_
 rcases (aa.NC w1 h1 n1 w2 h2 n2 L1 L2) with ⟨a, hs⟩ | ⟨a, a2, hs⟩ | ⟨a, a2, a3, hs⟩ | ⟨a, a2, a3, a4, hs⟩ | ⟨a, a2, a3, a4, a5⟩
 ·refine rC bB 3 rfl ?_
  refine oV (bG V.ek rfl bW (vs := [_, _, _]) rfl rfl) ?_
  refine ai (lC w1 h1 q1 n1 c1 false (decide_eq_false a).symm) V.mn  rfl .nil rfl ?_
  rintro _ _ ⟨rfl, rfl⟩
  refine rO bB 30 rfl ?_
  obtain rfl : t = false := ht.trans (decide_eq_false hs)
  exact ak (aC rfl) ⟨rfl, rfl⟩ (sub (.cons bX (.cons bX .nil)) ie)
 ·refine rC bB 3 rfl ?_
  refine oV (bG V.ek rfl bW (vs := [_, _, _]) rfl rfl) ?_
  refine ai (lC w1 h1 q1 n1 c1 true (decide_eq_true a).symm) V.mn  rfl .nil rfl ?_
  rintro _ _ ⟨rfl, rfl⟩
  refine rO bB 2 rfl ?_
  refine ag rfl ?_
  refine oV (bG V.ek rfl an (vs := [_, _, _]) rfl rfl) ?_
  refine ag rfl ?_
  refine ai (lC w2 h2 q2 n2 c2 false (decide_eq_false a2).symm) V.mn  rfl .nil rfl ?_
  rintro _ _ ⟨rfl, rfl⟩
  refine rO bB 26 rfl ?_
  obtain rfl : t = false := ht.trans (decide_eq_false hs)
  exact ak (aC rfl) ⟨rfl, rfl⟩ (sub (.cons bX (.cons bX .nil)) ie)
 ·refine rC bB 3 rfl ?_
  refine oV (bG V.ek rfl bW (vs := [_, _, _]) rfl rfl) ?_
  refine ai (lC w1 h1 q1 n1 c1 true (decide_eq_true a).symm) V.mn  rfl .nil rfl ?_
  rintro _ _ ⟨rfl, rfl⟩
  refine rO bB 2 rfl ?_
  refine ag rfl ?_
  refine oV (bG V.ek rfl an (vs := [_, _, _]) rfl rfl) ?_
  refine ag rfl ?_
  refine ai (lC w2 h2 q2 n2 c2 true (decide_eq_true a2).symm) V.mn  rfl .nil rfl ?_
  rintro _ _ ⟨rfl, rfl⟩
  refine rO bB 4 rfl ?_
  refine ag rfl ?_
  refine oV (ae V.s3 rfl bW rfl) ?_
  refine ag rfl ?_
  refine oV (aE V.oO rfl) ?_
  refine ag rfl ?_
  refine oV (ae V.s3 rfl an rfl) ?_
  refine ag rfl ?_
  refine oV (aW (cx rfl rfl) a3) ?_
  refine rO bB 18 rfl ?_
  obtain rfl : t = false := ht.trans (decide_eq_false hs)
  exact ak (aC rfl) ⟨rfl, rfl⟩ (sub (.cons bX (.cons bX .nil)) ie)
 ·refine rC bB 3 rfl ?_
  refine oV (bG V.ek rfl bW (vs := [_, _, _]) rfl rfl) ?_
  refine ai (lC w1 h1 q1 n1 c1 true (decide_eq_true a).symm) V.mn  rfl .nil rfl ?_
  rintro _ _ ⟨rfl, rfl⟩
  refine rO bB 2 rfl ?_
  refine ag rfl ?_
  refine oV (bG V.ek rfl an (vs := [_, _, _]) rfl rfl) ?_
  refine ag rfl ?_
  refine ai (lC w2 h2 q2 n2 c2 true (decide_eq_true a2).symm) V.mn  rfl .nil rfl ?_
  rintro _ _ ⟨rfl, rfl⟩
  refine rO bB 4 rfl ?_
  refine ag rfl ?_
  refine oV (ae V.s3 rfl bW rfl) ?_
  refine ag rfl ?_
  refine oV (aE V.oO rfl) ?_
  refine ag rfl ?_
  refine oV (ae V.s3 rfl an rfl) ?_
  refine ag rfl ?_
  refine oV (aA (cx rfl rfl) (fun hh => hh a3)) ?_
  refine rO bB 3 rfl ?_
  refine ag rfl ?_
  refine oV (ae V.s3 rfl bW rfl) ?_
  refine ag rfl ?_
  refine oV (aE V.mf rfl) ?_
  refine ag rfl ?_
  refine oV (ae V.s3 rfl an rfl) ?_
  refine ag rfl ?_
  refine oV (aW (cx rfl rfl) a4) ?_
  refine rO bB 11 rfl ?_
  obtain rfl : t = false := ht.trans (decide_eq_false hs)
  exact ak (aC rfl) ⟨rfl, rfl⟩ (sub (.cons bX (.cons bX .nil)) ie)
 ·refine rC bB 3 rfl ?_
  refine oV (bG V.ek rfl bW (vs := [_, _, _]) rfl rfl) ?_
  refine ai (lC w1 h1 q1 n1 c1 true (decide_eq_true a).symm) V.mn  rfl .nil rfl ?_
  rintro _ _ ⟨rfl, rfl⟩
  refine rO bB 2 rfl ?_
  refine ag rfl ?_
  refine oV (bG V.ek rfl an (vs := [_, _, _]) rfl rfl) ?_
  refine ag rfl ?_
  refine ai (lC w2 h2 q2 n2 c2 true (decide_eq_true a2).symm) V.mn  rfl .nil rfl ?_
  rintro _ _ ⟨rfl, rfl⟩
  refine rO bB 4 rfl ?_
  refine ag rfl ?_
  refine oV (ae V.s3 rfl bW rfl) ?_
  refine ag rfl ?_
  refine oV (aE V.oO rfl) ?_
  refine ag rfl ?_
  refine oV (ae V.s3 rfl an rfl) ?_
  refine ag rfl ?_
  refine oV (aA (cx rfl rfl) (fun hh => hh a3)) ?_
  refine rO bB 3 rfl ?_
  refine ag rfl ?_
  refine oV (ae V.s3 rfl bW rfl) ?_
  refine ag rfl ?_
  refine oV (aE V.mf rfl) ?_
  refine ag rfl ?_
  refine oV (ae V.s3 rfl an rfl) ?_
  refine ag rfl ?_
  refine oV (aA (cx rfl rfl) (fun hh => hh a4)) ?_
  refine rO bB 13 rfl ?_
  refine eb (fun (i : Nat) => [(2, .pointer (some ⟨b2, 0, none⟩)), (3, .pointer (some ⟨b3, 0, none⟩)), (5, .int .i64 (i : Int))]) (fun (i : Nat) => ao b3 26 [.int .i64 w2, .int .i64 h2, .slice q2 n2 c2] :: ao b2 26 [.int .i64 w1, .int .i64 h1, .slice q1 n1 c1] :: R1 :: R2 :: F) (fun (i : Nat) => i ≤ n1 ∧ ∀ j, j < i → L1.getD j 0 = L2.getD j 0) (fun (i : Nat) => n1 - i) (i1 (0) ?_ (js ln) (sub (nH .nil) aw)) ?_
  ·exact ⟨Nat.zero_le _, fun j hj => by omega⟩
  intro i
  rintro ⟨hi, hall⟩
  refine rL bB 5 rfl ?_
  refine oV (ae V.nm rfl bW rfl) ?_
  refine rO bB 4 rfl ?_
  refine aN rfl (fun h32 => ?_) (fun h32 => ?_)
  ·refine rC bB 4 rfl ?_
   rcases (Classical.em (((aP 62 .u16).g L1 (i : Int)) ≠ ((aP 62 .u16).g L2 (i : Int)))) with hne | hne
   ·refine rC bB 1 rfl ?_
    refine oF V.mixed (by kernel_rfl) ?_
    refine oR (aE V.oK rfl) ?_
    refine oR (ae V.nm rfl bW rfl) ?_
    refine oR (aK rfl) ?_
    refine oR (xI V.gX (by exact bE hR1 dJ)) ?_
    refine oR (xL V.lD (by exact bE hR1 dJ)) ?_
    refine oR (aE V.oK rfl) ?_
    refine oR (ae V.nm rfl an rfl) ?_
    refine oR (aK rfl) ?_
    refine oR (xI V.gX (by exact bE hR2 eG)) ?_
    refine oR (xL V.lD (by exact bE hR2 eG)) ?_
    refine oR (aW (cx rfl rfl) hne) ?_
    refine Rg.cW ?_
    refine rN bB 13 rfl ?_
    obtain rfl : t = false := ht.trans (decide_eq_false (fun hh => aa.GD hne (by unfold aa.iY at hh; exact hh.2.2.2.2)))
    exact ak (aC rfl) ⟨rfl, rfl⟩ (sub (.cons bX (.cons bX .nil)) ie)
   ·refine rC bB 1 rfl ?_
    refine oF V.mixed (by kernel_rfl) ?_
    refine oR (aE V.oK rfl) ?_
    refine oR (ae V.nm rfl bW rfl) ?_
    refine oR (aK rfl) ?_
    refine oR (xI V.gX (by exact bE hR1 dJ)) ?_
    refine oR (xL V.lD (by exact bE hR1 dJ)) ?_
    refine oR (aE V.oK rfl) ?_
    refine oR (ae V.nm rfl an rfl) ?_
    refine oR (aK rfl) ?_
    refine oR (xI V.gX (by exact bE hR2 eG)) ?_
    refine oR (xL V.lD (by exact bE hR2 eG)) ?_
    refine oR (aA (cx rfl rfl) hne) ?_
    refine Rg.cW ?_
    refine Nu bB 10 rfl (by omega) ?_
    refine j1 (i + 1) ?_ (js ln) (sub (nH .nil) aw)
    exact ⟨⟨by omega, fun j hj => (Nat.lt_succ_iff_lt_or_eq.1 hj).elim (hall j) (fun e => e ▸ Classical.not_not.1 hne)⟩, by omega⟩
  ·refine rC bB 11 rfl ?_
   obtain rfl : t = true := ht.trans (decide_eq_true (by unfold aa.iY; exact ⟨a, a2, a3, a4, aa.BL (by omega) (fun j hj => hall j (by omega))⟩))
   exact ak (aC rfl) ⟨rfl, rfl⟩ (sub (.cons bX (.cons bX .nil)) ie)
set_option maxHeartbeats 1000000 in
theorem BZ (b b4 : Nat) (B : List Int) (out : List Int) (free : Int) (hl : B.length < 500000000) (hB : aj.au B) (j : Nat) (hj : j + 4 ≤ B.length) : aG Tryz.prog 55 [.pointer (some ⟨b4, 0, none⟩)] [HW b B (8 * j) out free, ao b4 105 [.pointer (some ⟨b, 0, none⟩)]] (aQ fun v G => v = .int .i64 (aJ.dY (B.drop j)) ∧ G = [HW b B (8 * j + 32) out free, ao b4 105 [.pointer (some ⟨b, 0, none⟩)]]) := by
 refine av [(0, _)] Tryz.func55 rfl Tryz.ntmps55 rfl rfl ?_
 intro w0 F
 have h1 := aa.AB B (8 * j)
 have h2 := aa.AB B (8 * j + 16)
 refine rT bB 6 rfl ?_
 refine wN [pz 0 [] [0], pz 1 [0] [], pz 3 [1] [], pz 0 [] [0], pz 11 [3] [], pz 31 [2, 4] [], pz 63 [5] []] [⟨fun y => HW b B (8 * j) out free, none, some 1, []⟩, ⟨fun y => ao b4 105 [.pointer (some ⟨b, 0, none⟩)], none, none, [0, 3]⟩, ⟨fun y => HW b B (8 * j + 16) out free, some 1, some 4, []⟩, ⟨fun y => HW b B (8 * j + 16 + 16) out free, some 4, none, []⟩] F V.mixed ?_
 refine nR (fun y FF hA => ae V.qh rfl an rfl) ?_
 refine nE (fun y FF hA => bO (Post := [HW b B (8 * j + 16) out free]) (kD b B (8 * j) out free 16 hl hB (by decide) (by omega)) V.tp rfl (ar .nil) (fun v G h => by rcases h with ⟨rfl, rfl⟩; exact ⟨rfl, .refl _⟩)) ?_
 refine nV (fun y hA L => gb (r := (aa.cZ B (8 * j) 16) * 65536) rfl rfl (by decide) (aJ.wW (n := 16) rfl (by decide) rfl (by omega) (by omega))) ?_
 refine nR (fun y FF hA => ae V.qh rfl an rfl) ?_
 refine nE (fun y FF hA => bO (Post := [HW b B (8 * j + 16 + 16) out free]) (kD b B (8 * j + 16) out free 16 hl hB (by decide) (by omega)) V.tp rfl (ar .nil) (fun v G h => by rcases h with ⟨rfl, rfl⟩; exact ⟨rfl, .refl _⟩)) ?_
 refine nV (fun y hA L => nq (r := (aa.cZ B (8 * j) 16) * 65536 + (aa.cZ B (8 * j + 16) 16)) rfl rfl (aJ.qa (u := (aa.cZ B (8 * j) 16)) (n := 16) rfl h1.1 (by omega) (by omega))) ?_
 refine nA ?_
 refine aX ?_
 intro y hA
 clear hA
 refine bN ?_
 refine cu _ (.cons (d := 1) rfl (.nil _)) ?_
 refine bS (M := ao b4 105 [.pointer (some ⟨b, 0, none⟩)] :: HW b B (8 * j + 16 + 16) out free :: F) (fun _ _ h => h) ?_
 refine rC bB 1 rfl ?_
 exact ak (aC rfl) ⟨congrArg (Value.int .i64) (aa.K6 hB j), rfl⟩ (sub (.cons ay (ar .nil)) aw)
set_option maxHeartbeats 4000000 in
theorem tB (p : Option Addr) (c : Nat) (B : List Int) (R : ad) (hR : ∀ w0 h, R w0 h → aS U5 p B.length B w0 h) (hB : aj.au B) : aG Tryz.prog 17 [.slice p B.length c] [R] (aQ fun v G => v = .tuple #[HV (aa.JA B), .int .i64 (aa.fc B)] ∧ G = [R]) := by
 refine av [(0, _)] Tryz.func17 rfl Tryz.ntmps17 rfl rfl ?_
 intro w0 F
 have hb8 := hB.get 8
 have hb9 := hB.get 9
 have hb10 := hB.get 10
 have hb11 := hB.get 11
 have hb12 := hB.get 12
 refine rT bB 2 rfl ?_
 refine cC V.nF rfl ?_
 intro b2
 refine rO bB 3 rfl ?_
 rcases (Classical.em (B.length ≠ 13)) with h0 | h0
 ·refine rC bB 5 rfl ?_
  refine oV (aW (cx rfl rfl) (by omega)) ?_
  refine rO bB 5 rfl ?_
  refine oV (cB V.pQ V.nF rfl (cs := [_, _, _, _, _]) rfl) ?_
  refine aU (aF V.jr rfl rfl (us := [_, _, _, _, _]) rfl rfl (by exact cY) (by exact Nat.le_of_ble_eq_true rfl) rfl) ?_
  refine rO bB 5 rfl ?_
  exact ak (e9 V.jr rfl an rfl rfl) ⟨by rw [aa.BM h0, aa.pB (aa.BM h0) (by decide)]; rfl, rfl⟩ (sub (.cons ay .nil) cD)
 ·refine rC bB 5 rfl ?_
  refine oV (aA (cx rfl rfl) (by omega)) ?_
  refine rO bB 8 rfl ?_
  refine ai (w4 p c B R hR (by omega)) V.JS  rfl (.cons ay .nil) rfl ?_
  rintro _ _ ⟨bx, rfl, rfl⟩
  refine cC V.z105 rfl ?_
  intro b4
  refine aU (bZ V.qh rfl rfl rfl (by exact cY) (by exact Nat.le_of_ble_eq_true rfl) rfl) ?_
  refine rO bB 4 rfl ?_
  refine oV (AU (fs := []) (cs := [_]) rfl rfl) ?_
  refine rO bB 4 rfl ?_
  refine ly [pz 0 [] [5], pz 1 [0] [], pz 0 [] [5], pz 7 [2] [], pz 0 [] [4], pz 31 [4] [], pz 0 [] [4], pz 127 [6] [], pz 255 [1, 3, 5, 7] [], pz 0 [] [], pz 1023 [9, 8] []] [⟨fun y => ao b4 105 [.pointer (some ⟨bx, 0, none⟩)], none, none, [1, 3, 4, 6]⟩, ⟨fun y => HW bx B (8 * 0) [] 0, none, some 1, []⟩, ⟨fun y => R, none, none, []⟩, ⟨fun y => ao b2 35 [.int .i64 0, .int .i64 0, .int .i64 0, .int .i64 0, .bool false], none, none, []⟩, ⟨fun y => HW bx B (8 * 4) [] 0, some 1, some 3, []⟩, ⟨fun y => HW bx B (8 * 8) [] 0, some 3, some 5, []⟩, ⟨fun y => HW bx B (8 * 9) [] 0, some 5, some 7, []⟩, ⟨fun y => HW bx B (8 * 10) [] 0, some 7, none, []⟩, ⟨fun y => ao (gC (y 9)) 35 [.int .i64 0, .int .i64 0, .int .i64 0, .int .i64 0, .bool false], some 9, some 10, []⟩, ⟨fun y => ao (gC (y 9)) 35 [.int .i64 (aJ.dY B), .int .i64 (aJ.dY (B.drop 4)), .int .i64 (B.getD 8 0), .int .i64 (B.getD 9 0), .bool false], some 10, none, []⟩] F V.mixed (by kernel_rfl) rfl (fun _ => .refl _) (cn _ (cn _ (cn _ (cn _ (eB _ rfl (by intro y y2 h; rfl) (eB _ rfl (by intro y y2 h; rfl) (eB _ rfl (by intro y y2 h; rfl) (eB _ rfl (by intro y y2 h; rfl) (eB _ rfl (by intro y y2 h; simp only [h 9 (.inl rfl)]) (eB _ rfl (by intro y y2 h; simp only [h 9 (.inr (by decide))]) ir)))))))))) ?_
  refine nM ?_
  refine nE (fun y FF hA => lf (vs := []) (fs := []) (cs := [.pointer (some ⟨b4, 0, none⟩)]) (Post := [HW bx B (8 * 4) [] 0, ao b4 105 [.pointer (some ⟨bx, 0, none⟩)]]) (BZ bx b4 B [] 0 (by omega) hB 0 (by omega)) V.Pl rfl rfl (bF .nil) (fun v G h => by rcases h with ⟨rfl, rfl⟩; exact ⟨rfl, .refl _⟩)) ?_
  refine nM ?_
  refine nE (fun y FF hA => lf (vs := []) (fs := []) (cs := [.pointer (some ⟨b4, 0, none⟩)]) (Post := [HW bx B (8 * 8) [] 0, ao b4 105 [.pointer (some ⟨bx, 0, none⟩)]]) (BZ bx b4 B [] 0 (by omega) hB 4 (by omega)) V.Pl rfl rfl (bF .nil) (fun v G h => by rcases h with ⟨rfl, rfl⟩; exact ⟨rfl, .refl _⟩)) ?_
  refine nR (fun y FF hA => ae V.qh rfl an rfl) ?_
  refine nE (fun y FF hA => bO (Post := [HW bx B (8 * 9) [] 0]) (kD bx B (8 * 8) [] 0 8 (by omega) hB (by decide) (by omega)) V.tp rfl (ar .nil) (fun v G h => by rcases h with ⟨rfl, rfl⟩; exact ⟨by rw [aa.mW (hB.get 8)], .refl _⟩)) ?_
  refine nR (fun y FF hA => ae V.qh rfl an rfl) ?_
  refine nE (fun y FF hA => bO (Post := [HW bx B (8 * 10) [] 0]) (kD bx B (8 * 9) [] 0 8 (by omega) hB (by decide) (by omega)) V.tp rfl (ar .nil) (fun v G h => by rcases h with ⟨rfl, rfl⟩; exact ⟨by rw [aa.mW (hB.get 9)], .refl _⟩)) ?_
  refine nV (fun y hA L => cB V.pQ V.nF rfl (cs := [.int .i64 (aJ.dY B), .int .i64 (aJ.dY (B.drop 4)), .int .i64 (B.getD 8 0), .int .i64 (B.getD 9 0), .bool false]) (by kernel_rfl)) ?_
  refine gU (fun y v => .pointer (some ⟨gC v, 0, none⟩)) (fun y v => True) _ _ (fun y v => [ao (gC v) 35 [.int .i64 0, .int .i64 0, .int .i64 0, .int .i64 0, .bool false]]) _ (fun y => rfl) (fun y => rfl) (fun y => rfl) (fun y => rfl) (fun y FF hA => vr (uV V.nF)) (by intros; rfl) (by intros; rfl) (by intros; rfl) (by intro y y2 h; simp only [h 9 (.inl rfl)]) (by intro y y2 h; rfl) ?_
  refine nE (fun y FF hA => dC (aF V.jr rfl rfl (us := [_, _, _, _, _]) rfl rfl (by exact cY) (by exact Nat.le_of_ble_eq_true rfl) rfl) ⟨rfl, .refl _⟩) ?_
  refine aX ?_
  intro y hA
  clear hA
  refine bN ?_
  refine cu [(2, .pointer (some ⟨b2, 0, none⟩)), (4, .pointer (some ⟨b4, 0, none⟩)), (6, .pointer (some ⟨(gC (y 9)), 0, none⟩))] (.cons (d := 2) rfl (.cons (d := 4) rfl (.cons (d := 6) rfl (.nil _)))) ?_
  refine bS (M := ao b4 105 [.pointer (some ⟨bx, 0, none⟩)] :: R :: ao b2 35 [.int .i64 0, .int .i64 0, .int .i64 0, .int .i64 0, .bool false] :: HW bx B (8 * 10) [] 0 :: ao (gC (y 9)) 35 [.int .i64 (aJ.dY B), .int .i64 (aJ.dY (B.drop 4)), .int .i64 (B.getD 8 0), .int .i64 (B.getD 9 0), .bool false] :: F) (fun _ _ h => h) ?_
  generalize (gC (y 9)) = b6
  refine rC bB 1 rfl ?_
  refine wN [pz 0 [] [4], pz 1 [0] [], pz 0 [] [4], pz 7 [2] [], pz 0 [] [4], pz 31 [4] [], pz 63 [1] [], pz 127 [3] [], pz 255 [5] []] [⟨fun y => ao b4 105 [.pointer (some ⟨bx, 0, none⟩)], none, none, [0, 2, 4]⟩, ⟨fun y => R, none, none, []⟩, ⟨fun y => ao b2 35 [.int .i64 0, .int .i64 0, .int .i64 0, .int .i64 0, .bool false], none, none, []⟩, ⟨fun y => HW bx B (8 * 10) [] 0, none, some 1, []⟩, ⟨fun y => ao b6 35 [.int .i64 (aJ.dY B), .int .i64 (aJ.dY (B.drop 4)), .int .i64 (B.getD 8 0), .int .i64 (B.getD 9 0), .bool false], none, none, []⟩, ⟨fun y => HW bx B (8 * 11) [] 0, some 1, some 3, []⟩, ⟨fun y => HW bx B (8 * 12) [] 0, some 3, some 5, []⟩, ⟨fun y => HW bx B (8 * 13) [] 0, some 5, none, []⟩] F V.mixed ?_
  refine nR (fun y FF hA => ae V.qh rfl an rfl) ?_
  refine nE (fun y FF hA => bO (Post := [HW bx B (8 * 11) [] 0]) (kD bx B (8 * 10) [] 0 8 (by omega) hB (by decide) (by omega)) V.tp rfl (ar .nil) (fun v G h => by rcases h with ⟨rfl, rfl⟩; exact ⟨by rw [aa.mW (hB.get 10)], .refl _⟩)) ?_
  refine nR (fun y FF hA => ae V.qh rfl an rfl) ?_
  refine nE (fun y FF hA => bO (Post := [HW bx B (8 * 12) [] 0]) (kD bx B (8 * 11) [] 0 8 (by omega) hB (by decide) (by omega)) V.tp rfl (ar .nil) (fun v G h => by rcases h with ⟨rfl, rfl⟩; exact ⟨by rw [aa.mW (hB.get 11)], .refl _⟩)) ?_
  refine nR (fun y FF hA => ae V.qh rfl an rfl) ?_
  refine nE (fun y FF hA => bO (Post := [HW bx B (8 * 13) [] 0]) (kD bx B (8 * 12) [] 0 8 (by omega) hB (by decide) (by omega)) V.tp rfl (ar .nil) (fun v G h => by rcases h with ⟨rfl, rfl⟩; exact ⟨by rw [aa.mW (hB.get 12)], .refl _⟩)) ?_
  iterate 3 refine nA ?_
  refine aX ?_
  intro y hA
  clear hA
  refine bN ?_
  refine cu [(2, .pointer (some ⟨b2, 0, none⟩)), (6, .pointer (some ⟨b6, 0, none⟩)), (7, .int .i64 (B.getD 10 0)), (8, .int .i64 (B.getD 11 0)), (9, .int .i64 (B.getD 12 0))] (.cons (d := 2) rfl (.cons (d := 6) rfl (.cons (d := 7) rfl (.cons (d := 8) rfl (.cons (d := 9) rfl (.nil _)))))) ?_
  refine bS (M := ao b4 105 [.pointer (some ⟨bx, 0, none⟩)] :: R :: ao b2 35 [.int .i64 0, .int .i64 0, .int .i64 0, .int .i64 0, .bool false] :: ao b6 35 [.int .i64 (aJ.dY B), .int .i64 (aJ.dY (B.drop 4)), .int .i64 (B.getD 8 0), .int .i64 (B.getD 9 0), .bool false] :: HW bx B (8 * 13) [] 0 :: F) (fun _ _ h => h) ?_
  refine rC bB 5 rfl ?_
  refine aU (bZ V.s4 rfl rfl rfl (by exact wH) (by exact Nat.le_of_ble_eq_true rfl) rfl) ?_
  refine rO bB 2 rfl ?_
  rcases (aa.RE h0) with ⟨_, a1, hs⟩ | ⟨_, a1, a2, hs⟩ | ⟨_, a1, a2, a3, hs⟩ | ⟨_, a1, a2, a3, a4, hs⟩ | ⟨_, a1, a2, a3, a4, a5, hs⟩ | ⟨_, a1, a2, a3, a4, a5, a6, hs⟩ | ⟨_, a1, a2, a3, a4, a5, a6, hs⟩
  ·refine rC bB 4 rfl ?_
   refine oV (ae V.s3 rfl eG rfl) ?_
   refine oV (aE V.mb rfl) ?_
   refine oV (ae V.s3 rfl eG rfl) ?_
   refine ai (m0 (B.getD 9 0) (B.getD 8 0) false (decide_eq_false a1).symm) V.xf  rfl .nil rfl ?_
   rintro _ _ ⟨rfl, rfl⟩
   refine rO bB 26 rfl ?_
   refine oV (cB V.pQ V.nF rfl (cs := [_, _, _, _, _]) rfl) ?_
   refine aU (aF V.jr rfl rfl (us := [_, _, _, _, _]) rfl rfl (by exact ni) (by exact Nat.le_of_ble_eq_true rfl) rfl) ?_
   refine rO bB 5 rfl ?_
   exact ak (e9 V.jr rfl dJ rfl rfl) ⟨by rw [hs, aa.pB hs (by decide)]; rfl, rfl⟩ (sub (.cons ay .nil) mI)
  ·refine rC bB 4 rfl ?_
   refine oV (ae V.s3 rfl eG rfl) ?_
   refine oV (aE V.mb rfl) ?_
   refine oV (ae V.s3 rfl eG rfl) ?_
   refine ai (m0 (B.getD 9 0) (B.getD 8 0) true (decide_eq_true a1).symm) V.xf  rfl .nil rfl ?_
   rintro _ _ ⟨rfl, rfl⟩
   refine cQ bB 5 rfl (by omega) ?_
   refine ag rfl ?_
   refine oV (aW (bd rfl rfl) a2) ?_
   refine rO bB 20 rfl ?_
   refine oV (cB V.pQ V.nF rfl (cs := [_, _, _, _, _]) rfl) ?_
   refine aU (aF V.jr rfl rfl (us := [_, _, _, _, _]) rfl rfl (by exact ni) (by exact Nat.le_of_ble_eq_true rfl) rfl) ?_
   refine rO bB 5 rfl ?_
   exact ak (e9 V.jr rfl dJ rfl rfl) ⟨by rw [hs, aa.pB hs (by decide)]; rfl, rfl⟩ (sub (.cons ay .nil) mI)
  ·refine rC bB 4 rfl ?_
   refine oV (ae V.s3 rfl eG rfl) ?_
   refine oV (aE V.mb rfl) ?_
   refine oV (ae V.s3 rfl eG rfl) ?_
   refine ai (m0 (B.getD 9 0) (B.getD 8 0) true (decide_eq_true a1).symm) V.xf  rfl .nil rfl ?_
   rintro _ _ ⟨rfl, rfl⟩
   refine cQ bB 5 rfl (by omega) ?_
   refine ag rfl ?_
   refine oV (aA (bd rfl rfl) a2) ?_
   refine rO bB 3 rfl ?_
   refine ag rfl ?_
   refine oV (aW (bd rfl rfl) a3) ?_
   refine rO bB 16 rfl ?_
   refine oV (cB V.pQ V.nF rfl (cs := [_, _, _, _, _]) rfl) ?_
   refine aU (aF V.jr rfl rfl (us := [_, _, _, _, _]) rfl rfl (by exact ni) (by exact Nat.le_of_ble_eq_true rfl) rfl) ?_
   refine rO bB 5 rfl ?_
   exact ak (e9 V.jr rfl dJ rfl rfl) ⟨by rw [hs, aa.pB hs (by decide)]; rfl, rfl⟩ (sub (.cons ay .nil) mI)
  ·refine rC bB 4 rfl ?_
   refine oV (ae V.s3 rfl eG rfl) ?_
   refine oV (aE V.mb rfl) ?_
   refine oV (ae V.s3 rfl eG rfl) ?_
   refine ai (m0 (B.getD 9 0) (B.getD 8 0) true (decide_eq_true a1).symm) V.xf  rfl .nil rfl ?_
   rintro _ _ ⟨rfl, rfl⟩
   refine cQ bB 5 rfl (by omega) ?_
   refine ag rfl ?_
   refine oV (aA (bd rfl rfl) a2) ?_
   refine rO bB 3 rfl ?_
   refine ag rfl ?_
   refine oV (aA (bd rfl rfl) a3) ?_
   refine rO bB 3 rfl ?_
   refine ag rfl ?_
   refine oV (ae V.s3 rfl eG rfl) ?_
   refine ag rfl ?_
   refine oV (aW (az rfl rfl) a4) ?_
   refine rO bB 11 rfl ?_
   refine oV (cB V.pQ V.nF rfl (cs := [_, _, _, _, _]) rfl) ?_
   refine aU (aF V.jr rfl rfl (us := [_, _, _, _, _]) rfl rfl (by exact ni) (by exact Nat.le_of_ble_eq_true rfl) rfl) ?_
   refine rO bB 5 rfl ?_
   exact ak (e9 V.jr rfl dJ rfl rfl) ⟨by rw [hs, aa.pB hs (by decide)]; rfl, rfl⟩ (sub (.cons ay .nil) mI)
  ·refine rC bB 4 rfl ?_
   refine oV (ae V.s3 rfl eG rfl) ?_
   refine oV (aE V.mb rfl) ?_
   refine oV (ae V.s3 rfl eG rfl) ?_
   refine ai (m0 (B.getD 9 0) (B.getD 8 0) true (decide_eq_true a1).symm) V.xf  rfl .nil rfl ?_
   rintro _ _ ⟨rfl, rfl⟩
   refine cQ bB 5 rfl (by omega) ?_
   refine ag rfl ?_
   refine oV (aA (bd rfl rfl) a2) ?_
   refine rO bB 3 rfl ?_
   refine ag rfl ?_
   refine oV (aA (bd rfl rfl) a3) ?_
   refine rO bB 3 rfl ?_
   refine ag rfl ?_
   refine oV (ae V.s3 rfl eG rfl) ?_
   refine ag rfl ?_
   refine oV (aA (az rfl rfl) a4) ?_
   refine rO bB 3 rfl ?_
   refine ag rfl ?_
   refine oV (ae V.s3 rfl eG rfl) ?_
   refine ag rfl ?_
   refine oV (aW (az rfl rfl) a5) ?_
   refine rO bB 6 rfl ?_
   refine oV (cB V.pQ V.nF rfl (cs := [_, _, _, _, _]) rfl) ?_
   refine aU (aF V.jr rfl rfl (us := [_, _, _, _, _]) rfl rfl (by exact ni) (by exact Nat.le_of_ble_eq_true rfl) rfl) ?_
   refine rO bB 5 rfl ?_
   exact ak (e9 V.jr rfl dJ rfl rfl) ⟨by rw [hs, aa.pB hs (by decide)]; rfl, rfl⟩ (sub (.cons ay .nil) mI)
  ·refine rC bB 4 rfl ?_
   refine oV (ae V.s3 rfl eG rfl) ?_
   refine oV (aE V.mb rfl) ?_
   refine oV (ae V.s3 rfl eG rfl) ?_
   refine ai (m0 (B.getD 9 0) (B.getD 8 0) true (decide_eq_true a1).symm) V.xf  rfl .nil rfl ?_
   rintro _ _ ⟨rfl, rfl⟩
   refine cQ bB 5 rfl (by omega) ?_
   refine ag rfl ?_
   refine oV (aA (bd rfl rfl) a2) ?_
   refine rO bB 3 rfl ?_
   refine ag rfl ?_
   refine oV (aA (bd rfl rfl) a3) ?_
   refine rO bB 3 rfl ?_
   refine ag rfl ?_
   refine oV (ae V.s3 rfl eG rfl) ?_
   refine ag rfl ?_
   refine oV (aA (az rfl rfl) a4) ?_
   refine rO bB 3 rfl ?_
   refine ag rfl ?_
   refine oV (ae V.s3 rfl eG rfl) ?_
   refine ag rfl ?_
   refine oV (aA (az rfl rfl) a5) ?_
   refine rO bB 10 rfl ?_
   refine oV (ae V.s3 rfl eG rfl) ?_
   refine oV (aE V.ug rfl) ?_
   refine oV (ae V.s3 rfl eG rfl) ?_
   refine ai (mY (aJ.dY B) (aJ.dY (B.drop 4))) V.xm  rfl .nil rfl ?_
   rintro _ _ ⟨rfl, rfl⟩
   refine oV (aW (cx rfl rfl) a6) ?_
   refine rO bB 5 rfl ?_
   refine oV (cB V.pQ V.nF rfl (cs := [_, _, _, _, _]) rfl) ?_
   refine aU (aF V.jr rfl rfl (us := [_, _, _, _, _]) rfl rfl (by exact ni) (by exact Nat.le_of_ble_eq_true rfl) rfl) ?_
   refine rO bB 5 rfl ?_
   exact ak (e9 V.jr rfl dJ rfl rfl) ⟨by rw [hs, aa.pB hs (by decide)]; rfl, rfl⟩ (sub (.cons ay .nil) mI)
  ·refine rC bB 4 rfl ?_
   refine oV (ae V.s3 rfl eG rfl) ?_
   refine oV (aE V.mb rfl) ?_
   refine oV (ae V.s3 rfl eG rfl) ?_
   refine ai (m0 (B.getD 9 0) (B.getD 8 0) true (decide_eq_true a1).symm) V.xf  rfl .nil rfl ?_
   rintro _ _ ⟨rfl, rfl⟩
   refine cQ bB 5 rfl (by omega) ?_
   refine ag rfl ?_
   refine oV (aA (bd rfl rfl) a2) ?_
   refine rO bB 3 rfl ?_
   refine ag rfl ?_
   refine oV (aA (bd rfl rfl) a3) ?_
   refine rO bB 3 rfl ?_
   refine ag rfl ?_
   refine oV (ae V.s3 rfl eG rfl) ?_
   refine ag rfl ?_
   refine oV (aA (az rfl rfl) a4) ?_
   refine rO bB 3 rfl ?_
   refine ag rfl ?_
   refine oV (ae V.s3 rfl eG rfl) ?_
   refine ag rfl ?_
   refine oV (aA (az rfl rfl) a5) ?_
   refine rO bB 10 rfl ?_
   refine oV (ae V.s3 rfl eG rfl) ?_
   refine oV (aE V.ug rfl) ?_
   refine oV (ae V.s3 rfl eG rfl) ?_
   refine ai (mY (aJ.dY B) (aJ.dY (B.drop 4))) V.xm  rfl .nil rfl ?_
   rintro _ _ ⟨rfl, rfl⟩
   refine oV (aA (cx rfl rfl) a6) ?_
   refine rO bB 7 rfl ?_
   refine oV (bG V.jr rfl eG (vs := [_, _, _, _, _]) rfl rfl) ?_
   refine aU (aF V.jr rfl rfl (us := [_, _, _, _, _]) rfl rfl (by exact ni) (by exact Nat.le_of_ble_eq_true rfl) rfl) ?_
   refine rO bB 4 rfl ?_
   exact ak (e9 V.jr rfl dJ rfl rfl) ⟨by rw [hs, aa.vK hs]; rfl, rfl⟩ (sub (.cons ay .nil) mI)
end Go.Proofs.YtmaiakpjgomnpaaGreat
namespace Go.Proofs.YtmaiakpjgomnpaaGreat
open Go.Sl
theorem V.z8 : ia Tryz.prog 90 = some 9 := by kernel_rfl
theorem V.iG : cy Tryz.prog 90 0 = some 0 := by kernel_rfl
theorem V.OS : cy Tryz.prog 90 1 = some 5 := by kernel_rfl
theorem V.s8 : cy Tryz.prog 90 2 = some 6 := by kernel_rfl
theorem V.ON : cy Tryz.prog 90 3 = some 7 := by kernel_rfl
theorem V.F2 : cy Tryz.prog 90 4 = some 8 := by kernel_rfl
theorem V.GV : dH Tryz.prog 90 = some ([.int .i64 0, .int .i64 0, .int .i64 0, .int .i64 0, .bool false, .slice none 0 0, .slice none 0 0, .slice none 0 0, .slice none 0 0]) := by kernel_rfl
end Go.Proofs.YtmaiakpjgomnpaaGreat
namespace Go.Proofs.YtmaiakpjgomnpaaGreat
open Go.Sl 
theorem aM : dU Tryz.prog ⟨[22, 59, 84], [(35, 2, 2), (35, 3, 3), (38, 2, 2), (38, 3, 3), (57, 0, 0), (57, 1, 1), (88, 0, 0), (88, 1, 1), (90, 0, 0), (90, 1, 5), (90, 2, 6), (90, 3, 7)]⟩ = true := by kernel_rfl
attribute [local irreducible] aj.au aa.bR aa.up aa.cZ aa.gZ aa.Dh aa.deep aa.parts HW aa.bQ aa.a7 aa.bA aa.bV aa.cS aa.jC aa.jK aa.mC aa.bD aa.c4
theorem zc {es : List Ce} {i : Nat} {kk : List Int} (hi : i ≤ es.length) (h : ∀ j : Nat, j < i → (bj.g es (j : Int)).k ≠ kk) : ∀ j, j < i → ∀ c, (es.map Ce.ch)[j]? = some c → c.k ≠ kk := fun j hj c hc => by
 rw [qp (by omega)] at hc
 cases hc
 exact h j hj
theorem nD {es : List Ce} {x : Ce} (hx : x ∈ es) : ∀ w0 h, DK es w0 h → aS U5 x.p x.d.length x.d w0 h := fun w0 h hh => (hh x hx).rd
theorem FT (R : ad) : ∀ w0 h, R w0 h → aS U5 none 0 [] w0 h := fun _ _ _ => ⟨rfl, rfl, .inl rfl⟩
structure qH where
 pp : Option Addr
 cp : Nat
 P : List Int
 pt : Option Addr
 ct : Nat
 T : List Int
 pd : Option Addr
 cd : Nat
 D : List Int
 hp : Bool
 ht : Bool
def mM (es : List Ce) (i : Nat) (s : qH) : Prop := s.P = aa.me ((es.map Ce.ch).take i) aa.a7 ∧ s.T = aa.me ((es.map Ce.ch).take i) aa.bA ∧ s.D = aa.c4 ((es.map Ce.ch).take i) ∧ s.hp = aa.eQ ((es.map Ce.ch).take i) aa.a7 ∧ s.ht = aa.eQ ((es.map Ce.ch).take i) aa.bA ∧ s.P.length ≤ s.cp ∧ s.T.length ≤ s.ct ∧ (∀ w0 h, DK es w0 h → aS U5 s.pp s.P.length s.P w0 h) ∧ ∀ w0 h, DK es w0 h → aS U5 s.pt s.T.length s.T w0 h
theorem O1 (es : List Ce) : mM es 0 ⟨none, 0, [], none, 0, [], none, 0, [], false, false⟩ := ⟨rfl, rfl, by unfold aa.c4; rfl, rfl, rfl, Nat.le_refl _, Nat.le_refl _, FT _, FT _⟩
section
variable {es : List Ce} {i : Nat} {s : qH} {x : Ce} (hs : mM es i s) (hx : (es.map Ce.ch)[i]? = some x.ch)
include hs hx
theorem OI (hk : x.k = aa.a7) (hm : x ∈ es) (ho : x.d.length ≤ x.c) : mM es (i + 1) { s with pp := x.p, cp := x.c, P := x.d, hp := true } := by
 obtain ⟨h1, h2, h3, h4, h5, h6, h7, h8, h9⟩ := hs
 have hk : x.ch.k = aa.a7 := hk
 refine ⟨?_, ?_, ?_, ?_, ?_, ho, h7, nD hm, h9⟩
 ·rw [aa.lk hx, if_pos hk]; rfl
 ·rw [aa.lk hx, if_neg (by rw [hk]; exact aa.Gc)]; exact h2
 ·rw [aa.tW hx, if_neg (by rw [hk]; exact aa.JU)]; exact h3
 ·rw [aa.mB hx, hk]; simp
 ·rw [aa.mB hx, hk, ← h5, beq_false_of_ne aa.Gc, Bool.or_false]
theorem N0 (hk : x.k = aa.bA) (hm : x ∈ es) (ho : x.d.length ≤ x.c) : mM es (i + 1) { s with pt := x.p, ct := x.c, T := x.d, ht := true } := by
 obtain ⟨h1, h2, h3, h4, h5, h6, h7, h8, h9⟩ := hs
 have hk : x.ch.k = aa.bA := hk
 refine ⟨?_, ?_, ?_, ?_, ?_, h6, ho, h8, nD hm⟩
 ·rw [aa.lk hx, if_neg (by rw [hk]; exact aa.Gc.symm)]; exact h1
 ·rw [aa.lk hx, if_pos hk]; rfl
 ·rw [aa.tW hx, if_neg (by rw [hk]; exact aa.JL)]; exact h3
 ·rw [aa.mB hx, hk, ← h4, beq_false_of_ne aa.Gc.symm, Bool.or_false]
 ·rw [aa.mB hx, hk]; simp
theorem F6 (hk : x.k = aa.bQ) (p : Option Addr) (c : Nat) : mM es (i + 1) { s with pd := p, cd := c, D := s.D ++ x.d } := by
 obtain ⟨h1, h2, h3, h4, h5, h6, h7, h8, h9⟩ := hs
 have hk : x.ch.k = aa.bQ := hk
 refine ⟨?_, ?_, ?_, ?_, ?_, h6, h7, h8, h9⟩
 ·rw [aa.lk hx, if_neg (by rw [hk]; exact aa.JU.symm)]; exact h1
 ·rw [aa.lk hx, if_neg (by rw [hk]; exact aa.JL.symm)]; exact h2
 ·rw [aa.tW hx, if_pos hk, ← h3]; rfl
 ·rw [aa.mB hx, hk, ← h4, beq_false_of_ne aa.JU.symm, Bool.or_false]
 ·rw [aa.mB hx, hk, ← h5, beq_false_of_ne aa.JL.symm, Bool.or_false]
theorem N6 (k1 : x.k ≠ aa.a7) (k2 : x.k ≠ aa.bA) (k3 : x.k ≠ aa.bQ) : mM es (i + 1) s := by
 obtain ⟨h1, h2, h3, h4, h5, h6, h7, h8, h9⟩ := hs
 have k1 : x.ch.k ≠ aa.a7 := k1
 have k2 : x.ch.k ≠ aa.bA := k2
 have k3 : x.ch.k ≠ aa.bQ := k3
 refine ⟨?_, ?_, ?_, ?_, ?_, h6, h7, h8, h9⟩
 ·rw [aa.lk hx, if_neg k1]; exact h1
 ·rw [aa.lk hx, if_neg k2]; exact h2
 ·rw [aa.tW hx, if_neg k3]; exact h3
 ·rw [aa.mB hx, ← h4]; simp [k1]
 ·rw [aa.mB hx, ← h5]; simp [k2]
end
set_option maxHeartbeats 1000000 in
theorem QN (p : Option Addr) (c : Nat) (es : List Ce) (R : ad) (hR : ∀ w0 h, R w0 h → aS bj p es.length es w0 h) (hel : es.length ≤ 262144) (hok : G2 es) (kk : List Int) (hk : aj.au kk) : aG Tryz.prog 45 [.slice p es.length c, .string (strOfNums kk)] [R] (aQ fun v G => ∃ q cq, v = .tuple #[.slice q (aa.cm (es.map Ce.ch) kk).length cq, .bool (aa.eQ (es.map Ce.ch) kk)] ∧ (∀ w0 h, DK es w0 h → aS U5 q (aa.cm (es.map Ce.ch) kk).length (aa.cm (es.map Ce.ch) kk) w0 h) ∧ G = [R]) := by
 refine av [(0, _), (1, _)] Tryz.func45 rfl Tryz.ntmps45 rfl rfl ?_
 intro w0 F
 refine rT aM 13 rfl ?_
 refine eb (fun (i : Nat) => [(0, .slice p es.length c), (1, .string (strOfNums kk)), (6, .int .i64 (i : Int))]) (fun (i : Nat) => R :: F) (fun (i : Nat) => i ≤ es.length ∧ ∀ j : Nat, j < i → (bj.g es (j : Int)).k ≠ kk) (fun (i : Nat) => es.length - i) (i1 (0) ?_ (js ln) (sub (ar .nil) aw)) ?_
 ·exact ⟨Nat.zero_le _, fun j hj => by omega⟩
 intro i
 rintro ⟨hi, hall⟩
 refine rL aM 9 rfl ?_
 refine aN rfl (fun h10 => ?_) (fun h10 => ?_)
 ·refine rC aM 4 rfl ?_
  rcases (Classical.em ((bj.g es (i : Int)).k = kk)) with hke | hke
  ·refine rC aM 1 rfl ?_
   have hcx := qp (es := es) (i := i) (by omega)
   have hxo := nb (i := i) (fun x => aj.au x.k ∧ x.k.length < 500000000) hok (by omega)
   have hxk : aj.au (bj.g es (i : Int)).k := hxo.1
   have hxm := nb (i := i) (fun x => x ∈ es) (fun x hx => hx) (by omega)
   refine rC aM 3 rfl ?_
   refine oV (xI V.kl (by exact bE hR an)) ?_
   refine oV (aE V.tG rfl) ?_
   refine oV (dW (c := (bj)) 0 V.s9 rfl (by exact bE hR an) (by omega) (by omega) rfl rfl) ?_
   refine oV (aK rfl) ?_
   refine oV (fe (aa.aY hxk) (aa.aY hk) rfl rfl (decide_eq_true hke).symm) ?_
   refine rO aM 7 rfl ?_
   refine oV (xI V.kl (by exact bE hR an)) ?_
   refine oV (aE V.vS rfl) ?_
   refine oV (dW (c := (bj)) 1 V.eC rfl (by exact bE hR an) (by omega) (by omega) rfl rfl) ?_
   refine rO aM 10 rfl ?_
   obtain ⟨e1, e2⟩ := aa.wg hcx hke (zc (by omega) hall)
   rw [e1, e2]
   exact ak (fD rfl rfl) ⟨(bj.g es (i : Int)).p, (bj.g es (i : Int)).c, rfl, nD hxm, rfl⟩ (sub (ar .nil) aw)
  ·refine rC aM 1 rfl ?_
   have hcx := qp (es := es) (i := i) (by omega)
   have hxo := nb (i := i) (fun x => aj.au x.k ∧ x.k.length < 500000000) hok (by omega)
   have hxk : aj.au (bj.g es (i : Int)).k := hxo.1
   have hxm := nb (i := i) (fun x => x ∈ es) (fun x hx => hx) (by omega)
   refine rC aM 3 rfl ?_
   refine oV (xI V.kl (by exact bE hR an)) ?_
   refine oV (aE V.tG rfl) ?_
   refine oV (dW (c := (bj)) 0 V.s9 rfl (by exact bE hR an) (by omega) (by omega) rfl rfl) ?_
   refine oV (aK rfl) ?_
   refine oV (fe (aa.aY hxk) (aa.aY hk) rfl rfl (decide_eq_false hke).symm) ?_
   refine cQ aM 11 rfl (by omega) ?_
   refine j1 (i + 1) ?_ (js ln) (sub (ar .nil) aw)
   exact ⟨⟨by omega, fun j hj => (Nat.lt_succ_iff_lt_or_eq.1 hj).elim (hall j) (fun e => e ▸ hke)⟩, by omega⟩
 ·refine rC aM 12 rfl ?_
  obtain ⟨e1, e2⟩ := aa.yi (k := kk) (L := (es.map Ce.ch)) (by rw [List.length_map]; exact fun j hj => zc hi hall j (by omega))
  rw [e1, e2]
  exact ak (fD rfl rfl) ⟨none, 0, rfl, FT _, rfl⟩ (sub (ar .nil) aw)
set_option maxHeartbeats 4000000 in
theorem sL (p : Option Addr) (c : Nat) (es : List Ce) (R : ad) (hR : ∀ w0 h, R w0 h → aS CK p es.length es w0 h) (hel : es.length ≤ 262144) (hok : G2 es) (hco : ∀ y ∈ es, zr y) (hsum : aa.j0 (es.map Ce.ch) < 500000000) : aG Tryz.prog 39 [.slice p es.length c] [R, DK es] (aQ fun v G => ∃ s : qH, mM es es.length s ∧ v = .tuple #[.agg #[.int .i64 0, .int .i64 0, .int .i64 0, .int .i64 0, .bool false, .slice s.pp s.P.length s.cp, .slice s.pt s.T.length s.ct, .slice s.pd s.D.length s.cd, .slice none 0 0], .bool s.hp, .bool s.ht] ∧ G = [Row U5 s.pd s.D.length s.cd s.D, R, DK es]) := by
 refine av [(0, _)] Tryz.func39 rfl Tryz.ntmps39 rfl rfl ?_
 intro w0 F
 refine rT aM 2 rfl ?_
 refine cC V.GV rfl ?_
 intro b2
 refine rO aM 13 rfl ?_
 refine gp (Row U5 none 0 0 []) (Row.nil _ _ _) ?_
 refine il (fun (i : Nat) (s : qH) => [(2, .pointer (some ⟨b2, 0, none⟩)), (3, .bool s.hp), (4, .bool s.ht), (7, .slice p es.length c), (8, .int .i64 (es.length : Int)), (9, .int .i64 (i : Int))]) (fun (i : Nat) (s : qH) => ao b2 90 [.int .i64 0, .int .i64 0, .int .i64 0, .int .i64 0, .bool false, .slice s.pp s.P.length s.cp, .slice s.pt s.T.length s.ct, .slice s.pd s.D.length s.cd, .slice none 0 0] :: Row U5 s.pd s.D.length s.cd s.D :: R :: DK es :: F) (fun (i : Nat) (s : qH) => i ≤ es.length ∧ mM es i s) (fun (i : Nat) (s : qH) => es.length - i) (i2 (0) (⟨none, 0, [], none, 0, [], none, 0, [], false, false⟩) ?_ (kQ (dp ln)) (sub (.cons ay (gm .nil)) aw)) ?_
 ·exact ⟨Nat.zero_le _, O1 es⟩
 intro i s
 rintro ⟨hi, hs⟩
 refine rL aM 6 rfl ?_
 refine aN rfl (fun h10 => ?_) (fun h10 => ?_)
 ·refine rC aM 5 rfl ?_
  have hcx : (es.map Ce.ch)[i]? = some (CK.g es (i : Int)).ch := qp (es := es) (i := i) (by omega)
  have hxo := nb (i := i) (fun x => aj.au x.k ∧ x.k.length < 500000000) hok (by omega)
  have hxk : aj.au (CK.g es (i : Int)).k := hxo.1
  have hxm : (CK.g es (i : Int)) ∈ es := nb (i := i) (fun x => x ∈ es) (fun x hx => hx) (by omega)
  have hxc : (CK.g es (i : Int)).d.length ≤ (CK.g es (i : Int)).c := hco _ hxm
  refine bK ?_
  refine oV (xI V.gv (by exact bE hR dJ)) ?_
  refine oV (oa (c := (CK)) V.jS rfl (by exact bE hR dJ) (by omega) (by omega) rfl) ?_
  refine cC V.lz rfl ?_
  intro b6
  refine aU (aF V.jS rfl rfl (us := [_, _]) rfl rfl (by exact cY) (by exact Nat.le_of_ble_eq_true rfl) rfl) ?_
  refine rO aM 2 rfl ?_
  rcases ((by by_cases h0 : (CK.g es (i : Int)).k = aa.a7; exact .inl h0; by_cases h1 : (CK.g es (i : Int)).k = aa.bA; exact .inr (.inl ⟨h0, h1⟩); by_cases h2 : (CK.g es (i : Int)).k = aa.bQ; exact .inr (.inr (.inl ⟨h0, h1, h2⟩)); exact .inr (.inr (.inr ⟨h0, h1, h2⟩)) : (CK.g es (i : Int)).k = aa.a7 ∨ ((CK.g es (i : Int)).k ≠ aa.a7 ∧ (CK.g es (i : Int)).k = aa.bA) ∨ ((CK.g es (i : Int)).k ≠ aa.a7 ∧ (CK.g es (i : Int)).k ≠ aa.bA ∧ (CK.g es (i : Int)).k = aa.bQ) ∨ ((CK.g es (i : Int)).k ≠ aa.a7 ∧ (CK.g es (i : Int)).k ≠ aa.bA ∧ (CK.g es (i : Int)).k ≠ aa.bQ))) with a0 | ⟨a0, a1⟩ | ⟨a0, a1, a2⟩ | ⟨a0, a1, a2⟩
  ·refine rC aM 3 rfl ?_
   refine oV (ae V.s9 rfl an rfl) ?_
   refine rO aM 5 rfl ?_
   refine oV (fe (aa.aY hxk) (aa.aY aa.jZ) rfl (show aq _ _ = some (.string (strOfNums aa.a7)) by unfold aa.a7; rfl) (decide_eq_true a0).symm) ?_
   refine rO aM 6 rfl ?_
   refine oV (ae V.eC rfl an rfl) ?_
   refine oV (aE V.OS rfl) ?_
   refine aU (bZ V.eC rfl rfl rfl (by exact mh) (by exact Nat.le_of_ble_eq_true rfl) rfl) ?_
   refine cQ aM 9 rfl (by omega) ?_
   (exact j2 (i + 1) { s with pp := (CK.g es (i : Int)).p, cp := (CK.g es (i : Int)).c, P := (CK.g es (i : Int)).d, hp := true } ⟨⟨by omega, OI hs hcx a0 hxm hxc⟩, by omega⟩ (kQ (dp ln)) (sub (.cons ay (.cons ay (.cons ay (.cons ay .nil)))) cD))
  ·refine rC aM 3 rfl ?_
   refine oV (ae V.s9 rfl an rfl) ?_
   refine rO aM 5 rfl ?_
   refine oV (fe (aa.aY hxk) (aa.aY aa.jZ) rfl (show aq _ _ = some (.string (strOfNums aa.a7)) by unfold aa.a7; rfl) (decide_eq_false a0).symm) ?_
   refine rO aM 6 rfl ?_
   refine oV (fe (aa.aY hxk) (aa.aY aa.l7) rfl (show aq _ _ = some (.string (strOfNums aa.bA)) by unfold aa.bA; rfl) (decide_eq_true a1).symm) ?_
   refine rO aM 6 rfl ?_
   refine oV (ae V.eC rfl an rfl) ?_
   refine oV (aE V.s8 rfl) ?_
   refine aU (bZ V.eC rfl rfl rfl (by exact mh) (by exact Nat.le_of_ble_eq_true rfl) rfl) ?_
   refine cQ aM 9 rfl (by omega) ?_
   (exact j2 (i + 1) { s with pt := (CK.g es (i : Int)).p, ct := (CK.g es (i : Int)).c, T := (CK.g es (i : Int)).d, ht := true } ⟨⟨by omega, N0 hs hcx a1 hxm hxc⟩, by omega⟩ (kQ (dp ln)) (sub (.cons ay (.cons ay (.cons ay (.cons ay .nil)))) cD))
  ·refine rC aM 3 rfl ?_
   refine oV (ae V.s9 rfl an rfl) ?_
   refine rO aM 5 rfl ?_
   refine oV (fe (aa.aY hxk) (aa.aY aa.jZ) rfl (show aq _ _ = some (.string (strOfNums aa.a7)) by unfold aa.a7; rfl) (decide_eq_false a0).symm) ?_
   refine rO aM 6 rfl ?_
   refine oV (fe (aa.aY hxk) (aa.aY aa.l7) rfl (show aq _ _ = some (.string (strOfNums aa.bA)) by unfold aa.bA; rfl) (decide_eq_false a1).symm) ?_
   refine rO aM 6 rfl ?_
   refine oV (fe (aa.aY hxk) (aa.aY aa.kz) rfl (show aq _ _ = some (.string (strOfNums aa.bQ)) by unfold aa.bQ; rfl) (decide_eq_true a2).symm) ?_
   refine rO aM 4 rfl ?_
   have hd1 := aa.ox ((es.map Ce.ch).take (i + 1))
   have hd2 := aa.xO (es.map Ce.ch) (i + 1)
   rw [← (F6 hs hcx a2 none 0).2.2.1] at hd1
   have hd3 : (s.D ++ (CK.g es (i : Int)).d).length = s.D.length + (CK.g es (i : Int)).d.length := List.length_append
   have hd4 : s.D.length + (CK.g es (i : Int)).d.length < 500000000 := by rw [← hd3]; exact Nat.lt_of_le_of_lt hd1 (by omega)
   refine rC aM 2 rfl ?_
   refine oV (ae V.eC rfl bW rfl) ?_
   refine oV (aE V.lx rfl) ?_
   refine oV (ae V.eC rfl an rfl) ?_
   refine dw (c := (U5)) V.bY V.z5 rfl rfl rfl rfl bX (M6 (f := MY) jF hxm) (by omega) rfl ?_
   intro p31 c31
   refine oV (aE V.ON rfl) ?_
   refine aU (bZ V.eC rfl rfl rfl (by exact ni) (by exact Nat.le_of_ble_eq_true rfl) rfl) ?_
   refine cQ aM 8 rfl (by omega) ?_
   (rw [← List.length_append]; exact j2 (i + 1) { s with pd := p31, cd := c31, D := s.D ++ (CK.g es (i : Int)).d } ⟨⟨by omega, F6 hs hcx a2 _ _⟩, by omega⟩ (kQ (dp ln)) (sub (.cons bX (ar (.cons ay (.cons ay .nil)))) cD))
  ·refine rC aM 3 rfl ?_
   refine oV (ae V.s9 rfl an rfl) ?_
   refine rO aM 5 rfl ?_
   refine oV (fe (aa.aY hxk) (aa.aY aa.jZ) rfl (show aq _ _ = some (.string (strOfNums aa.a7)) by unfold aa.a7; rfl) (decide_eq_false a0).symm) ?_
   refine rO aM 6 rfl ?_
   refine oV (fe (aa.aY hxk) (aa.aY aa.l7) rfl (show aq _ _ = some (.string (strOfNums aa.bA)) by unfold aa.bA; rfl) (decide_eq_false a1).symm) ?_
   refine rO aM 6 rfl ?_
   refine oV (fe (aa.aY hxk) (aa.aY aa.kz) rfl (show aq _ _ = some (.string (strOfNums aa.bQ)) by unfold aa.bQ; rfl) (decide_eq_false a2).symm) ?_
   refine cQ aM 12 rfl (by omega) ?_
   (exact j2 (i + 1) s ⟨⟨by omega, N6 hs hcx a0 a1 a2⟩, by omega⟩ (kQ (dp ln)) (sub (.cons ay (.cons ay (.cons ay (.cons ay .nil)))) cD))
 ·refine rC aM 6 rfl ?_
  obtain rfl : i = es.length := by omega
  refine bK ?_
  refine oV (bG V.z8 rfl an (vs := [_, _, _, _, _, _, _, _, _]) rfl rfl) ?_
  refine rO aM 2 rfl ?_
  refine aU (aF V.z8 rfl rfl (us := [_, _, _, _, _, _, _, _, _]) rfl rfl (by exact cY) (by exact Nat.le_of_ble_eq_true rfl) rfl) ?_
  refine rO aM 5 rfl ?_
  exact ak (oL V.z8 rfl an rfl rfl rfl) ⟨s, hs, rfl, rfl⟩ (sub (.cons ay (.cons ay (.cons ay .nil))) cD)
set_option maxHeartbeats 2000000 in
theorem BQ (h : aa.Hd) (hd : aa.jH h.dep) (bf : Nat) (pp : Option Addr) (pl : List Int) (cp : Nat) (pt : Option Addr) (tr : List Int) (ct : Nat) (pd : Option Addr) (nd cd : Nat) (pk : Option Addr) (nk ck : Nat) (hl : pl.length < 500000000) (t : Bool) (ht : t = decide (aa.jC h pl false)) : aG Tryz.prog 40 [.pointer (some ⟨bf, 0, none⟩), .bool false] [ao bf 90 [.int .i64 h.w, .int .i64 h.h, .int .i64 h.dep, .int .i64 h.ax, .bool h.cA, .slice pp pl.length cp, .slice pt tr.length ct, .slice pd nd cd, .slice pk nk ck]] (aQ fun v G => v = .bool t ∧ G = [ao bf 90 [.int .i64 h.w, .int .i64 h.h, .int .i64 h.dep, .int .i64 h.ax, .bool h.cA, .slice pp pl.length cp, .slice pt tr.length ct, .slice pd nd cd, .slice pk nk ck]]) := by
 refine av [(0, _), (1, _)] Tryz.func40 rfl Tryz.ntmps40 rfl rfl ?_
 intro w0 F
 obtain ⟨P, hP⟩ : ∃ P : Int, P = 2 ^ h.dep.toNat := ⟨_, rfl⟩
 have hpb : 2 ≤ P ∧ P ≤ 65536 := hP ▸ aa.mP hd
 have hdi := aa.jR hd
 refine rT aM 10 rfl ?_
 refine oV (ae V.eC rfl an rfl) ?_
 refine rO aM 20 rfl ?_
 refine oV (ae V.s3 rfl an rfl) ?_
 refine rO aM 7 rfl ?_
 obtain rfl : t = decide (h.ax ≠ 3) := ht.trans (decide_eq_decide.2 (aa.K3 h pl))
 exact ak (aC rfl) ⟨rfl, rfl⟩ (sub (ar .nil) aw)
set_option maxHeartbeats 2000000 in
theorem Db (h : aa.Hd) (hd : aa.jH h.dep) (bf : Nat) (pp : Option Addr) (pl : List Int) (cp : Nat) (pt : Option Addr) (tr : List Int) (ct : Nat) (pd : Option Addr) (nd cd : Nat) (pk : Option Addr) (nk ck : Nat) (hl : pl.length < 500000000) (t : Bool) (ht : t = decide (aa.jC h pl true)) : aG Tryz.prog 40 [.pointer (some ⟨bf, 0, none⟩), .bool true] [ao bf 90 [.int .i64 h.w, .int .i64 h.h, .int .i64 h.dep, .int .i64 h.ax, .bool h.cA, .slice pp pl.length cp, .slice pt tr.length ct, .slice pd nd cd, .slice pk nk ck]] (aQ fun v G => v = .bool t ∧ G = [ao bf 90 [.int .i64 h.w, .int .i64 h.h, .int .i64 h.dep, .int .i64 h.ax, .bool h.cA, .slice pp pl.length cp, .slice pt tr.length ct, .slice pd nd cd, .slice pk nk ck]]) := by
 refine av [(0, _), (1, _)] Tryz.func40 rfl Tryz.ntmps40 rfl rfl ?_
 intro w0 F
 obtain ⟨P, hP⟩ : ∃ P : Int, P = 2 ^ h.dep.toNat := ⟨_, rfl⟩
 have hpb : 2 ≤ P ∧ P ≤ 65536 := hP ▸ aa.mP hd
 have hdi := aa.jR hd
 refine rT aM 10 rfl ?_
 refine oV (ae V.eC rfl an rfl) ?_
 refine rO aM 6 rfl ?_
 rcases (aa.JF (plte := pl) hP) with ⟨a1, a⟩ | ⟨a1, a2, a⟩ | ⟨a1, a2, a3, a4, a⟩ | ⟨a1, a2, a3, a4, a⟩ | ⟨a1, a2, a3, a⟩
 ·refine rC aM 14 rfl ?_
  refine oV (ae V.s3 rfl an rfl) ?_
  refine oV (aW (az rfl rfl) a1) ?_
  refine rO aM 20 rfl ?_
  obtain rfl : t = false := ht.trans (decide_eq_false a)
  exact ak (aC rfl) ⟨rfl, rfl⟩ (sub (ar .nil) aw)
 ·refine rC aM 14 rfl ?_
  refine oV (ae V.s3 rfl an rfl) ?_
  refine oV (aA (az rfl rfl) a1) ?_
  refine rO aM 5 rfl ?_
  refine ag rfl ?_
  refine oV (ae V.s3 rfl an rfl) ?_
  refine ag rfl ?_
  refine oV (aW (az rfl rfl) a2) ?_
  refine rO aM 13 rfl ?_
  obtain rfl : t = false := ht.trans (decide_eq_false a)
  exact ak (aC rfl) ⟨rfl, rfl⟩ (sub (ar .nil) aw)
 ·refine rC aM 14 rfl ?_
  refine oV (ae V.s3 rfl an rfl) ?_
  refine oV (aA (az rfl rfl) a1) ?_
  refine rO aM 5 rfl ?_
  refine ag rfl ?_
  refine oV (ae V.s3 rfl an rfl) ?_
  refine ag rfl ?_
  refine oV (aA (az rfl rfl) a2) ?_
  refine rO aM 11 rfl ?_
  refine oV (ae V.s3 rfl an rfl) ?_
  refine oV (aW (az rfl rfl) a3) ?_
  refine rO aM 2 rfl ?_
  refine ag rfl ?_
  refine oV (fY rfl rfl (by omega) (jL (by omega) (by omega) (by omega))) ?_
  refine rO aM 4 rfl ?_
  refine ag rfl ?_
  refine oV (ae V.s3 rfl an rfl) ?_
  refine ag rfl ?_
  refine oV (gb (r := P) rfl rfl (by omega) ((aa.mO hd).trans hP.symm)) ?_
  refine ag rfl ?_
  refine oV (aW (bd rfl rfl) a4) ?_
  refine rO aM 13 rfl ?_
  obtain rfl : t = false := ht.trans (decide_eq_false a)
  exact ak (aC rfl) ⟨rfl, rfl⟩ (sub (ar .nil) aw)
 ·refine rC aM 14 rfl ?_
  refine oV (ae V.s3 rfl an rfl) ?_
  refine oV (aA (az rfl rfl) a1) ?_
  refine rO aM 5 rfl ?_
  refine ag rfl ?_
  refine oV (ae V.s3 rfl an rfl) ?_
  refine ag rfl ?_
  refine oV (aA (az rfl rfl) a2) ?_
  refine rO aM 11 rfl ?_
  refine oV (ae V.s3 rfl an rfl) ?_
  refine oV (aW (az rfl rfl) a3) ?_
  refine rO aM 2 rfl ?_
  refine ag rfl ?_
  refine oV (fY rfl rfl (by omega) (jL (by omega) (by omega) (by omega))) ?_
  refine rO aM 4 rfl ?_
  refine ag rfl ?_
  refine oV (ae V.s3 rfl an rfl) ?_
  refine ag rfl ?_
  refine oV (gb (r := P) rfl rfl (by omega) ((aa.mO hd).trans hP.symm)) ?_
  refine ag rfl ?_
  refine oV (aA (bd rfl rfl) a4) ?_
  refine rO aM 8 rfl ?_
  rcases (aa.Lc pl.length) with c1 | ⟨c1, c2⟩ | ⟨c1, c2⟩
  ·refine rC aM 3 rfl ?_
   refine oV (gV rfl rfl (by omega) (jy (by omega))) ?_
   refine oV (aA (az rfl rfl) (by omega)) ?_
   refine rO aM 13 rfl ?_
   (obtain rfl : t = false := ht.trans (decide_eq_false (fun q => by have := a.1 q; omega)); exact ak (G := [ao bf 90 [.int .i64 h.w, .int .i64 h.h, .int .i64 h.dep, .int .i64 h.ax, .bool h.cA, .slice pp pl.length cp, .slice pt tr.length ct, .slice pd nd cd, .slice pk nk ck]]) (aC rfl) ⟨rfl, rfl⟩ (sub (ar .nil) aw))
  ·refine rC aM 3 rfl ?_
   refine oV (gV rfl rfl (by omega) (jy (by omega))) ?_
   refine oV (aW (az rfl rfl) (by omega)) ?_
   refine rO aM 2 rfl ?_
   refine ag rfl ?_
   refine oV (aA (bd rfl rfl) (by omega)) ?_
   refine rO aM 10 rfl ?_
   (obtain rfl : t = false := ht.trans (decide_eq_false (fun q => by have := a.1 q; omega)); exact ak (G := [ao bf 90 [.int .i64 h.w, .int .i64 h.h, .int .i64 h.dep, .int .i64 h.ax, .bool h.cA, .slice pp pl.length cp, .slice pt tr.length ct, .slice pd nd cd, .slice pk nk ck]]) (aC rfl) ⟨rfl, rfl⟩ (sub (ar .nil) aw))
  ·refine rC aM 3 rfl ?_
   refine oV (gV rfl rfl (by omega) (jy (by omega))) ?_
   refine oV (aW (az rfl rfl) (by omega)) ?_
   refine rO aM 2 rfl ?_
   refine ag rfl ?_
   refine oV (aW (bd rfl rfl) (by omega)) ?_
   refine rO aM 3 rfl ?_
   refine ag rfl ?_
   refine oV (fY rfl rfl (by omega) (jL (by omega) (by omega) (by omega))) ?_
   refine rO aM 6 rfl ?_
   (obtain rfl : t = decide ((pl.length : Int) / 3 ≤ 256) := ht.trans (decide_eq_decide.2 (a.trans (by omega))); exact ak (G := [ao bf 90 [.int .i64 h.w, .int .i64 h.h, .int .i64 h.dep, .int .i64 h.ax, .bool h.cA, .slice pp pl.length cp, .slice pt tr.length ct, .slice pd nd cd, .slice pk nk ck]]) (aC rfl) ⟨rfl, rfl⟩ (sub (ar .nil) aw))
 ·refine rC aM 14 rfl ?_
  refine oV (ae V.s3 rfl an rfl) ?_
  refine oV (aA (az rfl rfl) a1) ?_
  refine rO aM 5 rfl ?_
  refine ag rfl ?_
  refine oV (ae V.s3 rfl an rfl) ?_
  refine ag rfl ?_
  refine oV (aA (az rfl rfl) a2) ?_
  refine rO aM 11 rfl ?_
  refine oV (ae V.s3 rfl an rfl) ?_
  refine oV (aA (az rfl rfl) a3) ?_
  refine rO aM 18 rfl ?_
  rcases (aa.Lc pl.length) with c1 | ⟨c1, c2⟩ | ⟨c1, c2⟩
  ·refine rC aM 3 rfl ?_
   refine oV (gV rfl rfl (by omega) (jy (by omega))) ?_
   refine oV (aA (az rfl rfl) (by omega)) ?_
   refine rO aM 13 rfl ?_
   (obtain rfl : t = false := ht.trans (decide_eq_false (fun q => by have := a.1 q; omega)); exact ak (G := [ao bf 90 [.int .i64 h.w, .int .i64 h.h, .int .i64 h.dep, .int .i64 h.ax, .bool h.cA, .slice pp pl.length cp, .slice pt tr.length ct, .slice pd nd cd, .slice pk nk ck]]) (aC rfl) ⟨rfl, rfl⟩ (sub (ar .nil) aw))
  ·refine rC aM 3 rfl ?_
   refine oV (gV rfl rfl (by omega) (jy (by omega))) ?_
   refine oV (aW (az rfl rfl) (by omega)) ?_
   refine rO aM 2 rfl ?_
   refine ag rfl ?_
   refine oV (aA (bd rfl rfl) (by omega)) ?_
   refine rO aM 10 rfl ?_
   (obtain rfl : t = false := ht.trans (decide_eq_false (fun q => by have := a.1 q; omega)); exact ak (G := [ao bf 90 [.int .i64 h.w, .int .i64 h.h, .int .i64 h.dep, .int .i64 h.ax, .bool h.cA, .slice pp pl.length cp, .slice pt tr.length ct, .slice pd nd cd, .slice pk nk ck]]) (aC rfl) ⟨rfl, rfl⟩ (sub (ar .nil) aw))
  ·refine rC aM 3 rfl ?_
   refine oV (gV rfl rfl (by omega) (jy (by omega))) ?_
   refine oV (aW (az rfl rfl) (by omega)) ?_
   refine rO aM 2 rfl ?_
   refine ag rfl ?_
   refine oV (aW (bd rfl rfl) (by omega)) ?_
   refine rO aM 3 rfl ?_
   refine ag rfl ?_
   refine oV (fY rfl rfl (by omega) (jL (by omega) (by omega) (by omega))) ?_
   refine rO aM 6 rfl ?_
   (obtain rfl : t = decide ((pl.length : Int) / 3 ≤ 256) := ht.trans (decide_eq_decide.2 (a.trans (by omega))); exact ak (G := [ao bf 90 [.int .i64 h.w, .int .i64 h.h, .int .i64 h.dep, .int .i64 h.ax, .bool h.cA, .slice pp pl.length cp, .slice pt tr.length ct, .slice pd nd cd, .slice pk nk ck]]) (aC rfl) ⟨rfl, rfl⟩ (sub (ar .nil) aw))
set_option maxHeartbeats 1000000 in
theorem Am (h : aa.Hd) (hd : aa.jH h.dep) (bf : Nat) (pp : Option Addr) (pl : List Int) (cp : Nat) (pt : Option Addr) (tr : List Int) (ct : Nat) (pd : Option Addr) (nd cd : Nat) (hpl : pl.length < 500000000) (htr : tr = []) (htl : tr.length < 500000000) (hB : aj.au tr) (t : Bool) (ht : t = true) : aG Tryz.prog 41 [.pointer (some ⟨bf, 0, none⟩), .bool false] [ao bf 90 [.int .i64 h.w, .int .i64 h.h, .int .i64 h.dep, .int .i64 h.ax, .bool h.cA, .slice pp pl.length cp, .slice pt tr.length ct, .slice pd nd cd, .slice none 0 0]] (aQ fun v G => ∃ pk nk ck K, (t = true → K = aa.bD h tr) ∧ K.length = nk ∧ v = .bool t ∧ G = [ao bf 90 [.int .i64 h.w, .int .i64 h.h, .int .i64 h.dep, .int .i64 h.ax, .bool h.cA, .slice pp pl.length cp, .slice pt tr.length ct, .slice pd nd cd, .slice pk nk ck], Row (aP 3 .i64) pk nk ck K]) := by
 refine av [(0, _), (1, _)] Tryz.func41 rfl Tryz.ntmps41 rfl rfl ?_
 intro w0 F
 refine rT aM 20 rfl ?_
 subst ht
 exact ak (aC rfl) ⟨none, 0, 0, [], (fun _ => by rw [htr, aa.IP]), rfl, rfl, rfl⟩ ((ej (A := Row (aP 3 .i64) none 0 0 []) (fun w0 => Row.nil _ _ _)).trans (sub (.cons ay (ar .nil)) aw))
set_option maxHeartbeats 4000000 in
theorem AL (h : aa.Hd) (hd : aa.jH h.dep) (bf : Nat) (pp : Option Addr) (pl : List Int) (cp : Nat) (pt : Option Addr) (tr : List Int) (ct : Nat) (pd : Option Addr) (nd cd : Nat) (hpl : pl.length < 500000000) (htl : tr.length < 500000000) (hB : aj.au tr) (R : ad) (hR : ∀ w0 h, R w0 h → aS U5 pt tr.length tr w0 h) (t : Bool) (ht : t = decide (aa.jK h pl tr true)) : aG Tryz.prog 41 [.pointer (some ⟨bf, 0, none⟩), .bool true] [ao bf 90 [.int .i64 h.w, .int .i64 h.h, .int .i64 h.dep, .int .i64 h.ax, .bool h.cA, .slice pp pl.length cp, .slice pt tr.length ct, .slice pd nd cd, .slice none 0 0], R] (aQ fun v G => ∃ pk nk ck K, (t = true → K = aa.bD h tr) ∧ K.length = nk ∧ v = .bool t ∧ G = [ao bf 90 [.int .i64 h.w, .int .i64 h.h, .int .i64 h.dep, .int .i64 h.ax, .bool h.cA, .slice pp pl.length cp, .slice pt tr.length ct, .slice pd nd cd, .slice pk nk ck], Row (aP 3 .i64) pk nk ck K, R]) := by
 refine av [(0, _), (1, _)] Tryz.func41 rfl Tryz.ntmps41 rfl rfl ?_
 intro w0 F
 obtain ⟨P, hP⟩ : ∃ P : Int, P = 2 ^ h.dep.toNat := ⟨_, rfl⟩
 have hpb : 2 ≤ P ∧ P ≤ 65536 := hP ▸ aa.mP hd
 have hdi := aa.jR hd
 refine rT aM 15 rfl ?_
 refine mS (fun (u : Unit) => [(0, .pointer (some ⟨bf, 0, none⟩))]) (fun (u : Unit) => ao bf 90 [.int .i64 h.w, .int .i64 h.h, .int .i64 h.dep, .int .i64 h.ax, .bool h.cA, .slice pp pl.length cp, .slice pt tr.length ct, .slice pd nd cd, .slice none 0 0] :: R :: F) (fun (u : Unit) => (h.ax = 0 ∨ h.ax = 2) ∧ tr.length = 2 * (aa.parts h.ax).toNat ∧ 1 ≤ aa.parts h.ax ∧ aa.parts h.ax ≤ 3 ∧ aa.jK h pl tr true) ?_ ?_
 ·rcases (aa.KV h pl tr) with ⟨a1, a⟩ | ⟨a1, a2, a3, a⟩ | ⟨a1, a2, a3, a⟩ | ⟨a1, a2, a4, a3, a⟩ | ⟨a1, a2, a4, a3, a⟩ | ⟨a1, a2, a4, a⟩
  ·refine rL aM 6 rfl ?_
   refine oV (ae V.s3 rfl an rfl) ?_
   refine rO aM 5 rfl ?_
   refine oV (aW (az rfl rfl) a1) ?_
   refine rO aM 5 rfl ?_
   refine oF V.mixed (by kernel_rfl) ?_
   refine rR aM 3 rfl ?_
   refine oR (ae V.eC rfl an rfl) ?_
   refine rR aM 4 rfl ?_
   refine oR (ae V.eC rfl an rfl) ?_
   refine oR (ez (ty' := 0) Tryz.underlying22 rfl) ?_
   refine oR (fY rfl rfl (by omega) (jL (by omega) (by omega) (by omega))) ?_
   refine rR aM 2 rfl ?_
   refine Rg.cW ?_
   refine rN aM 4 rfl ?_
   obtain rfl : t = decide ((tr.length : Int) ≤ (pl.length : Int) / 3) := ht.trans (decide_eq_decide.2 (a.trans (by omega)))
   exact ak (aC rfl) ⟨none, 0, 0, [], (fun _ => by rw [aa.NI (by omega)]), rfl, rfl, rfl⟩ ((ej (A := Row (aP 3 .i64) none 0 0 []) (fun w0 => Row.nil _ _ _)).trans (sub (.cons ay (bF .nil)) aw))
  ·refine rL aM 6 rfl ?_
   refine oV (ae V.s3 rfl an rfl) ?_
   refine rO aM 5 rfl ?_
   refine oV (aA (az rfl rfl) a1) ?_
   refine rO aM 7 rfl ?_
   refine oV (aW (az rfl rfl) a2) ?_
   refine rO aM 8 rfl ?_
   have hpp : aa.parts h.ax = 1 := by rw [a2]; unfold aa.parts; rfl
   refine wN [pz 0 [] [0], pz 1 [0] [], pz 3 [1] [], pz 7 [2] [], pz 15 [3] [], pz 0 [] [0], pz 32 [5] [], pz 96 [6] [], pz 224 [7] [], pz 480 [8] [], pz 992 [9] [], pz 2016 [10] [], pz 4095 [4, 11] []] [⟨fun y => ao bf 90 [.int .i64 h.w, .int .i64 h.h, .int .i64 h.dep, .int .i64 h.ax, .bool h.cA, .slice pp pl.length cp, .slice pt tr.length ct, .slice pd nd cd, .slice none 0 0], none, none, [3, 9]⟩, ⟨fun y => R, none, none, []⟩] F V.mixed ?_
   refine nM ?_
   refine nN ?_
   refine nG V.s8 ?_
   refine nR (fun y FF hA => ae V.eC rfl an rfl) ?_
   refine nV (fun y hA L => ez (ty' := 0) Tryz.underlying22 rfl) ?_
   refine nM ?_
   refine nN ?_
   refine nG V.iG ?_
   refine nG V.qW ?_
   refine nR (fun y FF hA => ae V.s3 rfl an rfl) ?_
   refine nE (fun y FF hA => bO (Post := []) (iT h.ax) V.pH rfl .nil (fun v G h => by rcases h with ⟨rfl, rfl⟩; exact ⟨rfl, .refl _⟩)) ?_
   refine nV (fun y hA L => jv rfl rfl wI) ?_
   refine nV (fun y hA L => aW (cx rfl rfl) (by omega)) ?_
   refine aX ?_
   intro y hA
   clear hA
   refine bN ?_
   refine cu _ (.cons (d := 0) rfl (.cons (d := 42) rfl (.nil _))) ?_
   refine bS (M := ao bf 90 [.int .i64 h.w, .int .i64 h.h, .int .i64 h.dep, .int .i64 h.ax, .bool h.cA, .slice pp pl.length cp, .slice pt tr.length ct, .slice pd nd cd, .slice none 0 0] :: R :: F) (fun _ _ h => h) ?_
   refine rC aM 9 rfl ?_
   obtain rfl : t = false := ht.trans (decide_eq_false a)
   exact ak (aC rfl) ⟨none, 0, 0, [], (fun q => by cases q), rfl, rfl, rfl⟩ ((ej (A := Row (aP 3 .i64) none 0 0 []) (fun w0 => Row.nil _ _ _)).trans (sub (.cons ay (bF .nil)) aw))
  ·refine rL aM 6 rfl ?_
   refine oV (ae V.s3 rfl an rfl) ?_
   refine rO aM 5 rfl ?_
   refine oV (aA (az rfl rfl) a1) ?_
   refine rO aM 7 rfl ?_
   refine oV (aW (az rfl rfl) a2) ?_
   refine rO aM 8 rfl ?_
   have hpp : aa.parts h.ax = 1 := by rw [a2]; unfold aa.parts; rfl
   have hc2 : h.ax = 0 ∨ h.ax = 2 := .inl a2
   refine wN [pz 0 [] [0], pz 1 [0] [], pz 3 [1] [], pz 7 [2] [], pz 15 [3] [], pz 0 [] [0], pz 32 [5] [], pz 96 [6] [], pz 224 [7] [], pz 480 [8] [], pz 992 [9] [], pz 2016 [10] [], pz 4095 [4, 11] []] [⟨fun y => ao bf 90 [.int .i64 h.w, .int .i64 h.h, .int .i64 h.dep, .int .i64 h.ax, .bool h.cA, .slice pp pl.length cp, .slice pt tr.length ct, .slice pd nd cd, .slice none 0 0], none, none, [3, 9]⟩, ⟨fun y => R, none, none, []⟩] F V.mixed ?_
   refine nM ?_
   refine nN ?_
   refine nG V.s8 ?_
   refine nR (fun y FF hA => ae V.eC rfl an rfl) ?_
   refine nV (fun y hA L => ez (ty' := 0) Tryz.underlying22 rfl) ?_
   refine nM ?_
   refine nN ?_
   refine nG V.iG ?_
   refine nG V.qW ?_
   refine nR (fun y FF hA => ae V.s3 rfl an rfl) ?_
   refine nE (fun y FF hA => bO (Post := []) (iT h.ax) V.pH rfl .nil (fun v G h => by rcases h with ⟨rfl, rfl⟩; exact ⟨rfl, .refl _⟩)) ?_
   refine nV (fun y hA L => jv rfl rfl wI) ?_
   refine nV (fun y hA L => aA (cx rfl rfl) (by omega)) ?_
   refine aX ?_
   intro y hA
   clear hA
   refine bN ?_
   refine cu _ (.cons (d := 0) rfl (.cons (d := 42) rfl (.nil _))) ?_
   refine bS (M := ao bf 90 [.int .i64 h.w, .int .i64 h.h, .int .i64 h.dep, .int .i64 h.ax, .bool h.cA, .slice pp pl.length cp, .slice pt tr.length ct, .slice pd nd cd, .slice none 0 0] :: R :: F) (fun _ _ h => h) ?_
   refine rC aM 3 rfl ?_
   refine j1 (()) ?_ (kQ ln) (sub (bF .nil) aw)
   exact ⟨hc2, by omega, by omega, by omega, a⟩
  ·refine rL aM 6 rfl ?_
   refine oV (ae V.s3 rfl an rfl) ?_
   refine rO aM 5 rfl ?_
   refine oV (aA (az rfl rfl) a1) ?_
   refine rO aM 7 rfl ?_
   refine oV (aA (az rfl rfl) a2) ?_
   refine rO aM 5 rfl ?_
   refine oV (aW (az rfl rfl) a4) ?_
   refine rO aM 5 rfl ?_
   have hpp : aa.parts h.ax = 3 := by rw [a4]; unfold aa.parts; rfl
   refine wN [pz 0 [] [0], pz 1 [0] [], pz 3 [1] [], pz 7 [2] [], pz 15 [3] [], pz 0 [] [0], pz 32 [5] [], pz 96 [6] [], pz 224 [7] [], pz 480 [8] [], pz 992 [9] [], pz 2016 [10] [], pz 4095 [4, 11] []] [⟨fun y => ao bf 90 [.int .i64 h.w, .int .i64 h.h, .int .i64 h.dep, .int .i64 h.ax, .bool h.cA, .slice pp pl.length cp, .slice pt tr.length ct, .slice pd nd cd, .slice none 0 0], none, none, [3, 9]⟩, ⟨fun y => R, none, none, []⟩] F V.mixed ?_
   refine nM ?_
   refine nN ?_
   refine nG V.s8 ?_
   refine nR (fun y FF hA => ae V.eC rfl an rfl) ?_
   refine nV (fun y hA L => ez (ty' := 0) Tryz.underlying22 rfl) ?_
   refine nM ?_
   refine nN ?_
   refine nG V.iG ?_
   refine nG V.qW ?_
   refine nR (fun y FF hA => ae V.s3 rfl an rfl) ?_
   refine nE (fun y FF hA => bO (Post := []) (iT h.ax) V.pH rfl .nil (fun v G h => by rcases h with ⟨rfl, rfl⟩; exact ⟨rfl, .refl _⟩)) ?_
   refine nV (fun y hA L => jv rfl rfl wI) ?_
   refine nV (fun y hA L => aW (cx rfl rfl) (by omega)) ?_
   refine aX ?_
   intro y hA
   clear hA
   refine bN ?_
   refine cu _ (.cons (d := 0) rfl (.cons (d := 42) rfl (.nil _))) ?_
   refine bS (M := ao bf 90 [.int .i64 h.w, .int .i64 h.h, .int .i64 h.dep, .int .i64 h.ax, .bool h.cA, .slice pp pl.length cp, .slice pt tr.length ct, .slice pd nd cd, .slice none 0 0] :: R :: F) (fun _ _ h => h) ?_
   refine rC aM 9 rfl ?_
   obtain rfl : t = false := ht.trans (decide_eq_false a)
   exact ak (aC rfl) ⟨none, 0, 0, [], (fun q => by cases q), rfl, rfl, rfl⟩ ((ej (A := Row (aP 3 .i64) none 0 0 []) (fun w0 => Row.nil _ _ _)).trans (sub (.cons ay (bF .nil)) aw))
  ·refine rL aM 6 rfl ?_
   refine oV (ae V.s3 rfl an rfl) ?_
   refine rO aM 5 rfl ?_
   refine oV (aA (az rfl rfl) a1) ?_
   refine rO aM 7 rfl ?_
   refine oV (aA (az rfl rfl) a2) ?_
   refine rO aM 5 rfl ?_
   refine oV (aW (az rfl rfl) a4) ?_
   refine rO aM 5 rfl ?_
   have hpp : aa.parts h.ax = 3 := by rw [a4]; unfold aa.parts; rfl
   have hc2 : h.ax = 0 ∨ h.ax = 2 := .inr a4
   refine wN [pz 0 [] [0], pz 1 [0] [], pz 3 [1] [], pz 7 [2] [], pz 15 [3] [], pz 0 [] [0], pz 32 [5] [], pz 96 [6] [], pz 224 [7] [], pz 480 [8] [], pz 992 [9] [], pz 2016 [10] [], pz 4095 [4, 11] []] [⟨fun y => ao bf 90 [.int .i64 h.w, .int .i64 h.h, .int .i64 h.dep, .int .i64 h.ax, .bool h.cA, .slice pp pl.length cp, .slice pt tr.length ct, .slice pd nd cd, .slice none 0 0], none, none, [3, 9]⟩, ⟨fun y => R, none, none, []⟩] F V.mixed ?_
   refine nM ?_
   refine nN ?_
   refine nG V.s8 ?_
   refine nR (fun y FF hA => ae V.eC rfl an rfl) ?_
   refine nV (fun y hA L => ez (ty' := 0) Tryz.underlying22 rfl) ?_
   refine nM ?_
   refine nN ?_
   refine nG V.iG ?_
   refine nG V.qW ?_
   refine nR (fun y FF hA => ae V.s3 rfl an rfl) ?_
   refine nE (fun y FF hA => bO (Post := []) (iT h.ax) V.pH rfl .nil (fun v G h => by rcases h with ⟨rfl, rfl⟩; exact ⟨rfl, .refl _⟩)) ?_
   refine nV (fun y hA L => jv rfl rfl wI) ?_
   refine nV (fun y hA L => aA (cx rfl rfl) (by omega)) ?_
   refine aX ?_
   intro y hA
   clear hA
   refine bN ?_
   refine cu _ (.cons (d := 0) rfl (.cons (d := 42) rfl (.nil _))) ?_
   refine bS (M := ao bf 90 [.int .i64 h.w, .int .i64 h.h, .int .i64 h.dep, .int .i64 h.ax, .bool h.cA, .slice pp pl.length cp, .slice pt tr.length ct, .slice pd nd cd, .slice none 0 0] :: R :: F) (fun _ _ h => h) ?_
   refine rC aM 3 rfl ?_
   refine j1 (()) ?_ (kQ ln) (sub (bF .nil) aw)
   exact ⟨hc2, by omega, by omega, by omega, a⟩
  ·refine rL aM 6 rfl ?_
   refine oV (ae V.s3 rfl an rfl) ?_
   refine rO aM 5 rfl ?_
   refine oV (aA (az rfl rfl) a1) ?_
   refine rO aM 7 rfl ?_
   refine oV (aA (az rfl rfl) a2) ?_
   refine rO aM 5 rfl ?_
   refine oV (aA (az rfl rfl) a4) ?_
   refine rO aM 12 rfl ?_
   obtain rfl : t = false := ht.trans (decide_eq_false a)
   exact ak (aC rfl) ⟨none, 0, 0, [], (fun q => by cases q), rfl, rfl, rfl⟩ ((ej (A := Row (aP 3 .i64) none 0 0 []) (fun w0 => Row.nil _ _ _)).trans (sub (.cons ay (bF .nil)) aw))
 ·intro u
  rintro ⟨hc2, htp, hp1, hp3, hC⟩
  refine rC aM 5 rfl ?_
  refine oV (ae V.eC rfl an rfl) ?_
  refine ai (w4 pt ct tr R hR htl) V.JS  rfl (.cons ay .nil) rfl ?_
  rintro _ _ ⟨bx, rfl, rfl⟩
  refine rO aM 10 rfl ?_
  refine oV (ae V.s3 rfl dJ rfl) ?_
  refine ai (iT h.ax) V.pH  rfl .nil rfl ?_
  rintro _ _ ⟨rfl, rfl⟩
  refine rO aM 4 rfl ?_
  refine gp (Row (aP 3 .i64) none 0 0 []) (Row.nil _ _ _) ?_
  rw [show ([] : List Int) = (aa.bD h tr).take 0 from rfl]
  refine iR (fun (k : Nat) (pk : Option Addr) (ck : Nat) => [(0, .pointer (some ⟨bf, 0, none⟩)), (5, .pointer (some ⟨bx, 0, none⟩)), (53, .int .i64 (aa.parts h.ax)), (54, .int .i64 (k : Int))]) (fun (k : Nat) (pk : Option Addr) (ck : Nat) => ao bf 90 [.int .i64 h.w, .int .i64 h.h, .int .i64 h.dep, .int .i64 h.ax, .bool h.cA, .slice pp pl.length cp, .slice pt tr.length ct, .slice pd nd cd, .slice pk k ck] :: Row (aP 3 .i64) pk k ck ((aa.bD h tr).take k) :: HW bx tr (16 * k) [] 0 :: R :: F) (fun (k : Nat) (pk : Option Addr) (ck : Nat) => (k : Int) ≤ aa.parts h.ax) (fun (k : Nat) (pk : Option Addr) (ck : Nat) => (aa.parts h.ax).toNat - k) (i3 (0) (none) (0) ?_ (fo ln) (sub (.cons dI (gm .nil)) aw)) ?_
  ·omega
  intro k pk ck
  rintro hk
  refine rL aM 6 rfl ?_
  refine aN rfl (fun h55 => ?_) (fun h55 => ?_)
  ·refine rC aM 4 rfl ?_
   have hck := aa.Om (trns := tr) hc2 (by omega) (i := k) (by omega)
   refine ly [pz 0 [] [0], pz 0 [] [0], pz 2 [1] [], pz 6 [2] [], pz 14 [3] [], pz 0 [] [5], pz 32 [5] [], pz 0 [] [0], pz 128 [7] [], pz 384 [8] [], pz 896 [9] [], pz 1920 [10] [], pz 3968 [11] [], pz 8064 [12] [], pz 16352 [6, 13] [], pz 32736 [14] [], pz 65534 [4, 15] [], pz 131071 [0] [], pz 262143 [17] [], pz 524287 [18, 16] []] [⟨fun y => ao bf 90 [.int .i64 h.w, .int .i64 h.h, .int .i64 h.dep, .int .i64 h.ax, .bool h.cA, .slice pp pl.length cp, .slice pt tr.length ct, .slice pd nd cd, .slice pk k ck], none, some 19, [4, 11]⟩, ⟨fun y => Row (aP 3 .i64) pk k ck ((aa.bD h tr).take k), none, some 16, []⟩, ⟨fun y => HW bx tr (16 * k) [] 0, none, some 6, []⟩, ⟨fun y => R, none, none, []⟩, ⟨fun y => HW bx tr (16 * k + 16) [] 0, some 6, none, []⟩, ⟨fun y => Row (I3) (some ⟨(kL (gn (y 15))), 0, none⟩) 1 1 [((aa.cZ tr (16 * k) 16) % P)], some 15, none, [16]⟩, ⟨fun y => Row (I3) (gn (y 16)) (k + 1) (iJ (y 16)) (((aa.bD h tr).take k) ++ [((aa.cZ tr (16 * k) 16) % P)]), some 16, none, []⟩, ⟨fun y => ao bf 90 [.int .i64 h.w, .int .i64 h.h, .int .i64 h.dep, .int .i64 h.ax, .bool h.cA, .slice pp pl.length cp, .slice pt tr.length ct, .slice pd nd cd, .slice (gn (y 16)) (k + 1) (iJ (y 16))], some 19, none, []⟩] F V.mixed (by kernel_rfl) rfl (fun _ => .refl _) (cn _ (cn _ (cn _ (cn _ (eB _ rfl (by intro y y2 h; rfl) (eB _ rfl (by intro y y2 h; simp only [h 15 (.inl rfl)]) (eB _ rfl (by intro y y2 h; simp only [h 16 (.inl rfl)]) (eB _ rfl (by intro y y2 h; simp only [h 16 (.inr (by decide))]) ir)))))))) ?_
   iterate 2 refine nM ?_
   refine nN ?_
   refine nG V.F2 ?_
   refine nR (fun y FF hA => ae V.lg rfl an rfl) ?_
   refine nM ?_
   refine nE (fun y FF hA => bO (Post := [HW bx tr (16 * k + 16) [] 0]) (kD bx tr (16 * k) [] 0 16 htl hB (by decide) (by omega)) V.tp rfl (ar .nil) (fun v G h => by rcases h with ⟨rfl, rfl⟩; exact ⟨rfl, .refl _⟩)) ?_
   refine nM ?_
   refine nN ?_
   refine nG V.iG ?_
   refine nG V.mb ?_
   refine nR (fun y FF hA => ae V.s3 rfl an rfl) ?_
   refine nV (fun y hA L => gb (r := P) rfl rfl (by omega) ((aa.mO hd).trans hP.symm)) ?_
   refine nV (fun y hA L => fT rfl rfl wI) ?_
   refine nV (fun y hA L => kg (r := ((aa.cZ tr (16 * k) 16) % P)) rfl rfl (aa.Jp hP hd (aa.AB tr (16 * k)))) ?_
   refine gU (fun y v => .slice (some ⟨kL (gn v), 0, none⟩) 1 1) (fun y v => True) _ _ (fun y v => [Row (I3) (some ⟨(kL (gn v)), 0, none⟩) 1 1 [((aa.cZ tr (16 * k) 16) % P)]]) _ (fun y => rfl) (fun y => rfl) (fun y => rfl) (fun y => rfl) (fun y FF hA => HZ (yj (I3) ([((aa.cZ tr (16 * k) 16) % P)]) V.cT V.z3 rfl rfl rfl rfl rfl)) (by intros; rfl) (by intros; rfl) (by intros; rfl) (by intro y y2 h; simp only [h 15 (.inl rfl)]) (by intro y y2 h; rfl) ?_
   refine gU (fun y v => .slice (gn v) (k + 1) (iJ v)) (fun y v => True) _ _ (fun y v => [Row (I3) (gn v) (k + 1) (iJ v) (((aa.bD h tr).take k) ++ [((aa.cZ tr (16 * k) 16) % P)])]) _ (fun y => rfl) (fun y => rfl) (fun y => rfl) (fun y => rfl) (fun y FF hA => uC (qy (c := (I3)) V.cT V.z3 rfl rfl rfl rfl dQ (own bW) (by omega)) (.refl _)) (by intros; rfl) (by intros; rfl) (by intros; rfl) (by intro y y2 h; simp only [h 15 (.inr (by decide)), h 16 (.inl rfl)]) (by intro y y2 h; rfl) ?_
   refine nN ?_
   refine nG V.F2 ?_
   refine nE (fun y FF hA => dC (bZ V.lg rfl rfl rfl (by exact cY) (by exact Nat.le_of_ble_eq_true rfl) rfl) ⟨rfl, .refl _⟩) ?_
   refine aX ?_
   intro y hA
   clear hA
   show lL _ _ _ _ (R :: HW bx tr (16 * k + 16) [] 0 :: Row (I3) (some ⟨(kL (gn (y 15))), 0, none⟩) 1 1 [((aa.cZ tr (16 * k) 16) % P)] :: Row (I3) (gn (y 16)) (k + 1) (iJ (y 16)) (((aa.bD h tr).take k) ++ [((aa.cZ tr (16 * k) 16) % P)]) :: ao bf 90 [.int .i64 h.w, .int .i64 h.h, .int .i64 h.dep, .int .i64 h.ax, .bool h.cA, .slice pp pl.length cp, .slice pt tr.length ct, .slice pd nd cd, .slice (gn (y 16)) (k + 1) (iJ (y 16))] :: F)
   generalize (kL (gn (y 15))) = b71
   generalize (gn (y 16)) = p72
   generalize (iJ (y 16)) = c72
   refine kC ?_
   refine bN ?_
   refine bK ?_
   refine oV (du rfl rfl wI) ?_
   refine oV (aK rfl) ?_
   refine cW ?_
   rw [show ((aa.bD h tr).take k) ++ [((aa.cZ tr (16 * k) 16) % P)] = (aa.bD h tr).take (k + 1) from by rw [hck.1, aa.Eg hB, ← hP]]
   exact j3 (k + 1) _ _ ⟨by omega, by omega⟩ (fo ln) (sub (.cons ig (.cons dI (.cons ay (ar .nil)))) cD)
  ·refine rC aM 11 rfl ?_
   obtain rfl : t = true := ht.trans (decide_eq_true hC)
   have hcl := aa.Ii (trns := tr) hc2 (by omega)
   obtain rfl : k = (aa.parts h.ax).toNat := by omega
   rw [← hcl, List.take_length]
   exact ak (aC rfl) ⟨pk, _, ck, (aa.bD h tr), fun _ => rfl, rfl, rfl, rfl⟩ (sub (bF (.cons ay .nil)) cD)
end Go.Proofs.YtmaiakpjgomnpaaGreat
namespace Go.Proofs.YtmaiakpjgomnpaaGreat
open Go.Sl
theorem V.Kc : aH Tryz.prog 171 = true := by kernel_rfl
theorem V.KP : aH Tryz.prog 173 = true := by kernel_rfl
theorem V.AA : aH Tryz.prog 184 = true := by kernel_rfl
end Go.Proofs.YtmaiakpjgomnpaaGreat

/- Walks of functions that the law reaches, and what they lean on; no conditions. -/
import Derived.Test.YtmaiakpjgomnpaaGreatM1
import Derived.KernelRfl
import Derived.Test.YtmaiakpjgomnpaaGreatM6
import Derived.Test.YtmaiakpjgomnpaaGreatM3
import Derived.Test.YtmaiakpjgomnpaaGreatM2
import Derived.Test.YtmaiakpjgomnpaaGreatM4
set_option linter.unusedVariables false
set_option linter.unusedSimpArgs false
set_option maxRecDepth 100000
namespace Go.Proofs.YtmaiakpjgomnpaaGreat
open Go.Sl 
theorem cJ : dR Tryz.prog ⟨[22, 84], [(88, 0, 0), (88, 1, 1), (137, 2, 2)]⟩ = true := by kernel_rfl
attribute [local irreducible] aj.av aa.gJ aa.gM aa.eB aa.ga aa.eR aa.im aa.bS aa.bd aa.bR aa.cu aa.dm aa.gL aa.ej aa.dN aa.cW aa.walk aa.bb
theorem L0 (es : List Ce) (i : Nat) : ((es.map Ce.ch).map aa.Ch.k).getD i [] = (CK.g es (i : Int)).k := by
 show _ = (es.getD i _).k
 simp only [List.getD_eq_getElem?_getD, List.getElem?_map]
 cases es[i]? <;> rfl
theorem IM (es : List Ce) (i : Nat) : ((es.map Ce.ch).map (·.d.length)).getD i 0 = (CK.g es (i : Int)).d.length := by
 show _ = (es.getD i _).d.length
 simp only [List.getD_eq_getElem?_getD, List.getElem?_map]
 cases es[i]? <;> rfl
theorem IC {es : List Ce} {i : Nat} (h : i < es.length - 2) : (aa.bb (es.map Ce.ch))[i]? = some (CK.g ((es.drop 1).take (es.length - 1 - 1)) (i : Int)).ch := by
 rw [aa.H8 (by rw [List.length_map]; exact h), List.getElem?_map]
 have e : CK.g ((es.drop 1).take (es.length - 1 - 1)) (i : Int) = es[1 + i]'(by omega) := by
  show ((es.drop 1).take (es.length - 1 - 1)).getD i _ = _
  rw [List.getD_eq_getElem?_getD, List.getElem?_take_of_lt (by omega), List.getElem?_drop, List.getElem?_eq_getElem (by omega)]
  rfl
 rw [e, List.getElem?_eq_getElem (by omega)]
 rfl
theorem k8 {es : List Ce} {i : Nat} (P : Ce → Prop) (h : ∀ x ∈ es, P x) (hi : i < es.length) : P (CK.g es (i : Int)) := by
 have : CK.g es (i : Int) = es[i] := CK.vd hi
 rw [this]
 exact h _ (List.getElem_mem hi)
def F9 (es : List Ce) : Prop := ∀ x ∈ es, aj.av x.k ∧ x.k.length < 500000000
set_option maxHeartbeats 8000000 in
theorem nQ (p : Option Addr) (c : Nat) (es : List Ce) (R : ab) (hR : ∀ w0 h, R w0 h → aR CK p es.length es w0 h) (hel : es.length ≤ 262144) (hok : F9 es) (hcap : es.length ≤ c) : aE Tryz.prog 38 [.slice p es.length c] [R] (aO fun v G => v = .int .i64 (aa.Df (es.map Ce.ch)) ∧ G = [R]) := by
 refine au [(0, _)] Tryz.func38 rfl Tryz.ntmps38 rfl rfl ?_
 intro w0 F
 have h6 := aa.Oo (es.map Ce.ch)
 rw [List.length_map, L0, IM, L0, IM, show (((0 : Nat) : Int)) = 0 from rfl] at h6
 refine rT cJ 5 rfl ?_
 rcases (h6) with ⟨h3, ho⟩ | ⟨h3, hk0, ho⟩ | ⟨h3, hk0, hd0, ho⟩ | ⟨h3, hk0, hd0, hkn, ho⟩ | ⟨h3, hk0, hd0, hkn, hdn, ho⟩ | ⟨h3, hk0, hd0, hkn, hdn, ho⟩
 ·refine fL cJ 12 rfl (by omega) ?_
  refine oV (aY (bo rfl rfl) (by omega)) ?_
  refine rO cJ 42 rfl ?_
  rw [← aa.mj ho]
  exact ak (aB rfl) ⟨rfl, rfl⟩ (sub (ar .nil) aw)
 ·refine rC cJ 4 rfl ?_
  refine oV (cH (v := .int .i64 (((es.length - 1) : Nat) : Int)) (gh rfl rfl wI) (by congr 1; omega)) ?_
  refine rO cJ 5 rfl ?_
  have hb0 : aj.av (CK.g es 0).k := (k8 (i := 0) (fun x => aj.av x.k ∧ x.k.length < 500000000) hok (by omega)).1
  have hbn := (k8 (i := (es.length - 1)) (fun x => aj.av x.k ∧ x.k.length < 500000000) hok (by omega)).1
  refine rC cJ 2 rfl ?_
  refine oV (aA (bo rfl rfl) (by omega)) ?_
  refine rO cJ 2 rfl ?_
  refine ag rfl ?_
  refine oV (xI V.gr (by exact bE hR an)) ?_
  refine ag rfl ?_
  refine oV (aG V.nu rfl) ?_
  refine ag rfl ?_
  refine oV (dP (c := (CK)) 0 V.s9 rfl (by exact bE hR an) (by omega) (by omega) rfl rfl) ?_
  refine ag rfl ?_
  refine oV (cH (v := .bool true) (ko (r := false) (th (aa.aV hb0) (aa.aV aa.GC) hk0) rfl (show aq _ _ = some (.string (strOfNums aa.dm)) by unfold aa.dm; rfl)) rfl) ?_
  refine rO cJ 36 rfl ?_
  rw [← aa.mj ho]
  exact ak (aB rfl) ⟨rfl, rfl⟩ (sub (ar .nil) aw)
 ·refine rC cJ 4 rfl ?_
  refine oV (cH (v := .int .i64 (((es.length - 1) : Nat) : Int)) (gh rfl rfl wI) (by congr 1; omega)) ?_
  refine rO cJ 5 rfl ?_
  have hb0 : aj.av (CK.g es 0).k := (k8 (i := 0) (fun x => aj.av x.k ∧ x.k.length < 500000000) hok (by omega)).1
  have hbn := (k8 (i := (es.length - 1)) (fun x => aj.av x.k ∧ x.k.length < 500000000) hok (by omega)).1
  refine rC cJ 2 rfl ?_
  refine oV (aA (bo rfl rfl) (by omega)) ?_
  refine rO cJ 2 rfl ?_
  refine ag rfl ?_
  refine oV (xI V.gr (by exact bE hR an)) ?_
  refine ag rfl ?_
  refine oV (aG V.nu rfl) ?_
  refine ag rfl ?_
  refine oV (dP (c := (CK)) 0 V.s9 rfl (by exact bE hR an) (by omega) (by omega) rfl rfl) ?_
  refine ag rfl ?_
  refine oV (cH (v := .bool false) (ko (r := true) (by rw [hk0]; exact beq_self_eq_true _) rfl (show aq _ _ = some (.string (strOfNums aa.dm)) by unfold aa.dm; rfl)) rfl) ?_
  refine rO cJ 3 rfl ?_
  refine ag rfl ?_
  refine oV (xI V.gr (by exact bE hR an)) ?_
  refine ag rfl ?_
  refine oV (aG V.k7 rfl) ?_
  refine ag rfl ?_
  refine oV (dP (c := (CK)) 1 V.ez rfl (by exact bE hR an) (by omega) (by omega) rfl rfl) ?_
  refine ag rfl ?_
  refine oV (eu (ty' := 0) Tryz.underlying22 rfl) ?_
  refine ag rfl ?_
  refine oV (aY (bY rfl rfl) (fun hh => hd0 (by omega))) ?_
  refine rO cJ 28 rfl ?_
  rw [← aa.mj ho]
  exact ak (aB rfl) ⟨rfl, rfl⟩ (sub (ar .nil) aw)
 ·refine rC cJ 4 rfl ?_
  refine oV (cH (v := .int .i64 (((es.length - 1) : Nat) : Int)) (gh rfl rfl wI) (by congr 1; omega)) ?_
  refine rO cJ 5 rfl ?_
  have hb0 : aj.av (CK.g es 0).k := (k8 (i := 0) (fun x => aj.av x.k ∧ x.k.length < 500000000) hok (by omega)).1
  have hbn := (k8 (i := (es.length - 1)) (fun x => aj.av x.k ∧ x.k.length < 500000000) hok (by omega)).1
  refine rC cJ 2 rfl ?_
  refine oV (aA (bo rfl rfl) (by omega)) ?_
  refine rO cJ 2 rfl ?_
  refine ag rfl ?_
  refine oV (xI V.gr (by exact bE hR an)) ?_
  refine ag rfl ?_
  refine oV (aG V.nu rfl) ?_
  refine ag rfl ?_
  refine oV (dP (c := (CK)) 0 V.s9 rfl (by exact bE hR an) (by omega) (by omega) rfl rfl) ?_
  refine ag rfl ?_
  refine oV (cH (v := .bool false) (ko (r := true) (by rw [hk0]; exact beq_self_eq_true _) rfl (show aq _ _ = some (.string (strOfNums aa.dm)) by unfold aa.dm; rfl)) rfl) ?_
  refine rO cJ 3 rfl ?_
  refine ag rfl ?_
  refine oV (xI V.gr (by exact bE hR an)) ?_
  refine ag rfl ?_
  refine oV (aG V.k7 rfl) ?_
  refine ag rfl ?_
  refine oV (dP (c := (CK)) 1 V.ez rfl (by exact bE hR an) (by omega) (by omega) rfl rfl) ?_
  refine ag rfl ?_
  refine oV (eu (ty' := 0) Tryz.underlying22 rfl) ?_
  refine ag rfl ?_
  refine oV (aA (bY rfl rfl) (fun hh => hh (by omega))) ?_
  refine rO cJ 4 rfl ?_
  refine ag rfl ?_
  refine oV (xI V.gr (by exact bE hR an)) ?_
  refine ag rfl ?_
  refine oV (aG V.nu rfl) ?_
  refine ag rfl ?_
  refine oV (dP (c := (CK)) 0 V.s9 rfl (by exact bE hR an) (by omega) (by omega) rfl rfl) ?_
  refine ag rfl ?_
  refine oV (cH (v := .bool true) (ko (r := false) (th (aa.aV hbn) (aa.aV aa.xA) hkn) rfl (show aq _ _ = some (.string (strOfNums aa.cu)) by unfold aa.cu; rfl)) rfl) ?_
  refine rO cJ 20 rfl ?_
  rw [← aa.mj ho]
  exact ak (aB rfl) ⟨rfl, rfl⟩ (sub (ar .nil) aw)
 ·refine rC cJ 4 rfl ?_
  refine oV (cH (v := .int .i64 (((es.length - 1) : Nat) : Int)) (gh rfl rfl wI) (by congr 1; omega)) ?_
  refine rO cJ 5 rfl ?_
  have hb0 : aj.av (CK.g es 0).k := (k8 (i := 0) (fun x => aj.av x.k ∧ x.k.length < 500000000) hok (by omega)).1
  have hbn := (k8 (i := (es.length - 1)) (fun x => aj.av x.k ∧ x.k.length < 500000000) hok (by omega)).1
  refine rC cJ 2 rfl ?_
  refine oV (aA (bo rfl rfl) (by omega)) ?_
  refine rO cJ 2 rfl ?_
  refine ag rfl ?_
  refine oV (xI V.gr (by exact bE hR an)) ?_
  refine ag rfl ?_
  refine oV (aG V.nu rfl) ?_
  refine ag rfl ?_
  refine oV (dP (c := (CK)) 0 V.s9 rfl (by exact bE hR an) (by omega) (by omega) rfl rfl) ?_
  refine ag rfl ?_
  refine oV (cH (v := .bool false) (ko (r := true) (by rw [hk0]; exact beq_self_eq_true _) rfl (show aq _ _ = some (.string (strOfNums aa.dm)) by unfold aa.dm; rfl)) rfl) ?_
  refine rO cJ 3 rfl ?_
  refine ag rfl ?_
  refine oV (xI V.gr (by exact bE hR an)) ?_
  refine ag rfl ?_
  refine oV (aG V.k7 rfl) ?_
  refine ag rfl ?_
  refine oV (dP (c := (CK)) 1 V.ez rfl (by exact bE hR an) (by omega) (by omega) rfl rfl) ?_
  refine ag rfl ?_
  refine oV (eu (ty' := 0) Tryz.underlying22 rfl) ?_
  refine ag rfl ?_
  refine oV (aA (bY rfl rfl) (fun hh => hh (by omega))) ?_
  refine rO cJ 4 rfl ?_
  refine ag rfl ?_
  refine oV (xI V.gr (by exact bE hR an)) ?_
  refine ag rfl ?_
  refine oV (aG V.nu rfl) ?_
  refine ag rfl ?_
  refine oV (dP (c := (CK)) 0 V.s9 rfl (by exact bE hR an) (by omega) (by omega) rfl rfl) ?_
  refine ag rfl ?_
  refine oV (cH (v := .bool false) (ko (r := true) (by rw [hkn]; exact beq_self_eq_true _) rfl (show aq _ _ = some (.string (strOfNums aa.cu)) by unfold aa.cu; rfl)) rfl) ?_
  refine rO cJ 4 rfl ?_
  refine ag rfl ?_
  refine oV (xI V.gr (by exact bE hR an)) ?_
  refine ag rfl ?_
  refine oV (aG V.k7 rfl) ?_
  refine ag rfl ?_
  refine oV (dP (c := (CK)) 1 V.ez rfl (by exact bE hR an) (by omega) (by omega) rfl rfl) ?_
  refine ag rfl ?_
  refine oV (eu (ty' := 0) Tryz.underlying22 rfl) ?_
  refine ag rfl ?_
  refine oV (aY (a8 rfl rfl) (by omega)) ?_
  refine rO cJ 11 rfl ?_
  rw [← aa.mj ho]
  exact ak (aB rfl) ⟨rfl, rfl⟩ (sub (ar .nil) aw)
 ·refine rC cJ 4 rfl ?_
  refine oV (cH (v := .int .i64 (((es.length - 1) : Nat) : Int)) (gh rfl rfl wI) (by congr 1; omega)) ?_
  refine rO cJ 5 rfl ?_
  have hb0 : aj.av (CK.g es 0).k := (k8 (i := 0) (fun x => aj.av x.k ∧ x.k.length < 500000000) hok (by omega)).1
  have hbn := (k8 (i := (es.length - 1)) (fun x => aj.av x.k ∧ x.k.length < 500000000) hok (by omega)).1
  refine rC cJ 2 rfl ?_
  refine oV (aA (bo rfl rfl) (by omega)) ?_
  refine rO cJ 2 rfl ?_
  refine ag rfl ?_
  refine oV (xI V.gr (by exact bE hR an)) ?_
  refine ag rfl ?_
  refine oV (aG V.nu rfl) ?_
  refine ag rfl ?_
  refine oV (dP (c := (CK)) 0 V.s9 rfl (by exact bE hR an) (by omega) (by omega) rfl rfl) ?_
  refine ag rfl ?_
  refine oV (cH (v := .bool false) (ko (r := true) (by rw [hk0]; exact beq_self_eq_true _) rfl (show aq _ _ = some (.string (strOfNums aa.dm)) by unfold aa.dm; rfl)) rfl) ?_
  refine rO cJ 3 rfl ?_
  refine ag rfl ?_
  refine oV (xI V.gr (by exact bE hR an)) ?_
  refine ag rfl ?_
  refine oV (aG V.k7 rfl) ?_
  refine ag rfl ?_
  refine oV (dP (c := (CK)) 1 V.ez rfl (by exact bE hR an) (by omega) (by omega) rfl rfl) ?_
  refine ag rfl ?_
  refine oV (eu (ty' := 0) Tryz.underlying22 rfl) ?_
  refine ag rfl ?_
  refine oV (aA (bY rfl rfl) (fun hh => hh (by omega))) ?_
  refine rO cJ 4 rfl ?_
  refine ag rfl ?_
  refine oV (xI V.gr (by exact bE hR an)) ?_
  refine ag rfl ?_
  refine oV (aG V.nu rfl) ?_
  refine ag rfl ?_
  refine oV (dP (c := (CK)) 0 V.s9 rfl (by exact bE hR an) (by omega) (by omega) rfl rfl) ?_
  refine ag rfl ?_
  refine oV (cH (v := .bool false) (ko (r := true) (by rw [hkn]; exact beq_self_eq_true _) rfl (show aq _ _ = some (.string (strOfNums aa.cu)) by unfold aa.cu; rfl)) rfl) ?_
  refine rO cJ 4 rfl ?_
  refine ag rfl ?_
  refine oV (xI V.gr (by exact bE hR an)) ?_
  refine ag rfl ?_
  refine oV (aG V.k7 rfl) ?_
  refine ag rfl ?_
  refine oV (dP (c := (CK)) 1 V.ez rfl (by exact bE hR an) (by omega) (by omega) rfl rfl) ?_
  refine ag rfl ?_
  refine oV (eu (ty' := 0) Tryz.underlying22 rfl) ?_
  refine ag rfl ?_
  refine oV (aA (a8 rfl rfl) (by omega)) ?_
  refine rO cJ 8 rfl ?_
  refine oV (cD V.ME V.Oq rfl (cs := [_, _, _, _]) rfl) ?_
  refine eL rfl (cs := [.bool false, .bool false, .bool false, .bool false]) rfl rfl ?_
  intro b45
  refine rO cJ 5 rfl ?_
  have hM : ∀ w0 h, R w0 h → aR CK (eh p 1 c 2) ((es.length - 1) - 1) ((es.drop 1).take ((es.length - 1) - 1)) w0 h := fun w0 h hh => (hR w0 h hh).sub 1 (es.length - 1) c (by omega) (by omega) (by omega)
  refine rC cJ 3 rfl ?_
  refine oV (dQ 1 (es.length - 1) c V.gr rfl ⟨_, rfl⟩ ⟨_, rfl⟩ rfl (by omega) (by omega) (by omega)) ?_
  refine rO cJ 5 rfl ?_
  refine ik (fun (i : Nat) (w : aa.Wk) => [(4, .pointer (some ⟨b45, 0, none⟩)), (48, .slice (eh p 1 c 2) ((es.length - 1) - 1) (c - 1)), (49, .int .i64 (((es.length - 1) - 1 : Nat) : Int)), (50, .int .i64 (i : Int))]) (fun (i : Nat) (w : aa.Wk) => ao b45 137 [.bool w.plte, .bool w.trns, .bool w.dh, .bool w.kC] :: R :: F) (fun (i : Nat) (w : aa.Wk) => i ≤ es.length - 2 ∧ aa.walk ((aa.bb (es.map Ce.ch)).drop i) w = aa.walk (aa.bb (es.map Ce.ch)) aa.wQ) (fun (i : Nat) (w : aa.Wk) => es.length - 2 - i) (i2 (0) (aa.wQ) ?_ (fZ ln) (sub (bD .nil) aw)) ?_
  ·exact ⟨Nat.zero_le _, rfl⟩
  intro i w
  rintro ⟨hi, hwk⟩
  refine rL cJ 6 rfl ?_
  refine aN rfl (fun h51 => ?_) (fun h51 => ?_)
  ·refine rC cJ 5 rfl ?_
   have hmi := IC (es := es) (i := i) (by omega)
   have hxo : aj.av (CK.g ((es.drop 1).take ((es.length - 1) - 1)) (i : Int)).k ∧ (CK.g ((es.drop 1).take ((es.length - 1) - 1)) (i : Int)).k.length < 500000000 := k8 (fun x => aj.av x.k ∧ x.k.length < 500000000) (fun x hx => hok x (List.mem_of_mem_drop (List.mem_of_mem_take hx))) (by rw [List.length_take, List.length_drop]; omega)
   have hwn := aa.IK (w := w) _ hmi
   refine a7 ?_
   refine oV (xI V.gr (by exact bE hM bW)) ?_
   refine oV (n8 (c := (CK)) V.jN rfl (by exact bE hM bW) (by omega) (by omega) rfl) ?_
   refine cn V.ld rfl ?_
   intro b6
   refine aT (aH V.jN rfl rfl (us := [_, _]) rfl rfl (by exact cZ) (by exact Nat.le_of_ble_eq_true rfl) rfl) ?_
   refine rO cJ 2 rfl ?_
   rcases (aa.Ly (aa.cW ⟨w.plte, w.trns, w.dh, w.kC⟩ (CK.g ((es.drop 1).take ((es.length - 1) - 1)) (i : Int)).ch).2) with hb | hb
   ·refine rC cJ 3 rfl ?_
    refine oV (bJ V.jN rfl an (vs := [_, _]) rfl rfl) ?_
    refine ai (Cg b45 w.plte w.trns w.dh w.kC (CK.g ((es.drop 1).take ((es.length - 1) - 1)) (i : Int)) hxo.1 hxo.2) V.N1  rfl (.cons az .nil) rfl ?_
    rintro _ _ ⟨rfl, rfl⟩
    rw [hb]
    refine cS cJ 11 rfl (by omega) ?_
    have hb2 : (aa.cW w (CK.g ((es.drop 1).take ((es.length - 1) - 1)) (i : Int)).ch).2 = true := hb
    rw [hb2] at hwn
    exact j2 (i + 1) (aa.cW ⟨w.plte, w.trns, w.dh, w.kC⟩ (CK.g ((es.drop 1).take ((es.length - 1) - 1)) (i : Int)).ch).1 ⟨⟨by omega, hwn.symm.trans hwk⟩, by omega⟩ (fZ ln) (sub (ar (.cons az .nil)) cC)
   ·refine rC cJ 3 rfl ?_
    refine oV (bJ V.jN rfl an (vs := [_, _]) rfl rfl) ?_
    refine ai (Cg b45 w.plte w.trns w.dh w.kC (CK.g ((es.drop 1).take ((es.length - 1) - 1)) (i : Int)) hxo.1 hxo.2) V.N1  rfl (.cons az .nil) rfl ?_
    rintro _ _ ⟨rfl, rfl⟩
    rw [hb]
    refine rO cJ 15 rfl ?_
    have hb2 : (aa.cW w (CK.g ((es.drop 1).take ((es.length - 1) - 1)) (i : Int)).ch).2 = false := hb
    rw [hb2] at hwn
    rw [← aa.mj (aa.JN ho (hwk.symm.trans hwn))]
    exact ak (aB rfl) ⟨rfl, rfl⟩ (sub (.cons bX .nil) hJ)
  ·refine rC cJ 5 rfl ?_
   rcases (aa.Ly w.dh) with hb | hb
   ·refine rC cJ 2 rfl ?_
    rw [aa.Au (by rw [aa.x7 (by rw [List.length_map]; omega), List.length_map]; omega)] at hwk
    refine rC cJ 4 rfl ?_
    refine oV (ae V.s4 rfl an rfl) ?_
    rw [hb]
    refine rO cJ 12 rfl ?_
    rw [← aa.qi ((aa.CO ho hwk.symm).trans hb)]
    exact ak (aB rfl) ⟨rfl, rfl⟩ (sub (.cons az .nil) cC)
   ·refine rC cJ 2 rfl ?_
    rw [aa.Au (by rw [aa.x7 (by rw [List.length_map]; omega), List.length_map]; omega)] at hwk
    refine rC cJ 4 rfl ?_
    refine oV (ae V.s4 rfl an rfl) ?_
    rw [hb]
    refine rO cJ 11 rfl ?_
    rw [← aa.mj ((aa.CO ho hwk.symm).trans hb)]
    exact ak (aB rfl) ⟨rfl, rfl⟩ (sub (.cons az .nil) cC)
end Go.Proofs.YtmaiakpjgomnpaaGreat
namespace Go.Proofs.YtmaiakpjgomnpaaGreat
open Go.Sl
theorem V.QA : aF Tryz.prog 64 = true := by kernel_rfl
theorem V.QJ : aF Tryz.prog 65 = true := by kernel_rfl
theorem V.QZ : aF Tryz.prog 66 = true := by kernel_rfl
theorem V.JU : fJ Tryz.prog 57 = some [(0, 1), (1, 1)] := by kernel_rfl
theorem V.nI : sliceB Tryz.prog 59 = some (57, 2, 40) := by kernel_rfl
theorem V.K3 : dC Tryz.prog 57 = some ([.string .empty, .slice none 0 0]) := by kernel_rfl
end Go.Proofs.YtmaiakpjgomnpaaGreat
namespace Go.Proofs.YtmaiakpjgomnpaaGreat
open Go.Sl 
theorem iC : dR Tryz.prog ⟨[22], []⟩ = true := by kernel_rfl
attribute [local irreducible] aj.av aa.gJ aa.gM aa.eB aa.ga aa.eR aa.im aa.ia aa.first aa.cut aa.gn aa.fx aa.cu aa.ej aa.nt
abbrev bB : Ec Ce := ⟨57, 2, fun x => [.string (strOfNums x.k), .slice x.p x.d.length x.c], ⟨[], none, 0, []⟩, fun _ => rfl, fun _ => rfl⟩
set_option maxHeartbeats 1000000 in
theorem Cm (kk : List Int) (hk : aj.av kk) (hkl : kk.length < 500000000) (t : Bool) (ht : t = decide (aa.ej kk)) : aE Tryz.prog 65 [.string (strOfNums kk)] [] (aO fun v G => v = .bool t ∧ G = []) := by
 refine au [(0, _)] Tryz.func65 rfl Tryz.ntmps65 rfl rfl ?_
 intro w0 F
 refine rT iC 5 rfl ?_
 rcases (Classical.em (kk.length = 4)) with h4 | h4
 ·refine rC iC 4 rfl ?_
  refine oV (sK Tryz.underlying9 rfl (iY kk)) ?_
  refine oV (aA (bY rfl rfl) (fun hh => hh (by omega))) ?_
  refine rO iC 12 rfl ?_
  refine dX (fun (i : Nat) => [(0, .string (strOfNums kk)), (3, .int .i64 (i : Int))]) (fun (i : Nat) => F) (fun (i : Nat) => i ≤ 4 ∧ ∀ j, j < i → aa.kx (kk.getD j 0)) (fun (i : Nat) => 4 - i) (i1 (0) ?_ (ku ln) (sub .nil aw)) ?_
  ·exact ⟨Nat.zero_le _, fun j hj => by omega⟩
  intro i
  rintro ⟨hi, hall⟩
  refine rL iC 7 rfl ?_
  refine aN rfl (fun h9 => ?_) (fun h9 => ?_)
  ·refine rC iC 8 rfl ?_
   refine oV (qU i Tryz.underlying9 rfl rfl (aa.aV hk) rfl (by omega)) ?_
   refine oV (mW (r := (aa.nt (kk.getD i 0))) rfl rfl (by unfold aa.nt; rfl)) ?_
   refine rO iC 3 rfl ?_
   rcases (aa.o3 (hk.get i)) with ⟨h1, hn⟩ | ⟨h1, h2, hn⟩ | ⟨h1, h2, hl1⟩
   ·refine rC iC 3 rfl ?_
    refine oV (aY (bo rfl rfl) (by omega)) ?_
    refine rO iC 18 rfl ?_
    obtain rfl : t = false := ht.trans (decide_eq_false (aa.uc hn (by omega)))
    exact ak (aB rfl) ⟨rfl, rfl⟩ (sub .nil aw)
   ·refine rC iC 3 rfl ?_
    refine oV (aA (bo rfl rfl) (by omega)) ?_
    refine rO iC 2 rfl ?_
    refine ag rfl ?_
    refine oV (aY (a8 rfl rfl) (by omega)) ?_
    refine rO iC 15 rfl ?_
    obtain rfl : t = false := ht.trans (decide_eq_false (aa.uc hn (by omega)))
    exact ak (aB rfl) ⟨rfl, rfl⟩ (sub .nil aw)
   ·refine rC iC 3 rfl ?_
    refine oV (aA (bo rfl rfl) (by omega)) ?_
    refine rO iC 2 rfl ?_
    refine ag rfl ?_
    refine oV (aA (a8 rfl rfl) (by omega)) ?_
    refine cS iC 12 rfl (by omega) ?_
    refine j1 (i + 1) ?_ (ku ln) (sub .nil aw)
    exact ⟨⟨by omega, fun j hj => (Nat.lt_succ_iff_lt_or_eq.1 hj).elim (hall j) (fun e => e ▸ hl1)⟩, by omega⟩
  ·refine rC iC 11 rfl ?_
   obtain rfl : i = 4 := by omega
   obtain rfl : t = true := ht.trans (decide_eq_true ((aa.yG (by rw [h4]; exact hall)).2 h4))
   exact ak (aB rfl) ⟨rfl, rfl⟩ (sub .nil aw)
 ·refine rC iC 4 rfl ?_
  refine oV (sK Tryz.underlying9 rfl (iY kk)) ?_
  refine oV (aY (bY rfl rfl) (fun hh => h4 (by omega))) ?_
  refine rO iC 10 rfl ?_
  obtain rfl : t = false := ht.trans (decide_eq_false (aa.M4 h4))
  exact ak (aB rfl) ⟨rfl, rfl⟩ (sub .nil aw)
theorem Jd  : aE Tryz.prog 64 [] [] (aO fun v G => v = .string (strOfNums aa.fx) ∧ G = []) := by
 refine au [] Tryz.func64 rfl Tryz.ntmps64 rfl rfl ?_
 intro w0 F
 refine rT iC 11 rfl ?_
 exact ak (aB (show _ = some (.string (strOfNums aa.fx)) by unfold aa.fx; rfl)) ⟨rfl, rfl⟩ (sub .nil aw)
end Go.Proofs.YtmaiakpjgomnpaaGreat
namespace Go.Proofs.YtmaiakpjgomnpaaGreat
open Go.Sl
theorem V.sE : cg Tryz.prog 57 0 = some 0 := by kernel_rfl
theorem V.vo : cg Tryz.prog 57 1 = some 1 := by kernel_rfl
end Go.Proofs.YtmaiakpjgomnpaaGreat
namespace Go.Proofs.YtmaiakpjgomnpaaGreat
open Go.Sl 
theorem Rc : dR Tryz.prog ⟨[22, 59], [(57, 0, 0), (57, 1, 1)]⟩ = true := by kernel_rfl
attribute [local irreducible] aj.av aa.gJ aa.gM aa.eB aa.ga aa.eR aa.im aa.bS aa.bd aa.bR aa.cu aa.dm aa.ej aa.dN aa.eE aa.lz aa.rU
theorem pR {es : List Ce} {i : Nat} (h : i < es.length) : (es.map Ce.ch)[i]? = some (bB.g es (i : Int)).ch := by
 rw [List.getElem?_map, List.getElem?_eq_getElem h]
 have : bB.g es (i : Int) = es[i] := bB.vd h
 rw [this]; rfl
theorem mM {es : List Ce} {i : Nat} (P : Ce → Prop) (h : ∀ x ∈ es, P x) (hi : i < es.length) : P (bB.g es (i : Int)) := by
 have : bB.g es (i : Int) = es[i] := bB.vd hi
 rw [this]
 exact h _ (List.getElem_mem hi)
end Go.Proofs.YtmaiakpjgomnpaaGreat
namespace Go.Proofs.YtmaiakpjgomnpaaGreat
open Go.Sl
theorem V.a145 : hH Tryz.prog 145 = some 6 := by kernel_rfl
theorem V.Mc : hH Tryz.prog 181 = some 42 := by kernel_rfl
theorem V.ei : hH Tryz.prog 26 = some 3 := by kernel_rfl
theorem V.Fh : jP Tryz.prog 181 = some (7, 145, 6) := by kernel_rfl
theorem V.qD : aF Tryz.prog 115 = true := by kernel_rfl
theorem V.IF : aF Tryz.prog 144 = true := by kernel_rfl
theorem V.xl : aF Tryz.prog 58 = true := by kernel_rfl
theorem V.IG : aF Tryz.prog 60 = true := by kernel_rfl
theorem V.KO : cg Tryz.prog 145 4 = some 4 := by kernel_rfl
theorem V.KQ : cg Tryz.prog 145 5 = some 5 := by kernel_rfl
theorem V.te : cg Tryz.prog 26 0 = some 0 := by kernel_rfl
theorem V.nC : cg Tryz.prog 26 1 = some 1 := by kernel_rfl
theorem V.lY : cg Tryz.prog 26 2 = some 2 := by kernel_rfl
theorem V.Nh : fJ Tryz.prog 145 = some [(0, 1), (1, 1), (2, 1), (3, 1), (4, 1), (5, 1)] := by kernel_rfl
theorem V.mq : fJ Tryz.prog 26 = some [(0, 1), (1, 1), (2, 1)] := by kernel_rfl
theorem V.nD : df Tryz.prog 24 = true := by kernel_rfl
theorem V.sA : sliceB Tryz.prog 140 = some (145, 6, 48) := by kernel_rfl
theorem V.hI : sliceB Tryz.prog 24 = some (62, 1, 2) := by kernel_rfl
theorem V.z145 : dC Tryz.prog 145 = some ([.int .i64 0, .int .i64 0, .int .i64 0, .int .i64 0, .int .i64 0, .int .i64 0]) := by kernel_rfl
theorem V.Lb : dC Tryz.prog 181 = some (List.replicate 42 (.int .i64 0)) := by kernel_rfl
theorem V.kD : dC Tryz.prog 26 = some ([.int .i64 0, .int .i64 0, .slice none 0 0]) := by kernel_rfl
theorem V.Fy : dC Tryz.prog 62 = some ([.int .u16 0]) := by kernel_rfl
end Go.Proofs.YtmaiakpjgomnpaaGreat
namespace Go.Proofs.YtmaiakpjgomnpaaGreat
open Go.Sl 
theorem aK : dR Tryz.prog ⟨[24], [(26, 0, 0), (26, 1, 1), (26, 2, 2), (145, 4, 4), (145, 5, 5)]⟩ = true := by kernel_rfl
attribute [local irreducible] aa.bN aa.many aa.ff aa.fQ aa.tu aa.qB aa.jc aa.jw
section
variable {C : Ctx} {E : Env} {L : List ab}
theorem Mu {t T n b T' : Nat} {cs : List Value} (hs : hH C.P T = some n) (h1 : E.get t = some (.pointer (some ⟨b, 0, none⟩))) (hm : ao b T' cs ∈ L) (hn : cs.length = n) : lg C #[.cell t T] E L (.agg cs.toArray) := fun fn a w hr ha hi => by
 obtain ⟨g1, g2⟩ := lQ hs w
 obtain ⟨F, hF⟩ := hi.mem hm
 have := run_loadCells_list (P := C.P) w ⟨b, 0, none⟩ cs (fun j v hj => by rw [Addr.fV, hF.je, ← hj]; simp)
 rw [hn] at this
 simp [results, hr, ha.get _ _ h1, asAddr, loadVar, g1, g2, this]
end
set_option maxHeartbeats 1000000 in
theorem mQ (w h : Int) : aE Tryz.prog 58 [.int .i64 w, .int .i64 h] [] (aO fun v G => v = .int .i64 (aa.bN w h) ∧ G = []) := by
 refine au [(0, _), (1, _)] Tryz.func58 rfl Tryz.ntmps58 rfl rfl ?_
 intro w0 F
 refine rT aK 7 rfl ?_
 rcases (aa.zH w h) with ⟨a0, hs⟩ | ⟨a0, a1, hs⟩ | ⟨a0, a1, a2, hs⟩ | ⟨a0, a1, a2, a3, hs⟩ | ⟨a0, a1, a2, a3, a4, hs⟩ | ⟨a0, a1, a2, a3, a4, hs⟩
 ·refine rC aK 3 rfl ?_
  refine oV (aY (bo rfl rfl) (by omega)) ?_
  refine rO aK 16 rfl ?_
  exact ak (aB rfl) ⟨congrArg (Value.int .i64) hs.symm, rfl⟩ (sub .nil aw)
 ·refine rC aK 3 rfl ?_
  refine oV (aA (bo rfl rfl) (by omega)) ?_
  refine rO aK 2 rfl ?_
  refine ag rfl ?_
  refine oV (aY (bo rfl rfl) (by omega)) ?_
  refine rO aK 13 rfl ?_
  exact ak (aB rfl) ⟨congrArg (Value.int .i64) hs.symm, rfl⟩ (sub .nil aw)
 ·refine rC aK 3 rfl ?_
  refine oV (aA (bo rfl rfl) (by omega)) ?_
  refine rO aK 2 rfl ?_
  refine ag rfl ?_
  refine oV (aA (bo rfl rfl) (by omega)) ?_
  refine rO aK 8 rfl ?_
  refine oV (aY (a8 rfl rfl) (by omega)) ?_
  refine rO aK 22 rfl ?_
  exact ak (aB rfl) ⟨congrArg (Value.int .i64) hs.symm, rfl⟩ (sub .nil aw)
 ·refine rC aK 3 rfl ?_
  refine oV (aA (bo rfl rfl) (by omega)) ?_
  refine rO aK 2 rfl ?_
  refine ag rfl ?_
  refine oV (aA (bo rfl rfl) (by omega)) ?_
  refine rO aK 8 rfl ?_
  refine oV (aA (a8 rfl rfl) (by omega)) ?_
  refine rO aK 2 rfl ?_
  refine ag rfl ?_
  refine oV (aY (a8 rfl rfl) (by omega)) ?_
  refine rO aK 19 rfl ?_
  exact ak (aB rfl) ⟨congrArg (Value.int .i64) hs.symm, rfl⟩ (sub .nil aw)
 ·refine rC aK 3 rfl ?_
  refine oV (aA (bo rfl rfl) (by omega)) ?_
  refine rO aK 2 rfl ?_
  refine ag rfl ?_
  refine oV (aA (bo rfl rfl) (by omega)) ?_
  refine rO aK 8 rfl ?_
  refine oV (aA (a8 rfl rfl) (by omega)) ?_
  refine rO aK 2 rfl ?_
  refine ag rfl ?_
  refine oV (aA (a8 rfl rfl) (by omega)) ?_
  refine rO aK 4 rfl ?_
  refine ag rfl ?_
  refine oV (fR (r := 16384 / h) rfl rfl (by omega) (aa.sx (by omega))) ?_
  refine ag rfl ?_
  refine oV (aY (a8 rfl rfl) (by omega)) ?_
  refine rO aK 13 rfl ?_
  exact ak (aB rfl) ⟨congrArg (Value.int .i64) hs.symm, rfl⟩ (sub .nil aw)
 ·refine rC aK 3 rfl ?_
  refine oV (aA (bo rfl rfl) (by omega)) ?_
  refine rO aK 2 rfl ?_
  refine ag rfl ?_
  refine oV (aA (bo rfl rfl) (by omega)) ?_
  refine rO aK 8 rfl ?_
  refine oV (aA (a8 rfl rfl) (by omega)) ?_
  refine rO aK 2 rfl ?_
  refine ag rfl ?_
  refine oV (aA (a8 rfl rfl) (by omega)) ?_
  refine rO aK 4 rfl ?_
  refine ag rfl ?_
  refine oV (fR (r := 16384 / h) rfl rfl (by omega) (aa.sx (by omega))) ?_
  refine ag rfl ?_
  refine oV (aA (a8 rfl rfl) (by omega)) ?_
  refine rO aK 14 rfl ?_
  exact ak (aB rfl) ⟨congrArg (Value.int .i64) hs.symm, rfl⟩ (sub .nil aw)
set_option maxHeartbeats 1000000 in
theorem xd (w h : Int) : aE Tryz.prog 60 [.int .i64 w, .int .i64 h] [] (aO fun v G => v = .int .i64 (aa.bN w h) ∧ G = []) := by
 refine au [(0, _), (1, _)] Tryz.func60 rfl Tryz.ntmps60 rfl rfl ?_
 intro w0 F
 refine rT aK 7 rfl ?_
 rcases (aa.zH w h) with ⟨a0, hs⟩ | ⟨a0, a1, hs⟩ | ⟨a0, a1, a2, hs⟩ | ⟨a0, a1, a2, a3, hs⟩ | ⟨a0, a1, a2, a3, a4, hs⟩ | ⟨a0, a1, a2, a3, a4, hs⟩
 ·refine rC aK 3 rfl ?_
  refine oV (aY (bo rfl rfl) (by omega)) ?_
  refine rO aK 16 rfl ?_
  exact ak (aB rfl) ⟨congrArg (Value.int .i64) hs.symm, rfl⟩ (sub .nil aw)
 ·refine rC aK 3 rfl ?_
  refine oV (aA (bo rfl rfl) (by omega)) ?_
  refine rO aK 2 rfl ?_
  refine ag rfl ?_
  refine oV (aY (bo rfl rfl) (by omega)) ?_
  refine rO aK 13 rfl ?_
  exact ak (aB rfl) ⟨congrArg (Value.int .i64) hs.symm, rfl⟩ (sub .nil aw)
 ·refine rC aK 3 rfl ?_
  refine oV (aA (bo rfl rfl) (by omega)) ?_
  refine rO aK 2 rfl ?_
  refine ag rfl ?_
  refine oV (aA (bo rfl rfl) (by omega)) ?_
  refine rO aK 8 rfl ?_
  refine oV (aY (a8 rfl rfl) (by omega)) ?_
  refine rO aK 22 rfl ?_
  exact ak (aB rfl) ⟨congrArg (Value.int .i64) hs.symm, rfl⟩ (sub .nil aw)
 ·refine rC aK 3 rfl ?_
  refine oV (aA (bo rfl rfl) (by omega)) ?_
  refine rO aK 2 rfl ?_
  refine ag rfl ?_
  refine oV (aA (bo rfl rfl) (by omega)) ?_
  refine rO aK 8 rfl ?_
  refine oV (aA (a8 rfl rfl) (by omega)) ?_
  refine rO aK 2 rfl ?_
  refine ag rfl ?_
  refine oV (aY (a8 rfl rfl) (by omega)) ?_
  refine rO aK 19 rfl ?_
  exact ak (aB rfl) ⟨congrArg (Value.int .i64) hs.symm, rfl⟩ (sub .nil aw)
 ·refine rC aK 3 rfl ?_
  refine oV (aA (bo rfl rfl) (by omega)) ?_
  refine rO aK 2 rfl ?_
  refine ag rfl ?_
  refine oV (aA (bo rfl rfl) (by omega)) ?_
  refine rO aK 8 rfl ?_
  refine oV (aA (a8 rfl rfl) (by omega)) ?_
  refine rO aK 2 rfl ?_
  refine ag rfl ?_
  refine oV (aA (a8 rfl rfl) (by omega)) ?_
  refine rO aK 4 rfl ?_
  refine ag rfl ?_
  refine oV (fR (r := 16384 / h) rfl rfl (by omega) (aa.sx (by omega))) ?_
  refine ag rfl ?_
  refine oV (aY (a8 rfl rfl) (by omega)) ?_
  refine rO aK 13 rfl ?_
  exact ak (aB rfl) ⟨congrArg (Value.int .i64) hs.symm, rfl⟩ (sub .nil aw)
 ·refine rC aK 3 rfl ?_
  refine oV (aA (bo rfl rfl) (by omega)) ?_
  refine rO aK 2 rfl ?_
  refine ag rfl ?_
  refine oV (aA (bo rfl rfl) (by omega)) ?_
  refine rO aK 8 rfl ?_
  refine oV (aA (a8 rfl rfl) (by omega)) ?_
  refine rO aK 2 rfl ?_
  refine ag rfl ?_
  refine oV (aA (a8 rfl rfl) (by omega)) ?_
  refine rO aK 4 rfl ?_
  refine ag rfl ?_
  refine oV (fR (r := 16384 / h) rfl rfl (by omega) (aa.sx (by omega))) ?_
  refine ag rfl ?_
  refine oV (aA (a8 rfl rfl) (by omega)) ?_
  refine rO aK 14 rfl ?_
  exact ak (aB rfl) ⟨congrArg (Value.int .i64) hs.symm, rfl⟩ (sub .nil aw)
set_option maxHeartbeats 1000000 in
theorem MC (w h : Int) : aE Tryz.prog 85 [.int .i64 w, .int .i64 h] [] (aO fun v G => (aa.bN w h ≠ 0 ∧ v = .tuple #[.agg #[.int .i64 0, .int .i64 0, .slice none 0 0], .int .i64 (aa.bN w h)] ∧ G = []) ∨ (aa.bN w h = 0 ∧ ∃ b, v = .tuple #[.agg #[.int .i64 w, .int .i64 h, .slice (some ⟨b, 0, none⟩) ((4 * w * h).toNat) ((4 * w * h).toNat)], .int .i64 0] ∧ G = [Row (aP 62 .u16) (some ⟨b, 0, none⟩) ((4 * w * h).toNat) ((4 * w * h).toNat) (List.replicate (4 * w * h).toNat (aP 62 .u16).d)])) := by
 refine au [(0, _), (1, _)] Tryz.func85 rfl Tryz.ntmps85 rfl rfl ?_
 intro w0 F
 refine rT aK 2 rfl ?_
 refine cn V.kD rfl ?_
 intro b4
 refine rO aK 8 rfl ?_
 refine ai (mQ w h) V.xl  rfl .nil rfl ?_
 rintro _ _ ⟨rfl, rfl⟩
 refine rO aK 3 rfl ?_
 rcases (Classical.em (aa.bN w h = 0)) with hs | hs
 ·refine rC aK 3 rfl ?_
  refine oV (aA (bY rfl rfl) (by omega)) ?_
  refine rO aK 6 rfl ?_
  have h4 := aa.qu hs
  have h1 := aa.jY hs
  refine fL aK 6 rfl (by omega) ?_
  refine oV (cH (v := .int .i64 ((4 * w * h).toNat : Int)) (jF rfl rfl wI) (by congr 1; omega)) ?_
  refine n6 ((4 * w * h).toNat) ((4 * w * h).toNat) (aP 62 .u16) rfl rfl V.hI V.Fy rfl rfl rfl rfl (by omega) (by omega) rfl rfl ?_
  intro b20
  refine oV (cD V.mq V.kD rfl (cs := [.int .i64 w, .int .i64 h, .slice (some ⟨b20, 0, none⟩) ((4 * w * h).toNat) ((4 * w * h).toNat)]) rfl) ?_
  refine aT (aH V.ei rfl rfl (us := [_, _, _]) rfl rfl (by exact mi) (by exact Nat.le_of_ble_eq_true rfl) rfl) ?_
  refine rO aK 4 rfl ?_
  exact ak (eZ V.ei rfl bW rfl rfl) (.inr ⟨hs, _, rfl, rfl⟩) (sub (ar .nil) cC)
 ·refine rC aK 3 rfl ?_
  refine oV (aY (bY rfl rfl) (by omega)) ?_
  refine rO aK 5 rfl ?_
  refine oV (cD V.mq V.kD rfl (cs := [.int .i64 0, .int .i64 0, .slice none 0 0]) rfl) ?_
  refine oV (aJ rfl) ?_
  refine aT (aH V.ei rfl rfl (us := [_, _, _]) rfl rfl (by exact cZ) (by exact Nat.le_of_ble_eq_true rfl) rfl) ?_
  refine rO aK 5 rfl ?_
  exact ak (eZ V.ei rfl an rfl rfl) (.inl ⟨hs, rfl, rfl⟩) (sub .nil cC)
set_option maxHeartbeats 1000000 in
theorem NL (w h : Int) : aE Tryz.prog 35 [.int .i64 w, .int .i64 h] [] (aO fun v G => (aa.bN w h ≠ 0 ∧ v = .tuple #[.agg #[.int .i64 0, .int .i64 0, .slice none 0 0], .int .i64 (aa.bN w h)] ∧ G = []) ∨ (aa.bN w h = 0 ∧ ∃ b, v = .tuple #[.agg #[.int .i64 w, .int .i64 h, .slice (some ⟨b, 0, none⟩) ((4 * w * h).toNat) ((4 * w * h).toNat)], .int .i64 0] ∧ G = [Row (aP 62 .u16) (some ⟨b, 0, none⟩) ((4 * w * h).toNat) ((4 * w * h).toNat) (List.replicate (4 * w * h).toNat (aP 62 .u16).d)])) := by
 refine au [(0, _), (1, _)] Tryz.func35 rfl Tryz.ntmps35 rfl rfl ?_
 intro w0 F
 refine rT aK 2 rfl ?_
 refine cn V.kD rfl ?_
 intro b4
 refine rO aK 7 rfl ?_
 refine ai (xd w h) V.IG  rfl .nil rfl ?_
 rintro _ _ ⟨rfl, rfl⟩
 refine rO aK 3 rfl ?_
 rcases (Classical.em (aa.bN w h = 0)) with hs | hs
 ·refine rC aK 4 rfl ?_
  refine oV (aA (bY rfl rfl) (by omega)) ?_
  refine rO aK 6 rfl ?_
  have h4 := aa.qu hs
  have h1 := aa.jY hs
  refine fL aK 6 rfl (by omega) ?_
  refine oV (cH (v := .int .i64 ((4 * w * h).toNat : Int)) (jF rfl rfl wI) (by congr 1; omega)) ?_
  refine n6 ((4 * w * h).toNat) ((4 * w * h).toNat) (aP 62 .u16) rfl rfl V.hI V.Fy rfl rfl rfl rfl (by omega) (by omega) rfl rfl ?_
  intro b20
  refine oV (cD V.mq V.kD rfl (cs := [.int .i64 w, .int .i64 h, .slice (some ⟨b20, 0, none⟩) ((4 * w * h).toNat) ((4 * w * h).toNat)]) rfl) ?_
  refine aT (aH V.ei rfl rfl (us := [_, _, _]) rfl rfl (by exact mi) (by exact Nat.le_of_ble_eq_true rfl) rfl) ?_
  refine rO aK 4 rfl ?_
  exact ak (eZ V.ei rfl bW rfl rfl) (.inr ⟨hs, _, rfl, rfl⟩) (sub (ar .nil) cC)
 ·refine rC aK 4 rfl ?_
  refine oV (aY (bY rfl rfl) (by omega)) ?_
  refine rO aK 5 rfl ?_
  refine oV (cD V.mq V.kD rfl (cs := [.int .i64 0, .int .i64 0, .slice none 0 0]) rfl) ?_
  refine oV (aJ rfl) ?_
  refine aT (aH V.ei rfl rfl (us := [_, _, _]) rfl rfl (by exact cZ) (by exact Nat.le_of_ble_eq_true rfl) rfl) ?_
  refine rO aK 5 rfl ?_
  exact ak (eZ V.ei rfl an rfl rfl) (.inl ⟨hs, rfl, rfl⟩) (sub .nil cC)
set_option maxHeartbeats 1000000 in
theorem Nw (w h : Int) (q : Option Addr) (n c : Nat) (t : Bool) (ht : t = decide (aa.bN w h = 0 ∧ (n : Int) = 4 * w * h)) : aE Tryz.prog 67 [.agg #[.int .i64 w, .int .i64 h, .slice q n c]] [] (aO fun v G => v = .bool t ∧ G = []) := by
 refine au [(0, _)] Tryz.func67 rfl Tryz.ntmps67 rfl rfl ?_
 intro w0 F
 refine rT aK 2 rfl ?_
 refine eL rfl (cs := [_, _, _]) rfl rfl ?_
 intro b1
 refine rO aK 3 rfl ?_
 rcases (Classical.em (aa.bN w h = 0)) with hs | hs
 ·refine rC aK 3 rfl ?_
  refine oV (ae V.s3 rfl an rfl) ?_
  refine oV (aG V.nC rfl) ?_
  refine oV (ae V.s3 rfl an rfl) ?_
  refine ai (mQ w h) V.xl  rfl .nil rfl ?_
  rintro _ _ ⟨rfl, rfl⟩
  refine oV (aY (aD rfl rfl) (by omega)) ?_
  refine rO aK 2 rfl ?_
  refine ag rfl ?_
  refine oV (ae V.nD rfl an rfl) ?_
  refine rO aK 2 rfl ?_
  refine ag rfl ?_
  refine oV (ae V.s3 rfl an rfl) ?_
  have h4 := aa.qu hs
  have h1 := aa.jY hs
  refine cS aK 2 rfl (by omega) ?_
  refine ag rfl ?_
  refine oV (ae V.s3 rfl an rfl) ?_
  refine cS aK 7 rfl (by omega) ?_
  (rw [show decide ((n : Int) = 4 * w * h) = t from by rw [ht]; congr 1; simp [hs]]; exact ak (G := []) (aB rfl) ⟨rfl, rfl⟩ (sub .nil cC))
 ·refine rC aK 3 rfl ?_
  refine oV (ae V.s3 rfl an rfl) ?_
  refine oV (aG V.nC rfl) ?_
  refine oV (ae V.s3 rfl an rfl) ?_
  refine ai (mQ w h) V.xl  rfl .nil rfl ?_
  rintro _ _ ⟨rfl, rfl⟩
  refine oV (aA (aD rfl rfl) (by omega)) ?_
  refine rO aK 16 rfl ?_
  (obtain rfl : t = false := by rw [ht]; exact decide_eq_false (fun hh => hs hh.1)
   exact ak (aB rfl) ⟨rfl, rfl⟩ (sub .nil cC))
set_option maxHeartbeats 1000000 in
theorem lr (w h : Int) (q : Option Addr) (n c : Nat) (t : Bool) (ht : t = decide (aa.bN w h = 0 ∧ (n : Int) = 4 * w * h)) : aE Tryz.prog 21 [.agg #[.int .i64 w, .int .i64 h, .slice q n c]] [] (aO fun v G => v = .bool t ∧ G = []) := by
 refine au [(0, _)] Tryz.func21 rfl Tryz.ntmps21 rfl rfl ?_
 intro w0 F
 refine rT aK 2 rfl ?_
 refine eL rfl (cs := [_, _, _]) rfl rfl ?_
 intro b1
 refine rO aK 3 rfl ?_
 rcases (Classical.em (aa.bN w h = 0)) with hs | hs
 ·refine rC aK 3 rfl ?_
  refine oV (ae V.s3 rfl an rfl) ?_
  refine oV (aG V.nC rfl) ?_
  refine oV (ae V.s3 rfl an rfl) ?_
  refine ai (xd w h) V.IG  rfl .nil rfl ?_
  rintro _ _ ⟨rfl, rfl⟩
  refine oV (aY (aD rfl rfl) (by omega)) ?_
  refine rO aK 2 rfl ?_
  refine ag rfl ?_
  refine oV (ae V.nD rfl an rfl) ?_
  refine rO aK 2 rfl ?_
  refine ag rfl ?_
  refine oV (ae V.s3 rfl an rfl) ?_
  have h4 := aa.qu hs
  have h1 := aa.jY hs
  refine cS aK 2 rfl (by omega) ?_
  refine ag rfl ?_
  refine oV (ae V.s3 rfl an rfl) ?_
  refine cS aK 7 rfl (by omega) ?_
  (rw [show decide ((n : Int) = 4 * w * h) = t from by rw [ht]; congr 1; simp [hs]]; exact ak (G := []) (aB rfl) ⟨rfl, rfl⟩ (sub .nil cC))
 ·refine rC aK 3 rfl ?_
  refine oV (ae V.s3 rfl an rfl) ?_
  refine oV (aG V.nC rfl) ?_
  refine oV (ae V.s3 rfl an rfl) ?_
  refine ai (xd w h) V.IG  rfl .nil rfl ?_
  rintro _ _ ⟨rfl, rfl⟩
  refine oV (aA (aD rfl rfl) (by omega)) ?_
  refine rO aK 16 rfl ?_
  (obtain rfl : t = false := by rw [ht]; exact decide_eq_false (fun hh => hs hh.1)
   exact ak (aB rfl) ⟨rfl, rfl⟩ (sub .nil cC))
abbrev PK : Ec aa.Ps := ⟨145, 6, fun p => [.int .i64 p.x, .int .i64 p.y, .int .i64 p.dx, .int .i64 p.dy, .int .i64 p.w, .int .i64 p.h], ⟨0, 0, 0, 0, 0, 0⟩, fun _ => rfl, fun _ => rfl⟩
abbrev RT : Ec aa.Ps := ⟨67, 6, fun p => [.int .i64 p.x, .int .i64 p.y, .int .i64 p.dx, .int .i64 p.dy, .int .i64 p.w, .int .i64 p.h], ⟨0, 0, 0, 0, 0, 0⟩, fun _ => rfl, fun _ => rfl⟩
set_option maxHeartbeats 1000000 in
theorem vB (n : Int) (t : Bool) (ht : t = decide (0 ≤ n ∧ n ≤ 256)) : aE Tryz.prog 116 [.int .i64 n] [] (aO fun v G => v = .bool t ∧ G = []) := by
 refine au [(0, _)] Tryz.func116 rfl Tryz.ntmps116 rfl rfl ?_
 intro w0 F
 refine rT aK 5 rfl ?_
 rcases (Classical.em (0 ≤ n)) with h0 | h0
 ·refine rC aK 3 rfl ?_
  refine oV (aY (fh rfl rfl) (by omega)) ?_
  refine rO aK 8 rfl ?_
  (rw [show decide (n ≤ 256) = t from by rw [ht]; congr 1; simp [h0]]; exact ak (G := []) (aB rfl) ⟨rfl, rfl⟩ (sub .nil aw))
 ·refine rC aK 3 rfl ?_
  refine oV (aA (fh rfl rfl) (by omega)) ?_
  refine rO aK 8 rfl ?_
  (obtain rfl : t = false := by rw [ht]; exact decide_eq_false (fun hh => h0 hh.1)
   exact ak (aB rfl) ⟨rfl, rfl⟩ (sub .nil aw))
set_option maxHeartbeats 1000000 in
theorem AU (frm step en : Int) (hs : step = 1 ∨ step = 2 ∨ step = 4 ∨ step = 8) (hf : 0 ≤ frm ∧ frm ≤ 8) (he : 0 ≤ en ∧ en ≤ 256) : aE Tryz.prog 144 [.int .i64 frm, .int .i64 step, .int .i64 en] [] (aO fun v G => v = .int .i64 (aa.many frm step en) ∧ G = []) := by
 refine au [(0, _), (1, _), (2, _)] Tryz.func144 rfl Tryz.ntmps144 rfl rfl ?_
 intro w0 F
 refine rT aK 5 rfl ?_
 rcases (Classical.em (en ≤ frm)) with h0 | h0
 ·refine rC aK 5 rfl ?_
  refine oV (aY (fh rfl rfl) (by omega)) ?_
  refine rO aK 10 rfl ?_
  rw [← aa.No hs frm h0]
  exact ak (aB rfl) ⟨rfl, rfl⟩ (sub .nil aw)
 ·refine rC aK 5 rfl ?_
  refine oV (aA (fh rfl rfl) (by omega)) ?_
  refine cS aK 14 rfl (by omega) ?_
  refine oV (fR (r := (en - frm + step - 1) / step) rfl rfl (by omega) (jH (m := en - frm + step - 1) (n := step) (by omega) (by omega) (by omega))) ?_
  refine rO aK 4 rfl ?_
  rw [← aa.F8 h0]
  exact ak (aB rfl) ⟨rfl, rfl⟩ (sub .nil aw)
set_option maxHeartbeats 1000000 in
theorem pA (x y dx dy w h : Int) (hx : 0 ≤ x ∧ x ≤ 8) (hy : 0 ≤ y ∧ y ≤ 8) (hdx : dx = 1 ∨ dx = 2 ∨ dx = 4 ∨ dx = 8) (hdy : dy = 1 ∨ dy = 2 ∨ dy = 4 ∨ dy = 8) (hw : 0 ≤ w ∧ w ≤ 256) (hh : 0 ≤ h ∧ h ≤ 256) : aE Tryz.prog 115 [.int .i64 x, .int .i64 y, .int .i64 dx, .int .i64 dy, .int .i64 w, .int .i64 h] [] (aO fun v G => v = .agg #[.int .i64 x, .int .i64 y, .int .i64 dx, .int .i64 dy, .int .i64 (aa.many x dx w), .int .i64 (aa.many y dy h)] ∧ G = []) := by
 refine au [(0, _), (1, _), (2, _), (3, _), (4, _), (5, _)] Tryz.func115 rfl Tryz.ntmps115 rfl rfl ?_
 intro w0 F
 refine rT aK 2 rfl ?_
 refine cn V.z145 rfl ?_
 intro b12
 refine rO aK 11 rfl ?_
 refine ai (AU x dx w hdx hx hw) V.IF  rfl .nil rfl ?_
 rintro _ _ ⟨rfl, rfl⟩
 refine rO aK 3 rfl ?_
 refine ai (AU y dy h hdy hy hh) V.IF  rfl .nil rfl ?_
 rintro _ _ ⟨rfl, rfl⟩
 refine oV (cD V.Nh V.z145 rfl (cs := [.int .i64 x, .int .i64 y, .int .i64 dx, .int .i64 dy, .int .i64 (aa.many x dx w), .int .i64 (aa.many y dy h)]) (by kernel_rfl)) ?_
 refine aT (aH V.a145 rfl rfl (us := [_, _, _, _, _, _]) rfl rfl (by exact cZ) (by exact Nat.le_of_ble_eq_true rfl) rfl) ?_
 refine rO aK 3 rfl ?_
 exact ak (Mu V.a145 rfl an rfl) ⟨rfl, rfl⟩ (sub .nil cC)
set_option maxHeartbeats 1000000 in
theorem Gf (w h : Int) (hs : aa.bN w h = 0) : aE Tryz.prog 81 [.int .i64 w, .int .i64 h] [] (aO fun v G => ∃ p c, v = .slice p (aa.whole w h).length c ∧ G = [Row PK p (aa.whole w h).length c (aa.whole w h)]) := by
 refine au [(0, _), (1, _)] Tryz.func81 rfl Tryz.ntmps81 rfl rfl ?_
 intro w0 F
 have hsd := aa.jY hs
 have hw : 0 ≤ w ∧ w ≤ 256 := by omega
 have hh : 0 ≤ h ∧ h ≤ 256 := by omega
 refine rT aK 10 rfl ?_
 refine ai (mQ w h) V.xl  rfl .nil rfl ?_
 rintro _ _ ⟨rfl, rfl⟩
 rw [hs]
 refine oV (aA (bY rfl rfl) (by omega)) ?_
 refine rO aK 9 rfl ?_
 refine ai (pA 0 0 1 1 w h (by decide) (by decide) (by decide) (by decide) hw hh) V.qD  rfl .nil rfl ?_
 rintro _ _ ⟨rfl, rfl⟩
 rw [aa.many1 hsd.1, aa.many1 hsd.2.2.1]
 refine eb (PK) [⟨0, 0, 1, 1, w, h⟩] V.sA V.z145 rfl rfl rfl (by kernel_rfl) rfl rfl ?_
 intro b12
 refine rO aK 4 rfl ?_
 exact ak (aB rfl) ⟨_, _, rfl, rfl⟩ (sub (ar .nil) aw)
set_option maxHeartbeats 1000000 in
theorem EM (w h : Int) (hs : aa.bN w h = 0) : aE Tryz.prog 82 [.int .i64 w, .int .i64 h] [] (aO fun v G => ∃ p c, v = .slice p (aa.gj w h).length c ∧ G = [Row PK p (aa.gj w h).length c (aa.gj w h)]) := by
 refine au [(0, _), (1, _)] Tryz.func82 rfl Tryz.ntmps82 rfl rfl ?_
 intro w0 F
 have hsd := aa.jY hs
 have hw : 0 ≤ w ∧ w ≤ 256 := by omega
 have hh : 0 ≤ h ∧ h ≤ 256 := by omega
 obtain ⟨Z, hZ⟩ : ∃ Z, Z = (aa.jc w h).flatMap PK.e := ⟨_, rfl⟩
 have hZl : Z.length = 42 := by rw [hZ]; unfold aa.jc; rfl
 have hZ1 : Z.all Value.oneCell' = true := by rw [hZ]; exact oy PK _
 refine rT aK 10 rfl ?_
 refine ai (mQ w h) V.xl  rfl .nil rfl ?_
 rintro _ _ ⟨rfl, rfl⟩
 rw [hs]
 refine oV (aA (bY rfl rfl) (by omega)) ?_
 refine rO aK 9 rfl ?_
 refine ai (pA 0 0 8 8 w h (by decide) (by decide) (by decide) (by decide) hw hh) V.qD  rfl .nil rfl ?_
 rintro _ _ ⟨rfl, rfl⟩
 refine rO aK 2 rfl ?_
 refine ai (pA 4 0 8 8 w h (by decide) (by decide) (by decide) (by decide) hw hh) V.qD  rfl .nil rfl ?_
 rintro _ _ ⟨rfl, rfl⟩
 refine rO aK 2 rfl ?_
 refine ai (pA 0 4 4 8 w h (by decide) (by decide) (by decide) (by decide) hw hh) V.qD  rfl .nil rfl ?_
 rintro _ _ ⟨rfl, rfl⟩
 refine rO aK 2 rfl ?_
 refine ai (pA 2 0 4 4 w h (by decide) (by decide) (by decide) (by decide) hw hh) V.qD  rfl .nil rfl ?_
 rintro _ _ ⟨rfl, rfl⟩
 refine rO aK 2 rfl ?_
 refine ai (pA 0 2 2 4 w h (by decide) (by decide) (by decide) (by decide) hw hh) V.qD  rfl .nil rfl ?_
 rintro _ _ ⟨rfl, rfl⟩
 refine rO aK 2 rfl ?_
 refine ai (pA 1 0 2 2 w h (by decide) (by decide) (by decide) (by decide) hw hh) V.qD  rfl .nil rfl ?_
 rintro _ _ ⟨rfl, rfl⟩
 refine rO aK 2 rfl ?_
 refine ai (pA 0 1 1 2 w h (by decide) (by decide) (by decide) (by decide) hw hh) V.qD  rfl .nil rfl ?_
 rintro _ _ ⟨rfl, rfl⟩
 refine oV (kT V.Fh V.Lb rfl (cs := Z) (by rw [hZ]; kernel_rfl)) ?_
 refine cn V.Lb rfl ?_
 intro b5
 refine aT (aH V.Mc rfl rfl (us := Z) (cs' := Z) hZ1 hZl (by exact cZ) (by decide) (by rw [List.take_zero, List.nil_append, List.drop_eq_nil_of_le (by decide), List.append_nil])) ?_
 refine rO aK 10 rfl ?_
 refine oV (bJ V.Mc rfl an (vs := Z) hZl (by rw [List.drop_zero, ← hZl, List.take_length])) ?_
 refine rO aK 4 rfl ?_
 rw [show ((6 : Nat), Value.slice none 0 0) = (6, .slice none (aa.jw w h 0).length 0) from by rw [aa.CP]; rfl]
 refine gT (Row PK none (aa.jw w h 0).length 0 (aa.jw w h 0)) (by rw [aa.CP]; exact Row.nil _ _ _) ?_
 refine jS (fun (i : Nat) (p6 : Option Addr) (c6 : Nat) => [(6, .slice p6 (aa.jw w h i).length c6), (35, .agg Z.toArray), (36, .int .i64 (i : Int))]) (fun (i : Nat) (p6 : Option Addr) (c6 : Nat) => Row PK p6 (aa.jw w h i).length c6 (aa.jw w h i) :: F) (fun (i : Nat) (p6 : Option Addr) (c6 : Nat) => i ≤ 7) (fun (i : Nat) (p6 : Option Addr) (c6 : Nat) => 7 - i) (i3 (0) (none) (0) ?_ (jg ln) (sub (ar .nil) cC)) ?_
 ·exact Nat.zero_le _
 intro i p6 c6
 rintro hi
 have hpl := aa.Dh w h i
 obtain ⟨x, hx⟩ : ∃ x, x = (PK.g (aa.jc w h) (i : Int)) := ⟨_, rfl⟩
 have hx2 : (aa.jc w h).getD i ⟨0, 0, 0, 0, 0, 0⟩ = x := hx.symm
 refine rL aK 6 rfl ?_
 refine aN rfl (fun h37 => ?_) (fun h37 => ?_)
 ·refine rC aK 6 rfl ?_
  refine oV (cH (v := .agg #[.int .i64 x.x, .int .i64 x.y, .int .i64 x.dx, .int .i64 x.dy, .int .i64 x.w, .int .i64 x.h]) (Gw PK (aa.jc w h) i V.Fh V.a145 rfl hZ rfl rfl (by omega) (by rw [aa.CZ]; omega) rfl) (by rw [← hx])) ?_
  refine cn V.z145 rfl ?_
  intro b8
  refine aT (aH V.a145 rfl rfl (us := [_, _, _, _, _, _]) rfl rfl (by exact cZ) (by exact Nat.le_of_ble_eq_true rfl) rfl) ?_
  refine rO aK 2 rfl ?_
  rcases (aa.JM x) with ⟨q1, q2⟩ | ⟨q1, q3, q2⟩ | ⟨q1, q3, q2⟩
  ·refine rC aK 3 rfl ?_
   refine oV (ae V.s3 rfl an rfl) ?_
   refine oV (aA (a8 rfl rfl) (by omega)) ?_
   refine cS aK 15 rfl (by omega) ?_
   (rw [aa.Cw (i := i) (by omega) hx2 q2]; exact j3 (i + 1) _ _ ⟨by omega, by omega⟩ (jg ln) (sub (.cons az .nil) cC))
  ·refine rC aK 3 rfl ?_
   refine oV (ae V.s3 rfl an rfl) ?_
   refine oV (aY (a8 rfl rfl) (by omega)) ?_
   refine rO aK 2 rfl ?_
   refine ag rfl ?_
   refine oV (ae V.s3 rfl an rfl) ?_
   refine ag rfl ?_
   refine oV (aA (a8 rfl rfl) (by omega)) ?_
   refine cS aK 11 rfl (by omega) ?_
   (rw [aa.Cw (i := i) (by omega) hx2 q2]; exact j3 (i + 1) _ _ ⟨by omega, by omega⟩ (jg ln) (sub (.cons az .nil) cC))
  ·refine rC aK 3 rfl ?_
   refine oV (ae V.s3 rfl an rfl) ?_
   refine oV (aY (a8 rfl rfl) (by omega)) ?_
   refine rO aK 2 rfl ?_
   refine ag rfl ?_
   refine oV (ae V.s3 rfl an rfl) ?_
   refine ag rfl ?_
   refine oV (aY (a8 rfl rfl) (by omega)) ?_
   refine rO aK 6 rfl ?_
   refine oV (bJ V.a145 rfl an (vs := [_, _, _, _, _, _]) rfl rfl) ?_
   refine eb (PK) [x] V.sA V.z145 rfl rfl rfl (by kernel_rfl) rfl rfl ?_
   intro b49
   refine ef (c := (PK)) V.sA V.z145 rfl rfl rfl rfl bX (own an) (by omega) rfl ?_
   intro p50 c50
   refine cS aK 8 rfl (by omega) ?_
   (have hl2 : (aa.jw w h i).length + 1 = (aa.jw w h (i + 1)).length := (congrArg List.length (aa.AZ (i := i) (p := x) (by omega) hx2 q2)).symm ▸ (by simp)
    rw [aa.AZ (i := i) (p := x) (by omega) hx2 q2, hl2]
    exact j3 (i + 1) _ _ ⟨by omega, by omega⟩ (jg ln) (sub (ar .nil) hJ))
 ·refine rC aK 6 rfl ?_
  obtain rfl : i = 7 := by omega
  rw [aa.LQ]
  refine rC aK 6 rfl ?_
  exact ak (aB rfl) ⟨_, _, rfl, rfl⟩ (sub (ar .nil) aw)
end Go.Proofs.YtmaiakpjgomnpaaGreat
namespace Go.Proofs.YtmaiakpjgomnpaaGreat
open Go.Sl
theorem V.EO : aF Tryz.prog 116 = true := by kernel_rfl
theorem V.Jz : aF Tryz.prog 117 = true := by kernel_rfl
theorem V.OV : aF Tryz.prog 129 = true := by kernel_rfl
theorem V.pf : aF Tryz.prog 19 = true := by kernel_rfl
theorem V.Of : aF Tryz.prog 94 = true := by kernel_rfl
end Go.Proofs.YtmaiakpjgomnpaaGreat
namespace Go.Proofs.YtmaiakpjgomnpaaGreat
open Go.Sl 
theorem bG : dR Tryz.prog ⟨[47, 64, 140], [(67, 0, 0), (67, 1, 1), (67, 2, 2), (67, 3, 3), (67, 4, 4), (67, 5, 5), (145, 4, 4), (145, 5, 5)]⟩ = true := by kernel_rfl
attribute [local irreducible] aa.bN aa.many aa.ff aa.fQ aa.tu aa.qB aa.jc aa.jw aa.parts aa.deep aa.P7
set_option maxHeartbeats 1000000 in
theorem FO (w bits : Int) (hw : 0 ≤ w ∧ w ≤ 256) (hb : 0 ≤ bits ∧ bits ≤ 64) : aE Tryz.prog 117 [.int .i64 w, .int .i64 bits] [] (aO fun v G => v = .int .i64 (aa.ff w bits) ∧ G = []) := by
 refine au [(0, _), (1, _)] Tryz.func117 rfl Tryz.ntmps117 rfl rfl ?_
 intro w0 F
 have hr := aa.nX hw hb
 have he : (w * bits + 7) / 8 = (aa.ff w bits) := by unfold aa.ff; rfl
 refine rT bG 9 rfl ?_
 refine ai (vB w true (decide_eq_true hw).symm) V.EO  rfl .nil rfl ?_
 rintro _ _ ⟨rfl, rfl⟩
 refine rO bG 3 rfl ?_
 refine ag rfl ?_
 refine oV (aA (bo rfl rfl) (by omega)) ?_
 refine rO bG 3 rfl ?_
 refine ag rfl ?_
 refine oV (aA (a8 rfl rfl) (by omega)) ?_
 refine cS bG 12 rfl (by omega) ?_
 refine oV (fR rfl rfl (by omega) (jH (by omega) (by omega) (by omega))) ?_
 refine rO bG 4 rfl ?_
 exact ak (aB rfl) ⟨congrArg (Value.int .i64) he, rfl⟩ (sub .nil aw)
set_option maxHeartbeats 1000000 in
theorem Hz (p : Option Addr) (c : Nat) (l : List aa.Ps) (bits : Int) (R : ab) (hR : ∀ w0 h, R w0 h → aR PK p l.length l w0 h) (hl : l.length ≤ 7) (hok : ∀ x ∈ l, aa.jV x) (hb : 0 ≤ bits ∧ bits ≤ 64) : aE Tryz.prog 83 [.slice p l.length c, .int .i64 bits] [R] (aO fun v G => v = .int .i64 (aa.fQ l bits) ∧ G = [R]) := by
 refine au [(0, _), (1, _)] Tryz.func83 rfl Tryz.ntmps83 rfl rfl ?_
 intro w0 F
 refine rT bG 10 rfl ?_
 refine oV (aA (a8 rfl rfl) (by omega)) ?_
 refine rO bG 2 rfl ?_
 refine ag rfl ?_
 refine oV (aA (bo rfl rfl) (by omega)) ?_
 refine rO bG 3 rfl ?_
 refine ag rfl ?_
 refine oV (aA (a8 rfl rfl) (by omega)) ?_
 refine rO bG 20 rfl ?_
 rw [show ((5 : Nat), Value.int .i64 0) = (5, .int .i64 (aa.fQ (l.take 0) bits)) from by rw [List.take_zero]; unfold aa.fQ; rfl]
 refine dX (fun (i : Nat) => [(1, .int .i64 bits), (5, .int .i64 (aa.fQ (l.take i) bits)), (19, .slice p l.length c), (20, .int .i64 (l.length : Int)), (21, .int .i64 (i : Int))]) (fun (i : Nat) => R :: F) (fun (i : Nat) => i ≤ l.length) (fun (i : Nat) => l.length - i) (i1 (0) ?_ (dp ln) (sub (ar .nil) aw)) ?_
 ·exact Nat.zero_le _
 intro i
 rintro hi
 obtain ⟨x, hx⟩ : ∃ x, x = (PK.g l (i : Int)) := ⟨_, rfl⟩
 refine rL bG 6 rfl ?_
 refine aN rfl (fun h22 => ?_) (fun h22 => ?_)
 ·refine rC bG 5 rfl ?_
  have hpo : aa.jV x := hx ▸ aa.Hx hok (i := i) (by omega)
  have hpb := aa.Ar hpo hb
  have hbi := aa.u0 (l := l.take i) hb (fun q hq => hok q (List.mem_of_mem_take hq))
  have hli : (l.take i).length ≤ i := by rw [List.length_take]; omega
  obtain ⟨_, _, _, _, _, _, hw0, hw1, hh0, hh1⟩ := hpo
  have hrn := aa.nX (w := x.w) ⟨hw0, hw1⟩ hb
  refine a7 ?_
  refine oV (xI V.sA (by exact bE hR an)) ?_
  refine oV (cH (v := .agg #[.int .i64 x.x, .int .i64 x.y, .int .i64 x.dx, .int .i64 x.dy, .int .i64 x.w, .int .i64 x.h]) (n8 (c := PK) V.a145 rfl (by exact bE hR an) (by omega) (by omega) rfl) (by rw [hx])) ?_
  refine cn V.z145 rfl ?_
  intro b7
  refine aT (aH V.a145 rfl rfl (us := [_, _, _, _, _, _]) rfl rfl (by exact cZ) (by exact Nat.le_of_ble_eq_true rfl) rfl) ?_
  refine rO bG 6 rfl ?_
  refine oV (ae V.s3 rfl an rfl) ?_
  refine ai (vB x.w true (decide_eq_true ⟨hw0, hw1⟩).symm) V.EO  rfl .nil rfl ?_
  rintro _ _ ⟨rfl, rfl⟩
  refine rO bG 3 rfl ?_
  refine ag rfl ?_
  refine oV (ae V.s3 rfl an rfl) ?_
  refine ag rfl ?_
  refine ai (vB x.h true (decide_eq_true ⟨hh0, hh1⟩).symm) V.EO  rfl .nil rfl ?_
  rintro _ _ ⟨rfl, rfl⟩
  refine rO bG 7 rfl ?_
  rcases (Classical.em (0 < x.w)) with hq | hq
  ·refine rC bG 3 rfl ?_
   refine oV (ae V.s3 rfl an rfl) ?_
   refine oV (aY (a8 rfl rfl) (by omega)) ?_
   refine rO bG 3 rfl ?_
   refine wN [pz 0 [] [5], pz 0 [] [7], pz 2 [1] [], pz 0 [] [7], pz 8 [3] [], pz 0 [] [1], pz 56 [4, 5] [], pz 120 [6] [], pz 254 [2, 7] [], pz 511 [0, 8] [], pz 1023 [9] []] [⟨fun y => ao b7 145 [.int .i64 x.x, .int .i64 x.y, .int .i64 x.dx, .int .i64 x.dy, .int .i64 x.w, .int .i64 x.h], none, none, [2, 4]⟩, ⟨fun y => R, none, none, []⟩] F V.mixed ?_
   refine nM ?_
   refine nG V.KQ ?_
   refine nR (fun y FF hA => ae V.s3 rfl an rfl) ?_
   refine nG V.KO ?_
   refine nR (fun y FF hA => ae V.s3 rfl an rfl) ?_
   refine nM ?_
   refine nE (fun y FF hA => bK (Post := []) (FO x.w bits ⟨hw0, hw1⟩ hb) V.Jz rfl .nil (fun v G h => by rcases h with ⟨rfl, rfl⟩; exact ⟨rfl, .refl _⟩)) ?_
   refine nV (fun y hA L => dj rfl rfl wI) ?_
   refine nV (fun y hA L => jF (r := (x.h * (1 + aa.ff x.w bits))) rfl rfl wI) ?_
   refine nV (fun y hA L => dj rfl rfl wI) ?_
   refine nA ?_
   refine aU ?_
   intro y hA
   clear hA
   show ly _ _ _ _ (ao b7 145 [.int .i64 x.x, .int .i64 x.y, .int .i64 x.dx, .int .i64 x.dy, .int .i64 x.w, .int .i64 x.h] :: R :: F)
   refine ks ?_
   refine ba ?_
   refine a7 ?_
   refine oV (dj rfl rfl wI) ?_
   refine oV (aJ rfl) ?_
   refine cB ?_
   have ht := aa.ri (l := l) (bits := bits) (i := i) (by omega)
   rw [show l.getD i ⟨0, 0, 0, 0, 0, 0⟩ = x from hx.symm] at ht
   (rw [aa.MI (by assumption)] at ht; rw [← ht]; exact j1 (i + 1) ⟨by omega, by omega⟩ (dp ln) (sub (.cons az .nil) cC))
  ·refine rC bG 3 rfl ?_
   refine oV (ae V.s3 rfl an rfl) ?_
   refine oV (aA (a8 rfl rfl) (by omega)) ?_
   refine cS bG 10 rfl (by omega) ?_
   have ht := aa.ri (l := l) (bits := bits) (i := i) (by omega)
   rw [show l.getD i ⟨0, 0, 0, 0, 0, 0⟩ = x from hx.symm] at ht
   (rw [aa.Ng (by assumption), Int.add_zero] at ht; rw [← ht]; exact j1 (i + 1) ⟨by omega, by omega⟩ (dp ln) (sub (.cons az .nil) cC))
 ·refine rC bG 6 rfl ?_
  obtain rfl : i = l.length := by omega
  rw [List.take_length]
  refine rC bG 6 rfl ?_
  exact ak (aB rfl) ⟨rfl, rfl⟩ (sub (ar .nil) aw)
set_option maxHeartbeats 1000000 in
theorem HF (p : Option Addr) (c : Nat) (l : List Int) (R : ab) (hR : ∀ w0 h, R w0 h → aR (aP 3 .i64) p l.length l w0 h) (hl : l.length < 500000000) (x : Int) : aE Tryz.prog 129 [.slice p l.length c, .int .i64 x] [R] (aO fun v G => ∃ r : Int, v = .int .i64 r ∧ (0 ≤ r ↔ x ∈ l) ∧ G = [R]) := by
 refine au [(0, _), (1, _)] Tryz.func129 rfl Tryz.ntmps129 rfl rfl ?_
 intro w0 F
 refine rT bG 14 rfl ?_
 refine dX (fun (i : Nat) => [(0, .slice p l.length c), (1, .int .i64 x), (7, .int .i64 (l.length : Int)), (8, .int .i64 (i : Int))]) (fun (i : Nat) => R :: F) (fun (i : Nat) => i ≤ l.length ∧ ∀ j, j < i → x ≠ l.getD j 0) (fun (i : Nat) => l.length - i) (i1 (0) ?_ (fZ ln) (sub (ar .nil) aw)) ?_
 ·exact ⟨Nat.zero_le _, fun j hj => by omega⟩
 intro i
 rintro ⟨hi, hall⟩
 refine rL bG 6 rfl ?_
 refine aN rfl (fun h9 => ?_) (fun h9 => ?_)
 ·refine rC bG 10 rfl ?_
  rcases (Classical.em (x = ((aP 3 .i64).g l (i : Int)))) with hnx | hnx
  ·refine rC bG 5 rfl ?_
   refine oV (xI V.cQ (by exact bE hR an)) ?_
   refine oV (xL V.s3 (by exact bE hR an)) ?_
   refine oV (aY (aD rfl rfl) hnx) ?_
   refine rO bG 15 rfl ?_
   exact ak (aB rfl) ⟨_, rfl, ⟨fun _ => aa.IJ (i := i) (by omega) hnx, fun _ => by omega⟩, rfl⟩ (sub (ar .nil) aw)
  ·refine rC bG 5 rfl ?_
   refine oV (xI V.cQ (by exact bE hR an)) ?_
   refine oV (xL V.s3 (by exact bE hR an)) ?_
   refine oV (aA (aD rfl rfl) hnx) ?_
   refine cS bG 10 rfl (by omega) ?_
   refine j1 (i + 1) ?_ (fZ ln) (sub (ar .nil) aw)
   exact ⟨⟨by omega, fun j hj => (Nat.lt_succ_iff_lt_or_eq.1 hj).elim (hall j) (fun e => e ▸ hnx)⟩, by omega⟩
 ·refine rC bG 11 rfl ?_
  obtain rfl : i = l.length := by omega
  exact ak (aB rfl) ⟨_, rfl, ⟨fun hh => absurd hh (by decide), fun hh => absurd hh (aa.Gk hall)⟩, rfl⟩ (sub (ar .nil) aw)
set_option maxHeartbeats 1000000 in
theorem tB (p : Option Addr) (c : Nat) (l : List Int) (R : ab) (hR : ∀ w0 h, R w0 h → aR (aP 3 .i64) p l.length l w0 h) (hl : l.length < 500000000) (x : Int) (t : Bool) (ht : t = decide (x ∈ l)) : aE Tryz.prog 94 [.slice p l.length c, .int .i64 x] [R] (aO fun v G => v = .bool t ∧ G = [R]) := by
 refine au [(0, _), (1, _)] Tryz.func94 rfl Tryz.ntmps94 rfl rfl ?_
 intro w0 F
 refine rT bG 9 rfl ?_
 refine ai (HF p c l R hR hl x) V.OV  rfl (ar .nil) rfl ?_
 rintro _ _ ⟨r7, rfl, hr7, rfl⟩
 refine rO bG 5 rfl ?_
 rw [aa.Ic ht hr7]
 exact ak (aB rfl) ⟨rfl, rfl⟩ (sub (ar .nil) aw)
set_option maxHeartbeats 1000000 in
theorem iM (x : Int) : aE Tryz.prog 19 [.int .i64 x] [] (aO fun v G => v = .int .i64 (aa.parts x) ∧ G = []) := by
 refine au [(0, _)] Tryz.func19 rfl Tryz.ntmps19 rfl rfl ?_
 intro w0 F
 refine rT bG 5 rfl ?_
 rcases (aa.sM x) with ⟨a0, hs⟩ | ⟨a0, a1, hs⟩ | ⟨a0, a1, a2, hs⟩ | ⟨a0, a1, a2, a3, hs⟩ | ⟨a0, a1, a2, a3, a4, hs⟩ | ⟨a0, a1, a2, a3, a4, hs⟩
 ·refine rC bG 10 rfl ?_
  refine oV (aY (aD rfl rfl) (by omega)) ?_
  refine rO bG 15 rfl ?_
  exact ak (aB rfl) ⟨congrArg (Value.int .i64) hs.symm, rfl⟩ (sub .nil aw)
 ·refine rC bG 10 rfl ?_
  refine oV (aA (aD rfl rfl) (by omega)) ?_
  refine rO bG 5 rfl ?_
  refine oV (aY (aD rfl rfl) (by omega)) ?_
  refine rO bG 12 rfl ?_
  exact ak (aB rfl) ⟨congrArg (Value.int .i64) hs.symm, rfl⟩ (sub .nil aw)
 ·refine rC bG 10 rfl ?_
  refine oV (aA (aD rfl rfl) (by omega)) ?_
  refine rO bG 5 rfl ?_
  refine oV (aA (aD rfl rfl) (by omega)) ?_
  refine rO bG 6 rfl ?_
  refine oV (aY (aD rfl rfl) (by omega)) ?_
  refine rO bG 12 rfl ?_
  exact ak (aB rfl) ⟨congrArg (Value.int .i64) hs.symm, rfl⟩ (sub .nil aw)
 ·refine rC bG 10 rfl ?_
  refine oV (aA (aD rfl rfl) (by omega)) ?_
  refine rO bG 5 rfl ?_
  refine oV (aA (aD rfl rfl) (by omega)) ?_
  refine rO bG 6 rfl ?_
  refine oV (aA (aD rfl rfl) (by omega)) ?_
  refine rO bG 6 rfl ?_
  refine oV (aY (aD rfl rfl) (by omega)) ?_
  refine rO bG 12 rfl ?_
  exact ak (aB rfl) ⟨congrArg (Value.int .i64) hs.symm, rfl⟩ (sub .nil aw)
 ·refine rC bG 10 rfl ?_
  refine oV (aA (aD rfl rfl) (by omega)) ?_
  refine rO bG 5 rfl ?_
  refine oV (aA (aD rfl rfl) (by omega)) ?_
  refine rO bG 6 rfl ?_
  refine oV (aA (aD rfl rfl) (by omega)) ?_
  refine rO bG 6 rfl ?_
  refine oV (aA (aD rfl rfl) (by omega)) ?_
  refine rO bG 6 rfl ?_
  refine oV (aY (aD rfl rfl) (by omega)) ?_
  refine rO bG 12 rfl ?_
  exact ak (aB rfl) ⟨congrArg (Value.int .i64) hs.symm, rfl⟩ (sub .nil aw)
 ·refine rC bG 10 rfl ?_
  refine oV (aA (aD rfl rfl) (by omega)) ?_
  refine rO bG 5 rfl ?_
  refine oV (aA (aD rfl rfl) (by omega)) ?_
  refine rO bG 6 rfl ?_
  refine oV (aA (aD rfl rfl) (by omega)) ?_
  refine rO bG 6 rfl ?_
  refine oV (aA (aD rfl rfl) (by omega)) ?_
  refine rO bG 6 rfl ?_
  refine oV (aA (aD rfl rfl) (by omega)) ?_
  refine rO bG 13 rfl ?_
  exact ak (aB rfl) ⟨congrArg (Value.int .i64) hs.symm, rfl⟩ (sub .nil aw)
set_option maxHeartbeats 1000000 in
theorem mT (x d : Int) (t : Bool) (ht : t = decide (aa.deep x d)) : aE Tryz.prog 57 [.int .i64 x, .int .i64 d] [] (aO fun v G => v = .bool t ∧ G = []) := by
 refine au [(0, _), (1, _)] Tryz.func57 rfl Tryz.ntmps57 rfl rfl ?_
 intro w0 F
 refine rT bG 5 rfl ?_
 rcases (aa.Nj x d) with ⟨a0, hs⟩ | ⟨a0, a1, hs⟩ | ⟨a0, a1, a2, hs⟩ | ⟨a0, a1, a2, a3, hs⟩ | ⟨a0, a1, a2, a3, hs⟩
 ·refine rC bG 9 rfl ?_
  refine oV (aY (aD rfl rfl) (by omega)) ?_
  refine rO bG 6 rfl ?_
  refine eb (I3) [1, 2, 4, 8, 16] V.cQ V.z3 rfl rfl rfl rfl rfl rfl ?_
  intro b8
  refine oV (aJ rfl) ?_
  refine ai (tB (some ⟨b8, 0, none⟩) 5 [1, 2, 4, 8, 16] (Row (aP 3 .i64) (some ⟨b8, 0, none⟩) 5 5 [1, 2, 4, 8, 16]) (fun _ _ hh => hh.rd) (by decide) d t (ht.trans hs)) V.Of  rfl (ar .nil) rfl ?_
  rintro _ _ ⟨rfl, rfl⟩
  refine rO bG 6 rfl ?_
  (rw [ht.trans hs]; exact ak (G := []) (aB rfl) ⟨rfl, rfl⟩ (sub .nil cC))
 ·refine rC bG 9 rfl ?_
  refine oV (aA (aD rfl rfl) (by omega)) ?_
  refine rO bG 6 rfl ?_
  refine oV (aY (aD rfl rfl) (by omega)) ?_
  refine rO bG 6 rfl ?_
  refine eb (I3) [1, 2, 4, 8] V.cQ V.z3 rfl rfl rfl rfl rfl rfl ?_
  intro FC
  refine oV (aJ rfl) ?_
  refine ai (tB (some ⟨FC, 0, none⟩) 4 [1, 2, 4, 8] (Row (aP 3 .i64) (some ⟨FC, 0, none⟩) 4 4 [1, 2, 4, 8]) (fun _ _ hh => hh.rd) (by decide) d t (ht.trans hs)) V.Of  rfl (ar .nil) rfl ?_
  rintro _ _ ⟨rfl, rfl⟩
  refine rO bG 6 rfl ?_
  (rw [ht.trans hs]; exact ak (G := []) (aB rfl) ⟨rfl, rfl⟩ (sub .nil cC))
 ·refine rC bG 9 rfl ?_
  refine oV (aA (aD rfl rfl) (by omega)) ?_
  refine rO bG 6 rfl ?_
  refine oV (aA (aD rfl rfl) (by omega)) ?_
  refine rO bG 10 rfl ?_
  refine ai (iM x) V.pf  rfl .nil rfl ?_
  rintro _ _ ⟨rfl, rfl⟩
  refine oV (aA (a8 rfl rfl) (by omega)) ?_
  refine rO bG 12 rfl ?_
  (rw [← ht.trans hs]; exact ak (G := []) (aB rfl) ⟨rfl, rfl⟩ (sub .nil aw))
 ·refine rC bG 9 rfl ?_
  refine oV (aA (aD rfl rfl) (by omega)) ?_
  refine rO bG 6 rfl ?_
  refine oV (aA (aD rfl rfl) (by omega)) ?_
  refine rO bG 10 rfl ?_
  refine ai (iM x) V.pf  rfl .nil rfl ?_
  rintro _ _ ⟨rfl, rfl⟩
  refine oV (aY (a8 rfl rfl) (by omega)) ?_
  refine rO bG 2 rfl ?_
  refine ag rfl ?_
  refine oV (aY (aD rfl rfl) (by omega)) ?_
  refine rO bG 9 rfl ?_
  (rw [← ht.trans hs]; exact ak (G := []) (aB rfl) ⟨rfl, rfl⟩ (sub .nil aw))
 ·refine rC bG 9 rfl ?_
  refine oV (aA (aD rfl rfl) (by omega)) ?_
  refine rO bG 6 rfl ?_
  refine oV (aA (aD rfl rfl) (by omega)) ?_
  refine rO bG 10 rfl ?_
  refine ai (iM x) V.pf  rfl .nil rfl ?_
  rintro _ _ ⟨rfl, rfl⟩
  refine oV (aY (a8 rfl rfl) (by omega)) ?_
  refine rO bG 2 rfl ?_
  refine ag rfl ?_
  refine oV (aA (aD rfl rfl) (by omega)) ?_
  refine rO bG 9 rfl ?_
  (rw [← ht.trans hs]; exact ak (G := []) (aB rfl) ⟨rfl, rfl⟩ (sub .nil aw))
end Go.Proofs.YtmaiakpjgomnpaaGreat
namespace Go.Proofs.YtmaiakpjgomnpaaGreat
open Go.Sl
theorem V.Kv : aF Tryz.prog 140 = true := by kernel_rfl
theorem V.OB : aF Tryz.prog 141 = true := by kernel_rfl
theorem V.gY : aF Tryz.prog 163 = true := by kernel_rfl
theorem V.Dj : aF Tryz.prog 164 = true := by kernel_rfl
theorem V.PQ : aF Tryz.prog 165 = true := by kernel_rfl
end Go.Proofs.YtmaiakpjgomnpaaGreat
namespace Go.Proofs.YtmaiakpjgomnpaaGreat
open Go.Sl
theorem V.tJ : jP Tryz.prog 68 = some (4, 62, 1) := by kernel_rfl
theorem V.OQ : aF Tryz.prog 161 = true := by kernel_rfl
theorem V.Iu : aF Tryz.prog 172 = true := by kernel_rfl
theorem V.O8 : aF Tryz.prog 185 = true := by kernel_rfl
theorem V.l6 : aF Tryz.prog 21 = true := by kernel_rfl
theorem V.Fe : aF Tryz.prog 67 = true := by kernel_rfl
theorem V.Qg : aF Tryz.prog 93 = true := by kernel_rfl
theorem V.Qq : cg Tryz.prog 158 0 = some 0 := by kernel_rfl
theorem V.Mz : fJ Tryz.prog 158 = some [(0, 4)] := by kernel_rfl
theorem V.Pt : dC Tryz.prog 158 = some ([.slice none 0 0, .slice none 0 0, .int .i64 0, .int .i64 0]) := by kernel_rfl
end Go.Proofs.YtmaiakpjgomnpaaGreat
namespace Go.Proofs.YtmaiakpjgomnpaaGreat
open Go.Sl 
theorem bO : dR Tryz.prog ⟨[22], [(26, 0, 0), (26, 1, 1), (38, 2, 2), (151, 0, 0), (151, 1, 1), (151, 2, 2), (156, 0, 0), (156, 2, 2), (158, 0, 0)]⟩ = true := by kernel_rfl
attribute [local irreducible] aj.av aa.bN aa.up aa.cU aa.gX
def HW (b : Nat) (B : List Int) (at_ : Nat) (out : List Int) (free : Int) : ab := fun w0 h => ∃ i : Lv, True ∧ dg w0 [ao b 158 [.slice i.p1 B.length i.c1, .slice i.p2 out.length i.c2, .int .i64 (at_ : Int), .int .i64 free], Row U5 i.p1 B.length i.c1 B, Row U5 i.p2 out.length i.c2 out] h
theorem rP {b at_ : Nat} {p1 p2 : Option Addr} {c1 c2 : Nat} {B out : List Int} {free : Int} {w0 : World} {h : Hp}
  (hh : dg w0 [ao b 158 [.slice p1 B.length c1, .slice p2 out.length c2, .int .i64 (at_ : Int), .int .i64 free], Row U5 p1 B.length c1 B, Row U5 p2 out.length c2 out] h) : HW b B at_ out free w0 h := ⟨⟨p1, c1, p2, c2⟩, trivial, hh⟩
theorem G8 (b : Nat) (B : List Int) (at_ : Nat) (out : List Int) (free : Int) (hl : B.length < 500000000) (ha : at_ ≤ 8 * B.length) : aE Tryz.prog 128 [.pointer (some ⟨b, 0, none⟩)] [HW b B at_ out free] (aO fun v G => v = .int .i64 (8 * (B.length : Int) - (at_ : Int)) ∧ G = [HW b B at_ out free]) := by
 refine au [(0, _)] Tryz.func128 rfl Tryz.ntmps128 rfl rfl ?_
 intro w0 F
 refine gC (fun h hh => hh) ?_
 rintro ⟨p1, c1, p2, c2⟩ _
 dsimp only
 refine rT bO 6 rfl ?_
 refine o1 V.mixed (by kernel_rfl) ?_
 refine rR bO 3 rfl ?_
 refine oR (ae V.ez rfl an rfl) ?_
 refine LK bO 5 rfl (by omega) ?_
 refine oR (ae V.s3 rfl an rfl) ?_
 refine LK bO 2 rfl (by omega) ?_
 refine Rg.cB ?_
 refine rN bO 2 rfl ?_
 exact ak (aB rfl) ⟨rfl, rfl⟩ (aX (ic .nil) aw (fun w0 h hh => rP hh))
theorem L3 (b : Nat) (B : List Int) (at_ : Nat) (out : List Int) (free : Int) (n : Int) (hl : B.length < 500000000) (ha : at_ ≤ 8 * B.length) (hn : 0 ≤ n ∧ n ≤ 24 ∧ n ≤ 8 * (B.length : Int) - at_) : aE Tryz.prog 92 [.pointer (some ⟨b, 0, none⟩), .int .i64 n] [HW b B at_ out free] (aO fun v G => v = .tuple #[] ∧ G = [HW b B at_ out free]) := by
 refine au [(0, _), (1, _)] Tryz.func92 rfl Tryz.ntmps92 rfl rfl ?_
 intro w0 F
 refine rT bO 3 rfl ?_
 refine oV (aA (bo rfl rfl) (by omega)) ?_
 refine rO bO 2 rfl ?_
 refine ag rfl ?_
 refine oV (aA (a8 rfl rfl) (by omega)) ?_
 refine rO bO 4 rfl ?_
 refine ag rfl ?_
 refine ai (G8 b B at_ out free hl ha) V.zU  rfl (ar .nil) rfl ?_
 rintro _ _ ⟨rfl, rfl⟩
 refine ag rfl ?_
 refine oV (aA (a8 rfl rfl) (by omega)) ?_
 refine rO bO 5 rfl ?_
 exact iR fH ⟨rfl, rfl⟩ (sub (ar .nil) aw)
theorem G9 (b : Nat) (B : List Int) (at_ : Nat) (out : List Int) (free : Int) (hl : B.length < 500000000) (hB : aj.av B) (ha : at_ < 8 * B.length) : aE Tryz.prog 93 [.pointer (some ⟨b, 0, none⟩)] [HW b B at_ out free] (aO fun v G => v = .int .i64 (aa.gX B at_) ∧ G = [HW b B (at_ + 1) out free]) := by
 refine au [(0, _)] Tryz.func93 rfl Tryz.ntmps93 rfl rfl ?_
 intro w0 F
 refine gC (fun h hh => hh) ?_
 rintro ⟨p1, c1, p2, c2⟩ _
 dsimp only
 have hq : U5.g B ((at_ : Int) / 8) = B.getD (at_ / 8) 0 := gE (at_ / 8) (by omega)
 have hb := hB.get (at_ / 8)
 have hd := aj.xD hb.1 hb.2 (7 - at_ % 8)
 have hb2 := aa.qT B at_
 have hbd : B.getD (at_ / 8) 0 / 2 ^ (7 - at_ % 8) % 2 = aa.gX B at_ := by unfold aa.gX; rfl
 refine rT bO 6 rfl ?_
 refine o1 V.mixed (by kernel_rfl) ?_
 refine rR bO 4 rfl ?_
 refine oR (ae V.ez rfl an rfl) ?_
 refine rR bO 4 rfl ?_
 refine oR (ae V.s3 rfl an rfl) ?_
 refine oR (fR rfl rfl (by omega) (jH (by omega) (by omega) (by omega))) ?_
 refine oR (xI V.cy (own bW)) ?_
 refine oR (xL V.s5 (own bW)) ?_
 refine rR bO 4 rfl ?_
 refine oR (ae V.s3 rfl an rfl) ?_
 refine oR (hG rfl rfl (by omega) (jE (by omega))) ?_
 refine LK bO 1 rfl (by omega) ?_
 refine oR (eg (r := B.getD (at_ / 8) 0 / 2 ^ (7 - at_ % 8)) rfl rfl (by omega) (by rw [hq]; exact aj.Ma hb.1 (by omega) (by omega))) ?_
 refine oR (dY rfl) ?_
 refine Rg.cB ?_
 refine rN bO 7 rfl ?_
 refine oV (ae V.s3 rfl an rfl) ?_
 refine cS bO 4 rfl (by omega) ?_
 refine aT (bT V.s3 rfl rfl rfl (by exact cZ) (by exact Nat.le_of_ble_eq_true rfl) rfl) ?_
 refine rO bO 5 rfl ?_
 refine oV (j0 (r := aa.gX B at_) rfl rfl ((aj.xc hd.1 hd.2).trans hbd)) ?_
 refine oV (bC V.u5 Tryz.underlying3 rfl wI) ?_
 refine rO bO 4 rfl ?_
 rw [show (at_ : Int) + 1 = ((at_ + 1 : Nat) : Int) from by omega]
 exact ak (aB rfl) ⟨rfl, rfl⟩ (aX (ic .nil) aw (fun w0 h hh => rP hh))
theorem kn (b : Nat) (B : List Int) (at_ : Nat) (out : List Int) (free : Int) (n : Nat) (hl : B.length < 500000000) (hB : aj.av B) (hn : n ≤ 24) (ha : at_ + n ≤ 8 * B.length) : aE Tryz.prog 56 [.pointer (some ⟨b, 0, none⟩), .int .i64 (n : Int)] [HW b B at_ out free] (aO fun v G => v = .int .i64 (aa.cU B at_ n) ∧ G = [HW b B (at_ + n) out free]) := by
 refine au [(0, _), (1, _)] Tryz.func56 rfl Tryz.ntmps56 rfl rfl ?_
 intro w0 F
 refine rT bO 11 rfl ?_
 refine ai (L3 b B at_ out free n hl (by omega) (by omega)) V.Jl  rfl (ar .nil) rfl ?_
 rintro _ _ ⟨rfl, rfl⟩
 refine rO bO 15 rfl ?_
 rw [show ((5 : Nat), Value.int .i64 0) = (5, .int .i64 (aa.cU B at_ 0)) from by unfold aa.cU; rfl]
 refine dX (fun (k : Nat) => [(0, .pointer (some ⟨b, 0, none⟩)), (5, .int .i64 (aa.cU B at_ k)), (11, .int .i64 (n : Int)), (12, .int .i64 (k : Int))]) (fun (k : Nat) => HW b B (at_ + k) out free :: F) (fun (k : Nat) => k ≤ n) (fun (k : Nat) => n - k) (i1 (0) ?_ (fZ ln) (sub (ar .nil) aw)) ?_
 ·exact Nat.zero_le _
 intro k
 rintro hk
 refine rL bO 6 rfl ?_
 refine aN rfl (fun h13 => ?_) (fun h13 => ?_)
 ·refine rC bO 4 rfl ?_
  have hb := aa.qT B (at_ + k)
  have hnb := aa.tI B at_ (n := k) (by omega)
  refine rC bO 2 rfl ?_
  refine oV (fX (r := 2 * (aa.cU B at_ k)) rfl rfl (by decide) (aa.MH (by omega))) ?_
  refine oV (aJ rfl) ?_
  refine ai (G9 b B (at_ + k) out free hl hB (by omega)) V.Qg  rfl (ar .nil) rfl ?_
  rintro _ _ ⟨rfl, rfl⟩
  refine oV (mW (r := (aa.cU B at_ (k + 1))) rfl rfl (aa.QB (by omega))) ?_
  refine cS bO 8 rfl (by omega) ?_
  refine j1 (k + 1) ?_ (fZ ln) (sub (ar .nil) aw)
  exact ⟨by omega, by omega⟩
 ·refine rC bO 12 rfl ?_
  obtain rfl : k = n := by omega
  exact ak (aB rfl) ⟨rfl, rfl⟩ (sub (ar .nil) aw)
theorem xw (p : Option Addr) (cap : Nat) (B : List Int) (R : ab) (hR : ∀ w0 h, R w0 h → aR U5 p B.length B w0 h) (hl : B.length < 500000000) : aE Tryz.prog 54 [.slice p B.length cap] [R] (aO fun v G => ∃ b, v = .pointer (some ⟨b, 0, none⟩) ∧ G = [HW b B 0 [] 0, R]) := by
 refine au [(0, _)] Tryz.func54 rfl Tryz.ntmps54 rfl rfl ?_
 intro w0 F
 refine rT bO 8 rfl ?_
 refine ai (oo p cap B R hR hl) V.yg  rfl (ar .nil) rfl ?_
 rintro _ _ ⟨q, c, rfl, rfl⟩
 refine oV (cD V.F7 V.z156 rfl (cs := [.slice q B.length c, .slice none 0 0, .int .i64 0, .int .i64 0]) rfl) ?_
 refine oV (cD V.Mz V.Pt rfl (cs := [.slice q B.length c, .slice none 0 0, .int .i64 0, .int .i64 0]) rfl) ?_
 refine eL rfl (cs := [.slice q B.length c, .slice none 0 0, .int .i64 0, .int .i64 0]) rfl rfl ?_
 intro b7
 refine rO bO 4 rfl ?_
 exact ak (aB rfl) ⟨b7, rfl, rfl⟩ ((ee (A := Row U5 none 0 0 []) (fun w0 => Row.nil _ _ _)).trans ((aX (.cons az (.cons az (ar .nil))) aw (fun w0 h hh => rP (p1 := q) (c1 := c) (p2 := none) (c2 := 0) (B := B) (out := []) (at_ := 0) (free := 0) hh)).trans (sub (bD .nil) aw)))
theorem Ru (w h ax : Int) (cm : Bool) (d x : Int) (hd : aa.jv d) (hx : 0 ≤ x ∧ x < 2 ^ d.toNat) : aE Tryz.prog 90 [.agg #[.int .i64 w, .int .i64 h, .int .i64 d, .int .i64 ax, .bool cm], .int .i64 x] [] (aO fun v G => v = .int .u16 (aa.up d x) ∧ G = []) := by
 refine au [(0, _), (1, _)] Tryz.func90 rfl Tryz.ntmps90 rfl rfl ?_
 intro w0 F
 obtain ⟨P, hP⟩ : ∃ P : Int, P = 2 ^ d.toNat := ⟨_, rfl⟩
 have hpb : 2 ≤ P ∧ P ≤ 65536 := hP ▸ aa.mF hd
 have hdi := aa.jM hd
 have hxP : x < P := hP ▸ hx.2
 have hui := aa.zP hd hx.1 hx.2
 have hq := Int.ediv_le_self (P - 1) (by decide : (0 : Int) ≤ 65535)
 have hq0 : 0 ≤ 65535 / (P - 1) := Int.ediv_nonneg (by decide) (by omega)
 refine rT bO 2 rfl ?_
 refine eL rfl (cs := [_, _, _, _, _]) rfl rfl ?_
 intro b2
 refine rO bO 7 rfl ?_
 refine oV (ae V.s3 rfl an rfl) ?_
 refine oV (bC V.u3 Tryz.underlying52 rfl (sr (by omega) (by omega))) ?_
 refine oV (fX (r := P) rfl rfl (by omega) ((aa.mD hd).trans hP.symm)) ?_
 refine cS bO 1 rfl (by omega) ?_
 refine oV (fR (r := 65535 / (P - 1)) rfl rfl (by omega) (jH (by omega) (by omega) (by omega))) ?_
 refine oV (jF (r := (aa.up d x)) rfl rfl (aa.up_mul hP hd hx.1 hxP)) ?_
 refine oV (bC V.u3 Tryz.underlying62 rfl (aa.BV hui)) ?_
 refine rO bO 4 rfl ?_
 exact ak (aB rfl) ⟨rfl, rfl⟩ (sub .nil cC)
set_option maxHeartbeats 1000000 in
theorem Es (d : Int) (hd : aa.jv d) : aE Tryz.prog 185 [.int .i64 d] [] (aO fun v G => v = .bool true ∧ G = []) := by
 refine au [(0, _)] Tryz.func185 rfl Tryz.ntmps185 rfl rfl ?_
 intro w0 F
 refine rT bO 5 rfl ?_
 rcases (aa.GX hd) with rfl | ⟨q0, rfl⟩ | ⟨q0, q1, rfl⟩ | ⟨q0, q1, q2, rfl⟩ | ⟨q0, q1, q2, q3, rfl⟩
 ·refine rC bO 10 rfl ?_
  refine oV (aY (aD rfl rfl) (by decide)) ?_
  refine rO bO 15 rfl ?_
  exact ak (aB rfl) ⟨rfl, rfl⟩ (sub .nil aw)
 ·refine rC bO 10 rfl ?_
  refine oV (aA (aD rfl rfl) (by decide)) ?_
  refine rO bO 6 rfl ?_
  refine oV (aY (aD rfl rfl) (by decide)) ?_
  refine rO bO 15 rfl ?_
  exact ak (aB rfl) ⟨rfl, rfl⟩ (sub .nil aw)
 ·refine rC bO 10 rfl ?_
  refine oV (aA (aD rfl rfl) (by decide)) ?_
  refine rO bO 6 rfl ?_
  refine oV (aA (aD rfl rfl) (by decide)) ?_
  refine rO bO 6 rfl ?_
  refine oV (aY (aD rfl rfl) (by decide)) ?_
  refine rO bO 15 rfl ?_
  exact ak (aB rfl) ⟨rfl, rfl⟩ (sub .nil aw)
 ·refine rC bO 10 rfl ?_
  refine oV (aA (aD rfl rfl) (by decide)) ?_
  refine rO bO 6 rfl ?_
  refine oV (aA (aD rfl rfl) (by decide)) ?_
  refine rO bO 6 rfl ?_
  refine oV (aA (aD rfl rfl) (by decide)) ?_
  refine rO bO 6 rfl ?_
  refine oV (aY (aD rfl rfl) (by decide)) ?_
  refine rO bO 15 rfl ?_
  exact ak (aB rfl) ⟨rfl, rfl⟩ (sub .nil aw)
 ·refine rC bO 10 rfl ?_
  refine oV (aA (aD rfl rfl) (by decide)) ?_
  refine rO bO 6 rfl ?_
  refine oV (aA (aD rfl rfl) (by decide)) ?_
  refine rO bO 6 rfl ?_
  refine oV (aA (aD rfl rfl) (by decide)) ?_
  refine rO bO 6 rfl ?_
  refine oV (aA (aD rfl rfl) (by decide)) ?_
  refine rO bO 5 rfl ?_
  refine oV (aY (aD rfl rfl) (by decide)) ?_
  refine rO bO 12 rfl ?_
  exact ak (aB rfl) ⟨rfl, rfl⟩ (sub .nil aw)
set_option maxHeartbeats 1000000 in
theorem IV (d x : Int) (hd : aa.jv d) (hx : 0 ≤ x ∧ x < 2 ^ d.toNat) : aE Tryz.prog 172 [.int .i64 x, .int .i64 d] [] (aO fun v G => v = .tuple #[.int .u16 (aa.up d x), .bool true] ∧ G = []) := by
 refine au [(0, _), (1, _)] Tryz.func172 rfl Tryz.ntmps172 rfl rfl ?_
 intro w0 F
 obtain ⟨P, hP⟩ : ∃ P : Int, P = 2 ^ d.toNat := ⟨_, rfl⟩
 have hpb : 2 ≤ P ∧ P ≤ 65536 := hP ▸ aa.mF hd
 have hdi := aa.jM hd
 have hxP : x < P := hP ▸ hx.2
 have hui := aa.zP hd hx.1 hx.2
 have hq := Int.ediv_le_self (P - 1) (by decide : (0 : Int) ≤ 65535)
 have hq0 : 0 ≤ 65535 / (P - 1) := Int.ediv_nonneg (by decide) (by omega)
 refine rT bO 10 rfl ?_
 refine ai (Es d hd) V.O8  rfl .nil rfl ?_
 rintro _ _ ⟨rfl, rfl⟩
 refine rO bO 3 rfl ?_
 refine ag rfl ?_
 refine oV (aA (bo rfl rfl) (by omega)) ?_
 refine rO bO 4 rfl ?_
 refine ag rfl ?_
 refine oV (fX (r := P) rfl rfl (by omega) ((aa.mD hd).trans hP.symm)) ?_
 refine ag rfl ?_
 refine oV (aA (fh rfl rfl) (by omega)) ?_
 refine rO bO 10 rfl ?_
 refine oV (fX (r := P) rfl rfl (by omega) ((aa.mD hd).trans hP.symm)) ?_
 refine cS bO 1 rfl (by omega) ?_
 refine oV (fR (r := 65535 / (P - 1)) rfl rfl (by omega) (jH (by omega) (by omega) (by omega))) ?_
 refine oV (jF (r := (aa.up d x)) rfl rfl (aa.up_mul hP hd hx.1 hxP)) ?_
 refine oV (bC V.u3 Tryz.underlying62 rfl (aa.BV hui)) ?_
 refine rO bO 5 rfl ?_
 exact ak (fy rfl rfl) ⟨rfl, rfl⟩ (sub .nil aw)
theorem tp (x : Int) (hx : 0 ≤ x ∧ x < 256) : aE Tryz.prog 184 [.int .u8 x] [] (aO fun v G => v = .int .u16 (x * 257) ∧ G = []) := by
 refine au [(0, _)] Tryz.func184 rfl Tryz.ntmps184 rfl rfl ?_
 intro w0 F
 refine rT bO 8 rfl ?_
 refine oV (bC V.u5 Tryz.underlying3 rfl wI) ?_
 refine ai (IV 8 x (.inr (.inr (.inr (.inl rfl)))) hx) V.Iu  rfl .nil rfl ?_
 rintro _ _ ⟨rfl, rfl⟩
 rw [aa.QV]
 refine rO bO 14 rfl ?_
 exact ak (aB rfl) ⟨rfl, rfl⟩ (sub .nil aw)
set_option maxHeartbeats 1000000 in
theorem OS (w h : Int) (hs : aa.bN w h = 0) (q : Option Addr) (n c : Nat) (hn : (n : Int) = 4 * w * h) (xx yy : Int) (hx : 0 ≤ xx ∧ xx < w) (hy : 0 ≤ yy ∧ yy < h) : aE Tryz.prog 161 [.agg #[.int .i64 w, .int .i64 h, .slice q n c], .int .i64 xx, .int .i64 yy] [] (aO fun v G => v = .tuple #[.int .i64 (4 * (yy * w + xx)), .bool true] ∧ G = []) := by
 refine au [(0, _), (1, _), (2, _)] Tryz.func161 rfl Tryz.ntmps161 rfl rfl ?_
 intro w0 F
 have hsd := aa.jY hs
 have hp := aa.wk hx hy
 have h44 : 4 * w * h = 4 * (w * h) := Int.mul_assoc _ _ _
 refine rT bO 2 rfl ?_
 refine eL rfl (cs := [_, _, _]) rfl rfl ?_
 intro b3
 refine rO bO 6 rfl ?_
 refine oV (bJ V.ei rfl an (vs := [_, _, _]) rfl rfl) ?_
 refine ai (Nw w h q n c true (decide_eq_true ⟨hs, hn⟩).symm) V.Fe  rfl .nil rfl ?_
 rintro _ _ ⟨rfl, rfl⟩
 refine rO bO 2 rfl ?_
 refine ag rfl ?_
 refine oV (aY (fh rfl rfl) (by omega)) ?_
 refine rO bO 4 rfl ?_
 refine ag rfl ?_
 refine oV (ae V.s3 rfl an rfl) ?_
 refine ag rfl ?_
 refine oV (aY (bo rfl rfl) (by omega)) ?_
 refine rO bO 3 rfl ?_
 refine ag rfl ?_
 refine oV (aY (fh rfl rfl) (by omega)) ?_
 refine rO bO 4 rfl ?_
 refine ag rfl ?_
 refine oV (ae V.s3 rfl an rfl) ?_
 refine ag rfl ?_
 refine oV (aY (bo rfl rfl) (by omega)) ?_
 refine rO bO 8 rfl ?_
 refine oV (ae V.s3 rfl an rfl) ?_
 refine cS bO 10 rfl (by omega) ?_
 exact ak (fy rfl rfl) ⟨rfl, rfl⟩ (sub .nil cC)
set_option maxHeartbeats 2000000 in
theorem M7 (w h : Int) (hs : aa.bN w h = 0) (q : Option Addr) (n c : Nat) (hn : (n : Int) = 4 * w * h) (hcap : n ≤ c) (l : List Int) (xx yy : Int) (hx : 0 ≤ xx ∧ xx < w) (hy : 0 ≤ yy ∧ yy < h) (c0 c1 c2 c3 : Int) : aE Tryz.prog 152 [.agg #[.int .i64 w, .int .i64 h, .slice q n c], .int .i64 xx, .int .i64 yy, .agg #[.int .u16 c0, .int .u16 c1, .int .u16 c2, .int .u16 c3]] [Row (aP 62 .u16) q n c l] (aO fun v G => v = .bool true ∧ G = [Row (aP 62 .u16) q n c (aa.lE w l xx yy [c0, c1, c2, c3])]) := by
 refine au [(0, _), (1, _), (2, _), (3, _)] Tryz.func152 rfl Tryz.ntmps152 rfl rfl ?_
 intro w0 F
 have hsd := aa.jY hs
 have hp := aa.wk hx hy
 have h44 : 4 * w * h = 4 * (w * h) := Int.mul_assoc _ _ _
 refine rT bO 2 rfl ?_
 refine eL rfl (cs := [_, _, _]) rfl rfl ?_
 intro b4
 refine eL rfl (cs := CA [] .u16 [c0, c1, c2, c3] []) rfl rfl ?_
 intro b7
 refine rO bO 5 rfl ?_
 refine oV (bJ V.ei rfl bW (vs := [_, _, _]) rfl rfl) ?_
 refine rO bO 2 rfl ?_
 refine ai (OS w h hs q n c hn xx yy hx hy) V.OQ  rfl .nil rfl ?_
 rintro _ _ ⟨rfl, rfl⟩
 refine rO bO 14 rfl ?_
 refine wN [pz 0 [] [4], pz 1 [0] [], pz 0 [] [9], pz 7 [1, 2] [], pz 0 [] [7], pz 31 [3, 4] []] [⟨fun y => ao b7 68 (CA [] .u16 [c0, c1, c2, c3] []), none, none, [5]⟩, ⟨fun y => ao b4 26 [.int .i64 w, .int .i64 h, .slice q n c], none, none, [1]⟩, ⟨fun y => Row (aP 62 .u16) q n c l, none, some 5, []⟩, ⟨fun y => Row (aP 62 .u16) q n c (aa.lE w l xx yy [c0, c1, c2, c3]), some 5, none, []⟩] F V.mixed ?_
 refine nG V.lY ?_
 refine nR (fun y FF hA => ae V.nD rfl an rfl) ?_
 refine nM ?_
 refine nV (fun y hA L => dQ ((4 * (yy * w + xx))).toNat _ _ V.hI rfl ⟨_, (show aq _ _ = some (.int _ (4 * (yy * w + xx))) from rfl).trans (by rw [Int.toNat_of_nonneg (by omega)])⟩ ⟨rfl, rfl⟩ rfl (by omega) (by omega) (by omega)) ?_
 refine nV (fun y hA L => BE V.tJ rfl) ?_
 refine nE (fun y FF hA => C5 (K8 (c := (aP 62 .u16)) (k := (4 * (yy * w + xx)).toNat) (n := n) (cap := c) (l := l) (ws := [c0, c1, c2, c3]) (cnt := 4) rfl V.hI rfl rfl fw.head (QL (by exact .head _)) (by omega) (by omega) (by omega) (by omega)) (.refl _)) ?_
 refine aU ?_
 intro y hA
 clear hA
 refine ba ?_
 refine bZ _ (.cons (d := 10) rfl (.nil _)) ?_
 refine bP (M := ao b7 68 (CA [] .u16 [c0, c1, c2, c3] []) :: ao b4 26 [.int .i64 w, .int .i64 h, .slice q n c] :: Row (aP 62 .u16) q n c (aa.lE w l xx yy [c0, c1, c2, c3]) :: F) (fun _ _ h => h) ?_
 refine rC bO 7 rfl ?_
 exact ak (aB rfl) ⟨rfl, rfl⟩ (sub (.cons bX .nil) hJ)
end Go.Proofs.YtmaiakpjgomnpaaGreat
namespace Go.Proofs.YtmaiakpjgomnpaaGreat
open Go.Sl
theorem V.jk : hH Tryz.prog 35 = some 5 := by kernel_rfl
theorem V.ma : hH Tryz.prog 68 = some 4 := by kernel_rfl
theorem V.LH : aF Tryz.prog 54 = true := by kernel_rfl
theorem V.Oe : aF Tryz.prog 55 = true := by kernel_rfl
theorem V.sP : aF Tryz.prog 56 = true := by kernel_rfl
theorem V.wx : aF Tryz.prog 57 = true := by kernel_rfl
theorem V.An : cg Tryz.prog 35 0 = some 0 := by kernel_rfl
theorem V.sX : cg Tryz.prog 35 1 = some 1 := by kernel_rfl
theorem V.lU : cg Tryz.prog 35 2 = some 2 := by kernel_rfl
theorem V.qQ : cg Tryz.prog 35 3 = some 3 := by kernel_rfl
theorem V.Ri : cg Tryz.prog 35 4 = some 4 := by kernel_rfl
theorem V.qf : fJ Tryz.prog 35 = some [(0, 1), (1, 1), (2, 1), (3, 1), (4, 1)] := by kernel_rfl
theorem V.pL : df Tryz.prog 105 = true := by kernel_rfl
theorem V.lC : df Tryz.prog 62 = true := by kernel_rfl
theorem V.z105 : dC Tryz.prog 105 = some ([.pointer none]) := by kernel_rfl
theorem V.m8 : dC Tryz.prog 35 = some ([.int .i64 0, .int .i64 0, .int .i64 0, .int .i64 0, .bool false]) := by kernel_rfl
theorem V.pj : dC Tryz.prog 68 = some ([.int .u16 0, .int .u16 0, .int .u16 0, .int .u16 0]) := by kernel_rfl
end Go.Proofs.YtmaiakpjgomnpaaGreat
namespace Go.Proofs.YtmaiakpjgomnpaaGreat
open Go.Sl 
theorem bp : dR Tryz.prog ⟨[22, 24], [(26, 0, 0), (26, 1, 1), (26, 2, 2), (35, 0, 0), (35, 1, 1), (35, 2, 2), (35, 3, 3), (35, 4, 4), (38, 0, 0), (38, 1, 1), (38, 2, 2), (38, 3, 3)]⟩ = true := by kernel_rfl
attribute [local irreducible] aj.av aa.bN aa.up aa.cU aa.gX aa.Bh aa.fO aa.jm aa.deep aa.parts HW
abbrev HV (h : aa.Hd) : Value := .agg #[.int .i64 h.w, .int .i64 h.h, .int .i64 h.dep, .int .i64 h.ax, .bool h.cm]
set_option maxHeartbeats 2000000 in
theorem BA (w1 h1 : Int) (q1 : Option Addr) (n1 c1 : Nat) (L1 : List Int) (hn1 : L1.length = n1) (R1 : ab) (hR1 : ∀ w0 h, R1 w0 h → aR (aP 62 .u16) q1 n1 L1 w0 h) (w2 h2 : Int) (q2 : Option Addr) (n2 c2 : Nat) (L2 : List Int) (hn2 : L2.length = n2) (R2 : ab) (hR2 : ∀ w0 h, R2 w0 h → aR (aP 62 .u16) q2 n2 L2 w0 h) (hs1 : n1 ≤ 100000000) (t : Bool) (ht : t = decide (aa.jm w1 h1 n1 w2 h2 n2 L1 L2)) : aE Tryz.prog 23 [.agg #[.int .i64 w1, .int .i64 h1, .slice q1 n1 c1], .agg #[.int .i64 w2, .int .i64 h2, .slice q2 n2 c2]] [R1, R2] (aO fun v G => v = .bool t ∧ G = [R1, R2]) := by
 refine au [(0, _), (1, _)] Tryz.func23 rfl Tryz.ntmps23 rfl rfl ?_
 intro w0 F
 refine rT bp 2 rfl ?_
 refine eL rfl (cs := [_, _, _]) rfl rfl ?_
 intro b2
 refine eL rfl (cs := [_, _, _]) rfl rfl ?_
 intro b3
 refine rO bp 3 rfl ?_
 rcases (aa.NI w1 h1 n1 w2 h2 n2 L1 L2) with ⟨a, hs⟩ | ⟨a, a2, hs⟩ | ⟨a, a2, a3, hs⟩ | ⟨a, a2, a3, a4, hs⟩ | ⟨a, a2, a3, a4, a5⟩
 ·refine rC bp 3 rfl ?_
  refine oV (bJ V.ei rfl bW (vs := [_, _, _]) rfl rfl) ?_
  refine ai (lr w1 h1 q1 n1 c1 false (decide_eq_false a).symm) V.l6  rfl .nil rfl ?_
  rintro _ _ ⟨rfl, rfl⟩
  refine rO bp 30 rfl ?_
  obtain rfl : t = false := ht.trans (decide_eq_false hs)
  exact ak (aB rfl) ⟨rfl, rfl⟩ (sub (.cons bX (.cons bX .nil)) hJ)
 ·refine rC bp 3 rfl ?_
  refine oV (bJ V.ei rfl bW (vs := [_, _, _]) rfl rfl) ?_
  refine ai (lr w1 h1 q1 n1 c1 true (decide_eq_true a).symm) V.l6  rfl .nil rfl ?_
  rintro _ _ ⟨rfl, rfl⟩
  refine rO bp 2 rfl ?_
  refine ag rfl ?_
  refine oV (bJ V.ei rfl an (vs := [_, _, _]) rfl rfl) ?_
  refine ag rfl ?_
  refine ai (lr w2 h2 q2 n2 c2 false (decide_eq_false a2).symm) V.l6  rfl .nil rfl ?_
  rintro _ _ ⟨rfl, rfl⟩
  refine rO bp 26 rfl ?_
  obtain rfl : t = false := ht.trans (decide_eq_false hs)
  exact ak (aB rfl) ⟨rfl, rfl⟩ (sub (.cons bX (.cons bX .nil)) hJ)
 ·refine rC bp 3 rfl ?_
  refine oV (bJ V.ei rfl bW (vs := [_, _, _]) rfl rfl) ?_
  refine ai (lr w1 h1 q1 n1 c1 true (decide_eq_true a).symm) V.l6  rfl .nil rfl ?_
  rintro _ _ ⟨rfl, rfl⟩
  refine rO bp 2 rfl ?_
  refine ag rfl ?_
  refine oV (bJ V.ei rfl an (vs := [_, _, _]) rfl rfl) ?_
  refine ag rfl ?_
  refine ai (lr w2 h2 q2 n2 c2 true (decide_eq_true a2).symm) V.l6  rfl .nil rfl ?_
  rintro _ _ ⟨rfl, rfl⟩
  refine rO bp 4 rfl ?_
  refine ag rfl ?_
  refine oV (ae V.s3 rfl bW rfl) ?_
  refine ag rfl ?_
  refine oV (aG V.te rfl) ?_
  refine ag rfl ?_
  refine oV (ae V.s3 rfl an rfl) ?_
  refine ag rfl ?_
  refine oV (aY (bY rfl rfl) a3) ?_
  refine rO bp 18 rfl ?_
  obtain rfl : t = false := ht.trans (decide_eq_false hs)
  exact ak (aB rfl) ⟨rfl, rfl⟩ (sub (.cons bX (.cons bX .nil)) hJ)
 ·refine rC bp 3 rfl ?_
  refine oV (bJ V.ei rfl bW (vs := [_, _, _]) rfl rfl) ?_
  refine ai (lr w1 h1 q1 n1 c1 true (decide_eq_true a).symm) V.l6  rfl .nil rfl ?_
  rintro _ _ ⟨rfl, rfl⟩
  refine rO bp 2 rfl ?_
  refine ag rfl ?_
  refine oV (bJ V.ei rfl an (vs := [_, _, _]) rfl rfl) ?_
  refine ag rfl ?_
  refine ai (lr w2 h2 q2 n2 c2 true (decide_eq_true a2).symm) V.l6  rfl .nil rfl ?_
  rintro _ _ ⟨rfl, rfl⟩
  refine rO bp 4 rfl ?_
  refine ag rfl ?_
  refine oV (ae V.s3 rfl bW rfl) ?_
  refine ag rfl ?_
  refine oV (aG V.te rfl) ?_
  refine ag rfl ?_
  refine oV (ae V.s3 rfl an rfl) ?_
  refine ag rfl ?_
  refine oV (aA (bY rfl rfl) (fun hh => hh a3)) ?_
  refine rO bp 3 rfl ?_
  refine ag rfl ?_
  refine oV (ae V.s3 rfl bW rfl) ?_
  refine ag rfl ?_
  refine oV (aG V.nC rfl) ?_
  refine ag rfl ?_
  refine oV (ae V.s3 rfl an rfl) ?_
  refine ag rfl ?_
  refine oV (aY (bY rfl rfl) a4) ?_
  refine rO bp 11 rfl ?_
  obtain rfl : t = false := ht.trans (decide_eq_false hs)
  exact ak (aB rfl) ⟨rfl, rfl⟩ (sub (.cons bX (.cons bX .nil)) hJ)
 ·refine rC bp 3 rfl ?_
  refine oV (bJ V.ei rfl bW (vs := [_, _, _]) rfl rfl) ?_
  refine ai (lr w1 h1 q1 n1 c1 true (decide_eq_true a).symm) V.l6  rfl .nil rfl ?_
  rintro _ _ ⟨rfl, rfl⟩
  refine rO bp 2 rfl ?_
  refine ag rfl ?_
  refine oV (bJ V.ei rfl an (vs := [_, _, _]) rfl rfl) ?_
  refine ag rfl ?_
  refine ai (lr w2 h2 q2 n2 c2 true (decide_eq_true a2).symm) V.l6  rfl .nil rfl ?_
  rintro _ _ ⟨rfl, rfl⟩
  refine rO bp 4 rfl ?_
  refine ag rfl ?_
  refine oV (ae V.s3 rfl bW rfl) ?_
  refine ag rfl ?_
  refine oV (aG V.te rfl) ?_
  refine ag rfl ?_
  refine oV (ae V.s3 rfl an rfl) ?_
  refine ag rfl ?_
  refine oV (aA (bY rfl rfl) (fun hh => hh a3)) ?_
  refine rO bp 3 rfl ?_
  refine ag rfl ?_
  refine oV (ae V.s3 rfl bW rfl) ?_
  refine ag rfl ?_
  refine oV (aG V.nC rfl) ?_
  refine ag rfl ?_
  refine oV (ae V.s3 rfl an rfl) ?_
  refine ag rfl ?_
  refine oV (aA (bY rfl rfl) (fun hh => hh a4)) ?_
  refine rO bp 13 rfl ?_
  refine dX (fun (i : Nat) => [(2, .pointer (some ⟨b2, 0, none⟩)), (3, .pointer (some ⟨b3, 0, none⟩)), (5, .int .i64 (i : Int))]) (fun (i : Nat) => ao b3 26 [.int .i64 w2, .int .i64 h2, .slice q2 n2 c2] :: ao b2 26 [.int .i64 w1, .int .i64 h1, .slice q1 n1 c1] :: R1 :: R2 :: F) (fun (i : Nat) => i ≤ n1 ∧ ∀ j, j < i → L1.getD j 0 = L2.getD j 0) (fun (i : Nat) => n1 - i) (i1 (0) ?_ (jg ln) (sub (ny .nil) aw)) ?_
  ·exact ⟨Nat.zero_le _, fun j hj => by omega⟩
  intro i
  rintro ⟨hi, hall⟩
  refine rL bp 5 rfl ?_
  refine oV (ae V.nD rfl bW rfl) ?_
  refine rO bp 4 rfl ?_
  refine aN rfl (fun h32 => ?_) (fun h32 => ?_)
  ·refine rC bp 4 rfl ?_
   rcases (Classical.em (((aP 62 .u16).g L1 (i : Int)) ≠ ((aP 62 .u16).g L2 (i : Int)))) with hne | hne
   ·refine rC bp 1 rfl ?_
    refine o1 V.mixed (by kernel_rfl) ?_
    refine oR (aG V.lY rfl) ?_
    refine oR (ae V.nD rfl bW rfl) ?_
    refine oR (aJ rfl) ?_
    refine oR (xI V.hI (by exact bE hR1 dH)) ?_
    refine oR (xL V.lC (by exact bE hR1 dH)) ?_
    refine oR (aG V.lY rfl) ?_
    refine oR (ae V.nD rfl an rfl) ?_
    refine oR (aJ rfl) ?_
    refine oR (xI V.hI (by exact bE hR2 eI)) ?_
    refine oR (xL V.lC (by exact bE hR2 eI)) ?_
    refine oR (aY (bY rfl rfl) hne) ?_
    refine Rg.cB ?_
    refine rN bp 13 rfl ?_
    obtain rfl : t = false := ht.trans (decide_eq_false (fun hh => aa.F4 hne (by unfold aa.jm at hh; exact hh.2.2.2.2)))
    exact ak (aB rfl) ⟨rfl, rfl⟩ (sub (.cons bX (.cons bX .nil)) hJ)
   ·refine rC bp 1 rfl ?_
    refine o1 V.mixed (by kernel_rfl) ?_
    refine oR (aG V.lY rfl) ?_
    refine oR (ae V.nD rfl bW rfl) ?_
    refine oR (aJ rfl) ?_
    refine oR (xI V.hI (by exact bE hR1 dH)) ?_
    refine oR (xL V.lC (by exact bE hR1 dH)) ?_
    refine oR (aG V.lY rfl) ?_
    refine oR (ae V.nD rfl an rfl) ?_
    refine oR (aJ rfl) ?_
    refine oR (xI V.hI (by exact bE hR2 eI)) ?_
    refine oR (xL V.lC (by exact bE hR2 eI)) ?_
    refine oR (aA (bY rfl rfl) hne) ?_
    refine Rg.cB ?_
    refine JJ bp 10 rfl (by omega) ?_
    refine j1 (i + 1) ?_ (jg ln) (sub (ny .nil) aw)
    exact ⟨⟨by omega, fun j hj => (Nat.lt_succ_iff_lt_or_eq.1 hj).elim (hall j) (fun e => e ▸ Classical.not_not.1 hne)⟩, by omega⟩
  ·refine rC bp 11 rfl ?_
   obtain rfl : t = true := ht.trans (decide_eq_true (by unfold aa.jm; exact ⟨a, a2, a3, a4, aa.AB (by omega) (fun j hj => hall j (by omega))⟩))
   exact ak (aB rfl) ⟨rfl, rfl⟩ (sub (.cons bX (.cons bX .nil)) hJ)
set_option maxHeartbeats 1000000 in
theorem AD (b b4 : Nat) (B : List Int) (out : List Int) (free : Int) (hl : B.length < 500000000) (hB : aj.av B) (j : Nat) (hj : j + 4 ≤ B.length) : aE Tryz.prog 55 [.pointer (some ⟨b4, 0, none⟩)] [HW b B (8 * j) out free, ao b4 105 [.pointer (some ⟨b, 0, none⟩)]] (aO fun v G => v = .int .i64 (aL.dU (B.drop j)) ∧ G = [HW b B (8 * j + 32) out free, ao b4 105 [.pointer (some ⟨b, 0, none⟩)]]) := by
 refine au [(0, _)] Tryz.func55 rfl Tryz.ntmps55 rfl rfl ?_
 intro w0 F
 have h1 := aa.zN B (8 * j)
 have h2 := aa.zN B (8 * j + 16)
 refine rT bp 6 rfl ?_
 refine wN [pz 0 [] [0], pz 1 [0] [], pz 3 [1] [], pz 0 [] [0], pz 11 [3] [], pz 31 [2, 4] [], pz 63 [5] []] [⟨fun y => HW b B (8 * j) out free, none, some 1, []⟩, ⟨fun y => ao b4 105 [.pointer (some ⟨b, 0, none⟩)], none, none, [0, 3]⟩, ⟨fun y => HW b B (8 * j + 16) out free, some 1, some 4, []⟩, ⟨fun y => HW b B (8 * j + 16 + 16) out free, some 4, none, []⟩] F V.mixed ?_
 refine nR (fun y FF hA => ae V.pL rfl an rfl) ?_
 refine nE (fun y FF hA => bK (Post := [HW b B (8 * j + 16) out free]) (kn b B (8 * j) out free 16 hl hB (by decide) (by omega)) V.sP rfl (ar .nil) (fun v G h => by rcases h with ⟨rfl, rfl⟩; exact ⟨rfl, .refl _⟩)) ?_
 refine nV (fun y hA L => fX (r := (aa.cU B (8 * j) 16) * 65536) rfl rfl (by decide) (aL.w7 (n := 16) rfl (by decide) rfl (by omega) (by omega))) ?_
 refine nR (fun y FF hA => ae V.pL rfl an rfl) ?_
 refine nE (fun y FF hA => bK (Post := [HW b B (8 * j + 16 + 16) out free]) (kn b B (8 * j + 16) out free 16 hl hB (by decide) (by omega)) V.sP rfl (ar .nil) (fun v G h => by rcases h with ⟨rfl, rfl⟩; exact ⟨rfl, .refl _⟩)) ?_
 refine nV (fun y hA L => mW (r := (aa.cU B (8 * j) 16) * 65536 + (aa.cU B (8 * j + 16) 16)) rfl rfl (aL.qh (u := (aa.cU B (8 * j) 16)) (n := 16) rfl h1.1 (by omega) (by omega))) ?_
 refine nA ?_
 refine aU ?_
 intro y hA
 clear hA
 refine ba ?_
 refine bZ _ (.cons (d := 1) rfl (.nil _)) ?_
 refine bP (M := ao b4 105 [.pointer (some ⟨b, 0, none⟩)] :: HW b B (8 * j + 16 + 16) out free :: F) (fun _ _ h => h) ?_
 refine rC bp 1 rfl ?_
 exact ak (aB rfl) ⟨congrArg (Value.int .i64) (aa.Lc hB j), rfl⟩ (sub (.cons az (ar .nil)) aw)
set_option maxHeartbeats 4000000 in
theorem ti (p : Option Addr) (c : Nat) (B : List Int) (R : ab) (hR : ∀ w0 h, R w0 h → aR U5 p B.length B w0 h) (hB : aj.av B) : aE Tryz.prog 17 [.slice p B.length c] [R] (aO fun v G => v = .tuple #[HV (aa.Ku B), .int .i64 (aa.fO B)] ∧ G = [R]) := by
 refine au [(0, _)] Tryz.func17 rfl Tryz.ntmps17 rfl rfl ?_
 intro w0 F
 have hb8 := hB.get 8
 have hb9 := hB.get 9
 have hb10 := hB.get 10
 have hb11 := hB.get 11
 have hb12 := hB.get 12
 refine rT bp 2 rfl ?_
 refine cn V.m8 rfl ?_
 intro b2
 refine rO bp 3 rfl ?_
 rcases (Classical.em (B.length ≠ 13)) with h0 | h0
 ·refine rC bp 5 rfl ?_
  refine oV (aY (bY rfl rfl) (by omega)) ?_
  refine rO bp 5 rfl ?_
  refine oV (cD V.qf V.m8 rfl (cs := [_, _, _, _, _]) rfl) ?_
  refine aT (aH V.jk rfl rfl (us := [_, _, _, _, _]) rfl rfl (by exact cZ) (by exact Nat.le_of_ble_eq_true rfl) rfl) ?_
  refine rO bp 5 rfl ?_
  exact ak (eZ V.jk rfl an rfl rfl) ⟨by rw [aa.Bq h0, aa.oZ (aa.Bq h0) (by decide)]; rfl, rfl⟩ (sub (.cons az .nil) cC)
 ·refine rC bp 5 rfl ?_
  refine oV (aA (bY rfl rfl) (by omega)) ?_
  refine rO bp 8 rfl ?_
  refine ai (xw p c B R hR (by omega)) V.LH  rfl (.cons az .nil) rfl ?_
  rintro _ _ ⟨bx, rfl, rfl⟩
  refine cn V.z105 rfl ?_
  intro b4
  refine aT (bT V.pL rfl rfl rfl (by exact cZ) (by exact Nat.le_of_ble_eq_true rfl) rfl) ?_
  refine rO bp 4 rfl ?_
  refine oV (zV (fs := []) (cs := [_]) rfl rfl) ?_
  refine rO bp 4 rfl ?_
  refine lx [pz 0 [] [5], pz 1 [0] [], pz 0 [] [5], pz 7 [2] [], pz 0 [] [4], pz 31 [4] [], pz 0 [] [4], pz 127 [6] [], pz 255 [1, 3, 5, 7] [], pz 0 [] [], pz 1023 [9, 8] []] [⟨fun y => ao b4 105 [.pointer (some ⟨bx, 0, none⟩)], none, none, [1, 3, 4, 6]⟩, ⟨fun y => HW bx B (8 * 0) [] 0, none, some 1, []⟩, ⟨fun y => R, none, none, []⟩, ⟨fun y => ao b2 35 [.int .i64 0, .int .i64 0, .int .i64 0, .int .i64 0, .bool false], none, none, []⟩, ⟨fun y => HW bx B (8 * 4) [] 0, some 1, some 3, []⟩, ⟨fun y => HW bx B (8 * 8) [] 0, some 3, some 5, []⟩, ⟨fun y => HW bx B (8 * 9) [] 0, some 5, some 7, []⟩, ⟨fun y => HW bx B (8 * 10) [] 0, some 7, none, []⟩, ⟨fun y => ao (gx (y 9)) 35 [.int .i64 0, .int .i64 0, .int .i64 0, .int .i64 0, .bool false], some 9, some 10, []⟩, ⟨fun y => ao (gx (y 9)) 35 [.int .i64 (aL.dU B), .int .i64 (aL.dU (B.drop 4)), .int .i64 (B.getD 8 0), .int .i64 (B.getD 9 0), .bool false], some 10, none, []⟩] F V.mixed (by kernel_rfl) rfl (fun _ => .refl _) (bV _ (bV _ (bV _ (bV _ (eA _ rfl (by intro y y2 h; rfl) (eA _ rfl (by intro y y2 h; rfl) (eA _ rfl (by intro y y2 h; rfl) (eA _ rfl (by intro y y2 h; rfl) (eA _ rfl (by intro y y2 h; simp only [h 9 (.inl rfl)]) (eA _ rfl (by intro y y2 h; simp only [h 9 (.inr (by decide))]) ir)))))))))) ?_
  refine nM ?_
  refine nE (fun y FF hA => k5 (vs := []) (fs := []) (cs := [.pointer (some ⟨b4, 0, none⟩)]) (Post := [HW bx B (8 * 4) [] 0, ao b4 105 [.pointer (some ⟨bx, 0, none⟩)]]) (AD bx b4 B [] 0 (by omega) hB 0 (by omega)) V.Oe rfl rfl (bD .nil) (fun v G h => by rcases h with ⟨rfl, rfl⟩; exact ⟨rfl, .refl _⟩)) ?_
  refine nM ?_
  refine nE (fun y FF hA => k5 (vs := []) (fs := []) (cs := [.pointer (some ⟨b4, 0, none⟩)]) (Post := [HW bx B (8 * 8) [] 0, ao b4 105 [.pointer (some ⟨bx, 0, none⟩)]]) (AD bx b4 B [] 0 (by omega) hB 4 (by omega)) V.Oe rfl rfl (bD .nil) (fun v G h => by rcases h with ⟨rfl, rfl⟩; exact ⟨rfl, .refl _⟩)) ?_
  refine nR (fun y FF hA => ae V.pL rfl an rfl) ?_
  refine nE (fun y FF hA => bK (Post := [HW bx B (8 * 9) [] 0]) (kn bx B (8 * 8) [] 0 8 (by omega) hB (by decide) (by omega)) V.sP rfl (ar .nil) (fun v G h => by rcases h with ⟨rfl, rfl⟩; exact ⟨by rw [aa.m0 (hB.get 8)], .refl _⟩)) ?_
  refine nR (fun y FF hA => ae V.pL rfl an rfl) ?_
  refine nE (fun y FF hA => bK (Post := [HW bx B (8 * 10) [] 0]) (kn bx B (8 * 9) [] 0 8 (by omega) hB (by decide) (by omega)) V.sP rfl (ar .nil) (fun v G h => by rcases h with ⟨rfl, rfl⟩; exact ⟨by rw [aa.m0 (hB.get 9)], .refl _⟩)) ?_
  refine nV (fun y hA L => cD V.qf V.m8 rfl (cs := [.int .i64 (aL.dU B), .int .i64 (aL.dU (B.drop 4)), .int .i64 (B.getD 8 0), .int .i64 (B.getD 9 0), .bool false]) (by kernel_rfl)) ?_
  refine gN (fun y v => .pointer (some ⟨gx v, 0, none⟩)) (fun y v => True) _ _ (fun y v => [ao (gx v) 35 [.int .i64 0, .int .i64 0, .int .i64 0, .int .i64 0, .bool false]]) _ (fun y => rfl) (fun y => rfl) (fun y => rfl) (fun y => rfl) (fun y FF hA => uA (uj V.m8)) (by intros; rfl) (by intros; rfl) (by intros; rfl) (by intro y y2 h; simp only [h 9 (.inl rfl)]) (by intro y y2 h; rfl) ?_
  refine nE (fun y FF hA => du (aH V.jk rfl rfl (us := [_, _, _, _, _]) rfl rfl (by exact cZ) (by exact Nat.le_of_ble_eq_true rfl) rfl) ⟨rfl, .refl _⟩) ?_
  refine aU ?_
  intro y hA
  clear hA
  refine ba ?_
  refine bZ [(2, .pointer (some ⟨b2, 0, none⟩)), (4, .pointer (some ⟨b4, 0, none⟩)), (6, .pointer (some ⟨(gx (y 9)), 0, none⟩))] (.cons (d := 2) rfl (.cons (d := 4) rfl (.cons (d := 6) rfl (.nil _)))) ?_
  refine bP (M := ao b4 105 [.pointer (some ⟨bx, 0, none⟩)] :: R :: ao b2 35 [.int .i64 0, .int .i64 0, .int .i64 0, .int .i64 0, .bool false] :: HW bx B (8 * 10) [] 0 :: ao (gx (y 9)) 35 [.int .i64 (aL.dU B), .int .i64 (aL.dU (B.drop 4)), .int .i64 (B.getD 8 0), .int .i64 (B.getD 9 0), .bool false] :: F) (fun _ _ h => h) ?_
  generalize (gx (y 9)) = b6
  refine rC bp 1 rfl ?_
  refine wN [pz 0 [] [4], pz 1 [0] [], pz 0 [] [4], pz 7 [2] [], pz 0 [] [4], pz 31 [4] [], pz 63 [1] [], pz 127 [3] [], pz 255 [5] []] [⟨fun y => ao b4 105 [.pointer (some ⟨bx, 0, none⟩)], none, none, [0, 2, 4]⟩, ⟨fun y => R, none, none, []⟩, ⟨fun y => ao b2 35 [.int .i64 0, .int .i64 0, .int .i64 0, .int .i64 0, .bool false], none, none, []⟩, ⟨fun y => HW bx B (8 * 10) [] 0, none, some 1, []⟩, ⟨fun y => ao b6 35 [.int .i64 (aL.dU B), .int .i64 (aL.dU (B.drop 4)), .int .i64 (B.getD 8 0), .int .i64 (B.getD 9 0), .bool false], none, none, []⟩, ⟨fun y => HW bx B (8 * 11) [] 0, some 1, some 3, []⟩, ⟨fun y => HW bx B (8 * 12) [] 0, some 3, some 5, []⟩, ⟨fun y => HW bx B (8 * 13) [] 0, some 5, none, []⟩] F V.mixed ?_
  refine nR (fun y FF hA => ae V.pL rfl an rfl) ?_
  refine nE (fun y FF hA => bK (Post := [HW bx B (8 * 11) [] 0]) (kn bx B (8 * 10) [] 0 8 (by omega) hB (by decide) (by omega)) V.sP rfl (ar .nil) (fun v G h => by rcases h with ⟨rfl, rfl⟩; exact ⟨by rw [aa.m0 (hB.get 10)], .refl _⟩)) ?_
  refine nR (fun y FF hA => ae V.pL rfl an rfl) ?_
  refine nE (fun y FF hA => bK (Post := [HW bx B (8 * 12) [] 0]) (kn bx B (8 * 11) [] 0 8 (by omega) hB (by decide) (by omega)) V.sP rfl (ar .nil) (fun v G h => by rcases h with ⟨rfl, rfl⟩; exact ⟨by rw [aa.m0 (hB.get 11)], .refl _⟩)) ?_
  refine nR (fun y FF hA => ae V.pL rfl an rfl) ?_
  refine nE (fun y FF hA => bK (Post := [HW bx B (8 * 13) [] 0]) (kn bx B (8 * 12) [] 0 8 (by omega) hB (by decide) (by omega)) V.sP rfl (ar .nil) (fun v G h => by rcases h with ⟨rfl, rfl⟩; exact ⟨by rw [aa.m0 (hB.get 12)], .refl _⟩)) ?_
  iterate 3 refine nA ?_
  refine aU ?_
  intro y hA
  clear hA
  refine ba ?_
  refine bZ [(2, .pointer (some ⟨b2, 0, none⟩)), (6, .pointer (some ⟨b6, 0, none⟩)), (7, .int .i64 (B.getD 10 0)), (8, .int .i64 (B.getD 11 0)), (9, .int .i64 (B.getD 12 0))] (.cons (d := 2) rfl (.cons (d := 6) rfl (.cons (d := 7) rfl (.cons (d := 8) rfl (.cons (d := 9) rfl (.nil _)))))) ?_
  refine bP (M := ao b4 105 [.pointer (some ⟨bx, 0, none⟩)] :: R :: ao b2 35 [.int .i64 0, .int .i64 0, .int .i64 0, .int .i64 0, .bool false] :: ao b6 35 [.int .i64 (aL.dU B), .int .i64 (aL.dU (B.drop 4)), .int .i64 (B.getD 8 0), .int .i64 (B.getD 9 0), .bool false] :: HW bx B (8 * 13) [] 0 :: F) (fun _ _ h => h) ?_
  refine rC bp 5 rfl ?_
  refine aT (bT V.s4 rfl rfl rfl (by exact yS) (by exact Nat.le_of_ble_eq_true rfl) rfl) ?_
  refine rO bp 2 rfl ?_
  rcases (aa.Qi h0) with ⟨_, a1, hs⟩ | ⟨_, a1, a2, hs⟩ | ⟨_, a1, a2, a3, hs⟩ | ⟨_, a1, a2, a3, a4, hs⟩ | ⟨_, a1, a2, a3, a4, a5, hs⟩ | ⟨_, a1, a2, a3, a4, a5, a6, hs⟩ | ⟨_, a1, a2, a3, a4, a5, a6, hs⟩
  ·refine rC bp 4 rfl ?_
   refine oV (ae V.s3 rfl eI rfl) ?_
   refine oV (aG V.lU rfl) ?_
   refine oV (ae V.s3 rfl eI rfl) ?_
   refine ai (mT (B.getD 9 0) (B.getD 8 0) false (decide_eq_false a1).symm) V.wx  rfl .nil rfl ?_
   rintro _ _ ⟨rfl, rfl⟩
   refine rO bp 26 rfl ?_
   refine oV (cD V.qf V.m8 rfl (cs := [_, _, _, _, _]) rfl) ?_
   refine aT (aH V.jk rfl rfl (us := [_, _, _, _, _]) rfl rfl (by exact nb) (by exact Nat.le_of_ble_eq_true rfl) rfl) ?_
   refine rO bp 5 rfl ?_
   exact ak (eZ V.jk rfl dH rfl rfl) ⟨by rw [hs, aa.oZ hs (by decide)]; rfl, rfl⟩ (sub (.cons az .nil) mw)
  ·refine rC bp 4 rfl ?_
   refine oV (ae V.s3 rfl eI rfl) ?_
   refine oV (aG V.lU rfl) ?_
   refine oV (ae V.s3 rfl eI rfl) ?_
   refine ai (mT (B.getD 9 0) (B.getD 8 0) true (decide_eq_true a1).symm) V.wx  rfl .nil rfl ?_
   rintro _ _ ⟨rfl, rfl⟩
   refine cS bp 5 rfl (by omega) ?_
   refine ag rfl ?_
   refine oV (aY (a8 rfl rfl) a2) ?_
   refine rO bp 20 rfl ?_
   refine oV (cD V.qf V.m8 rfl (cs := [_, _, _, _, _]) rfl) ?_
   refine aT (aH V.jk rfl rfl (us := [_, _, _, _, _]) rfl rfl (by exact nb) (by exact Nat.le_of_ble_eq_true rfl) rfl) ?_
   refine rO bp 5 rfl ?_
   exact ak (eZ V.jk rfl dH rfl rfl) ⟨by rw [hs, aa.oZ hs (by decide)]; rfl, rfl⟩ (sub (.cons az .nil) mw)
  ·refine rC bp 4 rfl ?_
   refine oV (ae V.s3 rfl eI rfl) ?_
   refine oV (aG V.lU rfl) ?_
   refine oV (ae V.s3 rfl eI rfl) ?_
   refine ai (mT (B.getD 9 0) (B.getD 8 0) true (decide_eq_true a1).symm) V.wx  rfl .nil rfl ?_
   rintro _ _ ⟨rfl, rfl⟩
   refine cS bp 5 rfl (by omega) ?_
   refine ag rfl ?_
   refine oV (aA (a8 rfl rfl) a2) ?_
   refine rO bp 3 rfl ?_
   refine ag rfl ?_
   refine oV (aY (a8 rfl rfl) a3) ?_
   refine rO bp 16 rfl ?_
   refine oV (cD V.qf V.m8 rfl (cs := [_, _, _, _, _]) rfl) ?_
   refine aT (aH V.jk rfl rfl (us := [_, _, _, _, _]) rfl rfl (by exact nb) (by exact Nat.le_of_ble_eq_true rfl) rfl) ?_
   refine rO bp 5 rfl ?_
   exact ak (eZ V.jk rfl dH rfl rfl) ⟨by rw [hs, aa.oZ hs (by decide)]; rfl, rfl⟩ (sub (.cons az .nil) mw)
  ·refine rC bp 4 rfl ?_
   refine oV (ae V.s3 rfl eI rfl) ?_
   refine oV (aG V.lU rfl) ?_
   refine oV (ae V.s3 rfl eI rfl) ?_
   refine ai (mT (B.getD 9 0) (B.getD 8 0) true (decide_eq_true a1).symm) V.wx  rfl .nil rfl ?_
   rintro _ _ ⟨rfl, rfl⟩
   refine cS bp 5 rfl (by omega) ?_
   refine ag rfl ?_
   refine oV (aA (a8 rfl rfl) a2) ?_
   refine rO bp 3 rfl ?_
   refine ag rfl ?_
   refine oV (aA (a8 rfl rfl) a3) ?_
   refine rO bp 3 rfl ?_
   refine ag rfl ?_
   refine oV (ae V.s3 rfl eI rfl) ?_
   refine ag rfl ?_
   refine oV (aY (aD rfl rfl) a4) ?_
   refine rO bp 11 rfl ?_
   refine oV (cD V.qf V.m8 rfl (cs := [_, _, _, _, _]) rfl) ?_
   refine aT (aH V.jk rfl rfl (us := [_, _, _, _, _]) rfl rfl (by exact nb) (by exact Nat.le_of_ble_eq_true rfl) rfl) ?_
   refine rO bp 5 rfl ?_
   exact ak (eZ V.jk rfl dH rfl rfl) ⟨by rw [hs, aa.oZ hs (by decide)]; rfl, rfl⟩ (sub (.cons az .nil) mw)
  ·refine rC bp 4 rfl ?_
   refine oV (ae V.s3 rfl eI rfl) ?_
   refine oV (aG V.lU rfl) ?_
   refine oV (ae V.s3 rfl eI rfl) ?_
   refine ai (mT (B.getD 9 0) (B.getD 8 0) true (decide_eq_true a1).symm) V.wx  rfl .nil rfl ?_
   rintro _ _ ⟨rfl, rfl⟩
   refine cS bp 5 rfl (by omega) ?_
   refine ag rfl ?_
   refine oV (aA (a8 rfl rfl) a2) ?_
   refine rO bp 3 rfl ?_
   refine ag rfl ?_
   refine oV (aA (a8 rfl rfl) a3) ?_
   refine rO bp 3 rfl ?_
   refine ag rfl ?_
   refine oV (ae V.s3 rfl eI rfl) ?_
   refine ag rfl ?_
   refine oV (aA (aD rfl rfl) a4) ?_
   refine rO bp 3 rfl ?_
   refine ag rfl ?_
   refine oV (ae V.s3 rfl eI rfl) ?_
   refine ag rfl ?_
   refine oV (aY (aD rfl rfl) a5) ?_
   refine rO bp 6 rfl ?_
   refine oV (cD V.qf V.m8 rfl (cs := [_, _, _, _, _]) rfl) ?_
   refine aT (aH V.jk rfl rfl (us := [_, _, _, _, _]) rfl rfl (by exact nb) (by exact Nat.le_of_ble_eq_true rfl) rfl) ?_
   refine rO bp 5 rfl ?_
   exact ak (eZ V.jk rfl dH rfl rfl) ⟨by rw [hs, aa.oZ hs (by decide)]; rfl, rfl⟩ (sub (.cons az .nil) mw)
  ·refine rC bp 4 rfl ?_
   refine oV (ae V.s3 rfl eI rfl) ?_
   refine oV (aG V.lU rfl) ?_
   refine oV (ae V.s3 rfl eI rfl) ?_
   refine ai (mT (B.getD 9 0) (B.getD 8 0) true (decide_eq_true a1).symm) V.wx  rfl .nil rfl ?_
   rintro _ _ ⟨rfl, rfl⟩
   refine cS bp 5 rfl (by omega) ?_
   refine ag rfl ?_
   refine oV (aA (a8 rfl rfl) a2) ?_
   refine rO bp 3 rfl ?_
   refine ag rfl ?_
   refine oV (aA (a8 rfl rfl) a3) ?_
   refine rO bp 3 rfl ?_
   refine ag rfl ?_
   refine oV (ae V.s3 rfl eI rfl) ?_
   refine ag rfl ?_
   refine oV (aA (aD rfl rfl) a4) ?_
   refine rO bp 3 rfl ?_
   refine ag rfl ?_
   refine oV (ae V.s3 rfl eI rfl) ?_
   refine ag rfl ?_
   refine oV (aA (aD rfl rfl) a5) ?_
   refine rO bp 10 rfl ?_
   refine oV (ae V.s3 rfl eI rfl) ?_
   refine oV (aG V.sX rfl) ?_
   refine oV (ae V.s3 rfl eI rfl) ?_
   refine ai (mQ (aL.dU B) (aL.dU (B.drop 4))) V.xl  rfl .nil rfl ?_
   rintro _ _ ⟨rfl, rfl⟩
   refine oV (aY (bY rfl rfl) a6) ?_
   refine rO bp 5 rfl ?_
   refine oV (cD V.qf V.m8 rfl (cs := [_, _, _, _, _]) rfl) ?_
   refine aT (aH V.jk rfl rfl (us := [_, _, _, _, _]) rfl rfl (by exact nb) (by exact Nat.le_of_ble_eq_true rfl) rfl) ?_
   refine rO bp 5 rfl ?_
   exact ak (eZ V.jk rfl dH rfl rfl) ⟨by rw [hs, aa.oZ hs (by decide)]; rfl, rfl⟩ (sub (.cons az .nil) mw)
  ·refine rC bp 4 rfl ?_
   refine oV (ae V.s3 rfl eI rfl) ?_
   refine oV (aG V.lU rfl) ?_
   refine oV (ae V.s3 rfl eI rfl) ?_
   refine ai (mT (B.getD 9 0) (B.getD 8 0) true (decide_eq_true a1).symm) V.wx  rfl .nil rfl ?_
   rintro _ _ ⟨rfl, rfl⟩
   refine cS bp 5 rfl (by omega) ?_
   refine ag rfl ?_
   refine oV (aA (a8 rfl rfl) a2) ?_
   refine rO bp 3 rfl ?_
   refine ag rfl ?_
   refine oV (aA (a8 rfl rfl) a3) ?_
   refine rO bp 3 rfl ?_
   refine ag rfl ?_
   refine oV (ae V.s3 rfl eI rfl) ?_
   refine ag rfl ?_
   refine oV (aA (aD rfl rfl) a4) ?_
   refine rO bp 3 rfl ?_
   refine ag rfl ?_
   refine oV (ae V.s3 rfl eI rfl) ?_
   refine ag rfl ?_
   refine oV (aA (aD rfl rfl) a5) ?_
   refine rO bp 10 rfl ?_
   refine oV (ae V.s3 rfl eI rfl) ?_
   refine oV (aG V.sX rfl) ?_
   refine oV (ae V.s3 rfl eI rfl) ?_
   refine ai (mQ (aL.dU B) (aL.dU (B.drop 4))) V.xl  rfl .nil rfl ?_
   rintro _ _ ⟨rfl, rfl⟩
   refine oV (aA (bY rfl rfl) a6) ?_
   refine rO bp 7 rfl ?_
   refine oV (bJ V.jk rfl eI (vs := [_, _, _, _, _]) rfl rfl) ?_
   refine aT (aH V.jk rfl rfl (us := [_, _, _, _, _]) rfl rfl (by exact nb) (by exact Nat.le_of_ble_eq_true rfl) rfl) ?_
   refine rO bp 4 rfl ?_
   exact ak (eZ V.jk rfl dH rfl rfl) ⟨by rw [hs, aa.vl hs]; rfl, rfl⟩ (sub (.cons az .nil) mw)
end Go.Proofs.YtmaiakpjgomnpaaGreat
namespace Go.Proofs.YtmaiakpjgomnpaaGreat
open Go.Sl
theorem V.xY : hH Tryz.prog 90 = some 9 := by kernel_rfl
theorem V.iD : cg Tryz.prog 90 0 = some 0 := by kernel_rfl
theorem V.ND : cg Tryz.prog 90 1 = some 5 := by kernel_rfl
theorem V.so : cg Tryz.prog 90 2 = some 6 := by kernel_rfl
theorem V.Nd : cg Tryz.prog 90 3 = some 7 := by kernel_rfl
theorem V.FR : cg Tryz.prog 90 4 = some 8 := by kernel_rfl
theorem V.F6 : dC Tryz.prog 90 = some ([.int .i64 0, .int .i64 0, .int .i64 0, .int .i64 0, .bool false, .slice none 0 0, .slice none 0 0, .slice none 0 0, .slice none 0 0]) := by kernel_rfl
end Go.Proofs.YtmaiakpjgomnpaaGreat
namespace Go.Proofs.YtmaiakpjgomnpaaGreat
open Go.Sl 
theorem aM : dR Tryz.prog ⟨[22, 59, 84], [(35, 2, 2), (35, 3, 3), (38, 2, 2), (38, 3, 3), (57, 0, 0), (57, 1, 1), (88, 0, 0), (88, 1, 1), (90, 0, 0), (90, 1, 5), (90, 2, 6), (90, 3, 7)]⟩ = true := by kernel_rfl
attribute [local irreducible] aj.av aa.bN aa.up aa.cU aa.gX aa.Bh aa.deep aa.parts HW aa.bS aa.bd aa.bR aa.cu aa.dm aa.ju aa.jC aa.oL aa.bA aa.dh
theorem zf {es : List Ce} {i : Nat} {kk : List Int} (hi : i ≤ es.length) (h : ∀ j : Nat, j < i → (bB.g es (j : Int)).k ≠ kk) : ∀ j, j < i → ∀ c, (es.map Ce.ch)[j]? = some c → c.k ≠ kk := fun j hj c hc => by
 rw [pR (by omega)] at hc
 cases hc
 exact h j hj
theorem nh {es : List Ce} {x : Ce} (hx : x ∈ es) : ∀ w0 h, DK es w0 h → aR U5 x.p x.d.length x.d w0 h := fun w0 h hh => (hh x hx).rd
theorem D6 (R : ab) : ∀ w0 h, R w0 h → aR U5 none 0 [] w0 h := fun _ _ _ => ⟨rfl, rfl, .inl rfl⟩
structure qp where
 pp : Option Addr
 cp : Nat
 P : List Int
 pt : Option Addr
 ct : Nat
 T : List Int
 pd : Option Addr
 cd : Nat
 D : List Int
 hp : Bool
 ht : Bool
def mA (es : List Ce) (i : Nat) (s : qp) : Prop := s.P = aa.lX ((es.map Ce.ch).take i) aa.bd ∧ s.T = aa.lX ((es.map Ce.ch).take i) aa.bR ∧ s.D = aa.dh ((es.map Ce.ch).take i) ∧ s.hp = aa.fD ((es.map Ce.ch).take i) aa.bd ∧ s.ht = aa.fD ((es.map Ce.ch).take i) aa.bR ∧ s.P.length ≤ s.cp ∧ s.T.length ≤ s.ct ∧ (∀ w0 h, DK es w0 h → aR U5 s.pp s.P.length s.P w0 h) ∧ ∀ w0 h, DK es w0 h → aR U5 s.pt s.T.length s.T w0 h
theorem M8 (es : List Ce) : mA es 0 ⟨none, 0, [], none, 0, [], none, 0, [], false, false⟩ := ⟨rfl, rfl, by unfold aa.dh; rfl, rfl, rfl, Nat.le_refl _, Nat.le_refl _, D6 _, D6 _⟩
section
variable {es : List Ce} {i : Nat} {s : qp} {x : Ce} (hs : mA es i s) (hx : (es.map Ce.ch)[i]? = some x.ch)
include hs hx
theorem MK (hk : x.k = aa.bd) (hm : x ∈ es) (ho : x.d.length ≤ x.c) : mA es (i + 1) { s with pp := x.p, cp := x.c, P := x.d, hp := true } := by
 obtain ⟨h1, h2, h3, h4, h5, h6, h7, h8, h9⟩ := hs
 have hk : x.ch.k = aa.bd := hk
 refine ⟨?_, ?_, ?_, ?_, ?_, ho, h7, nh hm, h9⟩
 ·rw [aa.kY hx, if_pos hk]; rfl
 ·rw [aa.kY hx, if_neg (by rw [hk]; exact aa.Fi)]; exact h2
 ·rw [aa.sw hx, if_neg (by rw [hk]; exact aa.JV)]; exact h3
 ·rw [aa.l8 hx, hk]; simp
 ·rw [aa.l8 hx, hk, ← h5, beq_false_of_ne aa.Fi, Bool.or_false]
theorem MV (hk : x.k = aa.bR) (hm : x ∈ es) (ho : x.d.length ≤ x.c) : mA es (i + 1) { s with pt := x.p, ct := x.c, T := x.d, ht := true } := by
 obtain ⟨h1, h2, h3, h4, h5, h6, h7, h8, h9⟩ := hs
 have hk : x.ch.k = aa.bR := hk
 refine ⟨?_, ?_, ?_, ?_, ?_, h6, ho, h8, nh hm⟩
 ·rw [aa.kY hx, if_neg (by rw [hk]; exact aa.Fi.symm)]; exact h1
 ·rw [aa.kY hx, if_pos hk]; rfl
 ·rw [aa.sw hx, if_neg (by rw [hk]; exact aa.Kk)]; exact h3
 ·rw [aa.l8 hx, hk, ← h4, beq_false_of_ne aa.Fi.symm, Bool.or_false]
 ·rw [aa.l8 hx, hk]; simp
theorem FK (hk : x.k = aa.bS) (p : Option Addr) (c : Nat) : mA es (i + 1) { s with pd := p, cd := c, D := s.D ++ x.d } := by
 obtain ⟨h1, h2, h3, h4, h5, h6, h7, h8, h9⟩ := hs
 have hk : x.ch.k = aa.bS := hk
 refine ⟨?_, ?_, ?_, ?_, ?_, h6, h7, h8, h9⟩
 ·rw [aa.kY hx, if_neg (by rw [hk]; exact aa.JV.symm)]; exact h1
 ·rw [aa.kY hx, if_neg (by rw [hk]; exact aa.Kk.symm)]; exact h2
 ·rw [aa.sw hx, if_pos hk, ← h3]; rfl
 ·rw [aa.l8 hx, hk, ← h4, beq_false_of_ne aa.JV.symm, Bool.or_false]
 ·rw [aa.l8 hx, hk, ← h5, beq_false_of_ne aa.Kk.symm, Bool.or_false]
theorem NB (k1 : x.k ≠ aa.bd) (k2 : x.k ≠ aa.bR) (k3 : x.k ≠ aa.bS) : mA es (i + 1) s := by
 obtain ⟨h1, h2, h3, h4, h5, h6, h7, h8, h9⟩ := hs
 have k1 : x.ch.k ≠ aa.bd := k1
 have k2 : x.ch.k ≠ aa.bR := k2
 have k3 : x.ch.k ≠ aa.bS := k3
 refine ⟨?_, ?_, ?_, ?_, ?_, h6, h7, h8, h9⟩
 ·rw [aa.kY hx, if_neg k1]; exact h1
 ·rw [aa.kY hx, if_neg k2]; exact h2
 ·rw [aa.sw hx, if_neg k3]; exact h3
 ·rw [aa.l8 hx, ← h4]; simp [k1]
 ·rw [aa.l8 hx, ← h5]; simp [k2]
end
set_option maxHeartbeats 1000000 in
theorem PX (p : Option Addr) (c : Nat) (es : List Ce) (R : ab) (hR : ∀ w0 h, R w0 h → aR bB p es.length es w0 h) (hel : es.length ≤ 262144) (hok : F9 es) (kk : List Int) (hk : aj.av kk) : aE Tryz.prog 45 [.slice p es.length c, .string (strOfNums kk)] [R] (aO fun v G => ∃ q cq, v = .tuple #[.slice q (aa.cE (es.map Ce.ch) kk).length cq, .bool (aa.fD (es.map Ce.ch) kk)] ∧ (∀ w0 h, DK es w0 h → aR U5 q (aa.cE (es.map Ce.ch) kk).length (aa.cE (es.map Ce.ch) kk) w0 h) ∧ G = [R]) := by
 refine au [(0, _), (1, _)] Tryz.func45 rfl Tryz.ntmps45 rfl rfl ?_
 intro w0 F
 refine rT aM 13 rfl ?_
 refine dX (fun (i : Nat) => [(0, .slice p es.length c), (1, .string (strOfNums kk)), (6, .int .i64 (i : Int))]) (fun (i : Nat) => R :: F) (fun (i : Nat) => i ≤ es.length ∧ ∀ j : Nat, j < i → (bB.g es (j : Int)).k ≠ kk) (fun (i : Nat) => es.length - i) (i1 (0) ?_ (jg ln) (sub (ar .nil) aw)) ?_
 ·exact ⟨Nat.zero_le _, fun j hj => by omega⟩
 intro i
 rintro ⟨hi, hall⟩
 refine rL aM 9 rfl ?_
 refine aN rfl (fun h10 => ?_) (fun h10 => ?_)
 ·refine rC aM 4 rfl ?_
  rcases (Classical.em ((bB.g es (i : Int)).k = kk)) with hke | hke
  ·refine rC aM 1 rfl ?_
   have hcx := pR (es := es) (i := i) (by omega)
   have hxo := mM (i := i) (fun x => aj.av x.k ∧ x.k.length < 500000000) hok (by omega)
   have hxk : aj.av (bB.g es (i : Int)).k := hxo.1
   have hxm := mM (i := i) (fun x => x ∈ es) (fun x hx => hx) (by omega)
   refine rC aM 3 rfl ?_
   refine oV (xI V.nI (by exact bE hR an)) ?_
   refine oV (aG V.sE rfl) ?_
   refine oV (dP (c := (bB)) 0 V.s9 rfl (by exact bE hR an) (by omega) (by omega) rfl rfl) ?_
   refine oV (aJ rfl) ?_
   refine oV (fc (aa.aV hxk) (aa.aV hk) rfl rfl (decide_eq_true hke).symm) ?_
   refine rO aM 7 rfl ?_
   refine oV (xI V.nI (by exact bE hR an)) ?_
   refine oV (aG V.vo rfl) ?_
   refine oV (dP (c := (bB)) 1 V.ez rfl (by exact bE hR an) (by omega) (by omega) rfl rfl) ?_
   refine rO aM 10 rfl ?_
   obtain ⟨e1, e2⟩ := aa.wq hcx hke (zf (by omega) hall)
   rw [e1, e2]
   exact ak (fy rfl rfl) ⟨(bB.g es (i : Int)).p, (bB.g es (i : Int)).c, rfl, nh hxm, rfl⟩ (sub (ar .nil) aw)
  ·refine rC aM 1 rfl ?_
   have hcx := pR (es := es) (i := i) (by omega)
   have hxo := mM (i := i) (fun x => aj.av x.k ∧ x.k.length < 500000000) hok (by omega)
   have hxk : aj.av (bB.g es (i : Int)).k := hxo.1
   have hxm := mM (i := i) (fun x => x ∈ es) (fun x hx => hx) (by omega)
   refine rC aM 3 rfl ?_
   refine oV (xI V.nI (by exact bE hR an)) ?_
   refine oV (aG V.sE rfl) ?_
   refine oV (dP (c := (bB)) 0 V.s9 rfl (by exact bE hR an) (by omega) (by omega) rfl rfl) ?_
   refine oV (aJ rfl) ?_
   refine oV (fc (aa.aV hxk) (aa.aV hk) rfl rfl (decide_eq_false hke).symm) ?_
   refine cS aM 11 rfl (by omega) ?_
   refine j1 (i + 1) ?_ (jg ln) (sub (ar .nil) aw)
   exact ⟨⟨by omega, fun j hj => (Nat.lt_succ_iff_lt_or_eq.1 hj).elim (hall j) (fun e => e ▸ hke)⟩, by omega⟩
 ·refine rC aM 12 rfl ?_
  obtain ⟨e1, e2⟩ := aa.wy (k := kk) (L := (es.map Ce.ch)) (by rw [List.length_map]; exact fun j hj => zf hi hall j (by omega))
  rw [e1, e2]
  exact ak (fy rfl rfl) ⟨none, 0, rfl, D6 _, rfl⟩ (sub (ar .nil) aw)
set_option maxHeartbeats 4000000 in
theorem r3 (p : Option Addr) (c : Nat) (es : List Ce) (R : ab) (hR : ∀ w0 h, R w0 h → aR CK p es.length es w0 h) (hel : es.length ≤ 262144) (hok : F9 es) (hco : ∀ y ∈ es, yD y) (hsum : aa.jU (es.map Ce.ch) < 500000000) : aE Tryz.prog 39 [.slice p es.length c] [R, DK es] (aO fun v G => ∃ s : qp, mA es es.length s ∧ v = .tuple #[.agg #[.int .i64 0, .int .i64 0, .int .i64 0, .int .i64 0, .bool false, .slice s.pp s.P.length s.cp, .slice s.pt s.T.length s.ct, .slice s.pd s.D.length s.cd, .slice none 0 0], .bool s.hp, .bool s.ht] ∧ G = [Row U5 s.pd s.D.length s.cd s.D, R, DK es]) := by
 refine au [(0, _)] Tryz.func39 rfl Tryz.ntmps39 rfl rfl ?_
 intro w0 F
 refine rT aM 2 rfl ?_
 refine cn V.F6 rfl ?_
 intro b2
 refine rO aM 13 rfl ?_
 refine gT (Row U5 none 0 0 []) (Row.nil _ _ _) ?_
 refine ik (fun (i : Nat) (s : qp) => [(2, .pointer (some ⟨b2, 0, none⟩)), (3, .bool s.hp), (4, .bool s.ht), (7, .slice p es.length c), (8, .int .i64 (es.length : Int)), (9, .int .i64 (i : Int))]) (fun (i : Nat) (s : qp) => ao b2 90 [.int .i64 0, .int .i64 0, .int .i64 0, .int .i64 0, .bool false, .slice s.pp s.P.length s.cp, .slice s.pt s.T.length s.ct, .slice s.pd s.D.length s.cd, .slice none 0 0] :: Row U5 s.pd s.D.length s.cd s.D :: R :: DK es :: F) (fun (i : Nat) (s : qp) => i ≤ es.length ∧ mA es i s) (fun (i : Nat) (s : qp) => es.length - i) (i2 (0) (⟨none, 0, [], none, 0, [], none, 0, [], false, false⟩) ?_ (kJ (dp ln)) (sub (.cons az (ic .nil)) aw)) ?_
 ·exact ⟨Nat.zero_le _, M8 es⟩
 intro i s
 rintro ⟨hi, hs⟩
 refine rL aM 6 rfl ?_
 refine aN rfl (fun h10 => ?_) (fun h10 => ?_)
 ·refine rC aM 5 rfl ?_
  have hcx : (es.map Ce.ch)[i]? = some (CK.g es (i : Int)).ch := pR (es := es) (i := i) (by omega)
  have hxo := mM (i := i) (fun x => aj.av x.k ∧ x.k.length < 500000000) hok (by omega)
  have hxk : aj.av (CK.g es (i : Int)).k := hxo.1
  have hxm : (CK.g es (i : Int)) ∈ es := mM (i := i) (fun x => x ∈ es) (fun x hx => hx) (by omega)
  have hxc : (CK.g es (i : Int)).d.length ≤ (CK.g es (i : Int)).c := hco _ hxm
  refine a7 ?_
  refine oV (xI V.gr (by exact bE hR dH)) ?_
  refine oV (n8 (c := (CK)) V.jN rfl (by exact bE hR dH) (by omega) (by omega) rfl) ?_
  refine cn V.ld rfl ?_
  intro b6
  refine aT (aH V.jN rfl rfl (us := [_, _]) rfl rfl (by exact cZ) (by exact Nat.le_of_ble_eq_true rfl) rfl) ?_
  refine rO aM 2 rfl ?_
  rcases ((by by_cases h0 : (CK.g es (i : Int)).k = aa.bd; exact .inl h0; by_cases h1 : (CK.g es (i : Int)).k = aa.bR; exact .inr (.inl ⟨h0, h1⟩); by_cases h2 : (CK.g es (i : Int)).k = aa.bS; exact .inr (.inr (.inl ⟨h0, h1, h2⟩)); exact .inr (.inr (.inr ⟨h0, h1, h2⟩)) : (CK.g es (i : Int)).k = aa.bd ∨ ((CK.g es (i : Int)).k ≠ aa.bd ∧ (CK.g es (i : Int)).k = aa.bR) ∨ ((CK.g es (i : Int)).k ≠ aa.bd ∧ (CK.g es (i : Int)).k ≠ aa.bR ∧ (CK.g es (i : Int)).k = aa.bS) ∨ ((CK.g es (i : Int)).k ≠ aa.bd ∧ (CK.g es (i : Int)).k ≠ aa.bR ∧ (CK.g es (i : Int)).k ≠ aa.bS))) with a0 | ⟨a0, a1⟩ | ⟨a0, a1, a2⟩ | ⟨a0, a1, a2⟩
  ·refine rC aM 3 rfl ?_
   refine oV (ae V.s9 rfl an rfl) ?_
   refine rO aM 5 rfl ?_
   refine oV (fc (aa.aV hxk) (aa.aV aa.jT) rfl (show aq _ _ = some (.string (strOfNums aa.bd)) by unfold aa.bd; rfl) (decide_eq_true a0).symm) ?_
   refine rO aM 6 rfl ?_
   refine oV (ae V.ez rfl an rfl) ?_
   refine oV (aG V.ND rfl) ?_
   refine aT (bT V.ez rfl rfl rfl (by exact mi) (by exact Nat.le_of_ble_eq_true rfl) rfl) ?_
   refine cS aM 9 rfl (by omega) ?_
   (exact j2 (i + 1) { s with pp := (CK.g es (i : Int)).p, cp := (CK.g es (i : Int)).c, P := (CK.g es (i : Int)).d, hp := true } ⟨⟨by omega, MK hs hcx a0 hxm hxc⟩, by omega⟩ (kJ (dp ln)) (sub (.cons az (.cons az (.cons az (.cons az .nil)))) cC))
  ·refine rC aM 3 rfl ?_
   refine oV (ae V.s9 rfl an rfl) ?_
   refine rO aM 5 rfl ?_
   refine oV (fc (aa.aV hxk) (aa.aV aa.jT) rfl (show aq _ _ = some (.string (strOfNums aa.bd)) by unfold aa.bd; rfl) (decide_eq_false a0).symm) ?_
   refine rO aM 6 rfl ?_
   refine oV (fc (aa.aV hxk) (aa.aV aa.lK) rfl (show aq _ _ = some (.string (strOfNums aa.bR)) by unfold aa.bR; rfl) (decide_eq_true a1).symm) ?_
   refine rO aM 6 rfl ?_
   refine oV (ae V.ez rfl an rfl) ?_
   refine oV (aG V.so rfl) ?_
   refine aT (bT V.ez rfl rfl rfl (by exact mi) (by exact Nat.le_of_ble_eq_true rfl) rfl) ?_
   refine cS aM 9 rfl (by omega) ?_
   (exact j2 (i + 1) { s with pt := (CK.g es (i : Int)).p, ct := (CK.g es (i : Int)).c, T := (CK.g es (i : Int)).d, ht := true } ⟨⟨by omega, MV hs hcx a1 hxm hxc⟩, by omega⟩ (kJ (dp ln)) (sub (.cons az (.cons az (.cons az (.cons az .nil)))) cC))
  ·refine rC aM 3 rfl ?_
   refine oV (ae V.s9 rfl an rfl) ?_
   refine rO aM 5 rfl ?_
   refine oV (fc (aa.aV hxk) (aa.aV aa.jT) rfl (show aq _ _ = some (.string (strOfNums aa.bd)) by unfold aa.bd; rfl) (decide_eq_false a0).symm) ?_
   refine rO aM 6 rfl ?_
   refine oV (fc (aa.aV hxk) (aa.aV aa.lK) rfl (show aq _ _ = some (.string (strOfNums aa.bR)) by unfold aa.bR; rfl) (decide_eq_false a1).symm) ?_
   refine rO aM 6 rfl ?_
   refine oV (fc (aa.aV hxk) (aa.aV aa.kt) rfl (show aq _ _ = some (.string (strOfNums aa.bS)) by unfold aa.bS; rfl) (decide_eq_true a2).symm) ?_
   refine rO aM 4 rfl ?_
   have hd1 := aa.om ((es.map Ce.ch).take (i + 1))
   have hd2 := aa.vT (es.map Ce.ch) (i + 1)
   rw [← (FK hs hcx a2 none 0).2.2.1] at hd1
   have hd3 : (s.D ++ (CK.g es (i : Int)).d).length = s.D.length + (CK.g es (i : Int)).d.length := List.length_append
   have hd4 : s.D.length + (CK.g es (i : Int)).d.length < 500000000 := by rw [← hd3]; exact Nat.lt_of_le_of_lt hd1 (by omega)
   refine rC aM 2 rfl ?_
   refine oV (ae V.ez rfl bW rfl) ?_
   refine oV (aG V.k7 rfl) ?_
   refine oV (ae V.ez rfl an rfl) ?_
   refine ef (c := (U5)) V.cy V.z5 rfl rfl rfl rfl bX (Js (f := IZ) jz hxm) (by omega) rfl ?_
   intro p31 c31
   refine oV (aG V.Nd rfl) ?_
   refine aT (bT V.ez rfl rfl rfl (by exact nb) (by exact Nat.le_of_ble_eq_true rfl) rfl) ?_
   refine cS aM 8 rfl (by omega) ?_
   (rw [← List.length_append]; exact j2 (i + 1) { s with pd := p31, cd := c31, D := s.D ++ (CK.g es (i : Int)).d } ⟨⟨by omega, FK hs hcx a2 _ _⟩, by omega⟩ (kJ (dp ln)) (sub (.cons bX (ar (.cons az (.cons az .nil)))) cC))
  ·refine rC aM 3 rfl ?_
   refine oV (ae V.s9 rfl an rfl) ?_
   refine rO aM 5 rfl ?_
   refine oV (fc (aa.aV hxk) (aa.aV aa.jT) rfl (show aq _ _ = some (.string (strOfNums aa.bd)) by unfold aa.bd; rfl) (decide_eq_false a0).symm) ?_
   refine rO aM 6 rfl ?_
   refine oV (fc (aa.aV hxk) (aa.aV aa.lK) rfl (show aq _ _ = some (.string (strOfNums aa.bR)) by unfold aa.bR; rfl) (decide_eq_false a1).symm) ?_
   refine rO aM 6 rfl ?_
   refine oV (fc (aa.aV hxk) (aa.aV aa.kt) rfl (show aq _ _ = some (.string (strOfNums aa.bS)) by unfold aa.bS; rfl) (decide_eq_false a2).symm) ?_
   refine cS aM 12 rfl (by omega) ?_
   (exact j2 (i + 1) s ⟨⟨by omega, NB hs hcx a0 a1 a2⟩, by omega⟩ (kJ (dp ln)) (sub (.cons az (.cons az (.cons az (.cons az .nil)))) cC))
 ·refine rC aM 6 rfl ?_
  obtain rfl : i = es.length := by omega
  refine a7 ?_
  refine oV (bJ V.xY rfl an (vs := [_, _, _, _, _, _, _, _, _]) rfl rfl) ?_
  refine rO aM 2 rfl ?_
  refine aT (aH V.xY rfl rfl (us := [_, _, _, _, _, _, _, _, _]) rfl rfl (by exact cZ) (by exact Nat.le_of_ble_eq_true rfl) rfl) ?_
  refine rO aM 5 rfl ?_
  exact ak (oT V.xY rfl an rfl rfl rfl) ⟨s, hs, rfl, rfl⟩ (sub (.cons az (.cons az (.cons az .nil))) cC)
set_option maxHeartbeats 2000000 in
theorem BF (h : aa.Hd) (hd : aa.jv h.dep) (bf : Nat) (pp : Option Addr) (pl : List Int) (cp : Nat) (pt : Option Addr) (tr : List Int) (ct : Nat) (pd : Option Addr) (nd cd : Nat) (pk : Option Addr) (nk ck : Nat) (hl : pl.length < 500000000) (t : Bool) (ht : t = decide (aa.ju h pl false)) : aE Tryz.prog 40 [.pointer (some ⟨bf, 0, none⟩), .bool false] [ao bf 90 [.int .i64 h.w, .int .i64 h.h, .int .i64 h.dep, .int .i64 h.ax, .bool h.cm, .slice pp pl.length cp, .slice pt tr.length ct, .slice pd nd cd, .slice pk nk ck]] (aO fun v G => v = .bool t ∧ G = [ao bf 90 [.int .i64 h.w, .int .i64 h.h, .int .i64 h.dep, .int .i64 h.ax, .bool h.cm, .slice pp pl.length cp, .slice pt tr.length ct, .slice pd nd cd, .slice pk nk ck]]) := by
 refine au [(0, _), (1, _)] Tryz.func40 rfl Tryz.ntmps40 rfl rfl ?_
 intro w0 F
 obtain ⟨P, hP⟩ : ∃ P : Int, P = 2 ^ h.dep.toNat := ⟨_, rfl⟩
 have hpb : 2 ≤ P ∧ P ≤ 65536 := hP ▸ aa.mF hd
 have hdi := aa.jM hd
 refine rT aM 10 rfl ?_
 refine oV (ae V.ez rfl an rfl) ?_
 refine rO aM 20 rfl ?_
 refine oV (ae V.s3 rfl an rfl) ?_
 refine rO aM 7 rfl ?_
 obtain rfl : t = decide (h.ax ≠ 3) := ht.trans (decide_eq_decide.2 (aa.Li h pl))
 exact ak (aB rfl) ⟨rfl, rfl⟩ (sub (ar .nil) aw)
set_option maxHeartbeats 2000000 in
theorem BR (h : aa.Hd) (hd : aa.jv h.dep) (bf : Nat) (pp : Option Addr) (pl : List Int) (cp : Nat) (pt : Option Addr) (tr : List Int) (ct : Nat) (pd : Option Addr) (nd cd : Nat) (pk : Option Addr) (nk ck : Nat) (hl : pl.length < 500000000) (t : Bool) (ht : t = decide (aa.ju h pl true)) : aE Tryz.prog 40 [.pointer (some ⟨bf, 0, none⟩), .bool true] [ao bf 90 [.int .i64 h.w, .int .i64 h.h, .int .i64 h.dep, .int .i64 h.ax, .bool h.cm, .slice pp pl.length cp, .slice pt tr.length ct, .slice pd nd cd, .slice pk nk ck]] (aO fun v G => v = .bool t ∧ G = [ao bf 90 [.int .i64 h.w, .int .i64 h.h, .int .i64 h.dep, .int .i64 h.ax, .bool h.cm, .slice pp pl.length cp, .slice pt tr.length ct, .slice pd nd cd, .slice pk nk ck]]) := by
 refine au [(0, _), (1, _)] Tryz.func40 rfl Tryz.ntmps40 rfl rfl ?_
 intro w0 F
 obtain ⟨P, hP⟩ : ∃ P : Int, P = 2 ^ h.dep.toNat := ⟨_, rfl⟩
 have hpb : 2 ≤ P ∧ P ≤ 65536 := hP ▸ aa.mF hd
 have hdi := aa.jM hd
 refine rT aM 10 rfl ?_
 refine oV (ae V.ez rfl an rfl) ?_
 refine rO aM 6 rfl ?_
 rcases (aa.Im (plte := pl) hP) with ⟨a1, a⟩ | ⟨a1, a2, a⟩ | ⟨a1, a2, a3, a4, a⟩ | ⟨a1, a2, a3, a4, a⟩ | ⟨a1, a2, a3, a⟩
 ·refine rC aM 14 rfl ?_
  refine oV (ae V.s3 rfl an rfl) ?_
  refine oV (aY (aD rfl rfl) a1) ?_
  refine rO aM 20 rfl ?_
  obtain rfl : t = false := ht.trans (decide_eq_false a)
  exact ak (aB rfl) ⟨rfl, rfl⟩ (sub (ar .nil) aw)
 ·refine rC aM 14 rfl ?_
  refine oV (ae V.s3 rfl an rfl) ?_
  refine oV (aA (aD rfl rfl) a1) ?_
  refine rO aM 5 rfl ?_
  refine ag rfl ?_
  refine oV (ae V.s3 rfl an rfl) ?_
  refine ag rfl ?_
  refine oV (aY (aD rfl rfl) a2) ?_
  refine rO aM 13 rfl ?_
  obtain rfl : t = false := ht.trans (decide_eq_false a)
  exact ak (aB rfl) ⟨rfl, rfl⟩ (sub (ar .nil) aw)
 ·refine rC aM 14 rfl ?_
  refine oV (ae V.s3 rfl an rfl) ?_
  refine oV (aA (aD rfl rfl) a1) ?_
  refine rO aM 5 rfl ?_
  refine ag rfl ?_
  refine oV (ae V.s3 rfl an rfl) ?_
  refine ag rfl ?_
  refine oV (aA (aD rfl rfl) a2) ?_
  refine rO aM 11 rfl ?_
  refine oV (ae V.s3 rfl an rfl) ?_
  refine oV (aY (aD rfl rfl) a3) ?_
  refine rO aM 2 rfl ?_
  refine ag rfl ?_
  refine oV (fR rfl rfl (by omega) (jH (by omega) (by omega) (by omega))) ?_
  refine rO aM 4 rfl ?_
  refine ag rfl ?_
  refine oV (ae V.s3 rfl an rfl) ?_
  refine ag rfl ?_
  refine oV (fX (r := P) rfl rfl (by omega) ((aa.mD hd).trans hP.symm)) ?_
  refine ag rfl ?_
  refine oV (aY (a8 rfl rfl) a4) ?_
  refine rO aM 13 rfl ?_
  obtain rfl : t = false := ht.trans (decide_eq_false a)
  exact ak (aB rfl) ⟨rfl, rfl⟩ (sub (ar .nil) aw)
 ·refine rC aM 14 rfl ?_
  refine oV (ae V.s3 rfl an rfl) ?_
  refine oV (aA (aD rfl rfl) a1) ?_
  refine rO aM 5 rfl ?_
  refine ag rfl ?_
  refine oV (ae V.s3 rfl an rfl) ?_
  refine ag rfl ?_
  refine oV (aA (aD rfl rfl) a2) ?_
  refine rO aM 11 rfl ?_
  refine oV (ae V.s3 rfl an rfl) ?_
  refine oV (aY (aD rfl rfl) a3) ?_
  refine rO aM 2 rfl ?_
  refine ag rfl ?_
  refine oV (fR rfl rfl (by omega) (jH (by omega) (by omega) (by omega))) ?_
  refine rO aM 4 rfl ?_
  refine ag rfl ?_
  refine oV (ae V.s3 rfl an rfl) ?_
  refine ag rfl ?_
  refine oV (fX (r := P) rfl rfl (by omega) ((aa.mD hd).trans hP.symm)) ?_
  refine ag rfl ?_
  refine oV (aA (a8 rfl rfl) a4) ?_
  refine rO aM 8 rfl ?_
  rcases (aa.LR pl.length) with c1 | ⟨c1, c2⟩ | ⟨c1, c2⟩
  ·refine rC aM 3 rfl ?_
   refine oV (hG rfl rfl (by omega) (jE (by omega))) ?_
   refine oV (aA (aD rfl rfl) (by omega)) ?_
   refine rO aM 13 rfl ?_
   (obtain rfl : t = false := ht.trans (decide_eq_false (fun q => by have := a.1 q; omega)); exact ak (G := [ao bf 90 [.int .i64 h.w, .int .i64 h.h, .int .i64 h.dep, .int .i64 h.ax, .bool h.cm, .slice pp pl.length cp, .slice pt tr.length ct, .slice pd nd cd, .slice pk nk ck]]) (aB rfl) ⟨rfl, rfl⟩ (sub (ar .nil) aw))
  ·refine rC aM 3 rfl ?_
   refine oV (hG rfl rfl (by omega) (jE (by omega))) ?_
   refine oV (aY (aD rfl rfl) (by omega)) ?_
   refine rO aM 2 rfl ?_
   refine ag rfl ?_
   refine oV (aA (a8 rfl rfl) (by omega)) ?_
   refine rO aM 10 rfl ?_
   (obtain rfl : t = false := ht.trans (decide_eq_false (fun q => by have := a.1 q; omega)); exact ak (G := [ao bf 90 [.int .i64 h.w, .int .i64 h.h, .int .i64 h.dep, .int .i64 h.ax, .bool h.cm, .slice pp pl.length cp, .slice pt tr.length ct, .slice pd nd cd, .slice pk nk ck]]) (aB rfl) ⟨rfl, rfl⟩ (sub (ar .nil) aw))
  ·refine rC aM 3 rfl ?_
   refine oV (hG rfl rfl (by omega) (jE (by omega))) ?_
   refine oV (aY (aD rfl rfl) (by omega)) ?_
   refine rO aM 2 rfl ?_
   refine ag rfl ?_
   refine oV (aY (a8 rfl rfl) (by omega)) ?_
   refine rO aM 3 rfl ?_
   refine ag rfl ?_
   refine oV (fR rfl rfl (by omega) (jH (by omega) (by omega) (by omega))) ?_
   refine rO aM 6 rfl ?_
   (obtain rfl : t = decide ((pl.length : Int) / 3 ≤ 256) := ht.trans (decide_eq_decide.2 (a.trans (by omega))); exact ak (G := [ao bf 90 [.int .i64 h.w, .int .i64 h.h, .int .i64 h.dep, .int .i64 h.ax, .bool h.cm, .slice pp pl.length cp, .slice pt tr.length ct, .slice pd nd cd, .slice pk nk ck]]) (aB rfl) ⟨rfl, rfl⟩ (sub (ar .nil) aw))
 ·refine rC aM 14 rfl ?_
  refine oV (ae V.s3 rfl an rfl) ?_
  refine oV (aA (aD rfl rfl) a1) ?_
  refine rO aM 5 rfl ?_
  refine ag rfl ?_
  refine oV (ae V.s3 rfl an rfl) ?_
  refine ag rfl ?_
  refine oV (aA (aD rfl rfl) a2) ?_
  refine rO aM 11 rfl ?_
  refine oV (ae V.s3 rfl an rfl) ?_
  refine oV (aA (aD rfl rfl) a3) ?_
  refine rO aM 18 rfl ?_
  rcases (aa.LR pl.length) with c1 | ⟨c1, c2⟩ | ⟨c1, c2⟩
  ·refine rC aM 3 rfl ?_
   refine oV (hG rfl rfl (by omega) (jE (by omega))) ?_
   refine oV (aA (aD rfl rfl) (by omega)) ?_
   refine rO aM 13 rfl ?_
   (obtain rfl : t = false := ht.trans (decide_eq_false (fun q => by have := a.1 q; omega)); exact ak (G := [ao bf 90 [.int .i64 h.w, .int .i64 h.h, .int .i64 h.dep, .int .i64 h.ax, .bool h.cm, .slice pp pl.length cp, .slice pt tr.length ct, .slice pd nd cd, .slice pk nk ck]]) (aB rfl) ⟨rfl, rfl⟩ (sub (ar .nil) aw))
  ·refine rC aM 3 rfl ?_
   refine oV (hG rfl rfl (by omega) (jE (by omega))) ?_
   refine oV (aY (aD rfl rfl) (by omega)) ?_
   refine rO aM 2 rfl ?_
   refine ag rfl ?_
   refine oV (aA (a8 rfl rfl) (by omega)) ?_
   refine rO aM 10 rfl ?_
   (obtain rfl : t = false := ht.trans (decide_eq_false (fun q => by have := a.1 q; omega)); exact ak (G := [ao bf 90 [.int .i64 h.w, .int .i64 h.h, .int .i64 h.dep, .int .i64 h.ax, .bool h.cm, .slice pp pl.length cp, .slice pt tr.length ct, .slice pd nd cd, .slice pk nk ck]]) (aB rfl) ⟨rfl, rfl⟩ (sub (ar .nil) aw))
  ·refine rC aM 3 rfl ?_
   refine oV (hG rfl rfl (by omega) (jE (by omega))) ?_
   refine oV (aY (aD rfl rfl) (by omega)) ?_
   refine rO aM 2 rfl ?_
   refine ag rfl ?_
   refine oV (aY (a8 rfl rfl) (by omega)) ?_
   refine rO aM 3 rfl ?_
   refine ag rfl ?_
   refine oV (fR rfl rfl (by omega) (jH (by omega) (by omega) (by omega))) ?_
   refine rO aM 6 rfl ?_
   (obtain rfl : t = decide ((pl.length : Int) / 3 ≤ 256) := ht.trans (decide_eq_decide.2 (a.trans (by omega))); exact ak (G := [ao bf 90 [.int .i64 h.w, .int .i64 h.h, .int .i64 h.dep, .int .i64 h.ax, .bool h.cm, .slice pp pl.length cp, .slice pt tr.length ct, .slice pd nd cd, .slice pk nk ck]]) (aB rfl) ⟨rfl, rfl⟩ (sub (ar .nil) aw))
set_option maxHeartbeats 1000000 in
theorem zr (h : aa.Hd) (hd : aa.jv h.dep) (bf : Nat) (pp : Option Addr) (pl : List Int) (cp : Nat) (pt : Option Addr) (tr : List Int) (ct : Nat) (pd : Option Addr) (nd cd : Nat) (hpl : pl.length < 500000000) (htr : tr = []) (htl : tr.length < 500000000) (hB : aj.av tr) (t : Bool) (ht : t = true) : aE Tryz.prog 41 [.pointer (some ⟨bf, 0, none⟩), .bool false] [ao bf 90 [.int .i64 h.w, .int .i64 h.h, .int .i64 h.dep, .int .i64 h.ax, .bool h.cm, .slice pp pl.length cp, .slice pt tr.length ct, .slice pd nd cd, .slice none 0 0]] (aO fun v G => ∃ pk nk ck K, (t = true → K = aa.bA h tr) ∧ K.length = nk ∧ v = .bool t ∧ G = [ao bf 90 [.int .i64 h.w, .int .i64 h.h, .int .i64 h.dep, .int .i64 h.ax, .bool h.cm, .slice pp pl.length cp, .slice pt tr.length ct, .slice pd nd cd, .slice pk nk ck], Row (aP 3 .i64) pk nk ck K]) := by
 refine au [(0, _), (1, _)] Tryz.func41 rfl Tryz.ntmps41 rfl rfl ?_
 intro w0 F
 refine rT aM 20 rfl ?_
 subst ht
 exact ak (aB rfl) ⟨none, 0, 0, [], (fun _ => by rw [htr, aa.HG]), rfl, rfl, rfl⟩ ((ee (A := Row (aP 3 .i64) none 0 0 []) (fun w0 => Row.nil _ _ _)).trans (sub (.cons az (ar .nil)) aw))
set_option maxHeartbeats 4000000 in
theorem zA (h : aa.Hd) (hd : aa.jv h.dep) (bf : Nat) (pp : Option Addr) (pl : List Int) (cp : Nat) (pt : Option Addr) (tr : List Int) (ct : Nat) (pd : Option Addr) (nd cd : Nat) (hpl : pl.length < 500000000) (htl : tr.length < 500000000) (hB : aj.av tr) (R : ab) (hR : ∀ w0 h, R w0 h → aR U5 pt tr.length tr w0 h) (t : Bool) (ht : t = decide (aa.jC h pl tr true)) : aE Tryz.prog 41 [.pointer (some ⟨bf, 0, none⟩), .bool true] [ao bf 90 [.int .i64 h.w, .int .i64 h.h, .int .i64 h.dep, .int .i64 h.ax, .bool h.cm, .slice pp pl.length cp, .slice pt tr.length ct, .slice pd nd cd, .slice none 0 0], R] (aO fun v G => ∃ pk nk ck K, (t = true → K = aa.bA h tr) ∧ K.length = nk ∧ v = .bool t ∧ G = [ao bf 90 [.int .i64 h.w, .int .i64 h.h, .int .i64 h.dep, .int .i64 h.ax, .bool h.cm, .slice pp pl.length cp, .slice pt tr.length ct, .slice pd nd cd, .slice pk nk ck], Row (aP 3 .i64) pk nk ck K, R]) := by
 refine au [(0, _), (1, _)] Tryz.func41 rfl Tryz.ntmps41 rfl rfl ?_
 intro w0 F
 obtain ⟨P, hP⟩ : ∃ P : Int, P = 2 ^ h.dep.toNat := ⟨_, rfl⟩
 have hpb : 2 ≤ P ∧ P ≤ 65536 := hP ▸ aa.mF hd
 have hdi := aa.jM hd
 refine rT aM 15 rfl ?_
 refine mE (fun (u : Unit) => [(0, .pointer (some ⟨bf, 0, none⟩))]) (fun (u : Unit) => ao bf 90 [.int .i64 h.w, .int .i64 h.h, .int .i64 h.dep, .int .i64 h.ax, .bool h.cm, .slice pp pl.length cp, .slice pt tr.length ct, .slice pd nd cd, .slice none 0 0] :: R :: F) (fun (u : Unit) => (h.ax = 0 ∨ h.ax = 2) ∧ tr.length = 2 * (aa.parts h.ax).toNat ∧ 1 ≤ aa.parts h.ax ∧ aa.parts h.ax ≤ 3 ∧ aa.jC h pl tr true) ?_ ?_
 ·rcases (aa.J0 h pl tr) with ⟨a1, a⟩ | ⟨a1, a2, a3, a⟩ | ⟨a1, a2, a3, a⟩ | ⟨a1, a2, a4, a3, a⟩ | ⟨a1, a2, a4, a3, a⟩ | ⟨a1, a2, a4, a⟩
  ·refine rL aM 6 rfl ?_
   refine oV (ae V.s3 rfl an rfl) ?_
   refine rO aM 5 rfl ?_
   refine oV (aY (aD rfl rfl) a1) ?_
   refine rO aM 5 rfl ?_
   refine o1 V.mixed (by kernel_rfl) ?_
   refine rR aM 3 rfl ?_
   refine oR (ae V.ez rfl an rfl) ?_
   refine rR aM 4 rfl ?_
   refine oR (ae V.ez rfl an rfl) ?_
   refine oR (eu (ty' := 0) Tryz.underlying22 rfl) ?_
   refine oR (fR rfl rfl (by omega) (jH (by omega) (by omega) (by omega))) ?_
   refine rR aM 2 rfl ?_
   refine Rg.cB ?_
   refine rN aM 4 rfl ?_
   obtain rfl : t = decide ((tr.length : Int) ≤ (pl.length : Int) / 3) := ht.trans (decide_eq_decide.2 (a.trans (by omega)))
   exact ak (aB rfl) ⟨none, 0, 0, [], (fun _ => by rw [aa.M0 (by omega)]), rfl, rfl, rfl⟩ ((ee (A := Row (aP 3 .i64) none 0 0 []) (fun w0 => Row.nil _ _ _)).trans (sub (.cons az (bD .nil)) aw))
  ·refine rL aM 6 rfl ?_
   refine oV (ae V.s3 rfl an rfl) ?_
   refine rO aM 5 rfl ?_
   refine oV (aA (aD rfl rfl) a1) ?_
   refine rO aM 7 rfl ?_
   refine oV (aY (aD rfl rfl) a2) ?_
   refine rO aM 8 rfl ?_
   have hpp : aa.parts h.ax = 1 := by rw [a2]; unfold aa.parts; rfl
   refine wN [pz 0 [] [0], pz 1 [0] [], pz 3 [1] [], pz 7 [2] [], pz 15 [3] [], pz 0 [] [0], pz 32 [5] [], pz 96 [6] [], pz 224 [7] [], pz 480 [8] [], pz 992 [9] [], pz 2016 [10] [], pz 4095 [4, 11] []] [⟨fun y => ao bf 90 [.int .i64 h.w, .int .i64 h.h, .int .i64 h.dep, .int .i64 h.ax, .bool h.cm, .slice pp pl.length cp, .slice pt tr.length ct, .slice pd nd cd, .slice none 0 0], none, none, [3, 9]⟩, ⟨fun y => R, none, none, []⟩] F V.mixed ?_
   refine nM ?_
   refine nN ?_
   refine nG V.so ?_
   refine nR (fun y FF hA => ae V.ez rfl an rfl) ?_
   refine nV (fun y hA L => eu (ty' := 0) Tryz.underlying22 rfl) ?_
   refine nM ?_
   refine nN ?_
   refine nG V.iD ?_
   refine nG V.qQ ?_
   refine nR (fun y FF hA => ae V.s3 rfl an rfl) ?_
   refine nE (fun y FF hA => bK (Post := []) (iM h.ax) V.pf rfl .nil (fun v G h => by rcases h with ⟨rfl, rfl⟩; exact ⟨rfl, .refl _⟩)) ?_
   refine nV (fun y hA L => jF rfl rfl wI) ?_
   refine nV (fun y hA L => aY (bY rfl rfl) (by omega)) ?_
   refine aU ?_
   intro y hA
   clear hA
   refine ba ?_
   refine bZ _ (.cons (d := 0) rfl (.cons (d := 42) rfl (.nil _))) ?_
   refine bP (M := ao bf 90 [.int .i64 h.w, .int .i64 h.h, .int .i64 h.dep, .int .i64 h.ax, .bool h.cm, .slice pp pl.length cp, .slice pt tr.length ct, .slice pd nd cd, .slice none 0 0] :: R :: F) (fun _ _ h => h) ?_
   refine rC aM 9 rfl ?_
   obtain rfl : t = false := ht.trans (decide_eq_false a)
   exact ak (aB rfl) ⟨none, 0, 0, [], (fun q => by cases q), rfl, rfl, rfl⟩ ((ee (A := Row (aP 3 .i64) none 0 0 []) (fun w0 => Row.nil _ _ _)).trans (sub (.cons az (bD .nil)) aw))
  ·refine rL aM 6 rfl ?_
   refine oV (ae V.s3 rfl an rfl) ?_
   refine rO aM 5 rfl ?_
   refine oV (aA (aD rfl rfl) a1) ?_
   refine rO aM 7 rfl ?_
   refine oV (aY (aD rfl rfl) a2) ?_
   refine rO aM 8 rfl ?_
   have hpp : aa.parts h.ax = 1 := by rw [a2]; unfold aa.parts; rfl
   have hc2 : h.ax = 0 ∨ h.ax = 2 := .inl a2
   refine wN [pz 0 [] [0], pz 1 [0] [], pz 3 [1] [], pz 7 [2] [], pz 15 [3] [], pz 0 [] [0], pz 32 [5] [], pz 96 [6] [], pz 224 [7] [], pz 480 [8] [], pz 992 [9] [], pz 2016 [10] [], pz 4095 [4, 11] []] [⟨fun y => ao bf 90 [.int .i64 h.w, .int .i64 h.h, .int .i64 h.dep, .int .i64 h.ax, .bool h.cm, .slice pp pl.length cp, .slice pt tr.length ct, .slice pd nd cd, .slice none 0 0], none, none, [3, 9]⟩, ⟨fun y => R, none, none, []⟩] F V.mixed ?_
   refine nM ?_
   refine nN ?_
   refine nG V.so ?_
   refine nR (fun y FF hA => ae V.ez rfl an rfl) ?_
   refine nV (fun y hA L => eu (ty' := 0) Tryz.underlying22 rfl) ?_
   refine nM ?_
   refine nN ?_
   refine nG V.iD ?_
   refine nG V.qQ ?_
   refine nR (fun y FF hA => ae V.s3 rfl an rfl) ?_
   refine nE (fun y FF hA => bK (Post := []) (iM h.ax) V.pf rfl .nil (fun v G h => by rcases h with ⟨rfl, rfl⟩; exact ⟨rfl, .refl _⟩)) ?_
   refine nV (fun y hA L => jF rfl rfl wI) ?_
   refine nV (fun y hA L => aA (bY rfl rfl) (by omega)) ?_
   refine aU ?_
   intro y hA
   clear hA
   refine ba ?_
   refine bZ _ (.cons (d := 0) rfl (.cons (d := 42) rfl (.nil _))) ?_
   refine bP (M := ao bf 90 [.int .i64 h.w, .int .i64 h.h, .int .i64 h.dep, .int .i64 h.ax, .bool h.cm, .slice pp pl.length cp, .slice pt tr.length ct, .slice pd nd cd, .slice none 0 0] :: R :: F) (fun _ _ h => h) ?_
   refine rC aM 3 rfl ?_
   refine j1 (()) ?_ (kJ ln) (sub (bD .nil) aw)
   exact ⟨hc2, by omega, by omega, by omega, a⟩
  ·refine rL aM 6 rfl ?_
   refine oV (ae V.s3 rfl an rfl) ?_
   refine rO aM 5 rfl ?_
   refine oV (aA (aD rfl rfl) a1) ?_
   refine rO aM 7 rfl ?_
   refine oV (aA (aD rfl rfl) a2) ?_
   refine rO aM 5 rfl ?_
   refine oV (aY (aD rfl rfl) a4) ?_
   refine rO aM 5 rfl ?_
   have hpp : aa.parts h.ax = 3 := by rw [a4]; unfold aa.parts; rfl
   refine wN [pz 0 [] [0], pz 1 [0] [], pz 3 [1] [], pz 7 [2] [], pz 15 [3] [], pz 0 [] [0], pz 32 [5] [], pz 96 [6] [], pz 224 [7] [], pz 480 [8] [], pz 992 [9] [], pz 2016 [10] [], pz 4095 [4, 11] []] [⟨fun y => ao bf 90 [.int .i64 h.w, .int .i64 h.h, .int .i64 h.dep, .int .i64 h.ax, .bool h.cm, .slice pp pl.length cp, .slice pt tr.length ct, .slice pd nd cd, .slice none 0 0], none, none, [3, 9]⟩, ⟨fun y => R, none, none, []⟩] F V.mixed ?_
   refine nM ?_
   refine nN ?_
   refine nG V.so ?_
   refine nR (fun y FF hA => ae V.ez rfl an rfl) ?_
   refine nV (fun y hA L => eu (ty' := 0) Tryz.underlying22 rfl) ?_
   refine nM ?_
   refine nN ?_
   refine nG V.iD ?_
   refine nG V.qQ ?_
   refine nR (fun y FF hA => ae V.s3 rfl an rfl) ?_
   refine nE (fun y FF hA => bK (Post := []) (iM h.ax) V.pf rfl .nil (fun v G h => by rcases h with ⟨rfl, rfl⟩; exact ⟨rfl, .refl _⟩)) ?_
   refine nV (fun y hA L => jF rfl rfl wI) ?_
   refine nV (fun y hA L => aY (bY rfl rfl) (by omega)) ?_
   refine aU ?_
   intro y hA
   clear hA
   refine ba ?_
   refine bZ _ (.cons (d := 0) rfl (.cons (d := 42) rfl (.nil _))) ?_
   refine bP (M := ao bf 90 [.int .i64 h.w, .int .i64 h.h, .int .i64 h.dep, .int .i64 h.ax, .bool h.cm, .slice pp pl.length cp, .slice pt tr.length ct, .slice pd nd cd, .slice none 0 0] :: R :: F) (fun _ _ h => h) ?_
   refine rC aM 9 rfl ?_
   obtain rfl : t = false := ht.trans (decide_eq_false a)
   exact ak (aB rfl) ⟨none, 0, 0, [], (fun q => by cases q), rfl, rfl, rfl⟩ ((ee (A := Row (aP 3 .i64) none 0 0 []) (fun w0 => Row.nil _ _ _)).trans (sub (.cons az (bD .nil)) aw))
  ·refine rL aM 6 rfl ?_
   refine oV (ae V.s3 rfl an rfl) ?_
   refine rO aM 5 rfl ?_
   refine oV (aA (aD rfl rfl) a1) ?_
   refine rO aM 7 rfl ?_
   refine oV (aA (aD rfl rfl) a2) ?_
   refine rO aM 5 rfl ?_
   refine oV (aY (aD rfl rfl) a4) ?_
   refine rO aM 5 rfl ?_
   have hpp : aa.parts h.ax = 3 := by rw [a4]; unfold aa.parts; rfl
   have hc2 : h.ax = 0 ∨ h.ax = 2 := .inr a4
   refine wN [pz 0 [] [0], pz 1 [0] [], pz 3 [1] [], pz 7 [2] [], pz 15 [3] [], pz 0 [] [0], pz 32 [5] [], pz 96 [6] [], pz 224 [7] [], pz 480 [8] [], pz 992 [9] [], pz 2016 [10] [], pz 4095 [4, 11] []] [⟨fun y => ao bf 90 [.int .i64 h.w, .int .i64 h.h, .int .i64 h.dep, .int .i64 h.ax, .bool h.cm, .slice pp pl.length cp, .slice pt tr.length ct, .slice pd nd cd, .slice none 0 0], none, none, [3, 9]⟩, ⟨fun y => R, none, none, []⟩] F V.mixed ?_
   refine nM ?_
   refine nN ?_
   refine nG V.so ?_
   refine nR (fun y FF hA => ae V.ez rfl an rfl) ?_
   refine nV (fun y hA L => eu (ty' := 0) Tryz.underlying22 rfl) ?_
   refine nM ?_
   refine nN ?_
   refine nG V.iD ?_
   refine nG V.qQ ?_
   refine nR (fun y FF hA => ae V.s3 rfl an rfl) ?_
   refine nE (fun y FF hA => bK (Post := []) (iM h.ax) V.pf rfl .nil (fun v G h => by rcases h with ⟨rfl, rfl⟩; exact ⟨rfl, .refl _⟩)) ?_
   refine nV (fun y hA L => jF rfl rfl wI) ?_
   refine nV (fun y hA L => aA (bY rfl rfl) (by omega)) ?_
   refine aU ?_
   intro y hA
   clear hA
   refine ba ?_
   refine bZ _ (.cons (d := 0) rfl (.cons (d := 42) rfl (.nil _))) ?_
   refine bP (M := ao bf 90 [.int .i64 h.w, .int .i64 h.h, .int .i64 h.dep, .int .i64 h.ax, .bool h.cm, .slice pp pl.length cp, .slice pt tr.length ct, .slice pd nd cd, .slice none 0 0] :: R :: F) (fun _ _ h => h) ?_
   refine rC aM 3 rfl ?_
   refine j1 (()) ?_ (kJ ln) (sub (bD .nil) aw)
   exact ⟨hc2, by omega, by omega, by omega, a⟩
  ·refine rL aM 6 rfl ?_
   refine oV (ae V.s3 rfl an rfl) ?_
   refine rO aM 5 rfl ?_
   refine oV (aA (aD rfl rfl) a1) ?_
   refine rO aM 7 rfl ?_
   refine oV (aA (aD rfl rfl) a2) ?_
   refine rO aM 5 rfl ?_
   refine oV (aA (aD rfl rfl) a4) ?_
   refine rO aM 12 rfl ?_
   obtain rfl : t = false := ht.trans (decide_eq_false a)
   exact ak (aB rfl) ⟨none, 0, 0, [], (fun q => by cases q), rfl, rfl, rfl⟩ ((ee (A := Row (aP 3 .i64) none 0 0 []) (fun w0 => Row.nil _ _ _)).trans (sub (.cons az (bD .nil)) aw))
 ·intro u
  rintro ⟨hc2, htp, hp1, hp3, hC⟩
  refine rC aM 5 rfl ?_
  refine oV (ae V.ez rfl an rfl) ?_
  refine ai (xw pt ct tr R hR htl) V.LH  rfl (.cons az .nil) rfl ?_
  rintro _ _ ⟨bx, rfl, rfl⟩
  refine rO aM 10 rfl ?_
  refine oV (ae V.s3 rfl dH rfl) ?_
  refine ai (iM h.ax) V.pf  rfl .nil rfl ?_
  rintro _ _ ⟨rfl, rfl⟩
  refine rO aM 4 rfl ?_
  refine gT (Row (aP 3 .i64) none 0 0 []) (Row.nil _ _ _) ?_
  rw [show ([] : List Int) = (aa.bA h tr).take 0 from rfl]
  refine jS (fun (k : Nat) (pk : Option Addr) (ck : Nat) => [(0, .pointer (some ⟨bf, 0, none⟩)), (5, .pointer (some ⟨bx, 0, none⟩)), (53, .int .i64 (aa.parts h.ax)), (54, .int .i64 (k : Int))]) (fun (k : Nat) (pk : Option Addr) (ck : Nat) => ao bf 90 [.int .i64 h.w, .int .i64 h.h, .int .i64 h.dep, .int .i64 h.ax, .bool h.cm, .slice pp pl.length cp, .slice pt tr.length ct, .slice pd nd cd, .slice pk k ck] :: Row (aP 3 .i64) pk k ck ((aa.bA h tr).take k) :: HW bx tr (16 * k) [] 0 :: R :: F) (fun (k : Nat) (pk : Option Addr) (ck : Nat) => (k : Int) ≤ aa.parts h.ax) (fun (k : Nat) (pk : Option Addr) (ck : Nat) => (aa.parts h.ax).toNat - k) (i3 (0) (none) (0) ?_ (fZ ln) (sub (.cons ed (ic .nil)) aw)) ?_
  ·omega
  intro k pk ck
  rintro hk
  refine rL aM 6 rfl ?_
  refine aN rfl (fun h55 => ?_) (fun h55 => ?_)
  ·refine rC aM 4 rfl ?_
   have hck := aa.Nc (trns := tr) hc2 (by omega) (i := k) (by omega)
   refine lx [pz 0 [] [0], pz 0 [] [0], pz 2 [1] [], pz 6 [2] [], pz 14 [3] [], pz 0 [] [5], pz 32 [5] [], pz 0 [] [0], pz 128 [7] [], pz 384 [8] [], pz 896 [9] [], pz 1920 [10] [], pz 3968 [11] [], pz 8064 [12] [], pz 16352 [6, 13] [], pz 32736 [14] [], pz 65534 [4, 15] [], pz 131071 [0] [], pz 262143 [17] [], pz 524287 [18, 16] []] [⟨fun y => ao bf 90 [.int .i64 h.w, .int .i64 h.h, .int .i64 h.dep, .int .i64 h.ax, .bool h.cm, .slice pp pl.length cp, .slice pt tr.length ct, .slice pd nd cd, .slice pk k ck], none, some 19, [4, 11]⟩, ⟨fun y => Row (aP 3 .i64) pk k ck ((aa.bA h tr).take k), none, some 16, []⟩, ⟨fun y => HW bx tr (16 * k) [] 0, none, some 6, []⟩, ⟨fun y => R, none, none, []⟩, ⟨fun y => HW bx tr (16 * k + 16) [] 0, some 6, none, []⟩, ⟨fun y => Row (I3) (some ⟨(kA (gi (y 15))), 0, none⟩) 1 1 [((aa.cU tr (16 * k) 16) % P)], some 15, none, [16]⟩, ⟨fun y => Row (I3) (gi (y 16)) (k + 1) (iI (y 16)) (((aa.bA h tr).take k) ++ [((aa.cU tr (16 * k) 16) % P)]), some 16, none, []⟩, ⟨fun y => ao bf 90 [.int .i64 h.w, .int .i64 h.h, .int .i64 h.dep, .int .i64 h.ax, .bool h.cm, .slice pp pl.length cp, .slice pt tr.length ct, .slice pd nd cd, .slice (gi (y 16)) (k + 1) (iI (y 16))], some 19, none, []⟩] F V.mixed (by kernel_rfl) rfl (fun _ => .refl _) (bV _ (bV _ (bV _ (bV _ (eA _ rfl (by intro y y2 h; rfl) (eA _ rfl (by intro y y2 h; simp only [h 15 (.inl rfl)]) (eA _ rfl (by intro y y2 h; simp only [h 16 (.inl rfl)]) (eA _ rfl (by intro y y2 h; simp only [h 16 (.inr (by decide))]) ir)))))))) ?_
   iterate 2 refine nM ?_
   refine nN ?_
   refine nG V.FR ?_
   refine nR (fun y FF hA => ae V.kV rfl an rfl) ?_
   refine nM ?_
   refine nE (fun y FF hA => bK (Post := [HW bx tr (16 * k + 16) [] 0]) (kn bx tr (16 * k) [] 0 16 htl hB (by decide) (by omega)) V.sP rfl (ar .nil) (fun v G h => by rcases h with ⟨rfl, rfl⟩; exact ⟨rfl, .refl _⟩)) ?_
   refine nM ?_
   refine nN ?_
   refine nG V.iD ?_
   refine nG V.lU ?_
   refine nR (fun y FF hA => ae V.s3 rfl an rfl) ?_
   refine nV (fun y hA L => fX (r := P) rfl rfl (by omega) ((aa.mD hd).trans hP.symm)) ?_
   refine nV (fun y hA L => gh rfl rfl wI) ?_
   refine nV (fun y hA L => j0 (r := ((aa.cU tr (16 * k) 16) % P)) rfl rfl (aa.GH hP hd (aa.zN tr (16 * k)))) ?_
   refine gN (fun y v => .slice (some ⟨kA (gi v), 0, none⟩) 1 1) (fun y v => True) _ _ (fun y v => [Row (I3) (some ⟨(kA (gi v)), 0, none⟩) 1 1 [((aa.cU tr (16 * k) 16) % P)]]) _ (fun y => rfl) (fun y => rfl) (fun y => rfl) (fun y => rfl) (fun y FF hA => Hy (xm (I3) ([((aa.cU tr (16 * k) 16) % P)]) V.cQ V.z3 rfl rfl rfl rfl rfl)) (by intros; rfl) (by intros; rfl) (by intros; rfl) (by intro y y2 h; simp only [h 15 (.inl rfl)]) (by intro y y2 h; rfl) ?_
   refine gN (fun y v => .slice (gi v) (k + 1) (iI v)) (fun y v => True) _ _ (fun y v => [Row (I3) (gi v) (k + 1) (iI v) (((aa.bA h tr).take k) ++ [((aa.cU tr (16 * k) 16) % P)])]) _ (fun y => rfl) (fun y => rfl) (fun y => rfl) (fun y => rfl) (fun y FF hA => tG (qv (c := (I3)) V.cQ V.z3 rfl rfl rfl rfl dS (own bW) (by omega)) (.refl _)) (by intros; rfl) (by intros; rfl) (by intros; rfl) (by intro y y2 h; simp only [h 15 (.inr (by decide)), h 16 (.inl rfl)]) (by intro y y2 h; rfl) ?_
   refine nN ?_
   refine nG V.FR ?_
   refine nE (fun y FF hA => du (bT V.kV rfl rfl rfl (by exact cZ) (by exact Nat.le_of_ble_eq_true rfl) rfl) ⟨rfl, .refl _⟩) ?_
   refine aU ?_
   intro y hA
   clear hA
   show ly _ _ _ _ (R :: HW bx tr (16 * k + 16) [] 0 :: Row (I3) (some ⟨(kA (gi (y 15))), 0, none⟩) 1 1 [((aa.cU tr (16 * k) 16) % P)] :: Row (I3) (gi (y 16)) (k + 1) (iI (y 16)) (((aa.bA h tr).take k) ++ [((aa.cU tr (16 * k) 16) % P)]) :: ao bf 90 [.int .i64 h.w, .int .i64 h.h, .int .i64 h.dep, .int .i64 h.ax, .bool h.cm, .slice pp pl.length cp, .slice pt tr.length ct, .slice pd nd cd, .slice (gi (y 16)) (k + 1) (iI (y 16))] :: F)
   generalize (kA (gi (y 15))) = b71
   generalize (gi (y 16)) = p72
   generalize (iI (y 16)) = c72
   refine ks ?_
   refine ba ?_
   refine a7 ?_
   refine oV (dj rfl rfl wI) ?_
   refine oV (aJ rfl) ?_
   refine cB ?_
   rw [show ((aa.bA h tr).take k) ++ [((aa.cU tr (16 * k) 16) % P)] = (aa.bA h tr).take (k + 1) from by rw [hck.1, aa.Dl hB, ← hP]]
   exact j3 (k + 1) _ _ ⟨by omega, by omega⟩ (fZ ln) (sub (.cons jA (.cons ed (.cons az (ar .nil)))) cC)
  ·refine rC aM 11 rfl ?_
   obtain rfl : t = true := ht.trans (decide_eq_true hC)
   have hcl := aa.Gp (trns := tr) hc2 (by omega)
   obtain rfl : k = (aa.parts h.ax).toNat := by omega
   rw [← hcl, List.take_length]
   exact ak (aB rfl) ⟨pk, _, ck, (aa.bA h tr), fun _ => rfl, rfl, rfl, rfl⟩ (sub (bD (.cons az .nil)) cC)
end Go.Proofs.YtmaiakpjgomnpaaGreat
namespace Go.Proofs.YtmaiakpjgomnpaaGreat
open Go.Sl
theorem V.JC : aF Tryz.prog 171 = true := by kernel_rfl
theorem V.KG : aF Tryz.prog 173 = true := by kernel_rfl
theorem V.Ad : aF Tryz.prog 184 = true := by kernel_rfl
end Go.Proofs.YtmaiakpjgomnpaaGreat

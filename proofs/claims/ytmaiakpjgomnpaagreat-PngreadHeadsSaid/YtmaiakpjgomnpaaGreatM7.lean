/- Walks of functions that the law reaches, and what they lean on; no conditions. -/
import Derived.Test.YtmaiakpjgomnpaaGreatM1
import Derived.KernelRfl
import Derived.Test.YtmaiakpjgomnpaaGreatM6
import Derived.Test.YtmaiakpjgomnpaaGreatM3
import Derived.Test.YtmaiakpjgomnpaaGreatM2
import Derived.Test.YtmaiakpjgomnpaaGreatM4
set_option linter.unusedVariables false
set_option linter.unusedSimpArgs false
set_option maxRecDepth 100000
namespace Go.Proofs.YtmaiakpjgomnpaaGreat
open Go.Sl 
theorem bQ : dC Tryz.prog ⟨[], [(88, 0, 0), (137, 0, 0), (137, 1, 1), (137, 2, 2), (137, 3, 3)]⟩ = true := by kernel_rfl
attribute [local irreducible] ak.az aa.gL aa.gN aa.eC aa.gk aa.eW aa.iz aa.cm aa.bC aa.bZ aa.cD aa.dv aa.gK aa.ev
set_option maxHeartbeats 1000000 in
theorem A8 (kk : List Int) (hk : ak.az kk) (hkl : kk.length < 500000000) (t : Bool) (ht : t = decide (aa.gK kk)) : aK Tryz.prog 114 [.string (strOfNums kk)] [] (aR fun v G => v = .bool t ∧ G = []) := by
 refine ax [(0, _)] Tryz.func114 rfl Tryz.ntmps114 rfl rfl ?_
 intro w0 F
 refine rT bQ 5 rfl ?_
 rcases (Classical.em (aa.ev kk)) with hnm | hnm
 ·refine rC bQ 3 rfl ?_
  refine ai (kE kk hk (by omega) true (decide_eq_true hnm).symm) V.oM  rfl .nil rfl ?_
  rintro _ _ ⟨rfl, rfl⟩
  refine rO bQ 2 rfl ?_
  refine ae rfl ?_
  refine oV (rA 0 Tryz.underlying9 rfl rfl (aa.ba hk) rfl (by have := aa.zi hnm; omega)) ?_
  refine rO bQ 6 rfl ?_
  (rw [show decide (kk.getD 0 0 ≤ 90) = t from (aa.Jq ht hnm).symm]; exact aj (G := []) (aC rfl) ⟨rfl, rfl⟩ (sub .nil au))
 ·refine rC bQ 3 rfl ?_
  refine ai (kE kk hk (by omega) false (decide_eq_false hnm).symm) V.oM  rfl .nil rfl ?_
  rintro _ _ ⟨rfl, rfl⟩
  refine rO bQ 9 rfl ?_
  (obtain rfl : t = false := aa.Ks ht hnm; exact aj (G := []) (aC rfl) ⟨rfl, rfl⟩ (sub .nil au))
set_option maxHeartbeats 1000000 in
theorem Hl (b : Nat) (pl tr id_ ov : Bool) : aK Tryz.prog 113 [.pointer (some ⟨b, 0, none⟩), .pointer (some ⟨b, 0, none⟩)] [ao b 137 [.bool pl, .bool tr, .bool id_, .bool ov]] (aR fun v G => v = .bool (!pl && !id_) ∧ G = [ao b 137 [.bool true, .bool tr, .bool id_, .bool ov]]) := by
 refine ax [(0, _), (1, _)] Tryz.func113 rfl Tryz.ntmps113 rfl rfl ?_
 intro w0 F
 refine rT bQ 5 rfl ?_
 rcases ((by cases pl; exact .inl rfl; exact .inr rfl : pl = false ∨ pl = true)) with rfl | rfl
 ·refine rC bQ 4 rfl ?_
  refine oV (af V.s4 rfl an rfl) ?_
  refine rO bQ 5 rfl ?_
  refine ae rfl ?_
  refine oV (af V.s4 rfl an rfl) ?_
  refine ae rfl ?_
  refine oV (l8 rfl) ?_
  refine rO bQ 8 rfl ?_
  refine aQ (cn V.s4 rfl rfl rfl (by exact cZ) (by exact Nat.le_of_ble_eq_true rfl) rfl) ?_
  refine rO bQ 9 rfl ?_
  exact aj (aC rfl) ⟨rfl, rfl⟩ (sub (aw .nil) au)
 ·refine rC bQ 4 rfl ?_
  refine oV (af V.s4 rfl an rfl) ?_
  refine rO bQ 15 rfl ?_
  refine aQ (cn V.s4 rfl rfl rfl (by exact cZ) (by exact Nat.le_of_ble_eq_true rfl) rfl) ?_
  refine rO bQ 9 rfl ?_
  exact aj (aC rfl) ⟨rfl, rfl⟩ (sub (aw .nil) au)
set_option maxHeartbeats 1000000 in
theorem Hx (b : Nat) (pl tr id_ ov : Bool) : aK Tryz.prog 113 [.pointer (some ⟨b, 0, none⟩), .pointer (some ⟨b, 1, none⟩)] [ao b 137 [.bool pl, .bool tr, .bool id_, .bool ov]] (aR fun v G => v = .bool (!tr && !id_) ∧ G = [ao b 137 [.bool pl, .bool true, .bool id_, .bool ov]]) := by
 refine ax [(0, _), (1, _)] Tryz.func113 rfl Tryz.ntmps113 rfl rfl ?_
 intro w0 F
 refine rT bQ 5 rfl ?_
 rcases ((by cases tr; exact .inl rfl; exact .inr rfl : tr = false ∨ tr = true)) with rfl | rfl
 ·refine rC bQ 4 rfl ?_
  refine oV (af V.s4 rfl an rfl) ?_
  refine rO bQ 5 rfl ?_
  refine ae rfl ?_
  refine oV (af V.s4 rfl an rfl) ?_
  refine ae rfl ?_
  refine oV (l8 rfl) ?_
  refine rO bQ 8 rfl ?_
  refine aQ (cn V.s4 rfl rfl rfl (by exact cZ) (by exact Nat.le_of_ble_eq_true rfl) rfl) ?_
  refine rO bQ 9 rfl ?_
  exact aj (aC rfl) ⟨rfl, rfl⟩ (sub (aw .nil) au)
 ·refine rC bQ 4 rfl ?_
  refine oV (af V.s4 rfl an rfl) ?_
  refine rO bQ 15 rfl ?_
  refine aQ (cn V.s4 rfl rfl rfl (by exact cZ) (by exact Nat.le_of_ble_eq_true rfl) rfl) ?_
  refine rO bQ 9 rfl ?_
  exact aj (aC rfl) ⟨rfl, rfl⟩ (sub (aw .nil) au)
set_option maxHeartbeats 4000000 in
theorem Cc (b : Nat) (pl tr id_ ov : Bool) (x : Ce) (hxk : ak.az x.k) (hxl : x.k.length < 500000000) : aK Tryz.prog 80 [.pointer (some ⟨b, 0, none⟩), .agg #[.string (strOfNums x.k), .slice x.p x.d.length x.c]] [ao b 137 [.bool pl, .bool tr, .bool id_, .bool ov]] (aR fun v G => v = .bool (aa.da ⟨pl, tr, id_, ov⟩ x.ch).2 ∧ G = [ao b 137 [.bool (aa.da ⟨pl, tr, id_, ov⟩ x.ch).1.plte, .bool (aa.da ⟨pl, tr, id_, ov⟩ x.ch).1.trns, .bool (aa.da ⟨pl, tr, id_, ov⟩ x.ch).1.dr, .bool (aa.da ⟨pl, tr, id_, ov⟩ x.ch).1.kL]]) := by
 refine ax [(0, _), (1, _)] Tryz.func80 rfl Tryz.ntmps80 rfl rfl ?_
 intro w0 F
 refine rT bQ 2 rfl ?_
 refine eU rfl (cs := [_, _]) rfl rfl ?_
 intro b3
 refine rO bQ 3 rfl ?_
 rcases (aa.Nu x.k tr) with h1 | ⟨h1, h2, rfl⟩ | ⟨h1, h2, rfl⟩ | ⟨h1, h2, h3⟩ | ⟨h1, h2, h3, h4⟩ | ⟨h1, h2, h3, h4, h5⟩ | ⟨h1, h2, h3, h4, h5⟩
 ·refine rC bQ 4 rfl ?_
  refine oV (af V.s9 rfl an rfl) ?_
  refine oV (fg (aa.ba hxk) (aa.ba aa.kv) rfl (show aq _ _ = some (.string (strOfNums aa.cm)) by unfold aa.cm; rfl) (decide_eq_true h1).symm) ?_
  refine rO bQ 8 rfl ?_
  refine aQ (cn V.s4 rfl rfl rfl (by exact jG) (by exact Nat.le_of_ble_eq_true rfl) rfl) ?_
  refine rO bQ 7 rfl ?_
  refine oV (af V.s4 rfl bY rfl) ?_
  refine oV (l8 rfl) ?_
  refine rO bQ 5 rfl ?_
  exact aj (aC rfl) (by rw [show (aa.da ⟨pl, tr, id_, ov⟩ x.ch) = _ from aa.Pa h1]; exact ⟨rfl, rfl⟩) (sub (.cons aE .nil) cG)
 ·refine rC bQ 4 rfl ?_
  refine oV (af V.s9 rfl an rfl) ?_
  refine oV (fg (aa.ba hxk) (aa.ba aa.kv) rfl (show aq _ _ = some (.string (strOfNums aa.cm)) by unfold aa.cm; rfl) (decide_eq_false h1).symm) ?_
  refine rO bQ 11 rfl ?_
  refine oV (af V.s4 rfl bY rfl) ?_
  refine rO bQ 2 rfl ?_
  refine aQ (cn V.s4 rfl rfl rfl (by exact jG) (by exact Nat.le_of_ble_eq_true rfl) rfl) ?_
  refine rO bQ 6 rfl ?_
  refine oV (af V.s9 rfl an rfl) ?_
  refine rO bQ 5 rfl ?_
  refine oV (fg (aa.ba hxk) (aa.ba aa.jY) rfl (show aq _ _ = some (.string (strOfNums aa.bC)) by unfold aa.bC; rfl) (decide_eq_true h2).symm) ?_
  refine rO bQ 9 rfl ?_
  refine oV (af V.s4 rfl bY rfl) ?_
  refine rO bQ 14 rfl ?_
  (exact aj (G := [ao b 137 [.bool pl, .bool true, .bool id_, .bool id_]]) (aC rfl) (by rw [show (aa.da ⟨pl, true, id_, ov⟩ x.ch) = _ from aa.Nq h1 h2]; exact ⟨rfl, rfl⟩) (sub (.cons aE .nil) cG))
 ·refine rC bQ 4 rfl ?_
  refine oV (af V.s9 rfl an rfl) ?_
  refine oV (fg (aa.ba hxk) (aa.ba aa.kv) rfl (show aq _ _ = some (.string (strOfNums aa.cm)) by unfold aa.cm; rfl) (decide_eq_false h1).symm) ?_
  refine rO bQ 11 rfl ?_
  refine oV (af V.s4 rfl bY rfl) ?_
  refine rO bQ 2 rfl ?_
  refine aQ (cn V.s4 rfl rfl rfl (by exact jG) (by exact Nat.le_of_ble_eq_true rfl) rfl) ?_
  refine rO bQ 6 rfl ?_
  refine oV (af V.s9 rfl an rfl) ?_
  refine rO bQ 5 rfl ?_
  refine oV (fg (aa.ba hxk) (aa.ba aa.jY) rfl (show aq _ _ = some (.string (strOfNums aa.bC)) by unfold aa.bC; rfl) (decide_eq_true h2).symm) ?_
  refine rO bQ 9 rfl ?_
  refine oV (af V.s4 rfl bY rfl) ?_
  refine rO bQ 6 rfl ?_
  refine ae rfl ?_
  refine ai (Hl b pl false id_ id_) V.Kq  rfl (.cons aE .nil) rfl ?_
  rintro _ _ ⟨rfl, rfl⟩
  refine rO bQ 7 rfl ?_
  (exact aj (G := [ao b 137 [.bool true, .bool false, .bool id_, .bool id_]]) (aC rfl) (by rw [show (aa.da ⟨pl, false, id_, ov⟩ x.ch) = _ from aa.MO h1 h2]; exact ⟨rfl, rfl⟩) (sub (aw .nil) cG))
 ·refine rC bQ 4 rfl ?_
  refine oV (af V.s9 rfl an rfl) ?_
  refine oV (fg (aa.ba hxk) (aa.ba aa.kv) rfl (show aq _ _ = some (.string (strOfNums aa.cm)) by unfold aa.cm; rfl) (decide_eq_false h1).symm) ?_
  refine rO bQ 11 rfl ?_
  refine oV (af V.s4 rfl bY rfl) ?_
  refine rO bQ 2 rfl ?_
  refine aQ (cn V.s4 rfl rfl rfl (by exact jG) (by exact Nat.le_of_ble_eq_true rfl) rfl) ?_
  refine rO bQ 6 rfl ?_
  refine oV (af V.s9 rfl an rfl) ?_
  refine rO bQ 5 rfl ?_
  refine oV (fg (aa.ba hxk) (aa.ba aa.jY) rfl (show aq _ _ = some (.string (strOfNums aa.bC)) by unfold aa.bC; rfl) (decide_eq_false h2).symm) ?_
  refine rO bQ 6 rfl ?_
  refine oV (fg (aa.ba hxk) (aa.ba aa.lS) rfl (show aq _ _ = some (.string (strOfNums aa.bZ)) by unfold aa.bZ; rfl) (decide_eq_true h3).symm) ?_
  refine rO bQ 10 rfl ?_
  refine ai (Hx b pl tr id_ id_) V.Kq  rfl (.cons aE .nil) rfl ?_
  rintro _ _ ⟨rfl, rfl⟩
  refine rO bQ 6 rfl ?_
  exact aj (aC rfl) (by rw [show (aa.da ⟨pl, tr, id_, ov⟩ x.ch) = _ from aa.OL h1 h2 h3]; exact ⟨rfl, rfl⟩) (sub (aw .nil) cG)
 ·refine rC bQ 4 rfl ?_
  refine oV (af V.s9 rfl an rfl) ?_
  refine oV (fg (aa.ba hxk) (aa.ba aa.kv) rfl (show aq _ _ = some (.string (strOfNums aa.cm)) by unfold aa.cm; rfl) (decide_eq_false h1).symm) ?_
  refine rO bQ 11 rfl ?_
  refine oV (af V.s4 rfl bY rfl) ?_
  refine rO bQ 2 rfl ?_
  refine aQ (cn V.s4 rfl rfl rfl (by exact jG) (by exact Nat.le_of_ble_eq_true rfl) rfl) ?_
  refine rO bQ 6 rfl ?_
  refine oV (af V.s9 rfl an rfl) ?_
  refine rO bQ 5 rfl ?_
  refine oV (fg (aa.ba hxk) (aa.ba aa.jY) rfl (show aq _ _ = some (.string (strOfNums aa.bC)) by unfold aa.bC; rfl) (decide_eq_false h2).symm) ?_
  refine rO bQ 6 rfl ?_
  refine oV (fg (aa.ba hxk) (aa.ba aa.lS) rfl (show aq _ _ = some (.string (strOfNums aa.bZ)) by unfold aa.bZ; rfl) (decide_eq_false h3).symm) ?_
  refine rO bQ 10 rfl ?_
  refine oV (af V.s9 rfl an rfl) ?_
  refine ai (kE x.k hxk (by omega) false (decide_eq_false h4).symm) V.oM  rfl .nil rfl ?_
  rintro _ _ ⟨rfl, rfl⟩
  refine rO bQ 10 rfl ?_
  (exact aj (G := [ao b 137 [.bool pl, .bool tr, .bool id_, .bool id_]]) (aC rfl) (by rw [show (aa.da ⟨pl, tr, id_, ov⟩ x.ch) = _ from aa.Es (r := false) h1 h2 h3 (aa.Pg h4)]; exact ⟨rfl, rfl⟩) (sub (.cons aE .nil) cG))
 ·refine rC bQ 4 rfl ?_
  refine oV (af V.s9 rfl an rfl) ?_
  refine oV (fg (aa.ba hxk) (aa.ba aa.kv) rfl (show aq _ _ = some (.string (strOfNums aa.cm)) by unfold aa.cm; rfl) (decide_eq_false h1).symm) ?_
  refine rO bQ 11 rfl ?_
  refine oV (af V.s4 rfl bY rfl) ?_
  refine rO bQ 2 rfl ?_
  refine aQ (cn V.s4 rfl rfl rfl (by exact jG) (by exact Nat.le_of_ble_eq_true rfl) rfl) ?_
  refine rO bQ 6 rfl ?_
  refine oV (af V.s9 rfl an rfl) ?_
  refine rO bQ 5 rfl ?_
  refine oV (fg (aa.ba hxk) (aa.ba aa.jY) rfl (show aq _ _ = some (.string (strOfNums aa.bC)) by unfold aa.bC; rfl) (decide_eq_false h2).symm) ?_
  refine rO bQ 6 rfl ?_
  refine oV (fg (aa.ba hxk) (aa.ba aa.lS) rfl (show aq _ _ = some (.string (strOfNums aa.bZ)) by unfold aa.bZ; rfl) (decide_eq_false h3).symm) ?_
  refine rO bQ 10 rfl ?_
  refine oV (af V.s9 rfl an rfl) ?_
  refine ai (kE x.k hxk (by omega) true (decide_eq_true h4).symm) V.oM  rfl .nil rfl ?_
  rintro _ _ ⟨rfl, rfl⟩
  refine rO bQ 2 rfl ?_
  refine ae rfl ?_
  refine oV (af V.s9 rfl an rfl) ?_
  refine ae rfl ?_
  refine ai (A8 x.k hxk (by omega) true (decide_eq_true h5).symm) V.IU  rfl .nil rfl ?_
  rintro _ _ ⟨rfl, rfl⟩
  refine rO bQ 6 rfl ?_
  (exact aj (G := [ao b 137 [.bool pl, .bool tr, .bool id_, .bool id_]]) (aC rfl) (by rw [show (aa.da ⟨pl, tr, id_, ov⟩ x.ch) = _ from aa.Es (r := false) h1 h2 h3 (aa.PR h5)]; exact ⟨rfl, rfl⟩) (sub (.cons aE .nil) cG))
 ·refine rC bQ 4 rfl ?_
  refine oV (af V.s9 rfl an rfl) ?_
  refine oV (fg (aa.ba hxk) (aa.ba aa.kv) rfl (show aq _ _ = some (.string (strOfNums aa.cm)) by unfold aa.cm; rfl) (decide_eq_false h1).symm) ?_
  refine rO bQ 11 rfl ?_
  refine oV (af V.s4 rfl bY rfl) ?_
  refine rO bQ 2 rfl ?_
  refine aQ (cn V.s4 rfl rfl rfl (by exact jG) (by exact Nat.le_of_ble_eq_true rfl) rfl) ?_
  refine rO bQ 6 rfl ?_
  refine oV (af V.s9 rfl an rfl) ?_
  refine rO bQ 5 rfl ?_
  refine oV (fg (aa.ba hxk) (aa.ba aa.jY) rfl (show aq _ _ = some (.string (strOfNums aa.bC)) by unfold aa.bC; rfl) (decide_eq_false h2).symm) ?_
  refine rO bQ 6 rfl ?_
  refine oV (fg (aa.ba hxk) (aa.ba aa.lS) rfl (show aq _ _ = some (.string (strOfNums aa.bZ)) by unfold aa.bZ; rfl) (decide_eq_false h3).symm) ?_
  refine rO bQ 10 rfl ?_
  refine oV (af V.s9 rfl an rfl) ?_
  refine ai (kE x.k hxk (by omega) true (decide_eq_true h4).symm) V.oM  rfl .nil rfl ?_
  rintro _ _ ⟨rfl, rfl⟩
  refine rO bQ 2 rfl ?_
  refine ae rfl ?_
  refine oV (af V.s9 rfl an rfl) ?_
  refine ae rfl ?_
  refine ai (A8 x.k hxk (by omega) false (decide_eq_false h5).symm) V.IU  rfl .nil rfl ?_
  rintro _ _ ⟨rfl, rfl⟩
  refine rO bQ 6 rfl ?_
  (exact aj (G := [ao b 137 [.bool pl, .bool tr, .bool id_, .bool id_]]) (aC rfl) (by rw [show (aa.da ⟨pl, tr, id_, ov⟩ x.ch) = _ from aa.Es (r := true) h1 h2 h3 (aa.Qa h4 h5)]; exact ⟨rfl, rfl⟩) (sub (.cons aE .nil) cG))
end Go.Proofs.YtmaiakpjgomnpaaGreat
namespace Go.Proofs.YtmaiakpjgomnpaaGreat
open Go.Sl
theorem V.Ot : aJ Tryz.prog 80 = true := by kernel_rfl
theorem V.lu : bW Tryz.prog 88 1 = some 1 := by kernel_rfl
theorem V.NA : fC Tryz.prog 137 = some [(0, 1), (1, 1), (2, 1), (3, 1)] := by kernel_rfl
theorem V.P7 : dH Tryz.prog 137 = some ([.bool false, .bool false, .bool false, .bool false]) := by kernel_rfl
end Go.Proofs.YtmaiakpjgomnpaaGreat
namespace Go.Proofs.YtmaiakpjgomnpaaGreat
open Go.Sl 
theorem cM : dC Tryz.prog ⟨[22, 84], [(88, 0, 0), (88, 1, 1), (137, 2, 2)]⟩ = true := by kernel_rfl
attribute [local irreducible] ak.az aa.gL aa.gN aa.eC aa.gk aa.eW aa.iz aa.cm aa.bC aa.bZ aa.cD aa.dv aa.gK aa.ev aa.dS aa.da aa.walk aa.bA
theorem LF (es : List Ce) (i : Nat) : ((es.map Ce.ch).map aa.Ch.k).getD i [] = (CK.g es (i : Int)).k := by
 show _ = (es.getD i _).k
 simp only [List.getD_eq_getElem?_getD, List.getElem?_map]
 cases es[i]? <;> rfl
theorem KK (es : List Ce) (i : Nat) : ((es.map Ce.ch).map (·.d.length)).getD i 0 = (CK.g es (i : Int)).d.length := by
 show _ = (es.getD i _).d.length
 simp only [List.getD_eq_getElem?_getD, List.getElem?_map]
 cases es[i]? <;> rfl
theorem IP {es : List Ce} {i : Nat} (h : i < es.length - 2) : (aa.bA (es.map Ce.ch))[i]? = some (CK.g ((es.drop 1).take (es.length - 1 - 1)) (i : Int)).ch := by
 rw [aa.Hz (by rw [List.length_map]; exact h), List.getElem?_map]
 have e : CK.g ((es.drop 1).take (es.length - 1 - 1)) (i : Int) = es[1 + i]'(by omega) := by
  show ((es.drop 1).take (es.length - 1 - 1)).getD i _ = _
  rw [List.getD_eq_getElem?_getD, List.getElem?_take_of_lt (by omega), List.getElem?_drop, List.getElem?_eq_getElem (by omega)]
  rfl
 rw [e, List.getElem?_eq_getElem (by omega)]
 rfl
theorem lF {es : List Ce} {i : Nat} (P : Ce → Prop) (h : ∀ x ∈ es, P x) (hi : i < es.length) : P (CK.g es (i : Int)) := by
 have : CK.g es (i : Int) = es[i] := CK.vj hi
 rw [this]
 exact h _ (List.getElem_mem hi)
def FH (es : List Ce) : Prop := ∀ x ∈ es, ak.az x.k ∧ x.k.length < 500000000
set_option maxHeartbeats 8000000 in
theorem nT (p : Option Addr) (c : Nat) (es : List Ce) (R : ab) (hR : ∀ w0 h, R w0 h → aS CK p es.length es w0 h) (hel : es.length ≤ 262144) (hok : FH es) (hcap : es.length ≤ c) : aK Tryz.prog 38 [.slice p es.length c] [R] (aR fun v G => v = .int .i64 (aa.Dx (es.map Ce.ch)) ∧ G = [R]) := by
 refine ax [(0, _)] Tryz.func38 rfl Tryz.ntmps38 rfl rfl ?_
 intro w0 F
 have h6 := aa.Pt (es.map Ce.ch)
 rw [List.length_map, LF, KK, LF, KK, show (((0 : Nat) : Int)) = 0 from rfl] at h6
 refine rT cM 5 rfl ?_
 rcases (h6) with ⟨h3, ho⟩ | ⟨h3, hk0, ho⟩ | ⟨h3, hk0, hd0, ho⟩ | ⟨h3, hk0, hd0, hkn, ho⟩ | ⟨h3, hk0, hd0, hkn, hdn, ho⟩ | ⟨h3, hk0, hd0, hkn, hdn, ho⟩
 ·refine fQ cM 12 rfl (by omega) ?_
  refine oV (aU (bD rfl rfl) (by omega)) ?_
  refine rO cM 42 rfl ?_
  rw [← aa.mh ho]
  exact aj (aC rfl) ⟨rfl, rfl⟩ (sub (aw .nil) au)
 ·refine rC cM 4 rfl ?_
  refine oV (cN (v := .int .i64 (((es.length - 1) : Nat) : Int)) (gp rfl rfl wI) (by congr 1; omega)) ?_
  refine rO cM 5 rfl ?_
  have hb0 : ak.az (CK.g es 0).k := (lF (i := 0) (fun x => ak.az x.k ∧ x.k.length < 500000000) hok (by omega)).1
  have hbn := (lF (i := (es.length - 1)) (fun x => ak.az x.k ∧ x.k.length < 500000000) hok (by omega)).1
  refine rC cM 2 rfl ?_
  refine oV (aA (bD rfl rfl) (by omega)) ?_
  refine rO cM 2 rfl ?_
  refine ae rfl ?_
  refine oV (xI V.gA (by exact aY hR an)) ?_
  refine ae rfl ?_
  refine oV (aF V.nH rfl) ?_
  refine ae rfl ?_
  refine oV (dU (c := (CK)) 0 V.s9 rfl (by exact aY hR an) (by omega) (by omega) rfl rfl) ?_
  refine ae rfl ?_
  refine oV (cN (v := .bool true) (ku (r := false) (s8 (aa.ba hb0) (aa.ba aa.Iv) hk0) rfl (show aq _ _ = some (.string (strOfNums aa.dv)) by unfold aa.dv; rfl)) rfl) ?_
  refine rO cM 36 rfl ?_
  rw [← aa.mh ho]
  exact aj (aC rfl) ⟨rfl, rfl⟩ (sub (aw .nil) au)
 ·refine rC cM 4 rfl ?_
  refine oV (cN (v := .int .i64 (((es.length - 1) : Nat) : Int)) (gp rfl rfl wI) (by congr 1; omega)) ?_
  refine rO cM 5 rfl ?_
  have hb0 : ak.az (CK.g es 0).k := (lF (i := 0) (fun x => ak.az x.k ∧ x.k.length < 500000000) hok (by omega)).1
  have hbn := (lF (i := (es.length - 1)) (fun x => ak.az x.k ∧ x.k.length < 500000000) hok (by omega)).1
  refine rC cM 2 rfl ?_
  refine oV (aA (bD rfl rfl) (by omega)) ?_
  refine rO cM 2 rfl ?_
  refine ae rfl ?_
  refine oV (xI V.gA (by exact aY hR an)) ?_
  refine ae rfl ?_
  refine oV (aF V.nH rfl) ?_
  refine ae rfl ?_
  refine oV (dU (c := (CK)) 0 V.s9 rfl (by exact aY hR an) (by omega) (by omega) rfl rfl) ?_
  refine ae rfl ?_
  refine oV (cN (v := .bool false) (ku (r := true) (by rw [hk0]; exact beq_self_eq_true _) rfl (show aq _ _ = some (.string (strOfNums aa.dv)) by unfold aa.dv; rfl)) rfl) ?_
  refine rO cM 3 rfl ?_
  refine ae rfl ?_
  refine oV (xI V.gA (by exact aY hR an)) ?_
  refine ae rfl ?_
  refine oV (aF V.lu rfl) ?_
  refine ae rfl ?_
  refine oV (dU (c := (CK)) 1 V.eA rfl (by exact aY hR an) (by omega) (by omega) rfl rfl) ?_
  refine ae rfl ?_
  refine oV (eM (ty' := 0) Tryz.underlying22 rfl) ?_
  refine ae rfl ?_
  refine oV (aU (bG rfl rfl) (fun hh => hd0 (by omega))) ?_
  refine rO cM 28 rfl ?_
  rw [← aa.mh ho]
  exact aj (aC rfl) ⟨rfl, rfl⟩ (sub (aw .nil) au)
 ·refine rC cM 4 rfl ?_
  refine oV (cN (v := .int .i64 (((es.length - 1) : Nat) : Int)) (gp rfl rfl wI) (by congr 1; omega)) ?_
  refine rO cM 5 rfl ?_
  have hb0 : ak.az (CK.g es 0).k := (lF (i := 0) (fun x => ak.az x.k ∧ x.k.length < 500000000) hok (by omega)).1
  have hbn := (lF (i := (es.length - 1)) (fun x => ak.az x.k ∧ x.k.length < 500000000) hok (by omega)).1
  refine rC cM 2 rfl ?_
  refine oV (aA (bD rfl rfl) (by omega)) ?_
  refine rO cM 2 rfl ?_
  refine ae rfl ?_
  refine oV (xI V.gA (by exact aY hR an)) ?_
  refine ae rfl ?_
  refine oV (aF V.nH rfl) ?_
  refine ae rfl ?_
  refine oV (dU (c := (CK)) 0 V.s9 rfl (by exact aY hR an) (by omega) (by omega) rfl rfl) ?_
  refine ae rfl ?_
  refine oV (cN (v := .bool false) (ku (r := true) (by rw [hk0]; exact beq_self_eq_true _) rfl (show aq _ _ = some (.string (strOfNums aa.dv)) by unfold aa.dv; rfl)) rfl) ?_
  refine rO cM 3 rfl ?_
  refine ae rfl ?_
  refine oV (xI V.gA (by exact aY hR an)) ?_
  refine ae rfl ?_
  refine oV (aF V.lu rfl) ?_
  refine ae rfl ?_
  refine oV (dU (c := (CK)) 1 V.eA rfl (by exact aY hR an) (by omega) (by omega) rfl rfl) ?_
  refine ae rfl ?_
  refine oV (eM (ty' := 0) Tryz.underlying22 rfl) ?_
  refine ae rfl ?_
  refine oV (aA (bG rfl rfl) (fun hh => hh (by omega))) ?_
  refine rO cM 4 rfl ?_
  refine ae rfl ?_
  refine oV (xI V.gA (by exact aY hR an)) ?_
  refine ae rfl ?_
  refine oV (aF V.nH rfl) ?_
  refine ae rfl ?_
  refine oV (dU (c := (CK)) 0 V.s9 rfl (by exact aY hR an) (by omega) (by omega) rfl rfl) ?_
  refine ae rfl ?_
  refine oV (cN (v := .bool true) (ku (r := false) (s8 (aa.ba hbn) (aa.ba aa.xK) hkn) rfl (show aq _ _ = some (.string (strOfNums aa.cD)) by unfold aa.cD; rfl)) rfl) ?_
  refine rO cM 20 rfl ?_
  rw [← aa.mh ho]
  exact aj (aC rfl) ⟨rfl, rfl⟩ (sub (aw .nil) au)
 ·refine rC cM 4 rfl ?_
  refine oV (cN (v := .int .i64 (((es.length - 1) : Nat) : Int)) (gp rfl rfl wI) (by congr 1; omega)) ?_
  refine rO cM 5 rfl ?_
  have hb0 : ak.az (CK.g es 0).k := (lF (i := 0) (fun x => ak.az x.k ∧ x.k.length < 500000000) hok (by omega)).1
  have hbn := (lF (i := (es.length - 1)) (fun x => ak.az x.k ∧ x.k.length < 500000000) hok (by omega)).1
  refine rC cM 2 rfl ?_
  refine oV (aA (bD rfl rfl) (by omega)) ?_
  refine rO cM 2 rfl ?_
  refine ae rfl ?_
  refine oV (xI V.gA (by exact aY hR an)) ?_
  refine ae rfl ?_
  refine oV (aF V.nH rfl) ?_
  refine ae rfl ?_
  refine oV (dU (c := (CK)) 0 V.s9 rfl (by exact aY hR an) (by omega) (by omega) rfl rfl) ?_
  refine ae rfl ?_
  refine oV (cN (v := .bool false) (ku (r := true) (by rw [hk0]; exact beq_self_eq_true _) rfl (show aq _ _ = some (.string (strOfNums aa.dv)) by unfold aa.dv; rfl)) rfl) ?_
  refine rO cM 3 rfl ?_
  refine ae rfl ?_
  refine oV (xI V.gA (by exact aY hR an)) ?_
  refine ae rfl ?_
  refine oV (aF V.lu rfl) ?_
  refine ae rfl ?_
  refine oV (dU (c := (CK)) 1 V.eA rfl (by exact aY hR an) (by omega) (by omega) rfl rfl) ?_
  refine ae rfl ?_
  refine oV (eM (ty' := 0) Tryz.underlying22 rfl) ?_
  refine ae rfl ?_
  refine oV (aA (bG rfl rfl) (fun hh => hh (by omega))) ?_
  refine rO cM 4 rfl ?_
  refine ae rfl ?_
  refine oV (xI V.gA (by exact aY hR an)) ?_
  refine ae rfl ?_
  refine oV (aF V.nH rfl) ?_
  refine ae rfl ?_
  refine oV (dU (c := (CK)) 0 V.s9 rfl (by exact aY hR an) (by omega) (by omega) rfl rfl) ?_
  refine ae rfl ?_
  refine oV (cN (v := .bool false) (ku (r := true) (by rw [hkn]; exact beq_self_eq_true _) rfl (show aq _ _ = some (.string (strOfNums aa.cD)) by unfold aa.cD; rfl)) rfl) ?_
  refine rO cM 4 rfl ?_
  refine ae rfl ?_
  refine oV (xI V.gA (by exact aY hR an)) ?_
  refine ae rfl ?_
  refine oV (aF V.lu rfl) ?_
  refine ae rfl ?_
  refine oV (dU (c := (CK)) 1 V.eA rfl (by exact aY hR an) (by omega) (by omega) rfl rfl) ?_
  refine ae rfl ?_
  refine oV (eM (ty' := 0) Tryz.underlying22 rfl) ?_
  refine ae rfl ?_
  refine oV (aU (bj rfl rfl) (by omega)) ?_
  refine rO cM 11 rfl ?_
  rw [← aa.mh ho]
  exact aj (aC rfl) ⟨rfl, rfl⟩ (sub (aw .nil) au)
 ·refine rC cM 4 rfl ?_
  refine oV (cN (v := .int .i64 (((es.length - 1) : Nat) : Int)) (gp rfl rfl wI) (by congr 1; omega)) ?_
  refine rO cM 5 rfl ?_
  have hb0 : ak.az (CK.g es 0).k := (lF (i := 0) (fun x => ak.az x.k ∧ x.k.length < 500000000) hok (by omega)).1
  have hbn := (lF (i := (es.length - 1)) (fun x => ak.az x.k ∧ x.k.length < 500000000) hok (by omega)).1
  refine rC cM 2 rfl ?_
  refine oV (aA (bD rfl rfl) (by omega)) ?_
  refine rO cM 2 rfl ?_
  refine ae rfl ?_
  refine oV (xI V.gA (by exact aY hR an)) ?_
  refine ae rfl ?_
  refine oV (aF V.nH rfl) ?_
  refine ae rfl ?_
  refine oV (dU (c := (CK)) 0 V.s9 rfl (by exact aY hR an) (by omega) (by omega) rfl rfl) ?_
  refine ae rfl ?_
  refine oV (cN (v := .bool false) (ku (r := true) (by rw [hk0]; exact beq_self_eq_true _) rfl (show aq _ _ = some (.string (strOfNums aa.dv)) by unfold aa.dv; rfl)) rfl) ?_
  refine rO cM 3 rfl ?_
  refine ae rfl ?_
  refine oV (xI V.gA (by exact aY hR an)) ?_
  refine ae rfl ?_
  refine oV (aF V.lu rfl) ?_
  refine ae rfl ?_
  refine oV (dU (c := (CK)) 1 V.eA rfl (by exact aY hR an) (by omega) (by omega) rfl rfl) ?_
  refine ae rfl ?_
  refine oV (eM (ty' := 0) Tryz.underlying22 rfl) ?_
  refine ae rfl ?_
  refine oV (aA (bG rfl rfl) (fun hh => hh (by omega))) ?_
  refine rO cM 4 rfl ?_
  refine ae rfl ?_
  refine oV (xI V.gA (by exact aY hR an)) ?_
  refine ae rfl ?_
  refine oV (aF V.nH rfl) ?_
  refine ae rfl ?_
  refine oV (dU (c := (CK)) 0 V.s9 rfl (by exact aY hR an) (by omega) (by omega) rfl rfl) ?_
  refine ae rfl ?_
  refine oV (cN (v := .bool false) (ku (r := true) (by rw [hkn]; exact beq_self_eq_true _) rfl (show aq _ _ = some (.string (strOfNums aa.cD)) by unfold aa.cD; rfl)) rfl) ?_
  refine rO cM 4 rfl ?_
  refine ae rfl ?_
  refine oV (xI V.gA (by exact aY hR an)) ?_
  refine ae rfl ?_
  refine oV (aF V.lu rfl) ?_
  refine ae rfl ?_
  refine oV (dU (c := (CK)) 1 V.eA rfl (by exact aY hR an) (by omega) (by omega) rfl rfl) ?_
  refine ae rfl ?_
  refine oV (eM (ty' := 0) Tryz.underlying22 rfl) ?_
  refine ae rfl ?_
  refine oV (aA (bj rfl rfl) (by omega)) ?_
  refine rO cM 8 rfl ?_
  refine oV (bV V.NA V.P7 rfl (cs := [_, _, _, _]) rfl) ?_
  refine eU rfl (cs := [.bool false, .bool false, .bool false, .bool false]) rfl rfl ?_
  intro b45
  refine rO cM 5 rfl ?_
  have hM : ∀ w0 h, R w0 h → aS CK (eo p 1 c 2) ((es.length - 1) - 1) ((es.drop 1).take ((es.length - 1) - 1)) w0 h := fun w0 h hh => (hR w0 h hh).sub 1 (es.length - 1) c (by omega) (by omega) (by omega)
  refine rC cM 3 rfl ?_
  refine oV (dW 1 (es.length - 1) c V.gA rfl ⟨_, rfl⟩ ⟨_, rfl⟩ rfl (by omega) (by omega) (by omega)) ?_
  refine rO cM 5 rfl ?_
  refine iq (fun (i : Nat) (w : aa.Wk) => [(4, .pointer (some ⟨b45, 0, none⟩)), (48, .slice (eo p 1 c 2) ((es.length - 1) - 1) (c - 1)), (49, .int .i64 (((es.length - 1) - 1 : Nat) : Int)), (50, .int .i64 (i : Int))]) (fun (i : Nat) (w : aa.Wk) => ao b45 137 [.bool w.plte, .bool w.trns, .bool w.dr, .bool w.kL] :: R :: F) (fun (i : Nat) (w : aa.Wk) => i ≤ es.length - 2 ∧ aa.walk ((aa.bA (es.map Ce.ch)).drop i) w = aa.walk (aa.bA (es.map Ce.ch)) aa.wD) (fun (i : Nat) (w : aa.Wk) => es.length - 2 - i) (i2 (0) (aa.wD) ?_ (eN ln) (sub (bp .nil) au)) ?_
  ·exact ⟨Nat.zero_le _, rfl⟩
  intro i w
  rintro ⟨hi, hwk⟩
  refine rL cM 6 rfl ?_
  refine aP rfl (fun h51 => ?_) (fun h51 => ?_)
  ·refine rC cM 5 rfl ?_
   have hmi := IP (es := es) (i := i) (by omega)
   have hxo : ak.az (CK.g ((es.drop 1).take ((es.length - 1) - 1)) (i : Int)).k ∧ (CK.g ((es.drop 1).take ((es.length - 1) - 1)) (i : Int)).k.length < 500000000 := lF (fun x => ak.az x.k ∧ x.k.length < 500000000) (fun x hx => hok x (List.mem_of_mem_drop (List.mem_of_mem_take hx))) (by rw [List.length_take, List.length_drop]; omega)
   have hwn := aa.Kx (w := w) _ hmi
   refine bo ?_
   refine oV (xI V.gA (by exact aY hM bY)) ?_
   refine oV (ow (c := (CK)) V.jW rfl (by exact aY hM bY) (by omega) (by omega) rfl) ?_
   refine cB V.lx rfl ?_
   intro b6
   refine aQ (aD V.jW rfl rfl (us := [_, _]) rfl rfl (by exact cZ) (by exact Nat.le_of_ble_eq_true rfl) rfl) ?_
   refine rO cM 2 rfl ?_
   rcases (aa.Lc (aa.da ⟨w.plte, w.trns, w.dr, w.kL⟩ (CK.g ((es.drop 1).take ((es.length - 1) - 1)) (i : Int)).ch).2) with hb | hb
   ·refine rC cM 3 rfl ?_
    refine oV (bX V.jW rfl an (vs := [_, _]) rfl rfl) ?_
    refine ai (Cc b45 w.plte w.trns w.dr w.kL (CK.g ((es.drop 1).take ((es.length - 1) - 1)) (i : Int)) hxo.1 hxo.2) V.Ot  rfl (.cons aE .nil) rfl ?_
    rintro _ _ ⟨rfl, rfl⟩
    rw [hb]
    refine cV cM 11 rfl (by omega) ?_
    have hb2 : (aa.da w (CK.g ((es.drop 1).take ((es.length - 1) - 1)) (i : Int)).ch).2 = true := hb
    rw [hb2] at hwn
    exact j2 (i + 1) (aa.da ⟨w.plte, w.trns, w.dr, w.kL⟩ (CK.g ((es.drop 1).take ((es.length - 1) - 1)) (i : Int)).ch).1 ⟨⟨by omega, hwn.symm.trans hwk⟩, by omega⟩ (eN ln) (sub (aw (.cons aE .nil)) cG)
   ·refine rC cM 3 rfl ?_
    refine oV (bX V.jW rfl an (vs := [_, _]) rfl rfl) ?_
    refine ai (Cc b45 w.plte w.trns w.dr w.kL (CK.g ((es.drop 1).take ((es.length - 1) - 1)) (i : Int)) hxo.1 hxo.2) V.Ot  rfl (.cons aE .nil) rfl ?_
    rintro _ _ ⟨rfl, rfl⟩
    rw [hb]
    refine rO cM 15 rfl ?_
    have hb2 : (aa.da w (CK.g ((es.drop 1).take ((es.length - 1) - 1)) (i : Int)).ch).2 = false := hb
    rw [hb2] at hwn
    rw [← aa.mh (aa.JC ho (hwk.symm.trans hwn))]
    exact aj (aC rfl) ⟨rfl, rfl⟩ (sub (.cons bK .nil) fS)
  ·refine rC cM 5 rfl ?_
   rcases (aa.Lc w.dr) with hb | hb
   ·refine rC cM 2 rfl ?_
    rw [aa.CY (by rw [aa.ym (by rw [List.length_map]; omega), List.length_map]; omega)] at hwk
    refine rC cM 4 rfl ?_
    refine oV (af V.s4 rfl an rfl) ?_
    rw [hb]
    refine rO cM 12 rfl ?_
    rw [← aa.qI ((aa.BX ho hwk.symm).trans hb)]
    exact aj (aC rfl) ⟨rfl, rfl⟩ (sub (.cons aE .nil) cG)
   ·refine rC cM 2 rfl ?_
    rw [aa.CY (by rw [aa.ym (by rw [List.length_map]; omega), List.length_map]; omega)] at hwk
    refine rC cM 4 rfl ?_
    refine oV (af V.s4 rfl an rfl) ?_
    rw [hb]
    refine rO cM 11 rfl ?_
    rw [← aa.mh ((aa.BX ho hwk.symm).trans hb)]
    exact aj (aC rfl) ⟨rfl, rfl⟩ (sub (.cons aE .nil) cG)
end Go.Proofs.YtmaiakpjgomnpaaGreat
namespace Go.Proofs.YtmaiakpjgomnpaaGreat
open Go.Sl
theorem V.Q8 : aJ Tryz.prog 64 = true := by kernel_rfl
theorem V.Rm : aJ Tryz.prog 65 = true := by kernel_rfl
theorem V.Q3 : aJ Tryz.prog 66 = true := by kernel_rfl
theorem V.Jl : fC Tryz.prog 57 = some [(0, 1), (1, 1)] := by kernel_rfl
theorem V.nK : sliceB Tryz.prog 59 = some (57, 2, 40) := by kernel_rfl
theorem V.K5 : dH Tryz.prog 57 = some ([.string .empty, .slice none 0 0]) := by kernel_rfl
end Go.Proofs.YtmaiakpjgomnpaaGreat
namespace Go.Proofs.YtmaiakpjgomnpaaGreat
open Go.Sl 
theorem iG : dC Tryz.prog ⟨[22], []⟩ = true := by kernel_rfl
attribute [local irreducible] ak.az aa.gL aa.gN aa.eC aa.gk aa.eW aa.iz aa.il aa.first aa.cut aa.gB aa.fx aa.cD aa.ev aa.nu
abbrev bJ : Ec Ce := ⟨57, 2, fun x => [.string (strOfNums x.k), .slice x.p x.d.length x.c], ⟨[], none, 0, []⟩, fun _ => rfl, fun _ => rfl⟩
set_option maxHeartbeats 1000000 in
theorem BN (kk : List Int) (hk : ak.az kk) (hkl : kk.length < 500000000) (t : Bool) (ht : t = decide (aa.ev kk)) : aK Tryz.prog 65 [.string (strOfNums kk)] [] (aR fun v G => v = .bool t ∧ G = []) := by
 refine ax [(0, _)] Tryz.func65 rfl Tryz.ntmps65 rfl rfl ?_
 intro w0 F
 refine rT iG 5 rfl ?_
 rcases (Classical.em (kk.length = 4)) with h4 | h4
 ·refine rC iG 4 rfl ?_
  refine oV (tL Tryz.underlying9 rfl (jd kk)) ?_
  refine oV (aA (bG rfl rfl) (fun hh => hh (by omega))) ?_
  refine rO iG 12 rfl ?_
  refine dV (fun (i : Nat) => [(0, .string (strOfNums kk)), (3, .int .i64 (i : Int))]) (fun (i : Nat) => F) (fun (i : Nat) => i ≤ 4 ∧ ∀ j, j < i → aa.kG (kk.getD j 0)) (fun (i : Nat) => 4 - i) (i1 (0) ?_ (kF ln) (sub .nil au)) ?_
  ·exact ⟨Nat.zero_le _, fun j hj => by omega⟩
  intro i
  rintro ⟨hi, hall⟩
  refine rL iG 7 rfl ?_
  refine aP rfl (fun h9 => ?_) (fun h9 => ?_)
  ·refine rC iG 8 rfl ?_
   refine oV (rA i Tryz.underlying9 rfl rfl (aa.ba hk) rfl (by omega)) ?_
   refine oV (my (r := (aa.nu (kk.getD i 0))) rfl rfl (by unfold aa.nu; rfl)) ?_
   refine rO iG 3 rfl ?_
   rcases (aa.o3 (hk.get i)) with ⟨h1, hn⟩ | ⟨h1, h2, hn⟩ | ⟨h1, h2, hl1⟩
   ·refine rC iG 3 rfl ?_
    refine oV (aU (bD rfl rfl) (by omega)) ?_
    refine rO iG 18 rfl ?_
    obtain rfl : t = false := ht.trans (decide_eq_false (aa.ua hn (by omega)))
    exact aj (aC rfl) ⟨rfl, rfl⟩ (sub .nil au)
   ·refine rC iG 3 rfl ?_
    refine oV (aA (bD rfl rfl) (by omega)) ?_
    refine rO iG 2 rfl ?_
    refine ae rfl ?_
    refine oV (aU (bj rfl rfl) (by omega)) ?_
    refine rO iG 15 rfl ?_
    obtain rfl : t = false := ht.trans (decide_eq_false (aa.ua hn (by omega)))
    exact aj (aC rfl) ⟨rfl, rfl⟩ (sub .nil au)
   ·refine rC iG 3 rfl ?_
    refine oV (aA (bD rfl rfl) (by omega)) ?_
    refine rO iG 2 rfl ?_
    refine ae rfl ?_
    refine oV (aA (bj rfl rfl) (by omega)) ?_
    refine cV iG 12 rfl (by omega) ?_
    refine j1 (i + 1) ?_ (kF ln) (sub .nil au)
    exact ⟨⟨by omega, fun j hj => (Nat.lt_succ_iff_lt_or_eq.1 hj).elim (hall j) (fun e => e ▸ hl1)⟩, by omega⟩
  ·refine rC iG 11 rfl ?_
   obtain rfl : i = 4 := by omega
   obtain rfl : t = true := ht.trans (decide_eq_true ((aa.y9 (by rw [h4]; exact hall)).2 h4))
   exact aj (aC rfl) ⟨rfl, rfl⟩ (sub .nil au)
 ·refine rC iG 4 rfl ?_
  refine oV (tL Tryz.underlying9 rfl (jd kk)) ?_
  refine oV (aU (bG rfl rfl) (fun hh => h4 (by omega))) ?_
  refine rO iG 10 rfl ?_
  obtain rfl : t = false := ht.trans (decide_eq_false (aa.NB h4))
  exact aj (aC rfl) ⟨rfl, rfl⟩ (sub .nil au)
theorem LQ  : aK Tryz.prog 64 [] [] (aR fun v G => v = .string (strOfNums aa.fx) ∧ G = []) := by
 refine ax [] Tryz.func64 rfl Tryz.ntmps64 rfl rfl ?_
 intro w0 F
 refine rT iG 11 rfl ?_
 exact aj (aC (show _ = some (.string (strOfNums aa.fx)) by unfold aa.fx; rfl)) ⟨rfl, rfl⟩ (sub .nil au)
end Go.Proofs.YtmaiakpjgomnpaaGreat
namespace Go.Proofs.YtmaiakpjgomnpaaGreat
open Go.Sl
theorem V.sP : bW Tryz.prog 57 0 = some 0 := by kernel_rfl
theorem V.vB : bW Tryz.prog 57 1 = some 1 := by kernel_rfl
end Go.Proofs.YtmaiakpjgomnpaaGreat
namespace Go.Proofs.YtmaiakpjgomnpaaGreat
open Go.Sl 
theorem RD : dC Tryz.prog ⟨[22, 59], [(57, 0, 0), (57, 1, 1)]⟩ = true := by kernel_rfl
attribute [local irreducible] ak.az aa.gL aa.gN aa.eC aa.gk aa.eW aa.iz aa.cm aa.bC aa.bZ aa.cD aa.dv aa.ev aa.dS aa.eI aa.lK aa.ss
theorem pV {es : List Ce} {i : Nat} (h : i < es.length) : (es.map Ce.ch)[i]? = some (bJ.g es (i : Int)).ch := by
 rw [List.getElem?_map, List.getElem?_eq_getElem h]
 have : bJ.g es (i : Int) = es[i] := bJ.vj h
 rw [this]; rfl
theorem mR {es : List Ce} {i : Nat} (P : Ce → Prop) (h : ∀ x ∈ es, P x) (hi : i < es.length) : P (bJ.g es (i : Int)) := by
 have : bJ.g es (i : Int) = es[i] := bJ.vj hi
 rw [this]
 exact h _ (List.getElem_mem hi)
end Go.Proofs.YtmaiakpjgomnpaaGreat
namespace Go.Proofs.YtmaiakpjgomnpaaGreat
open Go.Sl
theorem V.a145 : gZ Tryz.prog 145 = some 6 := by kernel_rfl
theorem V.KD : gZ Tryz.prog 181 = some 42 := by kernel_rfl
theorem V.eX : gZ Tryz.prog 26 = some 3 := by kernel_rfl
theorem V.F5 : jS Tryz.prog 181 = some (7, 145, 6) := by kernel_rfl
theorem V.qP : aJ Tryz.prog 115 = true := by kernel_rfl
theorem V.JI : aJ Tryz.prog 144 = true := by kernel_rfl
theorem V.wz : aJ Tryz.prog 58 = true := by kernel_rfl
theorem V.AX : aJ Tryz.prog 60 = true := by kernel_rfl
theorem V.Kl : bW Tryz.prog 145 4 = some 4 := by kernel_rfl
theorem V.KM : bW Tryz.prog 145 5 = some 5 := by kernel_rfl
theorem V.tF : bW Tryz.prog 26 0 = some 0 := by kernel_rfl
theorem V.nj : bW Tryz.prog 26 1 = some 1 := by kernel_rfl
theorem V.oQ : bW Tryz.prog 26 2 = some 2 := by kernel_rfl
theorem V.NI : fC Tryz.prog 145 = some [(0, 1), (1, 1), (2, 1), (3, 1), (4, 1), (5, 1)] := by kernel_rfl
theorem V.mB : fC Tryz.prog 26 = some [(0, 1), (1, 1), (2, 1)] := by kernel_rfl
theorem V.qp : dm Tryz.prog 24 = true := by kernel_rfl
theorem V.tq : sliceB Tryz.prog 140 = some (145, 6, 48) := by kernel_rfl
theorem V.hI : sliceB Tryz.prog 24 = some (62, 1, 2) := by kernel_rfl
theorem V.z145 : dH Tryz.prog 145 = some ([.int .i64 0, .int .i64 0, .int .i64 0, .int .i64 0, .int .i64 0, .int .i64 0]) := by kernel_rfl
theorem V.IC : dH Tryz.prog 181 = some (List.replicate 42 (.int .i64 0)) := by kernel_rfl
theorem V.k9 : dH Tryz.prog 26 = some ([.int .i64 0, .int .i64 0, .slice none 0 0]) := by kernel_rfl
theorem V.Fh : dH Tryz.prog 62 = some ([.int .u16 0]) := by kernel_rfl
end Go.Proofs.YtmaiakpjgomnpaaGreat
namespace Go.Proofs.YtmaiakpjgomnpaaGreat
open Go.Sl 
theorem aM : dC Tryz.prog ⟨[24], [(26, 0, 0), (26, 1, 1), (26, 2, 2), (145, 4, 4), (145, 5, 5)]⟩ = true := by kernel_rfl
attribute [local irreducible] aa.bS aa.many aa.fh aa.gb aa.sO aa.pK aa.jc aa.jF
section
variable {C : Ctx} {E : Env} {L : List ab}
theorem NL {t T n b T' : Nat} {cs : List Value} (hs : gZ C.P T = some n) (h1 : E.get t = some (.pointer (some ⟨b, 0, none⟩))) (hm : ao b T' cs ∈ L) (hn : cs.length = n) : lA C #[.cell t T] E L (.agg cs.toArray) := fun fn a w hr ha hi => by
 obtain ⟨g1, g2⟩ := lZ hs w
 obtain ⟨F, hF⟩ := hi.mem hm
 have := run_loadCells_list (P := C.P) w ⟨b, 0, none⟩ cs (fun j v hj => by rw [Addr.fY, hF.jh, ← hj]; simp)
 rw [hn] at this
 simp [results, hr, ha.get _ _ h1, asAddr, loadVar, g1, g2, this]
end
set_option maxHeartbeats 1000000 in
theorem mS (w h : Int) : aK Tryz.prog 58 [.int .i64 w, .int .i64 h] [] (aR fun v G => v = .int .i64 (aa.bS w h) ∧ G = []) := by
 refine ax [(0, _), (1, _)] Tryz.func58 rfl Tryz.ntmps58 rfl rfl ?_
 intro w0 F
 refine rT aM 7 rfl ?_
 rcases (aa.vl w h) with ⟨a0, hs⟩ | ⟨a0, a1, hs⟩ | ⟨a0, a1, a2, hs⟩ | ⟨a0, a1, a2, a3, hs⟩ | ⟨a0, a1, a2, a3, a4, hs⟩ | ⟨a0, a1, a2, a3, a4, hs⟩
 ·refine rC aM 3 rfl ?_
  refine oV (aU (bD rfl rfl) (by omega)) ?_
  refine rO aM 16 rfl ?_
  exact aj (aC rfl) ⟨congrArg (Value.int .i64) hs.symm, rfl⟩ (sub .nil au)
 ·refine rC aM 3 rfl ?_
  refine oV (aA (bD rfl rfl) (by omega)) ?_
  refine rO aM 2 rfl ?_
  refine ae rfl ?_
  refine oV (aU (bD rfl rfl) (by omega)) ?_
  refine rO aM 13 rfl ?_
  exact aj (aC rfl) ⟨congrArg (Value.int .i64) hs.symm, rfl⟩ (sub .nil au)
 ·refine rC aM 3 rfl ?_
  refine oV (aA (bD rfl rfl) (by omega)) ?_
  refine rO aM 2 rfl ?_
  refine ae rfl ?_
  refine oV (aA (bD rfl rfl) (by omega)) ?_
  refine rO aM 8 rfl ?_
  refine oV (aU (bj rfl rfl) (by omega)) ?_
  refine rO aM 22 rfl ?_
  exact aj (aC rfl) ⟨congrArg (Value.int .i64) hs.symm, rfl⟩ (sub .nil au)
 ·refine rC aM 3 rfl ?_
  refine oV (aA (bD rfl rfl) (by omega)) ?_
  refine rO aM 2 rfl ?_
  refine ae rfl ?_
  refine oV (aA (bD rfl rfl) (by omega)) ?_
  refine rO aM 8 rfl ?_
  refine oV (aA (bj rfl rfl) (by omega)) ?_
  refine rO aM 2 rfl ?_
  refine ae rfl ?_
  refine oV (aU (bj rfl rfl) (by omega)) ?_
  refine rO aM 19 rfl ?_
  exact aj (aC rfl) ⟨congrArg (Value.int .i64) hs.symm, rfl⟩ (sub .nil au)
 ·refine rC aM 3 rfl ?_
  refine oV (aA (bD rfl rfl) (by omega)) ?_
  refine rO aM 2 rfl ?_
  refine ae rfl ?_
  refine oV (aA (bD rfl rfl) (by omega)) ?_
  refine rO aM 8 rfl ?_
  refine oV (aA (bj rfl rfl) (by omega)) ?_
  refine rO aM 2 rfl ?_
  refine ae rfl ?_
  refine oV (aA (bj rfl rfl) (by omega)) ?_
  refine rO aM 4 rfl ?_
  refine ae rfl ?_
  refine oV (fZ (r := 16384 / h) rfl rfl (by omega) (aa.sL (by omega))) ?_
  refine ae rfl ?_
  refine oV (aU (bj rfl rfl) (by omega)) ?_
  refine rO aM 13 rfl ?_
  exact aj (aC rfl) ⟨congrArg (Value.int .i64) hs.symm, rfl⟩ (sub .nil au)
 ·refine rC aM 3 rfl ?_
  refine oV (aA (bD rfl rfl) (by omega)) ?_
  refine rO aM 2 rfl ?_
  refine ae rfl ?_
  refine oV (aA (bD rfl rfl) (by omega)) ?_
  refine rO aM 8 rfl ?_
  refine oV (aA (bj rfl rfl) (by omega)) ?_
  refine rO aM 2 rfl ?_
  refine ae rfl ?_
  refine oV (aA (bj rfl rfl) (by omega)) ?_
  refine rO aM 4 rfl ?_
  refine ae rfl ?_
  refine oV (fZ (r := 16384 / h) rfl rfl (by omega) (aa.sL (by omega))) ?_
  refine ae rfl ?_
  refine oV (aA (bj rfl rfl) (by omega)) ?_
  refine rO aM 14 rfl ?_
  exact aj (aC rfl) ⟨congrArg (Value.int .i64) hs.symm, rfl⟩ (sub .nil au)
set_option maxHeartbeats 1000000 in
theorem qb (w h : Int) : aK Tryz.prog 60 [.int .i64 w, .int .i64 h] [] (aR fun v G => v = .int .i64 (aa.bS w h) ∧ G = []) := by
 refine ax [(0, _), (1, _)] Tryz.func60 rfl Tryz.ntmps60 rfl rfl ?_
 intro w0 F
 refine rT aM 7 rfl ?_
 rcases (aa.vl w h) with ⟨a0, hs⟩ | ⟨a0, a1, hs⟩ | ⟨a0, a1, a2, hs⟩ | ⟨a0, a1, a2, a3, hs⟩ | ⟨a0, a1, a2, a3, a4, hs⟩ | ⟨a0, a1, a2, a3, a4, hs⟩
 ·refine rC aM 3 rfl ?_
  refine oV (aU (bD rfl rfl) (by omega)) ?_
  refine rO aM 16 rfl ?_
  exact aj (aC rfl) ⟨congrArg (Value.int .i64) hs.symm, rfl⟩ (sub .nil au)
 ·refine rC aM 3 rfl ?_
  refine oV (aA (bD rfl rfl) (by omega)) ?_
  refine rO aM 2 rfl ?_
  refine ae rfl ?_
  refine oV (aU (bD rfl rfl) (by omega)) ?_
  refine rO aM 13 rfl ?_
  exact aj (aC rfl) ⟨congrArg (Value.int .i64) hs.symm, rfl⟩ (sub .nil au)
 ·refine rC aM 3 rfl ?_
  refine oV (aA (bD rfl rfl) (by omega)) ?_
  refine rO aM 2 rfl ?_
  refine ae rfl ?_
  refine oV (aA (bD rfl rfl) (by omega)) ?_
  refine rO aM 8 rfl ?_
  refine oV (aU (bj rfl rfl) (by omega)) ?_
  refine rO aM 22 rfl ?_
  exact aj (aC rfl) ⟨congrArg (Value.int .i64) hs.symm, rfl⟩ (sub .nil au)
 ·refine rC aM 3 rfl ?_
  refine oV (aA (bD rfl rfl) (by omega)) ?_
  refine rO aM 2 rfl ?_
  refine ae rfl ?_
  refine oV (aA (bD rfl rfl) (by omega)) ?_
  refine rO aM 8 rfl ?_
  refine oV (aA (bj rfl rfl) (by omega)) ?_
  refine rO aM 2 rfl ?_
  refine ae rfl ?_
  refine oV (aU (bj rfl rfl) (by omega)) ?_
  refine rO aM 19 rfl ?_
  exact aj (aC rfl) ⟨congrArg (Value.int .i64) hs.symm, rfl⟩ (sub .nil au)
 ·refine rC aM 3 rfl ?_
  refine oV (aA (bD rfl rfl) (by omega)) ?_
  refine rO aM 2 rfl ?_
  refine ae rfl ?_
  refine oV (aA (bD rfl rfl) (by omega)) ?_
  refine rO aM 8 rfl ?_
  refine oV (aA (bj rfl rfl) (by omega)) ?_
  refine rO aM 2 rfl ?_
  refine ae rfl ?_
  refine oV (aA (bj rfl rfl) (by omega)) ?_
  refine rO aM 4 rfl ?_
  refine ae rfl ?_
  refine oV (fZ (r := 16384 / h) rfl rfl (by omega) (aa.sL (by omega))) ?_
  refine ae rfl ?_
  refine oV (aU (bj rfl rfl) (by omega)) ?_
  refine rO aM 13 rfl ?_
  exact aj (aC rfl) ⟨congrArg (Value.int .i64) hs.symm, rfl⟩ (sub .nil au)
 ·refine rC aM 3 rfl ?_
  refine oV (aA (bD rfl rfl) (by omega)) ?_
  refine rO aM 2 rfl ?_
  refine ae rfl ?_
  refine oV (aA (bD rfl rfl) (by omega)) ?_
  refine rO aM 8 rfl ?_
  refine oV (aA (bj rfl rfl) (by omega)) ?_
  refine rO aM 2 rfl ?_
  refine ae rfl ?_
  refine oV (aA (bj rfl rfl) (by omega)) ?_
  refine rO aM 4 rfl ?_
  refine ae rfl ?_
  refine oV (fZ (r := 16384 / h) rfl rfl (by omega) (aa.sL (by omega))) ?_
  refine ae rfl ?_
  refine oV (aA (bj rfl rfl) (by omega)) ?_
  refine rO aM 14 rfl ?_
  exact aj (aC rfl) ⟨congrArg (Value.int .i64) hs.symm, rfl⟩ (sub .nil au)
set_option maxHeartbeats 1000000 in
theorem MP (w h : Int) : aK Tryz.prog 85 [.int .i64 w, .int .i64 h] [] (aR fun v G => (aa.bS w h ≠ 0 ∧ v = .tuple #[.agg #[.int .i64 0, .int .i64 0, .slice none 0 0], .int .i64 (aa.bS w h)] ∧ G = []) ∨ (aa.bS w h = 0 ∧ ∃ b, v = .tuple #[.agg #[.int .i64 w, .int .i64 h, .slice (some ⟨b, 0, none⟩) ((4 * w * h).toNat) ((4 * w * h).toNat)], .int .i64 0] ∧ G = [Row (aW 62 .u16) (some ⟨b, 0, none⟩) ((4 * w * h).toNat) ((4 * w * h).toNat) (List.replicate (4 * w * h).toNat (aW 62 .u16).d)])) := by
 refine ax [(0, _), (1, _)] Tryz.func85 rfl Tryz.ntmps85 rfl rfl ?_
 intro w0 F
 refine rT aM 2 rfl ?_
 refine cB V.k9 rfl ?_
 intro b4
 refine rO aM 8 rfl ?_
 refine ai (mS w h) V.wz  rfl .nil rfl ?_
 rintro _ _ ⟨rfl, rfl⟩
 refine rO aM 3 rfl ?_
 rcases (Classical.em (aa.bS w h = 0)) with hs | hs
 ·refine rC aM 3 rfl ?_
  refine oV (aA (bG rfl rfl) (by omega)) ?_
  refine rO aM 6 rfl ?_
  have h4 := aa.pF hs
  have h1 := aa.kC hs
  refine fQ aM 6 rfl (by omega) ?_
  refine oV (cN (v := .int .i64 ((4 * w * h).toNat : Int)) (jQ rfl rfl wI) (by congr 1; omega)) ?_
  refine nW ((4 * w * h).toNat) ((4 * w * h).toNat) (aW 62 .u16) rfl rfl V.hI V.Fh rfl rfl rfl rfl (by omega) (by omega) rfl rfl ?_
  intro oa
  refine oV (bV V.mB V.k9 rfl (cs := [.int .i64 w, .int .i64 h, .slice (some ⟨oa, 0, none⟩) ((4 * w * h).toNat) ((4 * w * h).toNat)]) rfl) ?_
  refine aQ (aD V.eX rfl rfl (us := [_, _, _]) rfl rfl (by exact jG) (by exact Nat.le_of_ble_eq_true rfl) rfl) ?_
  refine rO aM 4 rfl ?_
  exact aj (dY V.eX rfl bY rfl rfl) (.inr ⟨hs, _, rfl, rfl⟩) (sub (aw .nil) cG)
 ·refine rC aM 3 rfl ?_
  refine oV (aU (bG rfl rfl) (by omega)) ?_
  refine rO aM 5 rfl ?_
  refine oV (bV V.mB V.k9 rfl (cs := [.int .i64 0, .int .i64 0, .slice none 0 0]) rfl) ?_
  refine oV (aG rfl) ?_
  refine aQ (aD V.eX rfl rfl (us := [_, _, _]) rfl rfl (by exact cZ) (by exact Nat.le_of_ble_eq_true rfl) rfl) ?_
  refine rO aM 5 rfl ?_
  exact aj (dY V.eX rfl an rfl rfl) (.inl ⟨hs, rfl, rfl⟩) (sub .nil cG)
set_option maxHeartbeats 1000000 in
theorem Nk (w h : Int) : aK Tryz.prog 35 [.int .i64 w, .int .i64 h] [] (aR fun v G => (aa.bS w h ≠ 0 ∧ v = .tuple #[.agg #[.int .i64 0, .int .i64 0, .slice none 0 0], .int .i64 (aa.bS w h)] ∧ G = []) ∨ (aa.bS w h = 0 ∧ ∃ b, v = .tuple #[.agg #[.int .i64 w, .int .i64 h, .slice (some ⟨b, 0, none⟩) ((4 * w * h).toNat) ((4 * w * h).toNat)], .int .i64 0] ∧ G = [Row (aW 62 .u16) (some ⟨b, 0, none⟩) ((4 * w * h).toNat) ((4 * w * h).toNat) (List.replicate (4 * w * h).toNat (aW 62 .u16).d)])) := by
 refine ax [(0, _), (1, _)] Tryz.func35 rfl Tryz.ntmps35 rfl rfl ?_
 intro w0 F
 refine rT aM 2 rfl ?_
 refine cB V.k9 rfl ?_
 intro b4
 refine rO aM 7 rfl ?_
 refine ai (qb w h) V.AX  rfl .nil rfl ?_
 rintro _ _ ⟨rfl, rfl⟩
 refine rO aM 3 rfl ?_
 rcases (Classical.em (aa.bS w h = 0)) with hs | hs
 ·refine rC aM 4 rfl ?_
  refine oV (aA (bG rfl rfl) (by omega)) ?_
  refine rO aM 6 rfl ?_
  have h4 := aa.pF hs
  have h1 := aa.kC hs
  refine fQ aM 6 rfl (by omega) ?_
  refine oV (cN (v := .int .i64 ((4 * w * h).toNat : Int)) (jQ rfl rfl wI) (by congr 1; omega)) ?_
  refine nW ((4 * w * h).toNat) ((4 * w * h).toNat) (aW 62 .u16) rfl rfl V.hI V.Fh rfl rfl rfl rfl (by omega) (by omega) rfl rfl ?_
  intro oa
  refine oV (bV V.mB V.k9 rfl (cs := [.int .i64 w, .int .i64 h, .slice (some ⟨oa, 0, none⟩) ((4 * w * h).toNat) ((4 * w * h).toNat)]) rfl) ?_
  refine aQ (aD V.eX rfl rfl (us := [_, _, _]) rfl rfl (by exact jG) (by exact Nat.le_of_ble_eq_true rfl) rfl) ?_
  refine rO aM 4 rfl ?_
  exact aj (dY V.eX rfl bY rfl rfl) (.inr ⟨hs, _, rfl, rfl⟩) (sub (aw .nil) cG)
 ·refine rC aM 4 rfl ?_
  refine oV (aU (bG rfl rfl) (by omega)) ?_
  refine rO aM 5 rfl ?_
  refine oV (bV V.mB V.k9 rfl (cs := [.int .i64 0, .int .i64 0, .slice none 0 0]) rfl) ?_
  refine oV (aG rfl) ?_
  refine aQ (aD V.eX rfl rfl (us := [_, _, _]) rfl rfl (by exact cZ) (by exact Nat.le_of_ble_eq_true rfl) rfl) ?_
  refine rO aM 5 rfl ?_
  exact aj (dY V.eX rfl an rfl rfl) (.inl ⟨hs, rfl, rfl⟩) (sub .nil cG)
set_option maxHeartbeats 1000000 in
theorem MV (w h : Int) (q : Option Addr) (n c : Nat) (t : Bool) (ht : t = decide (aa.bS w h = 0 ∧ (n : Int) = 4 * w * h)) : aK Tryz.prog 67 [.agg #[.int .i64 w, .int .i64 h, .slice q n c]] [] (aR fun v G => v = .bool t ∧ G = []) := by
 refine ax [(0, _)] Tryz.func67 rfl Tryz.ntmps67 rfl rfl ?_
 intro w0 F
 refine rT aM 2 rfl ?_
 refine eU rfl (cs := [_, _, _]) rfl rfl ?_
 intro b1
 refine rO aM 3 rfl ?_
 rcases (Classical.em (aa.bS w h = 0)) with hs | hs
 ·refine rC aM 3 rfl ?_
  refine oV (af V.s3 rfl an rfl) ?_
  refine oV (aF V.nj rfl) ?_
  refine oV (af V.s3 rfl an rfl) ?_
  refine ai (mS w h) V.wz  rfl .nil rfl ?_
  rintro _ _ ⟨rfl, rfl⟩
  refine oV (aU (av rfl rfl) (by omega)) ?_
  refine rO aM 2 rfl ?_
  refine ae rfl ?_
  refine oV (af V.qp rfl an rfl) ?_
  refine rO aM 2 rfl ?_
  refine ae rfl ?_
  refine oV (af V.s3 rfl an rfl) ?_
  have h4 := aa.pF hs
  have h1 := aa.kC hs
  refine cV aM 2 rfl (by omega) ?_
  refine ae rfl ?_
  refine oV (af V.s3 rfl an rfl) ?_
  refine cV aM 7 rfl (by omega) ?_
  (rw [show decide ((n : Int) = 4 * w * h) = t from by rw [ht]; congr 1; simp [hs]]; exact aj (G := []) (aC rfl) ⟨rfl, rfl⟩ (sub .nil cG))
 ·refine rC aM 3 rfl ?_
  refine oV (af V.s3 rfl an rfl) ?_
  refine oV (aF V.nj rfl) ?_
  refine oV (af V.s3 rfl an rfl) ?_
  refine ai (mS w h) V.wz  rfl .nil rfl ?_
  rintro _ _ ⟨rfl, rfl⟩
  refine oV (aA (av rfl rfl) (by omega)) ?_
  refine rO aM 16 rfl ?_
  (obtain rfl : t = false := by rw [ht]; exact decide_eq_false (fun hh => hs hh.1)
   exact aj (aC rfl) ⟨rfl, rfl⟩ (sub .nil cG))
set_option maxHeartbeats 1000000 in
theorem mH (w h : Int) (q : Option Addr) (n c : Nat) (t : Bool) (ht : t = decide (aa.bS w h = 0 ∧ (n : Int) = 4 * w * h)) : aK Tryz.prog 21 [.agg #[.int .i64 w, .int .i64 h, .slice q n c]] [] (aR fun v G => v = .bool t ∧ G = []) := by
 refine ax [(0, _)] Tryz.func21 rfl Tryz.ntmps21 rfl rfl ?_
 intro w0 F
 refine rT aM 2 rfl ?_
 refine eU rfl (cs := [_, _, _]) rfl rfl ?_
 intro b1
 refine rO aM 3 rfl ?_
 rcases (Classical.em (aa.bS w h = 0)) with hs | hs
 ·refine rC aM 3 rfl ?_
  refine oV (af V.s3 rfl an rfl) ?_
  refine oV (aF V.nj rfl) ?_
  refine oV (af V.s3 rfl an rfl) ?_
  refine ai (qb w h) V.AX  rfl .nil rfl ?_
  rintro _ _ ⟨rfl, rfl⟩
  refine oV (aU (av rfl rfl) (by omega)) ?_
  refine rO aM 2 rfl ?_
  refine ae rfl ?_
  refine oV (af V.qp rfl an rfl) ?_
  refine rO aM 2 rfl ?_
  refine ae rfl ?_
  refine oV (af V.s3 rfl an rfl) ?_
  have h4 := aa.pF hs
  have h1 := aa.kC hs
  refine cV aM 2 rfl (by omega) ?_
  refine ae rfl ?_
  refine oV (af V.s3 rfl an rfl) ?_
  refine cV aM 7 rfl (by omega) ?_
  (rw [show decide ((n : Int) = 4 * w * h) = t from by rw [ht]; congr 1; simp [hs]]; exact aj (G := []) (aC rfl) ⟨rfl, rfl⟩ (sub .nil cG))
 ·refine rC aM 3 rfl ?_
  refine oV (af V.s3 rfl an rfl) ?_
  refine oV (aF V.nj rfl) ?_
  refine oV (af V.s3 rfl an rfl) ?_
  refine ai (qb w h) V.AX  rfl .nil rfl ?_
  rintro _ _ ⟨rfl, rfl⟩
  refine oV (aA (av rfl rfl) (by omega)) ?_
  refine rO aM 16 rfl ?_
  (obtain rfl : t = false := by rw [ht]; exact decide_eq_false (fun hh => hs hh.1)
   exact aj (aC rfl) ⟨rfl, rfl⟩ (sub .nil cG))
abbrev PK : Ec aa.Ps := ⟨145, 6, fun p => [.int .i64 p.x, .int .i64 p.y, .int .i64 p.dx, .int .i64 p.dy, .int .i64 p.w, .int .i64 p.h], ⟨0, 0, 0, 0, 0, 0⟩, fun _ => rfl, fun _ => rfl⟩
abbrev Si : Ec aa.Ps := ⟨67, 6, fun p => [.int .i64 p.x, .int .i64 p.y, .int .i64 p.dx, .int .i64 p.dy, .int .i64 p.w, .int .i64 p.h], ⟨0, 0, 0, 0, 0, 0⟩, fun _ => rfl, fun _ => rfl⟩
set_option maxHeartbeats 1000000 in
theorem wi (n : Int) (t : Bool) (ht : t = decide (0 ≤ n ∧ n ≤ 256)) : aK Tryz.prog 116 [.int .i64 n] [] (aR fun v G => v = .bool t ∧ G = []) := by
 refine ax [(0, _)] Tryz.func116 rfl Tryz.ntmps116 rfl rfl ?_
 intro w0 F
 refine rT aM 5 rfl ?_
 rcases (Classical.em (0 ≤ n)) with h0 | h0
 ·refine rC aM 3 rfl ?_
  refine oV (aU (fq rfl rfl) (by omega)) ?_
  refine rO aM 8 rfl ?_
  (rw [show decide (n ≤ 256) = t from by rw [ht]; congr 1; simp [h0]]; exact aj (G := []) (aC rfl) ⟨rfl, rfl⟩ (sub .nil au))
 ·refine rC aM 3 rfl ?_
  refine oV (aA (fq rfl rfl) (by omega)) ?_
  refine rO aM 8 rfl ?_
  (obtain rfl : t = false := by rw [ht]; exact decide_eq_false (fun hh => h0 hh.1)
   exact aj (aC rfl) ⟨rfl, rfl⟩ (sub .nil au))
set_option maxHeartbeats 1000000 in
theorem AL (frm step en : Int) (hs : step = 1 ∨ step = 2 ∨ step = 4 ∨ step = 8) (hf : 0 ≤ frm ∧ frm ≤ 8) (he : 0 ≤ en ∧ en ≤ 256) : aK Tryz.prog 144 [.int .i64 frm, .int .i64 step, .int .i64 en] [] (aR fun v G => v = .int .i64 (aa.many frm step en) ∧ G = []) := by
 refine ax [(0, _), (1, _), (2, _)] Tryz.func144 rfl Tryz.ntmps144 rfl rfl ?_
 intro w0 F
 refine rT aM 5 rfl ?_
 rcases (Classical.em (en ≤ frm)) with h0 | h0
 ·refine rC aM 5 rfl ?_
  refine oV (aU (fq rfl rfl) (by omega)) ?_
  refine rO aM 10 rfl ?_
  rw [← aa.Nv hs frm h0]
  exact aj (aC rfl) ⟨rfl, rfl⟩ (sub .nil au)
 ·refine rC aM 5 rfl ?_
  refine oV (aA (fq rfl rfl) (by omega)) ?_
  refine cV aM 14 rfl (by omega) ?_
  refine oV (fZ (r := (en - frm + step - 1) / step) rfl rfl (by omega) (jO (m := en - frm + step - 1) (n := step) (by omega) (by omega) (by omega))) ?_
  refine rO aM 4 rfl ?_
  rw [← aa.FZ h0]
  exact aj (aC rfl) ⟨rfl, rfl⟩ (sub .nil au)
set_option maxHeartbeats 1000000 in
theorem qH (x y dx dy w h : Int) (hx : 0 ≤ x ∧ x ≤ 8) (hy : 0 ≤ y ∧ y ≤ 8) (hdx : dx = 1 ∨ dx = 2 ∨ dx = 4 ∨ dx = 8) (hdy : dy = 1 ∨ dy = 2 ∨ dy = 4 ∨ dy = 8) (hw : 0 ≤ w ∧ w ≤ 256) (hh : 0 ≤ h ∧ h ≤ 256) : aK Tryz.prog 115 [.int .i64 x, .int .i64 y, .int .i64 dx, .int .i64 dy, .int .i64 w, .int .i64 h] [] (aR fun v G => v = .agg #[.int .i64 x, .int .i64 y, .int .i64 dx, .int .i64 dy, .int .i64 (aa.many x dx w), .int .i64 (aa.many y dy h)] ∧ G = []) := by
 refine ax [(0, _), (1, _), (2, _), (3, _), (4, _), (5, _)] Tryz.func115 rfl Tryz.ntmps115 rfl rfl ?_
 intro w0 F
 refine rT aM 2 rfl ?_
 refine cB V.z145 rfl ?_
 intro b12
 refine rO aM 11 rfl ?_
 refine ai (AL x dx w hdx hx hw) V.JI  rfl .nil rfl ?_
 rintro _ _ ⟨rfl, rfl⟩
 refine rO aM 3 rfl ?_
 refine ai (AL y dy h hdy hy hh) V.JI  rfl .nil rfl ?_
 rintro _ _ ⟨rfl, rfl⟩
 refine oV (bV V.NI V.z145 rfl (cs := [.int .i64 x, .int .i64 y, .int .i64 dx, .int .i64 dy, .int .i64 (aa.many x dx w), .int .i64 (aa.many y dy h)]) (by kernel_rfl)) ?_
 refine aQ (aD V.a145 rfl rfl (us := [_, _, _, _, _, _]) rfl rfl (by exact cZ) (by exact Nat.le_of_ble_eq_true rfl) rfl) ?_
 refine rO aM 3 rfl ?_
 exact aj (NL V.a145 rfl an rfl) ⟨rfl, rfl⟩ (sub .nil cG)
set_option maxHeartbeats 1000000 in
theorem HI (w h : Int) (hs : aa.bS w h = 0) : aK Tryz.prog 81 [.int .i64 w, .int .i64 h] [] (aR fun v G => ∃ p c, v = .slice p (aa.whole w h).length c ∧ G = [Row PK p (aa.whole w h).length c (aa.whole w h)]) := by
 refine ax [(0, _), (1, _)] Tryz.func81 rfl Tryz.ntmps81 rfl rfl ?_
 intro w0 F
 have hsd := aa.kC hs
 have hw : 0 ≤ w ∧ w ≤ 256 := by omega
 have hh : 0 ≤ h ∧ h ≤ 256 := by omega
 refine rT aM 10 rfl ?_
 refine ai (mS w h) V.wz  rfl .nil rfl ?_
 rintro _ _ ⟨rfl, rfl⟩
 rw [hs]
 refine oV (aA (bG rfl rfl) (by omega)) ?_
 refine rO aM 9 rfl ?_
 refine ai (qH 0 0 1 1 w h (by decide) (by decide) (by decide) (by decide) hw hh) V.qP  rfl .nil rfl ?_
 rintro _ _ ⟨rfl, rfl⟩
 rw [aa.many1 hsd.1, aa.many1 hsd.2.2.1]
 refine ef (PK) [⟨0, 0, 1, 1, w, h⟩] V.tq V.z145 rfl rfl rfl (by kernel_rfl) rfl rfl ?_
 intro b12
 refine rO aM 4 rfl ?_
 exact aj (aC rfl) ⟨_, _, rfl, rfl⟩ (sub (aw .nil) au)
set_option maxHeartbeats 1000000 in
theorem Ea (w h : Int) (hs : aa.bS w h = 0) : aK Tryz.prog 82 [.int .i64 w, .int .i64 h] [] (aR fun v G => ∃ p c, v = .slice p (aa.gq w h).length c ∧ G = [Row PK p (aa.gq w h).length c (aa.gq w h)]) := by
 refine ax [(0, _), (1, _)] Tryz.func82 rfl Tryz.ntmps82 rfl rfl ?_
 intro w0 F
 have hsd := aa.kC hs
 have hw : 0 ≤ w ∧ w ≤ 256 := by omega
 have hh : 0 ≤ h ∧ h ≤ 256 := by omega
 obtain ⟨Z, hZ⟩ : ∃ Z, Z = (aa.jc w h).flatMap PK.e := ⟨_, rfl⟩
 have hZl : Z.length = 42 := by rw [hZ]; unfold aa.jc; rfl
 have hZ1 : Z.all Value.oneCell' = true := by rw [hZ]; exact oO PK _
 refine rT aM 10 rfl ?_
 refine ai (mS w h) V.wz  rfl .nil rfl ?_
 rintro _ _ ⟨rfl, rfl⟩
 rw [hs]
 refine oV (aA (bG rfl rfl) (by omega)) ?_
 refine rO aM 9 rfl ?_
 refine ai (qH 0 0 8 8 w h (by decide) (by decide) (by decide) (by decide) hw hh) V.qP  rfl .nil rfl ?_
 rintro _ _ ⟨rfl, rfl⟩
 refine rO aM 2 rfl ?_
 refine ai (qH 4 0 8 8 w h (by decide) (by decide) (by decide) (by decide) hw hh) V.qP  rfl .nil rfl ?_
 rintro _ _ ⟨rfl, rfl⟩
 refine rO aM 2 rfl ?_
 refine ai (qH 0 4 4 8 w h (by decide) (by decide) (by decide) (by decide) hw hh) V.qP  rfl .nil rfl ?_
 rintro _ _ ⟨rfl, rfl⟩
 refine rO aM 2 rfl ?_
 refine ai (qH 2 0 4 4 w h (by decide) (by decide) (by decide) (by decide) hw hh) V.qP  rfl .nil rfl ?_
 rintro _ _ ⟨rfl, rfl⟩
 refine rO aM 2 rfl ?_
 refine ai (qH 0 2 2 4 w h (by decide) (by decide) (by decide) (by decide) hw hh) V.qP  rfl .nil rfl ?_
 rintro _ _ ⟨rfl, rfl⟩
 refine rO aM 2 rfl ?_
 refine ai (qH 1 0 2 2 w h (by decide) (by decide) (by decide) (by decide) hw hh) V.qP  rfl .nil rfl ?_
 rintro _ _ ⟨rfl, rfl⟩
 refine rO aM 2 rfl ?_
 refine ai (qH 0 1 1 2 w h (by decide) (by decide) (by decide) (by decide) hw hh) V.qP  rfl .nil rfl ?_
 rintro _ _ ⟨rfl, rfl⟩
 refine oV (kY V.F5 V.IC rfl (cs := Z) (by rw [hZ]; kernel_rfl)) ?_
 refine cB V.IC rfl ?_
 intro b5
 refine aQ (aD V.KD rfl rfl (us := Z) (cs' := Z) hZ1 hZl (by exact cZ) (by decide) (by rw [List.take_zero, List.nil_append, List.drop_eq_nil_of_le (by decide), List.append_nil])) ?_
 refine rO aM 10 rfl ?_
 refine oV (bX V.KD rfl an (vs := Z) hZl (by rw [List.drop_zero, ← hZl, List.take_length])) ?_
 refine rO aM 4 rfl ?_
 rw [show ((6 : Nat), Value.slice none 0 0) = (6, .slice none (aa.jF w h 0).length 0) from by rw [aa.Co]; rfl]
 refine hH (Row PK none (aa.jF w h 0).length 0 (aa.jF w h 0)) (by rw [aa.Co]; exact Row.nil _ _ _) ?_
 refine j0 (fun (i : Nat) (p6 : Option Addr) (c6 : Nat) => [(6, .slice p6 (aa.jF w h i).length c6), (35, .agg Z.toArray), (36, .int .i64 (i : Int))]) (fun (i : Nat) (p6 : Option Addr) (c6 : Nat) => Row PK p6 (aa.jF w h i).length c6 (aa.jF w h i) :: F) (fun (i : Nat) (p6 : Option Addr) (c6 : Nat) => i ≤ 7) (fun (i : Nat) (p6 : Option Addr) (c6 : Nat) => 7 - i) (i3 (0) (none) (0) ?_ (jm ln) (sub (aw .nil) cG)) ?_
 ·exact Nat.zero_le _
 intro i p6 c6
 rintro hi
 have hpl := aa.E9 w h i
 obtain ⟨x, hx⟩ : ∃ x, x = (PK.g (aa.jc w h) (i : Int)) := ⟨_, rfl⟩
 have hx2 : (aa.jc w h).getD i ⟨0, 0, 0, 0, 0, 0⟩ = x := hx.symm
 refine rL aM 6 rfl ?_
 refine aP rfl (fun h37 => ?_) (fun h37 => ?_)
 ·refine rC aM 6 rfl ?_
  refine oV (cN (v := .agg #[.int .i64 x.x, .int .i64 x.y, .int .i64 x.dx, .int .i64 x.dy, .int .i64 x.w, .int .i64 x.h]) (It PK (aa.jc w h) i V.F5 V.a145 rfl hZ rfl rfl (by omega) (by rw [aa.Ef]; omega) rfl) (by rw [← hx])) ?_
  refine cB V.z145 rfl ?_
  intro b8
  refine aQ (aD V.a145 rfl rfl (us := [_, _, _, _, _, _]) rfl rfl (by exact cZ) (by exact Nat.le_of_ble_eq_true rfl) rfl) ?_
  refine rO aM 2 rfl ?_
  rcases (aa.I4 x) with ⟨q1, q2⟩ | ⟨q1, q3, q2⟩ | ⟨q1, q3, q2⟩
  ·refine rC aM 3 rfl ?_
   refine oV (af V.s3 rfl an rfl) ?_
   refine oV (aA (bj rfl rfl) (by omega)) ?_
   refine cV aM 15 rfl (by omega) ?_
   (rw [aa.CS (i := i) (by omega) hx2 q2]; exact j3 (i + 1) _ _ ⟨by omega, by omega⟩ (jm ln) (sub (.cons aE .nil) cG))
  ·refine rC aM 3 rfl ?_
   refine oV (af V.s3 rfl an rfl) ?_
   refine oV (aU (bj rfl rfl) (by omega)) ?_
   refine rO aM 2 rfl ?_
   refine ae rfl ?_
   refine oV (af V.s3 rfl an rfl) ?_
   refine ae rfl ?_
   refine oV (aA (bj rfl rfl) (by omega)) ?_
   refine cV aM 11 rfl (by omega) ?_
   (rw [aa.CS (i := i) (by omega) hx2 q2]; exact j3 (i + 1) _ _ ⟨by omega, by omega⟩ (jm ln) (sub (.cons aE .nil) cG))
  ·refine rC aM 3 rfl ?_
   refine oV (af V.s3 rfl an rfl) ?_
   refine oV (aU (bj rfl rfl) (by omega)) ?_
   refine rO aM 2 rfl ?_
   refine ae rfl ?_
   refine oV (af V.s3 rfl an rfl) ?_
   refine ae rfl ?_
   refine oV (aU (bj rfl rfl) (by omega)) ?_
   refine rO aM 6 rfl ?_
   refine oV (bX V.a145 rfl an (vs := [_, _, _, _, _, _]) rfl rfl) ?_
   refine ef (PK) [x] V.tq V.z145 rfl rfl rfl (by kernel_rfl) rfl rfl ?_
   intro b49
   refine ek (c := (PK)) V.tq V.z145 rfl rfl rfl rfl bK (own an) (by omega) rfl ?_
   intro p50 c50
   refine cV aM 8 rfl (by omega) ?_
   (have hl2 : (aa.jF w h i).length + 1 = (aa.jF w h (i + 1)).length := (congrArg List.length (aa.Cn (i := i) (p := x) (by omega) hx2 q2)).symm ▸ (by simp)
    rw [aa.Cn (i := i) (p := x) (by omega) hx2 q2, hl2]
    exact j3 (i + 1) _ _ ⟨by omega, by omega⟩ (jm ln) (sub (aw .nil) fS))
 ·refine rC aM 6 rfl ?_
  obtain rfl : i = 7 := by omega
  rw [aa.IM]
  refine rC aM 6 rfl ?_
  exact aj (aC rfl) ⟨_, _, rfl, rfl⟩ (sub (aw .nil) au)
end Go.Proofs.YtmaiakpjgomnpaaGreat
namespace Go.Proofs.YtmaiakpjgomnpaaGreat
open Go.Sl
theorem V.ES : aJ Tryz.prog 116 = true := by kernel_rfl
theorem V.Ko : aJ Tryz.prog 117 = true := by kernel_rfl
theorem V.OM : aJ Tryz.prog 129 = true := by kernel_rfl
theorem V.oo : aJ Tryz.prog 19 = true := by kernel_rfl
theorem V.OC : aJ Tryz.prog 94 = true := by kernel_rfl
end Go.Proofs.YtmaiakpjgomnpaaGreat
namespace Go.Proofs.YtmaiakpjgomnpaaGreat
open Go.Sl 
theorem aZ : dC Tryz.prog ⟨[47, 64, 140], [(67, 0, 0), (67, 1, 1), (67, 2, 2), (67, 3, 3), (67, 4, 4), (67, 5, 5), (145, 4, 4), (145, 5, 5)]⟩ = true := by kernel_rfl
attribute [local irreducible] aa.bS aa.many aa.fh aa.gb aa.sO aa.pK aa.jc aa.jF aa.parts aa.deep aa.QW
set_option maxHeartbeats 1000000 in
theorem Fz (w bits : Int) (hw : 0 ≤ w ∧ w ≤ 256) (hb : 0 ≤ bits ∧ bits ≤ 64) : aK Tryz.prog 117 [.int .i64 w, .int .i64 bits] [] (aR fun v G => v = .int .i64 (aa.fh w bits) ∧ G = []) := by
 refine ax [(0, _), (1, _)] Tryz.func117 rfl Tryz.ntmps117 rfl rfl ?_
 intro w0 F
 have hr := aa.nS hw hb
 have he : (w * bits + 7) / 8 = (aa.fh w bits) := by unfold aa.fh; rfl
 refine rT aZ 9 rfl ?_
 refine ai (wi w true (decide_eq_true hw).symm) V.ES  rfl .nil rfl ?_
 rintro _ _ ⟨rfl, rfl⟩
 refine rO aZ 3 rfl ?_
 refine ae rfl ?_
 refine oV (aA (bD rfl rfl) (by omega)) ?_
 refine rO aZ 3 rfl ?_
 refine ae rfl ?_
 refine oV (aA (bj rfl rfl) (by omega)) ?_
 refine cV aZ 12 rfl (by omega) ?_
 refine oV (fZ rfl rfl (by omega) (jO (by omega) (by omega) (by omega))) ?_
 refine rO aZ 4 rfl ?_
 exact aj (aC rfl) ⟨congrArg (Value.int .i64) he, rfl⟩ (sub .nil au)
set_option maxHeartbeats 1000000 in
theorem Gw (p : Option Addr) (c : Nat) (l : List aa.Ps) (bits : Int) (R : ab) (hR : ∀ w0 h, R w0 h → aS PK p l.length l w0 h) (hl : l.length ≤ 7) (hok : ∀ x ∈ l, aa.j6 x) (hb : 0 ≤ bits ∧ bits ≤ 64) : aK Tryz.prog 83 [.slice p l.length c, .int .i64 bits] [R] (aR fun v G => v = .int .i64 (aa.gb l bits) ∧ G = [R]) := by
 refine ax [(0, _), (1, _)] Tryz.func83 rfl Tryz.ntmps83 rfl rfl ?_
 intro w0 F
 refine rT aZ 10 rfl ?_
 refine oV (aA (bj rfl rfl) (by omega)) ?_
 refine rO aZ 2 rfl ?_
 refine ae rfl ?_
 refine oV (aA (bD rfl rfl) (by omega)) ?_
 refine rO aZ 3 rfl ?_
 refine ae rfl ?_
 refine oV (aA (bj rfl rfl) (by omega)) ?_
 refine rO aZ 20 rfl ?_
 rw [show ((5 : Nat), Value.int .i64 0) = (5, .int .i64 (aa.gb (l.take 0) bits)) from by rw [List.take_zero]; unfold aa.gb; rfl]
 refine dV (fun (i : Nat) => [(1, .int .i64 bits), (5, .int .i64 (aa.gb (l.take i) bits)), (19, .slice p l.length c), (20, .int .i64 (l.length : Int)), (21, .int .i64 (i : Int))]) (fun (i : Nat) => R :: F) (fun (i : Nat) => i ≤ l.length) (fun (i : Nat) => l.length - i) (i1 (0) ?_ (dk ln) (sub (aw .nil) au)) ?_
 ·exact Nat.zero_le _
 intro i
 rintro hi
 obtain ⟨x, hx⟩ : ∃ x, x = (PK.g l (i : Int)) := ⟨_, rfl⟩
 refine rL aZ 6 rfl ?_
 refine aP rfl (fun h22 => ?_) (fun h22 => ?_)
 ·refine rC aZ 5 rfl ?_
  have hpo : aa.j6 x := hx ▸ aa.Ih hok (i := i) (by omega)
  have hpb := aa.AD hpo hb
  have hbi := aa.u0 (l := l.take i) hb (fun q hq => hok q (List.mem_of_mem_take hq))
  have hli : (l.take i).length ≤ i := by rw [List.length_take]; omega
  obtain ⟨_, _, _, _, _, _, hw0, hw1, hh0, hh1⟩ := hpo
  have hrn := aa.nS (w := x.w) ⟨hw0, hw1⟩ hb
  refine bo ?_
  refine oV (xI V.tq (by exact aY hR an)) ?_
  refine oV (cN (v := .agg #[.int .i64 x.x, .int .i64 x.y, .int .i64 x.dx, .int .i64 x.dy, .int .i64 x.w, .int .i64 x.h]) (ow (c := PK) V.a145 rfl (by exact aY hR an) (by omega) (by omega) rfl) (by rw [hx])) ?_
  refine cB V.z145 rfl ?_
  intro b7
  refine aQ (aD V.a145 rfl rfl (us := [_, _, _, _, _, _]) rfl rfl (by exact cZ) (by exact Nat.le_of_ble_eq_true rfl) rfl) ?_
  refine rO aZ 6 rfl ?_
  refine oV (af V.s3 rfl an rfl) ?_
  refine ai (wi x.w true (decide_eq_true ⟨hw0, hw1⟩).symm) V.ES  rfl .nil rfl ?_
  rintro _ _ ⟨rfl, rfl⟩
  refine rO aZ 3 rfl ?_
  refine ae rfl ?_
  refine oV (af V.s3 rfl an rfl) ?_
  refine ae rfl ?_
  refine ai (wi x.h true (decide_eq_true ⟨hh0, hh1⟩).symm) V.ES  rfl .nil rfl ?_
  rintro _ _ ⟨rfl, rfl⟩
  refine rO aZ 7 rfl ?_
  rcases (Classical.em (0 < x.w)) with hq | hq
  ·refine rC aZ 3 rfl ?_
   refine oV (af V.s3 rfl an rfl) ?_
   refine oV (aU (bj rfl rfl) (by omega)) ?_
   refine rO aZ 3 rfl ?_
   refine wN [pz 0 [] [5], pz 0 [] [7], pz 2 [1] [], pz 0 [] [7], pz 8 [3] [], pz 0 [] [1], pz 56 [4, 5] [], pz 120 [6] [], pz 254 [2, 7] [], pz 511 [0, 8] [], pz 1023 [9] []] [⟨fun y => ao b7 145 [.int .i64 x.x, .int .i64 x.y, .int .i64 x.dx, .int .i64 x.dy, .int .i64 x.w, .int .i64 x.h], none, none, [2, 4]⟩, ⟨fun y => R, none, none, []⟩] F V.mixed ?_
   refine nM ?_
   refine nG V.KM ?_
   refine nR (fun y FF hA => af V.s3 rfl an rfl) ?_
   refine nG V.Kl ?_
   refine nR (fun y FF hA => af V.s3 rfl an rfl) ?_
   refine nM ?_
   refine nE (fun y FF hA => bM (Post := []) (Fz x.w bits ⟨hw0, hw1⟩ hb) V.Ko rfl .nil (fun v G h => by rcases h with ⟨rfl, rfl⟩; exact ⟨rfl, .refl _⟩)) ?_
   refine nV (fun y hA L => dz rfl rfl wI) ?_
   refine nV (fun y hA L => jQ (r := (x.h * (1 + aa.fh x.w bits))) rfl rfl wI) ?_
   refine nV (fun y hA L => dz rfl rfl wI) ?_
   refine nA ?_
   refine aX ?_
   intro y hA
   clear hA
   show lI _ _ _ _ (ao b7 145 [.int .i64 x.x, .int .i64 x.y, .int .i64 x.dx, .int .i64 x.dy, .int .i64 x.w, .int .i64 x.h] :: R :: F)
   refine kA ?_
   refine bu ?_
   refine bo ?_
   refine oV (dz rfl rfl wI) ?_
   refine oV (aG rfl) ?_
   refine cH ?_
   have ht := aa.rI (l := l) (bits := bits) (i := i) (by omega)
   rw [show l.getD i ⟨0, 0, 0, 0, 0, 0⟩ = x from hx.symm] at ht
   (rw [aa.NZ (by assumption)] at ht; rw [← ht]; exact j1 (i + 1) ⟨by omega, by omega⟩ (dk ln) (sub (.cons aE .nil) cG))
  ·refine rC aZ 3 rfl ?_
   refine oV (af V.s3 rfl an rfl) ?_
   refine oV (aA (bj rfl rfl) (by omega)) ?_
   refine cV aZ 10 rfl (by omega) ?_
   have ht := aa.rI (l := l) (bits := bits) (i := i) (by omega)
   rw [show l.getD i ⟨0, 0, 0, 0, 0, 0⟩ = x from hx.symm] at ht
   (rw [aa.MG (by assumption), Int.add_zero] at ht; rw [← ht]; exact j1 (i + 1) ⟨by omega, by omega⟩ (dk ln) (sub (.cons aE .nil) cG))
 ·refine rC aZ 6 rfl ?_
  obtain rfl : i = l.length := by omega
  rw [List.take_length]
  refine rC aZ 6 rfl ?_
  exact aj (aC rfl) ⟨rfl, rfl⟩ (sub (aw .nil) au)
set_option maxHeartbeats 1000000 in
theorem Gy (p : Option Addr) (c : Nat) (l : List Int) (R : ab) (hR : ∀ w0 h, R w0 h → aS (aW 3 .i64) p l.length l w0 h) (hl : l.length < 500000000) (x : Int) : aK Tryz.prog 129 [.slice p l.length c, .int .i64 x] [R] (aR fun v G => ∃ r : Int, v = .int .i64 r ∧ (0 ≤ r ↔ x ∈ l) ∧ G = [R]) := by
 refine ax [(0, _), (1, _)] Tryz.func129 rfl Tryz.ntmps129 rfl rfl ?_
 intro w0 F
 refine rT aZ 14 rfl ?_
 refine dV (fun (i : Nat) => [(0, .slice p l.length c), (1, .int .i64 x), (7, .int .i64 (l.length : Int)), (8, .int .i64 (i : Int))]) (fun (i : Nat) => R :: F) (fun (i : Nat) => i ≤ l.length ∧ ∀ j, j < i → x ≠ l.getD j 0) (fun (i : Nat) => l.length - i) (i1 (0) ?_ (eN ln) (sub (aw .nil) au)) ?_
 ·exact ⟨Nat.zero_le _, fun j hj => by omega⟩
 intro i
 rintro ⟨hi, hall⟩
 refine rL aZ 6 rfl ?_
 refine aP rfl (fun h9 => ?_) (fun h9 => ?_)
 ·refine rC aZ 10 rfl ?_
  rcases (Classical.em (x = ((aW 3 .i64).g l (i : Int)))) with hnx | hnx
  ·refine rC aZ 5 rfl ?_
   refine oV (xI V.cU (by exact aY hR an)) ?_
   refine oV (xL V.s3 (by exact aY hR an)) ?_
   refine oV (aU (av rfl rfl) hnx) ?_
   refine rO aZ 15 rfl ?_
   exact aj (aC rfl) ⟨_, rfl, ⟨fun _ => aa.ID (i := i) (by omega) hnx, fun _ => by omega⟩, rfl⟩ (sub (aw .nil) au)
  ·refine rC aZ 5 rfl ?_
   refine oV (xI V.cU (by exact aY hR an)) ?_
   refine oV (xL V.s3 (by exact aY hR an)) ?_
   refine oV (aA (av rfl rfl) hnx) ?_
   refine cV aZ 10 rfl (by omega) ?_
   refine j1 (i + 1) ?_ (eN ln) (sub (aw .nil) au)
   exact ⟨⟨by omega, fun j hj => (Nat.lt_succ_iff_lt_or_eq.1 hj).elim (hall j) (fun e => e ▸ hnx)⟩, by omega⟩
 ·refine rC aZ 11 rfl ?_
  obtain rfl : i = l.length := by omega
  exact aj (aC rfl) ⟨_, rfl, ⟨fun hh => absurd hh (by decide), fun hh => absurd hh (aa.HH hall)⟩, rfl⟩ (sub (aw .nil) au)
set_option maxHeartbeats 1000000 in
theorem tG (p : Option Addr) (c : Nat) (l : List Int) (R : ab) (hR : ∀ w0 h, R w0 h → aS (aW 3 .i64) p l.length l w0 h) (hl : l.length < 500000000) (x : Int) (t : Bool) (ht : t = decide (x ∈ l)) : aK Tryz.prog 94 [.slice p l.length c, .int .i64 x] [R] (aR fun v G => v = .bool t ∧ G = [R]) := by
 refine ax [(0, _), (1, _)] Tryz.func94 rfl Tryz.ntmps94 rfl rfl ?_
 intro w0 F
 refine rT aZ 9 rfl ?_
 refine ai (Gy p c l R hR hl x) V.OM  rfl (aw .nil) rfl ?_
 rintro _ _ ⟨r7, rfl, hr7, rfl⟩
 refine rO aZ 5 rfl ?_
 rw [aa.Hw ht hr7]
 exact aj (aC rfl) ⟨rfl, rfl⟩ (sub (aw .nil) au)
set_option maxHeartbeats 1000000 in
theorem iu (x : Int) : aK Tryz.prog 19 [.int .i64 x] [] (aR fun v G => v = .int .i64 (aa.parts x) ∧ G = []) := by
 refine ax [(0, _)] Tryz.func19 rfl Tryz.ntmps19 rfl rfl ?_
 intro w0 F
 refine rT aZ 5 rfl ?_
 rcases (aa.pM x) with ⟨a0, hs⟩ | ⟨a0, a1, hs⟩ | ⟨a0, a1, a2, hs⟩ | ⟨a0, a1, a2, a3, hs⟩ | ⟨a0, a1, a2, a3, a4, hs⟩ | ⟨a0, a1, a2, a3, a4, hs⟩
 ·refine rC aZ 10 rfl ?_
  refine oV (aU (av rfl rfl) (by omega)) ?_
  refine rO aZ 15 rfl ?_
  exact aj (aC rfl) ⟨congrArg (Value.int .i64) hs.symm, rfl⟩ (sub .nil au)
 ·refine rC aZ 10 rfl ?_
  refine oV (aA (av rfl rfl) (by omega)) ?_
  refine rO aZ 5 rfl ?_
  refine oV (aU (av rfl rfl) (by omega)) ?_
  refine rO aZ 12 rfl ?_
  exact aj (aC rfl) ⟨congrArg (Value.int .i64) hs.symm, rfl⟩ (sub .nil au)
 ·refine rC aZ 10 rfl ?_
  refine oV (aA (av rfl rfl) (by omega)) ?_
  refine rO aZ 5 rfl ?_
  refine oV (aA (av rfl rfl) (by omega)) ?_
  refine rO aZ 6 rfl ?_
  refine oV (aU (av rfl rfl) (by omega)) ?_
  refine rO aZ 12 rfl ?_
  exact aj (aC rfl) ⟨congrArg (Value.int .i64) hs.symm, rfl⟩ (sub .nil au)
 ·refine rC aZ 10 rfl ?_
  refine oV (aA (av rfl rfl) (by omega)) ?_
  refine rO aZ 5 rfl ?_
  refine oV (aA (av rfl rfl) (by omega)) ?_
  refine rO aZ 6 rfl ?_
  refine oV (aA (av rfl rfl) (by omega)) ?_
  refine rO aZ 6 rfl ?_
  refine oV (aU (av rfl rfl) (by omega)) ?_
  refine rO aZ 12 rfl ?_
  exact aj (aC rfl) ⟨congrArg (Value.int .i64) hs.symm, rfl⟩ (sub .nil au)
 ·refine rC aZ 10 rfl ?_
  refine oV (aA (av rfl rfl) (by omega)) ?_
  refine rO aZ 5 rfl ?_
  refine oV (aA (av rfl rfl) (by omega)) ?_
  refine rO aZ 6 rfl ?_
  refine oV (aA (av rfl rfl) (by omega)) ?_
  refine rO aZ 6 rfl ?_
  refine oV (aA (av rfl rfl) (by omega)) ?_
  refine rO aZ 6 rfl ?_
  refine oV (aU (av rfl rfl) (by omega)) ?_
  refine rO aZ 12 rfl ?_
  exact aj (aC rfl) ⟨congrArg (Value.int .i64) hs.symm, rfl⟩ (sub .nil au)
 ·refine rC aZ 10 rfl ?_
  refine oV (aA (av rfl rfl) (by omega)) ?_
  refine rO aZ 5 rfl ?_
  refine oV (aA (av rfl rfl) (by omega)) ?_
  refine rO aZ 6 rfl ?_
  refine oV (aA (av rfl rfl) (by omega)) ?_
  refine rO aZ 6 rfl ?_
  refine oV (aA (av rfl rfl) (by omega)) ?_
  refine rO aZ 6 rfl ?_
  refine oV (aA (av rfl rfl) (by omega)) ?_
  refine rO aZ 13 rfl ?_
  exact aj (aC rfl) ⟨congrArg (Value.int .i64) hs.symm, rfl⟩ (sub .nil au)
set_option maxHeartbeats 1000000 in
theorem kB (x : Int) : aK Tryz.prog 20 [.int .i64 x] [] (aR fun v G => v = .int .i64 (aa.parts x) ∧ G = []) := by
 refine ax [(0, _)] Tryz.func20 rfl Tryz.ntmps20 rfl rfl ?_
 intro w0 F
 refine rT aZ 5 rfl ?_
 rcases (aa.pM x) with ⟨a0, hs⟩ | ⟨a0, a1, hs⟩ | ⟨a0, a1, a2, hs⟩ | ⟨a0, a1, a2, a3, hs⟩ | ⟨a0, a1, a2, a3, a4, hs⟩ | ⟨a0, a1, a2, a3, a4, hs⟩
 ·refine rC aZ 10 rfl ?_
  refine oV (aU (av rfl rfl) (by omega)) ?_
  refine rO aZ 15 rfl ?_
  exact aj (aC rfl) ⟨congrArg (Value.int .i64) hs.symm, rfl⟩ (sub .nil au)
 ·refine rC aZ 10 rfl ?_
  refine oV (aA (av rfl rfl) (by omega)) ?_
  refine rO aZ 5 rfl ?_
  refine oV (aU (av rfl rfl) (by omega)) ?_
  refine rO aZ 12 rfl ?_
  exact aj (aC rfl) ⟨congrArg (Value.int .i64) hs.symm, rfl⟩ (sub .nil au)
 ·refine rC aZ 10 rfl ?_
  refine oV (aA (av rfl rfl) (by omega)) ?_
  refine rO aZ 5 rfl ?_
  refine oV (aA (av rfl rfl) (by omega)) ?_
  refine rO aZ 6 rfl ?_
  refine oV (aU (av rfl rfl) (by omega)) ?_
  refine rO aZ 12 rfl ?_
  exact aj (aC rfl) ⟨congrArg (Value.int .i64) hs.symm, rfl⟩ (sub .nil au)
 ·refine rC aZ 10 rfl ?_
  refine oV (aA (av rfl rfl) (by omega)) ?_
  refine rO aZ 5 rfl ?_
  refine oV (aA (av rfl rfl) (by omega)) ?_
  refine rO aZ 6 rfl ?_
  refine oV (aA (av rfl rfl) (by omega)) ?_
  refine rO aZ 6 rfl ?_
  refine oV (aU (av rfl rfl) (by omega)) ?_
  refine rO aZ 12 rfl ?_
  exact aj (aC rfl) ⟨congrArg (Value.int .i64) hs.symm, rfl⟩ (sub .nil au)
 ·refine rC aZ 10 rfl ?_
  refine oV (aA (av rfl rfl) (by omega)) ?_
  refine rO aZ 5 rfl ?_
  refine oV (aA (av rfl rfl) (by omega)) ?_
  refine rO aZ 6 rfl ?_
  refine oV (aA (av rfl rfl) (by omega)) ?_
  refine rO aZ 6 rfl ?_
  refine oV (aA (av rfl rfl) (by omega)) ?_
  refine rO aZ 6 rfl ?_
  refine oV (aU (av rfl rfl) (by omega)) ?_
  refine rO aZ 12 rfl ?_
  exact aj (aC rfl) ⟨congrArg (Value.int .i64) hs.symm, rfl⟩ (sub .nil au)
 ·refine rC aZ 10 rfl ?_
  refine oV (aA (av rfl rfl) (by omega)) ?_
  refine rO aZ 5 rfl ?_
  refine oV (aA (av rfl rfl) (by omega)) ?_
  refine rO aZ 6 rfl ?_
  refine oV (aA (av rfl rfl) (by omega)) ?_
  refine rO aZ 6 rfl ?_
  refine oV (aA (av rfl rfl) (by omega)) ?_
  refine rO aZ 6 rfl ?_
  refine oV (aA (av rfl rfl) (by omega)) ?_
  refine rO aZ 13 rfl ?_
  exact aj (aC rfl) ⟨congrArg (Value.int .i64) hs.symm, rfl⟩ (sub .nil au)
set_option maxHeartbeats 1000000 in
theorem mW (x d : Int) (t : Bool) (ht : t = decide (aa.deep x d)) : aK Tryz.prog 57 [.int .i64 x, .int .i64 d] [] (aR fun v G => v = .bool t ∧ G = []) := by
 refine ax [(0, _), (1, _)] Tryz.func57 rfl Tryz.ntmps57 rfl rfl ?_
 intro w0 F
 refine rT aZ 5 rfl ?_
 rcases (aa.Nx x d) with ⟨a0, hs⟩ | ⟨a0, a1, hs⟩ | ⟨a0, a1, a2, hs⟩ | ⟨a0, a1, a2, a3, hs⟩ | ⟨a0, a1, a2, a3, hs⟩
 ·refine rC aZ 9 rfl ?_
  refine oV (aU (av rfl rfl) (by omega)) ?_
  refine rO aZ 6 rfl ?_
  refine ef (I3) [1, 2, 4, 8, 16] V.cU V.z3 rfl rfl rfl rfl rfl rfl ?_
  intro b8
  refine oV (aG rfl) ?_
  refine ai (tG (some ⟨b8, 0, none⟩) 5 [1, 2, 4, 8, 16] (Row (aW 3 .i64) (some ⟨b8, 0, none⟩) 5 5 [1, 2, 4, 8, 16]) (fun _ _ hh => hh.rd) (by decide) d t (ht.trans hs)) V.OC  rfl (aw .nil) rfl ?_
  rintro _ _ ⟨rfl, rfl⟩
  refine rO aZ 6 rfl ?_
  (rw [ht.trans hs]; exact aj (G := []) (aC rfl) ⟨rfl, rfl⟩ (sub .nil cG))
 ·refine rC aZ 9 rfl ?_
  refine oV (aA (av rfl rfl) (by omega)) ?_
  refine rO aZ 6 rfl ?_
  refine oV (aU (av rfl rfl) (by omega)) ?_
  refine rO aZ 6 rfl ?_
  refine ef (I3) [1, 2, 4, 8] V.cU V.z3 rfl rfl rfl rfl rfl rfl ?_
  intro Gk
  refine oV (aG rfl) ?_
  refine ai (tG (some ⟨Gk, 0, none⟩) 4 [1, 2, 4, 8] (Row (aW 3 .i64) (some ⟨Gk, 0, none⟩) 4 4 [1, 2, 4, 8]) (fun _ _ hh => hh.rd) (by decide) d t (ht.trans hs)) V.OC  rfl (aw .nil) rfl ?_
  rintro _ _ ⟨rfl, rfl⟩
  refine rO aZ 6 rfl ?_
  (rw [ht.trans hs]; exact aj (G := []) (aC rfl) ⟨rfl, rfl⟩ (sub .nil cG))
 ·refine rC aZ 9 rfl ?_
  refine oV (aA (av rfl rfl) (by omega)) ?_
  refine rO aZ 6 rfl ?_
  refine oV (aA (av rfl rfl) (by omega)) ?_
  refine rO aZ 10 rfl ?_
  refine ai (iu x) V.oo  rfl .nil rfl ?_
  rintro _ _ ⟨rfl, rfl⟩
  refine oV (aA (bj rfl rfl) (by omega)) ?_
  refine rO aZ 12 rfl ?_
  (rw [← ht.trans hs]; exact aj (G := []) (aC rfl) ⟨rfl, rfl⟩ (sub .nil au))
 ·refine rC aZ 9 rfl ?_
  refine oV (aA (av rfl rfl) (by omega)) ?_
  refine rO aZ 6 rfl ?_
  refine oV (aA (av rfl rfl) (by omega)) ?_
  refine rO aZ 10 rfl ?_
  refine ai (iu x) V.oo  rfl .nil rfl ?_
  rintro _ _ ⟨rfl, rfl⟩
  refine oV (aU (bj rfl rfl) (by omega)) ?_
  refine rO aZ 2 rfl ?_
  refine ae rfl ?_
  refine oV (aU (av rfl rfl) (by omega)) ?_
  refine rO aZ 9 rfl ?_
  (rw [← ht.trans hs]; exact aj (G := []) (aC rfl) ⟨rfl, rfl⟩ (sub .nil au))
 ·refine rC aZ 9 rfl ?_
  refine oV (aA (av rfl rfl) (by omega)) ?_
  refine rO aZ 6 rfl ?_
  refine oV (aA (av rfl rfl) (by omega)) ?_
  refine rO aZ 10 rfl ?_
  refine ai (iu x) V.oo  rfl .nil rfl ?_
  rintro _ _ ⟨rfl, rfl⟩
  refine oV (aU (bj rfl rfl) (by omega)) ?_
  refine rO aZ 2 rfl ?_
  refine ae rfl ?_
  refine oV (aA (av rfl rfl) (by omega)) ?_
  refine rO aZ 9 rfl ?_
  (rw [← ht.trans hs]; exact aj (G := []) (aC rfl) ⟨rfl, rfl⟩ (sub .nil au))
end Go.Proofs.YtmaiakpjgomnpaaGreat
namespace Go.Proofs.YtmaiakpjgomnpaaGreat
open Go.Sl
theorem V.Ki : aJ Tryz.prog 140 = true := by kernel_rfl
theorem V.PF : aJ Tryz.prog 141 = true := by kernel_rfl
theorem V.ic : aJ Tryz.prog 163 = true := by kernel_rfl
theorem V.D6 : aJ Tryz.prog 164 = true := by kernel_rfl
theorem V.Pl : aJ Tryz.prog 165 = true := by kernel_rfl
end Go.Proofs.YtmaiakpjgomnpaaGreat
namespace Go.Proofs.YtmaiakpjgomnpaaGreat
open Go.Sl
theorem V.uB : jS Tryz.prog 68 = some (4, 62, 1) := by kernel_rfl
theorem V.O5 : aJ Tryz.prog 161 = true := by kernel_rfl
theorem V.Jk : aJ Tryz.prog 172 = true := by kernel_rfl
theorem V.Qk : aJ Tryz.prog 185 = true := by kernel_rfl
theorem V.m0 : aJ Tryz.prog 21 = true := by kernel_rfl
theorem V.Fi : aJ Tryz.prog 67 = true := by kernel_rfl
theorem V.Qs : aJ Tryz.prog 93 = true := by kernel_rfl
theorem V.Qp : bW Tryz.prog 158 0 = some 0 := by kernel_rfl
theorem V.MZ : bW Tryz.prog 38 2 = some 2 := by kernel_rfl
theorem V.MK : fC Tryz.prog 158 = some [(0, 4)] := by kernel_rfl
theorem V.OZ : dH Tryz.prog 158 = some ([.slice none 0 0, .slice none 0 0, .int .i64 0, .int .i64 0]) := by kernel_rfl
end Go.Proofs.YtmaiakpjgomnpaaGreat
namespace Go.Proofs.YtmaiakpjgomnpaaGreat
open Go.Sl 
theorem bT : dC Tryz.prog ⟨[22], [(26, 0, 0), (26, 1, 1), (38, 2, 2), (151, 0, 0), (151, 1, 1), (151, 2, 2), (156, 0, 0), (156, 2, 2), (158, 0, 0)]⟩ = true := by kernel_rfl
attribute [local irreducible] ak.az aa.bS aa.up aa.c4 aa.ij
def HW (b : Nat) (B : List Int) (at_ : Nat) (out : List Int) (free : Int) : ab := fun w0 h => ∃ i : Lv, True ∧ dq w0 [ao b 158 [.slice i.p1 B.length i.c1, .slice i.p2 out.length i.c2, .int .i64 (at_ : Int), .int .i64 free], Row U5 i.p1 B.length i.c1 B, Row U5 i.p2 out.length i.c2 out] h
theorem su {b at_ : Nat} {p1 p2 : Option Addr} {c1 c2 : Nat} {B out : List Int} {free : Int} {w0 : World} {h : Hp}
  (hh : dq w0 [ao b 158 [.slice p1 B.length c1, .slice p2 out.length c2, .int .i64 (at_ : Int), .int .i64 free], Row U5 p1 B.length c1 B, Row U5 p2 out.length c2 out] h) : HW b B at_ out free w0 h := ⟨⟨p1, c1, p2, c2⟩, trivial, hh⟩
theorem GD (b : Nat) (B : List Int) (at_ : Nat) (out : List Int) (free : Int) (hl : B.length < 500000000) (ha : at_ ≤ 8 * B.length) : aK Tryz.prog 128 [.pointer (some ⟨b, 0, none⟩)] [HW b B at_ out free] (aR fun v G => v = .int .i64 (8 * (B.length : Int) - (at_ : Int)) ∧ G = [HW b B at_ out free]) := by
 refine ax [(0, _)] Tryz.func128 rfl Tryz.ntmps128 rfl rfl ?_
 intro w0 F
 refine gJ (fun h hh => hh) ?_
 rintro ⟨p1, c1, p2, c2⟩ _
 dsimp only
 refine rT bT 6 rfl ?_
 refine oB V.mixed (by kernel_rfl) ?_
 refine rR bT 3 rfl ?_
 refine oR (af V.eA rfl an rfl) ?_
 refine I8 bT 5 rfl (by omega) ?_
 refine oR (af V.s3 rfl an rfl) ?_
 refine I8 bT 2 rfl (by omega) ?_
 refine Rg.cH ?_
 refine rN bT 2 rfl ?_
 exact aj (aC rfl) ⟨rfl, rfl⟩ (bd (im .nil) au (fun w0 h hh => su hh))
theorem I9 (b : Nat) (B : List Int) (at_ : Nat) (out : List Int) (free : Int) (n : Int) (hl : B.length < 500000000) (ha : at_ ≤ 8 * B.length) (hn : 0 ≤ n ∧ n ≤ 24 ∧ n ≤ 8 * (B.length : Int) - at_) : aK Tryz.prog 92 [.pointer (some ⟨b, 0, none⟩), .int .i64 n] [HW b B at_ out free] (aR fun v G => v = .tuple #[] ∧ G = [HW b B at_ out free]) := by
 refine ax [(0, _), (1, _)] Tryz.func92 rfl Tryz.ntmps92 rfl rfl ?_
 intro w0 F
 refine rT bT 3 rfl ?_
 refine oV (aA (bD rfl rfl) (by omega)) ?_
 refine rO bT 2 rfl ?_
 refine ae rfl ?_
 refine oV (aA (bj rfl rfl) (by omega)) ?_
 refine rO bT 4 rfl ?_
 refine ae rfl ?_
 refine ai (GD b B at_ out free hl ha) V.Au  rfl (aw .nil) rfl ?_
 rintro _ _ ⟨rfl, rfl⟩
 refine ae rfl ?_
 refine oV (aA (bj rfl rfl) (by omega)) ?_
 refine rO bT 5 rfl ?_
 exact iV fK ⟨rfl, rfl⟩ (sub (aw .nil) au)
theorem GR (b : Nat) (B : List Int) (at_ : Nat) (out : List Int) (free : Int) (hl : B.length < 500000000) (hB : ak.az B) (ha : at_ < 8 * B.length) : aK Tryz.prog 93 [.pointer (some ⟨b, 0, none⟩)] [HW b B at_ out free] (aR fun v G => v = .int .i64 (aa.ij B at_) ∧ G = [HW b B (at_ + 1) out free]) := by
 refine ax [(0, _)] Tryz.func93 rfl Tryz.ntmps93 rfl rfl ?_
 intro w0 F
 refine gJ (fun h hh => hh) ?_
 rintro ⟨p1, c1, p2, c2⟩ _
 dsimp only
 have hq : U5.g B ((at_ : Int) / 8) = B.getD (at_ / 8) 0 := gE (at_ / 8) (by omega)
 have hb := hB.get (at_ / 8)
 have hd := ak.wC hb.1 hb.2 (7 - at_ % 8)
 have hb2 := aa.rn B at_
 have hbd : B.getD (at_ / 8) 0 / 2 ^ (7 - at_ % 8) % 2 = aa.ij B at_ := by unfold aa.ij; rfl
 refine rT bT 6 rfl ?_
 refine oB V.mixed (by kernel_rfl) ?_
 refine rR bT 4 rfl ?_
 refine oR (af V.eA rfl an rfl) ?_
 refine rR bT 4 rfl ?_
 refine oR (af V.s3 rfl an rfl) ?_
 refine oR (fZ rfl rfl (by omega) (jO (by omega) (by omega) (by omega))) ?_
 refine oR (xI V.bP (own bY)) ?_
 refine oR (xL V.s5 (own bY)) ?_
 refine rR bT 4 rfl ?_
 refine oR (af V.s3 rfl an rfl) ?_
 refine oR (ig rfl rfl (by omega) (jP (by omega))) ?_
 refine I8 bT 1 rfl (by omega) ?_
 refine oR (eu (r := B.getD (at_ / 8) 0 / 2 ^ (7 - at_ % 8)) rfl rfl (by omega) (by rw [hq]; exact ak.IG hb.1 (by omega) (by omega))) ?_
 refine oR (ed rfl) ?_
 refine Rg.cH ?_
 refine rN bT 7 rfl ?_
 refine oV (af V.s3 rfl an rfl) ?_
 refine cV bT 4 rfl (by omega) ?_
 refine aQ (cn V.s3 rfl rfl rfl (by exact cZ) (by exact Nat.le_of_ble_eq_true rfl) rfl) ?_
 refine rO bT 5 rfl ?_
 refine oV (kb (r := aa.ij B at_) rfl rfl ((ak.vJ hd.1 hd.2).trans hbd)) ?_
 refine oV (bE V.u5 Tryz.underlying3 rfl wI) ?_
 refine rO bT 4 rfl ?_
 rw [show (at_ : Int) + 1 = ((at_ + 1 : Nat) : Int) from by omega]
 exact aj (aC rfl) ⟨rfl, rfl⟩ (bd (im .nil) au (fun w0 h hh => su hh))
theorem kD (b : Nat) (B : List Int) (at_ : Nat) (out : List Int) (free : Int) (n : Nat) (hl : B.length < 500000000) (hB : ak.az B) (hn : n ≤ 24) (ha : at_ + n ≤ 8 * B.length) : aK Tryz.prog 56 [.pointer (some ⟨b, 0, none⟩), .int .i64 (n : Int)] [HW b B at_ out free] (aR fun v G => v = .int .i64 (aa.c4 B at_ n) ∧ G = [HW b B (at_ + n) out free]) := by
 refine ax [(0, _), (1, _)] Tryz.func56 rfl Tryz.ntmps56 rfl rfl ?_
 intro w0 F
 refine rT bT 11 rfl ?_
 refine ai (I9 b B at_ out free n hl (by omega) (by omega)) V.JK  rfl (aw .nil) rfl ?_
 rintro _ _ ⟨rfl, rfl⟩
 refine rO bT 15 rfl ?_
 rw [show ((5 : Nat), Value.int .i64 0) = (5, .int .i64 (aa.c4 B at_ 0)) from by unfold aa.c4; rfl]
 refine dV (fun (k : Nat) => [(0, .pointer (some ⟨b, 0, none⟩)), (5, .int .i64 (aa.c4 B at_ k)), (11, .int .i64 (n : Int)), (12, .int .i64 (k : Int))]) (fun (k : Nat) => HW b B (at_ + k) out free :: F) (fun (k : Nat) => k ≤ n) (fun (k : Nat) => n - k) (i1 (0) ?_ (eN ln) (sub (aw .nil) au)) ?_
 ·exact Nat.zero_le _
 intro k
 rintro hk
 refine rL bT 6 rfl ?_
 refine aP rfl (fun h13 => ?_) (fun h13 => ?_)
 ·refine rC bT 4 rfl ?_
  have hb := aa.rn B (at_ + k)
  have hnb := aa.uI B at_ (n := k) (by omega)
  refine rC bT 2 rfl ?_
  refine oV (fW (r := 2 * (aa.c4 B at_ k)) rfl rfl (by decide) (aa.N2 (by omega))) ?_
  refine oV (aG rfl) ?_
  refine ai (GR b B (at_ + k) out free hl hB (by omega)) V.Qs  rfl (aw .nil) rfl ?_
  rintro _ _ ⟨rfl, rfl⟩
  refine oV (my (r := (aa.c4 B at_ (k + 1))) rfl rfl (aa.Rj (by omega))) ?_
  refine cV bT 8 rfl (by omega) ?_
  refine j1 (k + 1) ?_ (eN ln) (sub (aw .nil) au)
  exact ⟨by omega, by omega⟩
 ·refine rC bT 12 rfl ?_
  obtain rfl : k = n := by omega
  exact aj (aC rfl) ⟨rfl, rfl⟩ (sub (aw .nil) au)
theorem xC (p : Option Addr) (cap : Nat) (B : List Int) (R : ab) (hR : ∀ w0 h, R w0 h → aS U5 p B.length B w0 h) (hl : B.length < 500000000) : aK Tryz.prog 54 [.slice p B.length cap] [R] (aR fun v G => ∃ b, v = .pointer (some ⟨b, 0, none⟩) ∧ G = [HW b B 0 [] 0, R]) := by
 refine ax [(0, _)] Tryz.func54 rfl Tryz.ntmps54 rfl rfl ?_
 intro w0 F
 refine rT bT 8 rfl ?_
 refine ai (ox p cap B R hR hl) V.zc  rfl (aw .nil) rfl ?_
 rintro _ _ ⟨q, c, rfl, rfl⟩
 refine oV (bV V.F3 V.z156 rfl (cs := [.slice q B.length c, .slice none 0 0, .int .i64 0, .int .i64 0]) rfl) ?_
 refine oV (bV V.MK V.OZ rfl (cs := [.slice q B.length c, .slice none 0 0, .int .i64 0, .int .i64 0]) rfl) ?_
 refine eU rfl (cs := [.slice q B.length c, .slice none 0 0, .int .i64 0, .int .i64 0]) rfl rfl ?_
 intro b7
 refine rO bT 4 rfl ?_
 exact aj (aC rfl) ⟨b7, rfl, rfl⟩ ((ei (A := Row U5 none 0 0 []) (fun w0 => Row.nil _ _ _)).trans ((bd (.cons aE (.cons aE (aw .nil))) au (fun w0 h hh => su (p1 := q) (c1 := c) (p2 := none) (c2 := 0) (B := B) (out := []) (at_ := 0) (free := 0) hh)).trans (sub (bp .nil) au)))
theorem RY (w h ay : Int) (cC : Bool) (d x : Int) (hd : aa.jC d) (hx : 0 ≤ x ∧ x < 2 ^ d.toNat) : aK Tryz.prog 90 [.agg #[.int .i64 w, .int .i64 h, .int .i64 d, .int .i64 ay, .bool cC], .int .i64 x] [] (aR fun v G => v = .int .u16 (aa.up d x) ∧ G = []) := by
 refine ax [(0, _), (1, _)] Tryz.func90 rfl Tryz.ntmps90 rfl rfl ?_
 intro w0 F
 obtain ⟨P, hP⟩ : ∃ P : Int, P = 2 ^ d.toNat := ⟨_, rfl⟩
 have hpb : 2 ≤ P ∧ P ≤ 65536 := hP ▸ aa.mP hd
 have hdi := aa.jV hd
 have hxP : x < P := hP ▸ hx.2
 have hui := aa.z8 hd hx.1 hx.2
 have hq := Int.ediv_le_self (P - 1) (by decide : (0 : Int) ≤ 65535)
 have hq0 : 0 ≤ 65535 / (P - 1) := Int.ediv_nonneg (by decide) (by omega)
 refine rT bT 2 rfl ?_
 refine eU rfl (cs := [_, _, _, _, _]) rfl rfl ?_
 intro b2
 refine rO bT 7 rfl ?_
 refine oV (af V.s3 rfl an rfl) ?_
 refine oV (bE V.u3 Tryz.underlying52 rfl (sG (by omega) (by omega))) ?_
 refine oV (fW (r := P) rfl rfl (by omega) ((aa.mN hd).trans hP.symm)) ?_
 refine cV bT 1 rfl (by omega) ?_
 refine oV (fZ (r := 65535 / (P - 1)) rfl rfl (by omega) (jO (by omega) (by omega) (by omega))) ?_
 refine oV (jQ (r := (aa.up d x)) rfl rfl (aa.up_mul hP hd hx.1 hxP)) ?_
 refine oV (bE V.u3 Tryz.underlying62 rfl (aa.AJ hui)) ?_
 refine rO bT 4 rfl ?_
 exact aj (aC rfl) ⟨rfl, rfl⟩ (sub .nil cG)
set_option maxHeartbeats 1000000 in
theorem EA (d : Int) (hd : aa.jC d) : aK Tryz.prog 185 [.int .i64 d] [] (aR fun v G => v = .bool true ∧ G = []) := by
 refine ax [(0, _)] Tryz.func185 rfl Tryz.ntmps185 rfl rfl ?_
 intro w0 F
 refine rT bT 5 rfl ?_
 rcases (aa.GK hd) with rfl | ⟨q0, rfl⟩ | ⟨q0, q1, rfl⟩ | ⟨q0, q1, q2, rfl⟩ | ⟨q0, q1, q2, q3, rfl⟩
 ·refine rC bT 10 rfl ?_
  refine oV (aU (av rfl rfl) (by decide)) ?_
  refine rO bT 15 rfl ?_
  exact aj (aC rfl) ⟨rfl, rfl⟩ (sub .nil au)
 ·refine rC bT 10 rfl ?_
  refine oV (aA (av rfl rfl) (by decide)) ?_
  refine rO bT 6 rfl ?_
  refine oV (aU (av rfl rfl) (by decide)) ?_
  refine rO bT 15 rfl ?_
  exact aj (aC rfl) ⟨rfl, rfl⟩ (sub .nil au)
 ·refine rC bT 10 rfl ?_
  refine oV (aA (av rfl rfl) (by decide)) ?_
  refine rO bT 6 rfl ?_
  refine oV (aA (av rfl rfl) (by decide)) ?_
  refine rO bT 6 rfl ?_
  refine oV (aU (av rfl rfl) (by decide)) ?_
  refine rO bT 15 rfl ?_
  exact aj (aC rfl) ⟨rfl, rfl⟩ (sub .nil au)
 ·refine rC bT 10 rfl ?_
  refine oV (aA (av rfl rfl) (by decide)) ?_
  refine rO bT 6 rfl ?_
  refine oV (aA (av rfl rfl) (by decide)) ?_
  refine rO bT 6 rfl ?_
  refine oV (aA (av rfl rfl) (by decide)) ?_
  refine rO bT 6 rfl ?_
  refine oV (aU (av rfl rfl) (by decide)) ?_
  refine rO bT 15 rfl ?_
  exact aj (aC rfl) ⟨rfl, rfl⟩ (sub .nil au)
 ·refine rC bT 10 rfl ?_
  refine oV (aA (av rfl rfl) (by decide)) ?_
  refine rO bT 6 rfl ?_
  refine oV (aA (av rfl rfl) (by decide)) ?_
  refine rO bT 6 rfl ?_
  refine oV (aA (av rfl rfl) (by decide)) ?_
  refine rO bT 6 rfl ?_
  refine oV (aA (av rfl rfl) (by decide)) ?_
  refine rO bT 5 rfl ?_
  refine oV (aU (av rfl rfl) (by decide)) ?_
  refine rO bT 12 rfl ?_
  exact aj (aC rfl) ⟨rfl, rfl⟩ (sub .nil au)
set_option maxHeartbeats 1000000 in
theorem I1 (d x : Int) (hd : aa.jC d) (hx : 0 ≤ x ∧ x < 2 ^ d.toNat) : aK Tryz.prog 172 [.int .i64 x, .int .i64 d] [] (aR fun v G => v = .tuple #[.int .u16 (aa.up d x), .bool true] ∧ G = []) := by
 refine ax [(0, _), (1, _)] Tryz.func172 rfl Tryz.ntmps172 rfl rfl ?_
 intro w0 F
 obtain ⟨P, hP⟩ : ∃ P : Int, P = 2 ^ d.toNat := ⟨_, rfl⟩
 have hpb : 2 ≤ P ∧ P ≤ 65536 := hP ▸ aa.mP hd
 have hdi := aa.jV hd
 have hxP : x < P := hP ▸ hx.2
 have hui := aa.z8 hd hx.1 hx.2
 have hq := Int.ediv_le_self (P - 1) (by decide : (0 : Int) ≤ 65535)
 have hq0 : 0 ≤ 65535 / (P - 1) := Int.ediv_nonneg (by decide) (by omega)
 refine rT bT 10 rfl ?_
 refine ai (EA d hd) V.Qk  rfl .nil rfl ?_
 rintro _ _ ⟨rfl, rfl⟩
 refine rO bT 3 rfl ?_
 refine ae rfl ?_
 refine oV (aA (bD rfl rfl) (by omega)) ?_
 refine rO bT 4 rfl ?_
 refine ae rfl ?_
 refine oV (fW (r := P) rfl rfl (by omega) ((aa.mN hd).trans hP.symm)) ?_
 refine ae rfl ?_
 refine oV (aA (fq rfl rfl) (by omega)) ?_
 refine rO bT 10 rfl ?_
 refine oV (fW (r := P) rfl rfl (by omega) ((aa.mN hd).trans hP.symm)) ?_
 refine cV bT 1 rfl (by omega) ?_
 refine oV (fZ (r := 65535 / (P - 1)) rfl rfl (by omega) (jO (by omega) (by omega) (by omega))) ?_
 refine oV (jQ (r := (aa.up d x)) rfl rfl (aa.up_mul hP hd hx.1 hxP)) ?_
 refine oV (bE V.u3 Tryz.underlying62 rfl (aa.AJ hui)) ?_
 refine rO bT 5 rfl ?_
 exact aj (fH rfl rfl) ⟨rfl, rfl⟩ (sub .nil au)
theorem sW (x : Int) (hx : 0 ≤ x ∧ x < 256) : aK Tryz.prog 184 [.int .u8 x] [] (aR fun v G => v = .int .u16 (x * 257) ∧ G = []) := by
 refine ax [(0, _)] Tryz.func184 rfl Tryz.ntmps184 rfl rfl ?_
 intro w0 F
 refine rT bT 8 rfl ?_
 refine oV (bE V.u5 Tryz.underlying3 rfl wI) ?_
 refine ai (I1 8 x (.inr (.inr (.inr (.inl rfl)))) hx) V.Jk  rfl .nil rfl ?_
 rintro _ _ ⟨rfl, rfl⟩
 rw [aa.Q5]
 refine rO bT 14 rfl ?_
 exact aj (aC rfl) ⟨rfl, rfl⟩ (sub .nil au)
set_option maxHeartbeats 1000000 in
theorem OQ (w h : Int) (hs : aa.bS w h = 0) (q : Option Addr) (n c : Nat) (hn : (n : Int) = 4 * w * h) (xx yy : Int) (hx : 0 ≤ xx ∧ xx < w) (hy : 0 ≤ yy ∧ yy < h) : aK Tryz.prog 161 [.agg #[.int .i64 w, .int .i64 h, .slice q n c], .int .i64 xx, .int .i64 yy] [] (aR fun v G => v = .tuple #[.int .i64 (4 * (yy * w + xx)), .bool true] ∧ G = []) := by
 refine ax [(0, _), (1, _), (2, _)] Tryz.func161 rfl Tryz.ntmps161 rfl rfl ?_
 intro w0 F
 have hsd := aa.kC hs
 have hp := aa.xH hx hy
 have h44 : 4 * w * h = 4 * (w * h) := Int.mul_assoc _ _ _
 refine rT bT 2 rfl ?_
 refine eU rfl (cs := [_, _, _]) rfl rfl ?_
 intro b3
 refine rO bT 6 rfl ?_
 refine oV (bX V.eX rfl an (vs := [_, _, _]) rfl rfl) ?_
 refine ai (MV w h q n c true (decide_eq_true ⟨hs, hn⟩).symm) V.Fi  rfl .nil rfl ?_
 rintro _ _ ⟨rfl, rfl⟩
 refine rO bT 2 rfl ?_
 refine ae rfl ?_
 refine oV (aU (fq rfl rfl) (by omega)) ?_
 refine rO bT 4 rfl ?_
 refine ae rfl ?_
 refine oV (af V.s3 rfl an rfl) ?_
 refine ae rfl ?_
 refine oV (aU (bD rfl rfl) (by omega)) ?_
 refine rO bT 3 rfl ?_
 refine ae rfl ?_
 refine oV (aU (fq rfl rfl) (by omega)) ?_
 refine rO bT 4 rfl ?_
 refine ae rfl ?_
 refine oV (af V.s3 rfl an rfl) ?_
 refine ae rfl ?_
 refine oV (aU (bD rfl rfl) (by omega)) ?_
 refine rO bT 8 rfl ?_
 refine oV (af V.s3 rfl an rfl) ?_
 refine cV bT 10 rfl (by omega) ?_
 exact aj (fH rfl rfl) ⟨rfl, rfl⟩ (sub .nil cG)
set_option maxHeartbeats 2000000 in
theorem No (w h : Int) (hs : aa.bS w h = 0) (q : Option Addr) (n c : Nat) (hn : (n : Int) = 4 * w * h) (hcap : n ≤ c) (l : List Int) (xx yy : Int) (hx : 0 ≤ xx ∧ xx < w) (hy : 0 ≤ yy ∧ yy < h) (c0 c1 c2 c3 : Int) : aK Tryz.prog 152 [.agg #[.int .i64 w, .int .i64 h, .slice q n c], .int .i64 xx, .int .i64 yy, .agg #[.int .u16 c0, .int .u16 c1, .int .u16 c2, .int .u16 c3]] [Row (aW 62 .u16) q n c l] (aR fun v G => v = .bool true ∧ G = [Row (aW 62 .u16) q n c (aa.l5 w l xx yy [c0, c1, c2, c3])]) := by
 refine ax [(0, _), (1, _), (2, _), (3, _)] Tryz.func152 rfl Tryz.ntmps152 rfl rfl ?_
 intro w0 F
 have hsd := aa.kC hs
 have hp := aa.xH hx hy
 have h44 : 4 * w * h = 4 * (w * h) := Int.mul_assoc _ _ _
 refine rT bT 2 rfl ?_
 refine eU rfl (cs := [_, _, _]) rfl rfl ?_
 intro b4
 refine eU rfl (cs := CA [] .u16 [c0, c1, c2, c3] []) rfl rfl ?_
 intro b7
 refine rO bT 5 rfl ?_
 refine oV (bX V.eX rfl bY (vs := [_, _, _]) rfl rfl) ?_
 refine rO bT 2 rfl ?_
 refine ai (OQ w h hs q n c hn xx yy hx hy) V.O5  rfl .nil rfl ?_
 rintro _ _ ⟨rfl, rfl⟩
 refine rO bT 14 rfl ?_
 refine wN [pz 0 [] [4], pz 1 [0] [], pz 0 [] [9], pz 7 [1, 2] [], pz 0 [] [7], pz 31 [3, 4] []] [⟨fun y => ao b7 68 (CA [] .u16 [c0, c1, c2, c3] []), none, none, [5]⟩, ⟨fun y => ao b4 26 [.int .i64 w, .int .i64 h, .slice q n c], none, none, [1]⟩, ⟨fun y => Row (aW 62 .u16) q n c l, none, some 5, []⟩, ⟨fun y => Row (aW 62 .u16) q n c (aa.l5 w l xx yy [c0, c1, c2, c3]), some 5, none, []⟩] F V.mixed ?_
 refine nG V.oQ ?_
 refine nR (fun y FF hA => af V.qp rfl an rfl) ?_
 refine nM ?_
 refine nV (fun y hA L => dW ((4 * (yy * w + xx))).toNat _ _ V.hI rfl ⟨_, (show aq _ _ = some (.int _ (4 * (yy * w + xx))) from rfl).trans (by rw [Int.toNat_of_nonneg (by omega)])⟩ ⟨rfl, rfl⟩ rfl (by omega) (by omega) (by omega)) ?_
 refine nV (fun y hA L => AW V.uB rfl) ?_
 refine nE (fun y FF hA => EX (IL (c := (aW 62 .u16)) (k := (4 * (yy * w + xx)).toNat) (n := n) (cap := c) (l := l) (ws := [c0, c1, c2, c3]) (cnt := 4) rfl V.hI rfl rfl fP.head (QQ (by exact .head _)) (by omega) (by omega) (by omega) (by omega)) (.refl _)) ?_
 refine aX ?_
 intro y hA
 clear hA
 refine bu ?_
 refine cy _ (.cons (d := 10) rfl (.nil _)) ?_
 refine bR (M := ao b7 68 (CA [] .u16 [c0, c1, c2, c3] []) :: ao b4 26 [.int .i64 w, .int .i64 h, .slice q n c] :: Row (aW 62 .u16) q n c (aa.l5 w l xx yy [c0, c1, c2, c3]) :: F) (fun _ _ h => h) ?_
 refine rC bT 7 rfl ?_
 exact aj (aC rfl) ⟨rfl, rfl⟩ (sub (.cons bK .nil) fS)
end Go.Proofs.YtmaiakpjgomnpaaGreat
namespace Go.Proofs.YtmaiakpjgomnpaaGreat
open Go.Sl
theorem V.iW : gZ Tryz.prog 35 = some 5 := by kernel_rfl
theorem V.kq : gZ Tryz.prog 38 = some 5 := by kernel_rfl
theorem V.me : gZ Tryz.prog 68 = some 4 := by kernel_rfl
theorem V.oa : aJ Tryz.prog 20 = true := by kernel_rfl
theorem V.JL : aJ Tryz.prog 54 = true := by kernel_rfl
theorem V.OI : aJ Tryz.prog 55 = true := by kernel_rfl
theorem V.tH : aJ Tryz.prog 56 = true := by kernel_rfl
theorem V.wK : aJ Tryz.prog 57 = true := by kernel_rfl
theorem V.vS : aJ Tryz.prog 59 = true := by kernel_rfl
theorem V.vq : bW Tryz.prog 35 0 = some 0 := by kernel_rfl
theorem V.qX : bW Tryz.prog 35 1 = some 1 := by kernel_rfl
theorem V.lD : bW Tryz.prog 35 2 = some 2 := by kernel_rfl
theorem V.ph : bW Tryz.prog 35 3 = some 3 := by kernel_rfl
theorem V.N9 : bW Tryz.prog 35 4 = some 4 := by kernel_rfl
theorem V.N5 : bW Tryz.prog 38 0 = some 0 := by kernel_rfl
theorem V.Av : bW Tryz.prog 38 1 = some 1 := by kernel_rfl
theorem V.MA : bW Tryz.prog 38 3 = some 3 := by kernel_rfl
theorem V.p9 : fC Tryz.prog 35 = some [(0, 1), (1, 1), (2, 1), (3, 1), (4, 1)] := by kernel_rfl
theorem V.nL : fC Tryz.prog 38 = some [(0, 1), (1, 1), (2, 1), (3, 1), (4, 1)] := by kernel_rfl
theorem V.qh : dm Tryz.prog 105 = true := by kernel_rfl
theorem V.lG : dm Tryz.prog 62 = true := by kernel_rfl
theorem V.z105 : dH Tryz.prog 105 = some ([.pointer none]) := by kernel_rfl
theorem V.mZ : dH Tryz.prog 35 = some ([.int .i64 0, .int .i64 0, .int .i64 0, .int .i64 0, .bool false]) := by kernel_rfl
theorem V.oi : dH Tryz.prog 38 = some ([.int .i64 0, .int .i64 0, .int .i64 0, .int .i64 0, .bool false]) := by kernel_rfl
theorem V.pC : dH Tryz.prog 68 = some ([.int .u16 0, .int .u16 0, .int .u16 0, .int .u16 0]) := by kernel_rfl
end Go.Proofs.YtmaiakpjgomnpaaGreat
namespace Go.Proofs.YtmaiakpjgomnpaaGreat
open Go.Sl 
theorem ar : dC Tryz.prog ⟨[22, 24], [(26, 0, 0), (26, 1, 1), (26, 2, 2), (35, 0, 0), (35, 1, 1), (35, 2, 2), (35, 3, 3), (35, 4, 4), (38, 0, 0), (38, 1, 1), (38, 2, 2), (38, 3, 3)]⟩ = true := by kernel_rfl
attribute [local irreducible] ak.az aa.bS aa.up aa.c4 aa.ij aa.jX aa.eY aa.kc aa.deep aa.parts HW
abbrev HV (h : aa.Hd) : Value := .agg #[.int .i64 h.w, .int .i64 h.h, .int .i64 h.dep, .int .i64 h.ay, .bool h.cC]
set_option maxHeartbeats 2000000 in
theorem Mf (w1 h1 : Int) (q1 : Option Addr) (n1 c1 : Nat) (L1 : List Int) (hn1 : L1.length = n1) (R1 : ab) (hR1 : ∀ w0 h, R1 w0 h → aS (aW 62 .u16) q1 n1 L1 w0 h) (w2 h2 : Int) (q2 : Option Addr) (n2 c2 : Nat) (L2 : List Int) (hn2 : L2.length = n2) (R2 : ab) (hR2 : ∀ w0 h, R2 w0 h → aS (aW 62 .u16) q2 n2 L2 w0 h) (hs1 : n1 ≤ 100000000) (t : Bool) (ht : t = decide (aa.kc w1 h1 n1 w2 h2 n2 L1 L2)) : aK Tryz.prog 23 [.agg #[.int .i64 w1, .int .i64 h1, .slice q1 n1 c1], .agg #[.int .i64 w2, .int .i64 h2, .slice q2 n2 c2]] [R1, R2] (aR fun v G => v = .bool t ∧ G = [R1, R2]) := by
 refine ax [(0, _), (1, _)] Tryz.func23 rfl Tryz.ntmps23 rfl rfl ?_
 intro w0 F
 refine rT ar 2 rfl ?_
 refine eU rfl (cs := [_, _, _]) rfl rfl ?_
 intro b2
 refine eU rfl (cs := [_, _, _]) rfl rfl ?_
 intro b3
 refine rO ar 3 rfl ?_
 rcases (aa.N4 w1 h1 n1 w2 h2 n2 L1 L2) with ⟨a, hs⟩ | ⟨a, a2, hs⟩ | ⟨a, a2, a3, hs⟩ | ⟨a, a2, a3, a4, hs⟩ | ⟨a, a2, a3, a4, a5⟩
 ·refine rC ar 3 rfl ?_
  refine oV (bX V.eX rfl bY (vs := [_, _, _]) rfl rfl) ?_
  refine ai (mH w1 h1 q1 n1 c1 false (decide_eq_false a).symm) V.m0  rfl .nil rfl ?_
  rintro _ _ ⟨rfl, rfl⟩
  refine rO ar 30 rfl ?_
  obtain rfl : t = false := ht.trans (decide_eq_false hs)
  exact aj (aC rfl) ⟨rfl, rfl⟩ (sub (.cons bK (.cons bK .nil)) fS)
 ·refine rC ar 3 rfl ?_
  refine oV (bX V.eX rfl bY (vs := [_, _, _]) rfl rfl) ?_
  refine ai (mH w1 h1 q1 n1 c1 true (decide_eq_true a).symm) V.m0  rfl .nil rfl ?_
  rintro _ _ ⟨rfl, rfl⟩
  refine rO ar 2 rfl ?_
  refine ae rfl ?_
  refine oV (bX V.eX rfl an (vs := [_, _, _]) rfl rfl) ?_
  refine ae rfl ?_
  refine ai (mH w2 h2 q2 n2 c2 false (decide_eq_false a2).symm) V.m0  rfl .nil rfl ?_
  rintro _ _ ⟨rfl, rfl⟩
  refine rO ar 26 rfl ?_
  obtain rfl : t = false := ht.trans (decide_eq_false hs)
  exact aj (aC rfl) ⟨rfl, rfl⟩ (sub (.cons bK (.cons bK .nil)) fS)
 ·refine rC ar 3 rfl ?_
  refine oV (bX V.eX rfl bY (vs := [_, _, _]) rfl rfl) ?_
  refine ai (mH w1 h1 q1 n1 c1 true (decide_eq_true a).symm) V.m0  rfl .nil rfl ?_
  rintro _ _ ⟨rfl, rfl⟩
  refine rO ar 2 rfl ?_
  refine ae rfl ?_
  refine oV (bX V.eX rfl an (vs := [_, _, _]) rfl rfl) ?_
  refine ae rfl ?_
  refine ai (mH w2 h2 q2 n2 c2 true (decide_eq_true a2).symm) V.m0  rfl .nil rfl ?_
  rintro _ _ ⟨rfl, rfl⟩
  refine rO ar 4 rfl ?_
  refine ae rfl ?_
  refine oV (af V.s3 rfl bY rfl) ?_
  refine ae rfl ?_
  refine oV (aF V.tF rfl) ?_
  refine ae rfl ?_
  refine oV (af V.s3 rfl an rfl) ?_
  refine ae rfl ?_
  refine oV (aU (bG rfl rfl) a3) ?_
  refine rO ar 18 rfl ?_
  obtain rfl : t = false := ht.trans (decide_eq_false hs)
  exact aj (aC rfl) ⟨rfl, rfl⟩ (sub (.cons bK (.cons bK .nil)) fS)
 ·refine rC ar 3 rfl ?_
  refine oV (bX V.eX rfl bY (vs := [_, _, _]) rfl rfl) ?_
  refine ai (mH w1 h1 q1 n1 c1 true (decide_eq_true a).symm) V.m0  rfl .nil rfl ?_
  rintro _ _ ⟨rfl, rfl⟩
  refine rO ar 2 rfl ?_
  refine ae rfl ?_
  refine oV (bX V.eX rfl an (vs := [_, _, _]) rfl rfl) ?_
  refine ae rfl ?_
  refine ai (mH w2 h2 q2 n2 c2 true (decide_eq_true a2).symm) V.m0  rfl .nil rfl ?_
  rintro _ _ ⟨rfl, rfl⟩
  refine rO ar 4 rfl ?_
  refine ae rfl ?_
  refine oV (af V.s3 rfl bY rfl) ?_
  refine ae rfl ?_
  refine oV (aF V.tF rfl) ?_
  refine ae rfl ?_
  refine oV (af V.s3 rfl an rfl) ?_
  refine ae rfl ?_
  refine oV (aA (bG rfl rfl) (fun hh => hh a3)) ?_
  refine rO ar 3 rfl ?_
  refine ae rfl ?_
  refine oV (af V.s3 rfl bY rfl) ?_
  refine ae rfl ?_
  refine oV (aF V.nj rfl) ?_
  refine ae rfl ?_
  refine oV (af V.s3 rfl an rfl) ?_
  refine ae rfl ?_
  refine oV (aU (bG rfl rfl) a4) ?_
  refine rO ar 11 rfl ?_
  obtain rfl : t = false := ht.trans (decide_eq_false hs)
  exact aj (aC rfl) ⟨rfl, rfl⟩ (sub (.cons bK (.cons bK .nil)) fS)
 ·refine rC ar 3 rfl ?_
  refine oV (bX V.eX rfl bY (vs := [_, _, _]) rfl rfl) ?_
  refine ai (mH w1 h1 q1 n1 c1 true (decide_eq_true a).symm) V.m0  rfl .nil rfl ?_
  rintro _ _ ⟨rfl, rfl⟩
  refine rO ar 2 rfl ?_
  refine ae rfl ?_
  refine oV (bX V.eX rfl an (vs := [_, _, _]) rfl rfl) ?_
  refine ae rfl ?_
  refine ai (mH w2 h2 q2 n2 c2 true (decide_eq_true a2).symm) V.m0  rfl .nil rfl ?_
  rintro _ _ ⟨rfl, rfl⟩
  refine rO ar 4 rfl ?_
  refine ae rfl ?_
  refine oV (af V.s3 rfl bY rfl) ?_
  refine ae rfl ?_
  refine oV (aF V.tF rfl) ?_
  refine ae rfl ?_
  refine oV (af V.s3 rfl an rfl) ?_
  refine ae rfl ?_
  refine oV (aA (bG rfl rfl) (fun hh => hh a3)) ?_
  refine rO ar 3 rfl ?_
  refine ae rfl ?_
  refine oV (af V.s3 rfl bY rfl) ?_
  refine ae rfl ?_
  refine oV (aF V.nj rfl) ?_
  refine ae rfl ?_
  refine oV (af V.s3 rfl an rfl) ?_
  refine ae rfl ?_
  refine oV (aA (bG rfl rfl) (fun hh => hh a4)) ?_
  refine rO ar 13 rfl ?_
  refine dV (fun (i : Nat) => [(2, .pointer (some ⟨b2, 0, none⟩)), (3, .pointer (some ⟨b3, 0, none⟩)), (5, .int .i64 (i : Int))]) (fun (i : Nat) => ao b3 26 [.int .i64 w2, .int .i64 h2, .slice q2 n2 c2] :: ao b2 26 [.int .i64 w1, .int .i64 h1, .slice q1 n1 c1] :: R1 :: R2 :: F) (fun (i : Nat) => i ≤ n1 ∧ ∀ j, j < i → L1.getD j 0 = L2.getD j 0) (fun (i : Nat) => n1 - i) (i1 (0) ?_ (jm ln) (sub (nz .nil) au)) ?_
  ·exact ⟨Nat.zero_le _, fun j hj => by omega⟩
  intro i
  rintro ⟨hi, hall⟩
  refine rL ar 5 rfl ?_
  refine oV (af V.qp rfl bY rfl) ?_
  refine rO ar 4 rfl ?_
  refine aP rfl (fun h32 => ?_) (fun h32 => ?_)
  ·refine rC ar 4 rfl ?_
   rcases (Classical.em (((aW 62 .u16).g L1 (i : Int)) ≠ ((aW 62 .u16).g L2 (i : Int)))) with hne | hne
   ·refine rC ar 1 rfl ?_
    refine oB V.mixed (by kernel_rfl) ?_
    refine oR (aF V.oQ rfl) ?_
    refine oR (af V.qp rfl bY rfl) ?_
    refine oR (aG rfl) ?_
    refine oR (xI V.hI (by exact aY hR1 cx)) ?_
    refine oR (xL V.lG (by exact aY hR1 cx)) ?_
    refine oR (aF V.oQ rfl) ?_
    refine oR (af V.qp rfl an rfl) ?_
    refine oR (aG rfl) ?_
    refine oR (xI V.hI (by exact aY hR2 eL)) ?_
    refine oR (xL V.lG (by exact aY hR2 eL)) ?_
    refine oR (aU (bG rfl rfl) hne) ?_
    refine Rg.cH ?_
    refine rN ar 13 rfl ?_
    obtain rfl : t = false := ht.trans (decide_eq_false (fun hh => aa.Gb hne (by unfold aa.kc at hh; exact hh.2.2.2.2)))
    exact aj (aC rfl) ⟨rfl, rfl⟩ (sub (.cons bK (.cons bK .nil)) fS)
   ·refine rC ar 1 rfl ?_
    refine oB V.mixed (by kernel_rfl) ?_
    refine oR (aF V.oQ rfl) ?_
    refine oR (af V.qp rfl bY rfl) ?_
    refine oR (aG rfl) ?_
    refine oR (xI V.hI (by exact aY hR1 cx)) ?_
    refine oR (xL V.lG (by exact aY hR1 cx)) ?_
    refine oR (aF V.oQ rfl) ?_
    refine oR (af V.qp rfl an rfl) ?_
    refine oR (aG rfl) ?_
    refine oR (xI V.hI (by exact aY hR2 eL)) ?_
    refine oR (xL V.lG (by exact aY hR2 eL)) ?_
    refine oR (aA (bG rfl rfl) hne) ?_
    refine Rg.cH ?_
    refine Ll ar 10 rfl (by omega) ?_
    refine j1 (i + 1) ?_ (jm ln) (sub (nz .nil) au)
    exact ⟨⟨by omega, fun j hj => (Nat.lt_succ_iff_lt_or_eq.1 hj).elim (hall j) (fun e => e ▸ Classical.not_not.1 hne)⟩, by omega⟩
  ·refine rC ar 11 rfl ?_
   obtain rfl : t = true := ht.trans (decide_eq_true (by unfold aa.kc; exact ⟨a, a2, a3, a4, aa.C5 (by omega) (fun j hj => hall j (by omega))⟩))
   exact aj (aC rfl) ⟨rfl, rfl⟩ (sub (.cons bK (.cons bK .nil)) fS)
set_option maxHeartbeats 1000000 in
theorem Cf (p : Option Addr) (c : Nat) (B : List Int) (R : ab) (hR : ∀ w0 h, R w0 h → aS U5 p B.length B w0 h) (hB : ak.az B) (hl : B.length < 500000000) (a m : Nat) (hm : m ≤ 4) (ha : a + m ≤ B.length) : aK Tryz.prog 59 [.slice p B.length c, .int .i64 (a : Int), .int .i64 (m : Int)] [R] (aR fun v G => v = .int .i64 (aa.jX B a m) ∧ G = [R]) := by
 refine ax [(0, _), (1, _), (2, _)] Tryz.func59 rfl Tryz.ntmps59 rfl rfl ?_
 intro w0 F
 refine rT ar 17 rfl ?_
 rw [show ((7 : Nat), Value.int .i64 0) = (7, .int .i64 (aa.jX B a 0)) from by unfold aa.jX; rfl]
 refine dV (fun (k : Nat) => [(0, .slice p B.length c), (1, .int .i64 (a : Int)), (2, .int .i64 (m : Int)), (7, .int .i64 (aa.jX B a k)), (8, .int .i64 (k : Int))]) (fun (k : Nat) => R :: F) (fun (k : Nat) => k ≤ m) (fun (k : Nat) => m - k) (i1 (0) ?_ (dk ln) (sub (aw .nil) au)) ?_
 ·exact Nat.zero_le _
 intro k
 rintro hk
 refine rL ar 8 rfl ?_
 refine aP rfl (fun h11 => ?_) (fun h11 => ?_)
 ·refine rC ar 4 rfl ?_
  have hh4 := aa.Kc hB a k (by omega)
  have hv := hB.get (a + k)
  have hh3 := hh4.2.2 (by omega)
  have hq : U5.g B ((a : Int) + (k : Int)) = B.getD (a + k) 0 := gE (a + k) (by omega)
  refine rC ar 2 rfl ?_
  refine oV (fW (r := (aa.jX B a k) * 256) rfl rfl (by decide) (aL.uH (n := 8) rfl (by decide) rfl (by omega) (by omega))) ?_
  refine cV ar 4 rfl (by omega) ?_
  refine oV (xI V.bP (by exact aY hR an)) ?_
  refine oV (xL V.s5 (by exact aY hR an)) ?_
  rw [hq]
  refine oV (bE V.u5 Tryz.underlying3 rfl wI) ?_
  refine oV (my (r := (aa.jX B a k) * 256 + B.getD (a + k) 0) rfl rfl (aL.pg (u := (aa.jX B a k)) (n := 8) rfl hh4.1 (by omega) (by omega))) ?_
  refine cV ar 9 rfl (by omega) ?_
  rw [show (aa.jX B a k) * 256 + B.getD (a + k) 0 = (aa.jX B a (k + 1)) from by rw [aa.jX]]
  exact j1 (k + 1) ⟨by omega, by omega⟩ (dk ln) (sub (aw .nil) au)
 ·refine rC ar 12 rfl ?_
  obtain rfl : k = m := by omega
  exact aj (aC rfl) ⟨rfl, rfl⟩ (sub (aw .nil) au)
set_option maxHeartbeats 1000000 in
theorem CI (b b4 : Nat) (B : List Int) (out : List Int) (free : Int) (hl : B.length < 500000000) (hB : ak.az B) (j : Nat) (hj : j + 4 ≤ B.length) : aK Tryz.prog 55 [.pointer (some ⟨b4, 0, none⟩)] [HW b B (8 * j) out free, ao b4 105 [.pointer (some ⟨b, 0, none⟩)]] (aR fun v G => v = .int .i64 (aL.cW (B.drop j)) ∧ G = [HW b B (8 * j + 32) out free, ao b4 105 [.pointer (some ⟨b, 0, none⟩)]]) := by
 refine ax [(0, _)] Tryz.func55 rfl Tryz.ntmps55 rfl rfl ?_
 intro w0 F
 have h1 := aa.An B (8 * j)
 have h2 := aa.An B (8 * j + 16)
 refine rT ar 6 rfl ?_
 refine wN [pz 0 [] [0], pz 1 [0] [], pz 3 [1] [], pz 0 [] [0], pz 11 [3] [], pz 31 [2, 4] [], pz 63 [5] []] [⟨fun y => HW b B (8 * j) out free, none, some 1, []⟩, ⟨fun y => ao b4 105 [.pointer (some ⟨b, 0, none⟩)], none, none, [0, 3]⟩, ⟨fun y => HW b B (8 * j + 16) out free, some 1, some 4, []⟩, ⟨fun y => HW b B (8 * j + 16 + 16) out free, some 4, none, []⟩] F V.mixed ?_
 refine nR (fun y FF hA => af V.qh rfl an rfl) ?_
 refine nE (fun y FF hA => bM (Post := [HW b B (8 * j + 16) out free]) (kD b B (8 * j) out free 16 hl hB (by decide) (by omega)) V.tH rfl (aw .nil) (fun v G h => by rcases h with ⟨rfl, rfl⟩; exact ⟨rfl, .refl _⟩)) ?_
 refine nV (fun y hA L => fW (r := (aa.c4 B (8 * j) 16) * 65536) rfl rfl (by decide) (aL.uH (n := 16) rfl (by decide) rfl (by omega) (by omega))) ?_
 refine nR (fun y FF hA => af V.qh rfl an rfl) ?_
 refine nE (fun y FF hA => bM (Post := [HW b B (8 * j + 16 + 16) out free]) (kD b B (8 * j + 16) out free 16 hl hB (by decide) (by omega)) V.tH rfl (aw .nil) (fun v G h => by rcases h with ⟨rfl, rfl⟩; exact ⟨rfl, .refl _⟩)) ?_
 refine nV (fun y hA L => my (r := (aa.c4 B (8 * j) 16) * 65536 + (aa.c4 B (8 * j + 16) 16)) rfl rfl (aL.pg (u := (aa.c4 B (8 * j) 16)) (n := 16) rfl h1.1 (by omega) (by omega))) ?_
 refine nA ?_
 refine aX ?_
 intro y hA
 clear hA
 refine bu ?_
 refine cy _ (.cons (d := 1) rfl (.nil _)) ?_
 refine bR (M := ao b4 105 [.pointer (some ⟨b, 0, none⟩)] :: HW b B (8 * j + 16 + 16) out free :: F) (fun _ _ h => h) ?_
 refine rC ar 1 rfl ?_
 exact aj (aC rfl) ⟨congrArg (Value.int .i64) (aa.IF hB j), rfl⟩ (sub (.cons aE (aw .nil)) au)
set_option maxHeartbeats 4000000 in
theorem qx (p : Option Addr) (c : Nat) (B : List Int) (R : ab) (hR : ∀ w0 h, R w0 h → aS U5 p B.length B w0 h) (hB : ak.az B) : aK Tryz.prog 17 [.slice p B.length c] [R] (aR fun v G => v = .tuple #[HV (aa.BB B), .int .i64 (aa.eY B)] ∧ G = [R]) := by
 refine ax [(0, _)] Tryz.func17 rfl Tryz.ntmps17 rfl rfl ?_
 intro w0 F
 have hb8 := hB.get 8
 have hb9 := hB.get 9
 have hb10 := hB.get 10
 have hb11 := hB.get 11
 have hb12 := hB.get 12
 refine rT ar 2 rfl ?_
 refine cB V.mZ rfl ?_
 intro b2
 refine rO ar 3 rfl ?_
 rcases (Classical.em (B.length ≠ 13)) with h0 | h0
 ·refine rC ar 5 rfl ?_
  refine oV (aU (bG rfl rfl) (by omega)) ?_
  refine rO ar 5 rfl ?_
  refine oV (bV V.p9 V.mZ rfl (cs := [_, _, _, _, _]) rfl) ?_
  refine aQ (aD V.iW rfl rfl (us := [_, _, _, _, _]) rfl rfl (by exact cZ) (by exact Nat.le_of_ble_eq_true rfl) rfl) ?_
  refine rO ar 5 rfl ?_
  exact aj (dY V.iW rfl an rfl rfl) ⟨by rw [aa.sU h0, aa.jt (aa.sU h0) (by decide)]; rfl, rfl⟩ (sub (.cons aE .nil) cG)
 ·refine rC ar 5 rfl ?_
  refine oV (aA (bG rfl rfl) (by omega)) ?_
  refine rO ar 8 rfl ?_
  refine ai (xC p c B R hR (by omega)) V.JL  rfl (.cons aE .nil) rfl ?_
  rintro _ _ ⟨bx, rfl, rfl⟩
  refine cB V.z105 rfl ?_
  intro b4
  refine aQ (cn V.qh rfl rfl rfl (by exact cZ) (by exact Nat.le_of_ble_eq_true rfl) rfl) ?_
  refine rO ar 4 rfl ?_
  refine oV (zy (fs := []) (cs := [_]) rfl rfl) ?_
  refine rO ar 4 rfl ?_
  refine kW [pz 0 [] [5], pz 1 [0] [], pz 0 [] [5], pz 7 [2] [], pz 0 [] [4], pz 31 [4] [], pz 0 [] [4], pz 127 [6] [], pz 255 [1, 3, 5, 7] [], pz 0 [] [], pz 1023 [9, 8] []] [⟨fun y => ao b4 105 [.pointer (some ⟨bx, 0, none⟩)], none, none, [1, 3, 4, 6]⟩, ⟨fun y => HW bx B (8 * 0) [] 0, none, some 1, []⟩, ⟨fun y => R, none, none, []⟩, ⟨fun y => ao b2 35 [.int .i64 0, .int .i64 0, .int .i64 0, .int .i64 0, .bool false], none, none, []⟩, ⟨fun y => HW bx B (8 * 4) [] 0, some 1, some 3, []⟩, ⟨fun y => HW bx B (8 * 8) [] 0, some 3, some 5, []⟩, ⟨fun y => HW bx B (8 * 9) [] 0, some 5, some 7, []⟩, ⟨fun y => HW bx B (8 * 10) [] 0, some 7, none, []⟩, ⟨fun y => ao (fG (y 9)) 35 [.int .i64 0, .int .i64 0, .int .i64 0, .int .i64 0, .bool false], some 9, some 10, []⟩, ⟨fun y => ao (fG (y 9)) 35 [.int .i64 (aL.cW B), .int .i64 (aL.cW (B.drop 4)), .int .i64 (B.getD 8 0), .int .i64 (B.getD 9 0), .bool false], some 10, none, []⟩] F V.mixed (by kernel_rfl) rfl (fun _ => .refl _) (cg _ (cg _ (cg _ (cg _ (eh _ rfl (by intro y y2 h; rfl) (eh _ rfl (by intro y y2 h; rfl) (eh _ rfl (by intro y y2 h; rfl) (eh _ rfl (by intro y y2 h; rfl) (eh _ rfl (by intro y y2 h; simp only [h 9 (.inl rfl)]) (eh _ rfl (by intro y y2 h; simp only [h 9 (.inr (by decide))]) gX)))))))))) ?_
  refine nM ?_
  refine nE (fun y FF hA => ld (vs := []) (fs := []) (cs := [.pointer (some ⟨b4, 0, none⟩)]) (Post := [HW bx B (8 * 4) [] 0, ao b4 105 [.pointer (some ⟨bx, 0, none⟩)]]) (CI bx b4 B [] 0 (by omega) hB 0 (by omega)) V.OI rfl rfl (bp .nil) (fun v G h => by rcases h with ⟨rfl, rfl⟩; exact ⟨rfl, .refl _⟩)) ?_
  refine nM ?_
  refine nE (fun y FF hA => ld (vs := []) (fs := []) (cs := [.pointer (some ⟨b4, 0, none⟩)]) (Post := [HW bx B (8 * 8) [] 0, ao b4 105 [.pointer (some ⟨bx, 0, none⟩)]]) (CI bx b4 B [] 0 (by omega) hB 4 (by omega)) V.OI rfl rfl (bp .nil) (fun v G h => by rcases h with ⟨rfl, rfl⟩; exact ⟨rfl, .refl _⟩)) ?_
  refine nR (fun y FF hA => af V.qh rfl an rfl) ?_
  refine nE (fun y FF hA => bM (Post := [HW bx B (8 * 9) [] 0]) (kD bx B (8 * 8) [] 0 8 (by omega) hB (by decide) (by omega)) V.tH rfl (aw .nil) (fun v G h => by rcases h with ⟨rfl, rfl⟩; exact ⟨by rw [aa.m9 (hB.get 8)], .refl _⟩)) ?_
  refine nR (fun y FF hA => af V.qh rfl an rfl) ?_
  refine nE (fun y FF hA => bM (Post := [HW bx B (8 * 10) [] 0]) (kD bx B (8 * 9) [] 0 8 (by omega) hB (by decide) (by omega)) V.tH rfl (aw .nil) (fun v G h => by rcases h with ⟨rfl, rfl⟩; exact ⟨by rw [aa.m9 (hB.get 9)], .refl _⟩)) ?_
  refine nV (fun y hA L => bV V.p9 V.mZ rfl (cs := [.int .i64 (aL.cW B), .int .i64 (aL.cW (B.drop 4)), .int .i64 (B.getD 8 0), .int .i64 (B.getD 9 0), .bool false]) (by kernel_rfl)) ?_
  refine gD (fun y v => .pointer (some ⟨fG v, 0, none⟩)) (fun y v => True) _ _ (fun y v => [ao (fG v) 35 [.int .i64 0, .int .i64 0, .int .i64 0, .int .i64 0, .bool false]]) _ (fun y => rfl) (fun y => rfl) (fun y => rfl) (fun y => rfl) (fun y FF hA => qK (ry V.mZ)) (by intros; rfl) (by intros; rfl) (by intros; rfl) (by intro y y2 h; simp only [h 9 (.inl rfl)]) (by intro y y2 h; rfl) ?_
  refine nE (fun y FF hA => dp (aD V.iW rfl rfl (us := [_, _, _, _, _]) rfl rfl (by exact cZ) (by exact Nat.le_of_ble_eq_true rfl) rfl) ⟨rfl, .refl _⟩) ?_
  refine aX ?_
  intro y hA
  clear hA
  refine bu ?_
  refine cy [(2, .pointer (some ⟨b2, 0, none⟩)), (4, .pointer (some ⟨b4, 0, none⟩)), (6, .pointer (some ⟨(fG (y 9)), 0, none⟩))] (.cons (d := 2) rfl (.cons (d := 4) rfl (.cons (d := 6) rfl (.nil _)))) ?_
  refine bR (M := ao b4 105 [.pointer (some ⟨bx, 0, none⟩)] :: R :: ao b2 35 [.int .i64 0, .int .i64 0, .int .i64 0, .int .i64 0, .bool false] :: HW bx B (8 * 10) [] 0 :: ao (fG (y 9)) 35 [.int .i64 (aL.cW B), .int .i64 (aL.cW (B.drop 4)), .int .i64 (B.getD 8 0), .int .i64 (B.getD 9 0), .bool false] :: F) (fun _ _ h => h) ?_
  generalize (fG (y 9)) = b6
  refine rC ar 1 rfl ?_
  refine wN [pz 0 [] [4], pz 1 [0] [], pz 0 [] [4], pz 7 [2] [], pz 0 [] [4], pz 31 [4] [], pz 63 [1] [], pz 127 [3] [], pz 255 [5] []] [⟨fun y => ao b4 105 [.pointer (some ⟨bx, 0, none⟩)], none, none, [0, 2, 4]⟩, ⟨fun y => R, none, none, []⟩, ⟨fun y => ao b2 35 [.int .i64 0, .int .i64 0, .int .i64 0, .int .i64 0, .bool false], none, none, []⟩, ⟨fun y => HW bx B (8 * 10) [] 0, none, some 1, []⟩, ⟨fun y => ao b6 35 [.int .i64 (aL.cW B), .int .i64 (aL.cW (B.drop 4)), .int .i64 (B.getD 8 0), .int .i64 (B.getD 9 0), .bool false], none, none, []⟩, ⟨fun y => HW bx B (8 * 11) [] 0, some 1, some 3, []⟩, ⟨fun y => HW bx B (8 * 12) [] 0, some 3, some 5, []⟩, ⟨fun y => HW bx B (8 * 13) [] 0, some 5, none, []⟩] F V.mixed ?_
  refine nR (fun y FF hA => af V.qh rfl an rfl) ?_
  refine nE (fun y FF hA => bM (Post := [HW bx B (8 * 11) [] 0]) (kD bx B (8 * 10) [] 0 8 (by omega) hB (by decide) (by omega)) V.tH rfl (aw .nil) (fun v G h => by rcases h with ⟨rfl, rfl⟩; exact ⟨by rw [aa.m9 (hB.get 10)], .refl _⟩)) ?_
  refine nR (fun y FF hA => af V.qh rfl an rfl) ?_
  refine nE (fun y FF hA => bM (Post := [HW bx B (8 * 12) [] 0]) (kD bx B (8 * 11) [] 0 8 (by omega) hB (by decide) (by omega)) V.tH rfl (aw .nil) (fun v G h => by rcases h with ⟨rfl, rfl⟩; exact ⟨by rw [aa.m9 (hB.get 11)], .refl _⟩)) ?_
  refine nR (fun y FF hA => af V.qh rfl an rfl) ?_
  refine nE (fun y FF hA => bM (Post := [HW bx B (8 * 13) [] 0]) (kD bx B (8 * 12) [] 0 8 (by omega) hB (by decide) (by omega)) V.tH rfl (aw .nil) (fun v G h => by rcases h with ⟨rfl, rfl⟩; exact ⟨by rw [aa.m9 (hB.get 12)], .refl _⟩)) ?_
  iterate 3 refine nA ?_
  refine aX ?_
  intro y hA
  clear hA
  refine bu ?_
  refine cy [(2, .pointer (some ⟨b2, 0, none⟩)), (6, .pointer (some ⟨b6, 0, none⟩)), (7, .int .i64 (B.getD 10 0)), (8, .int .i64 (B.getD 11 0)), (9, .int .i64 (B.getD 12 0))] (.cons (d := 2) rfl (.cons (d := 6) rfl (.cons (d := 7) rfl (.cons (d := 8) rfl (.cons (d := 9) rfl (.nil _)))))) ?_
  refine bR (M := ao b4 105 [.pointer (some ⟨bx, 0, none⟩)] :: R :: ao b2 35 [.int .i64 0, .int .i64 0, .int .i64 0, .int .i64 0, .bool false] :: ao b6 35 [.int .i64 (aL.cW B), .int .i64 (aL.cW (B.drop 4)), .int .i64 (B.getD 8 0), .int .i64 (B.getD 9 0), .bool false] :: HW bx B (8 * 13) [] 0 :: F) (fun _ _ h => h) ?_
  refine rC ar 5 rfl ?_
  refine aQ (cn V.s4 rfl rfl rfl (by exact yh) (by exact Nat.le_of_ble_eq_true rfl) rfl) ?_
  refine rO ar 2 rfl ?_
  rcases (aa.Q0 h0) with ⟨_, a1, hs⟩ | ⟨_, a1, a2, hs⟩ | ⟨_, a1, a2, a3, hs⟩ | ⟨_, a1, a2, a3, a4, hs⟩ | ⟨_, a1, a2, a3, a4, a5, hs⟩ | ⟨_, a1, a2, a3, a4, a5, a6, hs⟩ | ⟨_, a1, a2, a3, a4, a5, a6, hs⟩
  ·refine rC ar 4 rfl ?_
   refine oV (af V.s3 rfl eL rfl) ?_
   refine oV (aF V.lD rfl) ?_
   refine oV (af V.s3 rfl eL rfl) ?_
   refine ai (mW (B.getD 9 0) (B.getD 8 0) false (decide_eq_false a1).symm) V.wK  rfl .nil rfl ?_
   rintro _ _ ⟨rfl, rfl⟩
   refine rO ar 26 rfl ?_
   refine oV (bV V.p9 V.mZ rfl (cs := [_, _, _, _, _]) rfl) ?_
   refine aQ (aD V.iW rfl rfl (us := [_, _, _, _, _]) rfl rfl (by exact nm) (by exact Nat.le_of_ble_eq_true rfl) rfl) ?_
   refine rO ar 5 rfl ?_
   exact aj (dY V.iW rfl cx rfl rfl) ⟨by rw [hs, aa.jt hs (by decide)]; rfl, rfl⟩ (sub (.cons aE .nil) mE)
  ·refine rC ar 4 rfl ?_
   refine oV (af V.s3 rfl eL rfl) ?_
   refine oV (aF V.lD rfl) ?_
   refine oV (af V.s3 rfl eL rfl) ?_
   refine ai (mW (B.getD 9 0) (B.getD 8 0) true (decide_eq_true a1).symm) V.wK  rfl .nil rfl ?_
   rintro _ _ ⟨rfl, rfl⟩
   refine cV ar 5 rfl (by omega) ?_
   refine ae rfl ?_
   refine oV (aU (bj rfl rfl) a2) ?_
   refine rO ar 20 rfl ?_
   refine oV (bV V.p9 V.mZ rfl (cs := [_, _, _, _, _]) rfl) ?_
   refine aQ (aD V.iW rfl rfl (us := [_, _, _, _, _]) rfl rfl (by exact nm) (by exact Nat.le_of_ble_eq_true rfl) rfl) ?_
   refine rO ar 5 rfl ?_
   exact aj (dY V.iW rfl cx rfl rfl) ⟨by rw [hs, aa.jt hs (by decide)]; rfl, rfl⟩ (sub (.cons aE .nil) mE)
  ·refine rC ar 4 rfl ?_
   refine oV (af V.s3 rfl eL rfl) ?_
   refine oV (aF V.lD rfl) ?_
   refine oV (af V.s3 rfl eL rfl) ?_
   refine ai (mW (B.getD 9 0) (B.getD 8 0) true (decide_eq_true a1).symm) V.wK  rfl .nil rfl ?_
   rintro _ _ ⟨rfl, rfl⟩
   refine cV ar 5 rfl (by omega) ?_
   refine ae rfl ?_
   refine oV (aA (bj rfl rfl) a2) ?_
   refine rO ar 3 rfl ?_
   refine ae rfl ?_
   refine oV (aU (bj rfl rfl) a3) ?_
   refine rO ar 16 rfl ?_
   refine oV (bV V.p9 V.mZ rfl (cs := [_, _, _, _, _]) rfl) ?_
   refine aQ (aD V.iW rfl rfl (us := [_, _, _, _, _]) rfl rfl (by exact nm) (by exact Nat.le_of_ble_eq_true rfl) rfl) ?_
   refine rO ar 5 rfl ?_
   exact aj (dY V.iW rfl cx rfl rfl) ⟨by rw [hs, aa.jt hs (by decide)]; rfl, rfl⟩ (sub (.cons aE .nil) mE)
  ·refine rC ar 4 rfl ?_
   refine oV (af V.s3 rfl eL rfl) ?_
   refine oV (aF V.lD rfl) ?_
   refine oV (af V.s3 rfl eL rfl) ?_
   refine ai (mW (B.getD 9 0) (B.getD 8 0) true (decide_eq_true a1).symm) V.wK  rfl .nil rfl ?_
   rintro _ _ ⟨rfl, rfl⟩
   refine cV ar 5 rfl (by omega) ?_
   refine ae rfl ?_
   refine oV (aA (bj rfl rfl) a2) ?_
   refine rO ar 3 rfl ?_
   refine ae rfl ?_
   refine oV (aA (bj rfl rfl) a3) ?_
   refine rO ar 3 rfl ?_
   refine ae rfl ?_
   refine oV (af V.s3 rfl eL rfl) ?_
   refine ae rfl ?_
   refine oV (aU (av rfl rfl) a4) ?_
   refine rO ar 11 rfl ?_
   refine oV (bV V.p9 V.mZ rfl (cs := [_, _, _, _, _]) rfl) ?_
   refine aQ (aD V.iW rfl rfl (us := [_, _, _, _, _]) rfl rfl (by exact nm) (by exact Nat.le_of_ble_eq_true rfl) rfl) ?_
   refine rO ar 5 rfl ?_
   exact aj (dY V.iW rfl cx rfl rfl) ⟨by rw [hs, aa.jt hs (by decide)]; rfl, rfl⟩ (sub (.cons aE .nil) mE)
  ·refine rC ar 4 rfl ?_
   refine oV (af V.s3 rfl eL rfl) ?_
   refine oV (aF V.lD rfl) ?_
   refine oV (af V.s3 rfl eL rfl) ?_
   refine ai (mW (B.getD 9 0) (B.getD 8 0) true (decide_eq_true a1).symm) V.wK  rfl .nil rfl ?_
   rintro _ _ ⟨rfl, rfl⟩
   refine cV ar 5 rfl (by omega) ?_
   refine ae rfl ?_
   refine oV (aA (bj rfl rfl) a2) ?_
   refine rO ar 3 rfl ?_
   refine ae rfl ?_
   refine oV (aA (bj rfl rfl) a3) ?_
   refine rO ar 3 rfl ?_
   refine ae rfl ?_
   refine oV (af V.s3 rfl eL rfl) ?_
   refine ae rfl ?_
   refine oV (aA (av rfl rfl) a4) ?_
   refine rO ar 3 rfl ?_
   refine ae rfl ?_
   refine oV (af V.s3 rfl eL rfl) ?_
   refine ae rfl ?_
   refine oV (aU (av rfl rfl) a5) ?_
   refine rO ar 6 rfl ?_
   refine oV (bV V.p9 V.mZ rfl (cs := [_, _, _, _, _]) rfl) ?_
   refine aQ (aD V.iW rfl rfl (us := [_, _, _, _, _]) rfl rfl (by exact nm) (by exact Nat.le_of_ble_eq_true rfl) rfl) ?_
   refine rO ar 5 rfl ?_
   exact aj (dY V.iW rfl cx rfl rfl) ⟨by rw [hs, aa.jt hs (by decide)]; rfl, rfl⟩ (sub (.cons aE .nil) mE)
  ·refine rC ar 4 rfl ?_
   refine oV (af V.s3 rfl eL rfl) ?_
   refine oV (aF V.lD rfl) ?_
   refine oV (af V.s3 rfl eL rfl) ?_
   refine ai (mW (B.getD 9 0) (B.getD 8 0) true (decide_eq_true a1).symm) V.wK  rfl .nil rfl ?_
   rintro _ _ ⟨rfl, rfl⟩
   refine cV ar 5 rfl (by omega) ?_
   refine ae rfl ?_
   refine oV (aA (bj rfl rfl) a2) ?_
   refine rO ar 3 rfl ?_
   refine ae rfl ?_
   refine oV (aA (bj rfl rfl) a3) ?_
   refine rO ar 3 rfl ?_
   refine ae rfl ?_
   refine oV (af V.s3 rfl eL rfl) ?_
   refine ae rfl ?_
   refine oV (aA (av rfl rfl) a4) ?_
   refine rO ar 3 rfl ?_
   refine ae rfl ?_
   refine oV (af V.s3 rfl eL rfl) ?_
   refine ae rfl ?_
   refine oV (aA (av rfl rfl) a5) ?_
   refine rO ar 10 rfl ?_
   refine oV (af V.s3 rfl eL rfl) ?_
   refine oV (aF V.qX rfl) ?_
   refine oV (af V.s3 rfl eL rfl) ?_
   refine ai (mS (aL.cW B) (aL.cW (B.drop 4))) V.wz  rfl .nil rfl ?_
   rintro _ _ ⟨rfl, rfl⟩
   refine oV (aU (bG rfl rfl) a6) ?_
   refine rO ar 5 rfl ?_
   refine oV (bV V.p9 V.mZ rfl (cs := [_, _, _, _, _]) rfl) ?_
   refine aQ (aD V.iW rfl rfl (us := [_, _, _, _, _]) rfl rfl (by exact nm) (by exact Nat.le_of_ble_eq_true rfl) rfl) ?_
   refine rO ar 5 rfl ?_
   exact aj (dY V.iW rfl cx rfl rfl) ⟨by rw [hs, aa.jt hs (by decide)]; rfl, rfl⟩ (sub (.cons aE .nil) mE)
  ·refine rC ar 4 rfl ?_
   refine oV (af V.s3 rfl eL rfl) ?_
   refine oV (aF V.lD rfl) ?_
   refine oV (af V.s3 rfl eL rfl) ?_
   refine ai (mW (B.getD 9 0) (B.getD 8 0) true (decide_eq_true a1).symm) V.wK  rfl .nil rfl ?_
   rintro _ _ ⟨rfl, rfl⟩
   refine cV ar 5 rfl (by omega) ?_
   refine ae rfl ?_
   refine oV (aA (bj rfl rfl) a2) ?_
   refine rO ar 3 rfl ?_
   refine ae rfl ?_
   refine oV (aA (bj rfl rfl) a3) ?_
   refine rO ar 3 rfl ?_
   refine ae rfl ?_
   refine oV (af V.s3 rfl eL rfl) ?_
   refine ae rfl ?_
   refine oV (aA (av rfl rfl) a4) ?_
   refine rO ar 3 rfl ?_
   refine ae rfl ?_
   refine oV (af V.s3 rfl eL rfl) ?_
   refine ae rfl ?_
   refine oV (aA (av rfl rfl) a5) ?_
   refine rO ar 10 rfl ?_
   refine oV (af V.s3 rfl eL rfl) ?_
   refine oV (aF V.qX rfl) ?_
   refine oV (af V.s3 rfl eL rfl) ?_
   refine ai (mS (aL.cW B) (aL.cW (B.drop 4))) V.wz  rfl .nil rfl ?_
   rintro _ _ ⟨rfl, rfl⟩
   refine oV (aA (bG rfl rfl) a6) ?_
   refine rO ar 7 rfl ?_
   refine oV (bX V.iW rfl eL (vs := [_, _, _, _, _]) rfl rfl) ?_
   refine aQ (aD V.iW rfl rfl (us := [_, _, _, _, _]) rfl rfl (by exact nm) (by exact Nat.le_of_ble_eq_true rfl) rfl) ?_
   refine rO ar 4 rfl ?_
   exact aj (dY V.iW rfl cx rfl rfl) ⟨by rw [hs, aa.tv hs]; rfl, rfl⟩ (sub (.cons aE .nil) mE)
set_option maxHeartbeats 4000000 in
theorem zY (p : Option Addr) (c : Nat) (B : List Int) (R : ab) (hR : ∀ w0 h, R w0 h → aS U5 p B.length B w0 h) (hB : ak.az B) : aK Tryz.prog 18 [.slice p B.length c] [R] (aR fun v G => v = .tuple #[HV (aa.BB B), .int .i64 (aa.eY B)] ∧ G = [R]) := by
 refine ax [(0, _)] Tryz.func18 rfl Tryz.ntmps18 rfl rfl ?_
 intro w0 F
 have hb8 := hB.get 8
 have hb9 := hB.get 9
 have hb10 := hB.get 10
 have hb11 := hB.get 11
 have hb12 := hB.get 12
 refine rT ar 2 rfl ?_
 refine cB V.oi rfl ?_
 intro b2
 refine rO ar 3 rfl ?_
 rcases (Classical.em (B.length ≠ 13)) with h0 | h0
 ·refine rC ar 5 rfl ?_
  refine oV (aU (bG rfl rfl) (by omega)) ?_
  refine rO ar 5 rfl ?_
  refine oV (bV V.nL V.oi rfl (cs := [_, _, _, _, _]) rfl) ?_
  refine aQ (aD V.kq rfl rfl (us := [_, _, _, _, _]) rfl rfl (by exact cZ) (by exact Nat.le_of_ble_eq_true rfl) rfl) ?_
  refine rO ar 5 rfl ?_
  exact aj (dY V.kq rfl an rfl rfl) ⟨by rw [aa.sU h0, aa.jt (aa.sU h0) (by decide)]; rfl, rfl⟩ (sub (.cons aE .nil) cG)
 ·refine rC ar 5 rfl ?_
  refine oV (aA (bG rfl rfl) (by omega)) ?_
  refine rO ar 6 rfl ?_
  refine kW [pz 0 [] [0], pz 1 [0] [], pz 0 [] [0], pz 7 [2] [], pz 0 [] [0], pz 16 [4] [], pz 48 [5] [], pz 112 [6] [], pz 0 [] [0], pz 256 [8] [], pz 768 [9] [], pz 1792 [10] [], pz 0 [] [0], pz 4096 [12] [], pz 12288 [13] [], pz 28672 [14] [], pz 65535 [1, 3, 7, 11, 15] [], pz 0 [] [], pz 262143 [17, 16] []] [⟨fun y => ao b2 38 [.int .i64 0, .int .i64 0, .int .i64 0, .int .i64 0, .bool false], none, none, []⟩, ⟨fun y => R, none, none, [1, 3, 5, 6, 9, 10, 13, 14]⟩, ⟨fun y => ao (fG (y 17)) 38 [.int .i64 0, .int .i64 0, .int .i64 0, .int .i64 0, .bool false], some 17, some 18, []⟩, ⟨fun y => ao (fG (y 17)) 38 [.int .i64 (aL.cW B), .int .i64 (aL.cW (B.drop 4)), .int .i64 (B.getD 8 0), .int .i64 (B.getD 9 0), .bool (decide (B.getD 12 0 = 1))], some 18, none, []⟩] F V.mixed (by kernel_rfl) rfl (fun _ => .refl _) (cg _ (cg _ (eh _ rfl (by intro y y2 h; simp only [h 17 (.inl rfl)]) (eh _ rfl (by intro y y2 h; simp only [h 17 (.inr (by decide))]) gX)))) ?_
  refine nM ?_
  refine nE (fun y FF hA => bM (Post := [R]) (Cf p c B R hR hB (by omega) 0 4 (by decide) (by omega)) V.vS rfl (aw .nil) (fun v G h => by rcases h with ⟨rfl, rfl⟩; exact ⟨congrArg (Value.int .i64) (aa.Gh B 0), .refl _⟩)) ?_
  refine nM ?_
  refine nE (fun y FF hA => bM (Post := [R]) (Cf p c B R hR hB (by omega) 4 4 (by decide) (by omega)) V.vS rfl (aw .nil) (fun v G h => by rcases h with ⟨rfl, rfl⟩; exact ⟨congrArg (Value.int .i64) (aa.Gh B 4), .refl _⟩)) ?_
  refine nM ?_
  refine nR (fun y FF hA => xI V.bP (by exact aY hR an)) ?_
  refine nR (fun y FF hA => xL V.s5 (by exact aY hR an)) ?_
  refine nV (fun y hA L => bE V.u5 Tryz.underlying3 rfl (aa.sS hb8)) ?_
  refine nM ?_
  refine nR (fun y FF hA => xI V.bP (by exact aY hR an)) ?_
  refine nR (fun y FF hA => xL V.s5 (by exact aY hR an)) ?_
  refine nV (fun y hA L => bE V.u5 Tryz.underlying3 rfl (aa.sS hb9)) ?_
  refine nM ?_
  refine nR (fun y FF hA => xI V.bP (by exact aY hR an)) ?_
  refine nR (fun y FF hA => xL V.s5 (by exact aY hR an)) ?_
  refine nV (fun y hA L => av rfl rfl) ?_
  refine nV (fun y hA L => bV V.nL V.oi rfl (cs := [.int .i64 (aL.cW B), .int .i64 (aL.cW (B.drop 4)), .int .i64 (B.getD 8 0), .int .i64 (B.getD 9 0), .bool (decide (B.getD 12 0 = 1))]) (by kernel_rfl)) ?_
  refine gD (fun y v => .pointer (some ⟨fG v, 0, none⟩)) (fun y v => True) _ _ (fun y v => [ao (fG v) 38 [.int .i64 0, .int .i64 0, .int .i64 0, .int .i64 0, .bool false]]) _ (fun y => rfl) (fun y => rfl) (fun y => rfl) (fun y => rfl) (fun y FF hA => qK (ry V.oi)) (by intros; rfl) (by intros; rfl) (by intros; rfl) (by intro y y2 h; simp only [h 17 (.inl rfl)]) (by intro y y2 h; rfl) ?_
  refine nE (fun y FF hA => dp (aD V.kq rfl rfl (us := [_, _, _, _, _]) rfl rfl (by exact cZ) (by exact Nat.le_of_ble_eq_true rfl) rfl) ⟨rfl, .refl _⟩) ?_
  refine aX ?_
  intro y hA
  clear hA
  refine bu ?_
  refine cy [(0, .slice p B.length c), (2, .pointer (some ⟨b2, 0, none⟩)), (4, .pointer (some ⟨(fG (y 17)), 0, none⟩))] (.cons (d := 0) rfl (.cons (d := 2) rfl (.cons (d := 4) rfl (.nil _)))) ?_
  refine bR (M := ao b2 38 [.int .i64 0, .int .i64 0, .int .i64 0, .int .i64 0, .bool false] :: R :: ao (fG (y 17)) 38 [.int .i64 (aL.cW B), .int .i64 (aL.cW (B.drop 4)), .int .i64 (B.getD 8 0), .int .i64 (B.getD 9 0), .bool (decide (B.getD 12 0 = 1))] :: F) (fun _ _ h => h) ?_
  generalize (fG (y 17)) = b4
  refine rC ar 3 rfl ?_
  refine oV (af V.s3 rfl cx rfl) ?_
  refine rO ar 10 rfl ?_
  refine lU (fun (t : Bool) => [(0, .slice p B.length c), (2, .pointer (some ⟨b2, 0, none⟩)), (4, .pointer (some ⟨b4, 0, none⟩)), (6, .bool t)]) (fun (t : Bool) => ao b4 38 [.int .i64 (aL.cW B), .int .i64 (aL.cW (B.drop 4)), .int .i64 (B.getD 8 0), .int .i64 (B.getD 9 0), .bool (decide (B.getD 12 0 = 1))] :: ao b2 38 [.int .i64 0, .int .i64 0, .int .i64 0, .int .i64 0, .bool false] :: R :: F) (fun (t : Bool) => t = decide (aa.fX (B.getD 9 0) (B.getD 8 0))) ?_ ?_
  ·rcases (aa.Nf (B.getD 9 0)) with e0 | ⟨e0, e1⟩ | ⟨e0, e1, e2⟩ | ⟨e0, e1, e2, e3⟩ | ⟨e0, e1, e2, e3, e4⟩ | ⟨e0, e1, e2, e3, e4⟩
   ·refine rL ar 3 rfl ?_
    refine oV (af V.s3 rfl cx rfl) ?_
    refine rO ar 5 rfl ?_
    refine oV (aU (av rfl rfl) e0) ?_
    refine rO ar 8 rfl ?_
    refine fD 39 rfl (fun h39 => ?_) (fun h39 => ?_)
    ·refine rO ar 18 rfl ?_
     refine j1 (_) ?_ (eN ln) (sub (.cons bK (bp .nil)) au)
     exact aa.dC (by unfold aa.fX; (repeat' split) <;> omega)
    ·refine rO ar 4 rfl ?_
     refine fD 43 rfl (fun h43 => ?_) (fun h43 => ?_)
     ·refine rO ar 14 rfl ?_
      refine j1 (_) ?_ (eN ln) (sub (.cons bK (bp .nil)) au)
      exact aa.dC (by unfold aa.fX; (repeat' split) <;> omega)
     ·refine rO ar 4 rfl ?_
      refine fD 47 rfl (fun h47 => ?_) (fun h47 => ?_)
      ·refine rO ar 10 rfl ?_
       refine j1 (_) ?_ (eN ln) (sub (.cons bK (bp .nil)) au)
       exact aa.dC (by unfold aa.fX; (repeat' split) <;> omega)
      ·refine rO ar 4 rfl ?_
       refine fD 51 rfl (fun h51 => ?_) (fun h51 => ?_)
       ·refine rO ar 6 rfl ?_
        refine j1 (_) ?_ (eN ln) (sub (.cons bK (bp .nil)) au)
        exact aa.dC (by unfold aa.fX; (repeat' split) <;> omega)
       ·refine rO ar 6 rfl ?_
        refine j1 (_) ?_ (eN ln) (sub (.cons bK (bp .nil)) au)
        exact aa.yF (by unfold aa.fX; (repeat' split) <;> omega)
   ·refine rL ar 3 rfl ?_
    refine oV (af V.s3 rfl cx rfl) ?_
    refine rO ar 5 rfl ?_
    refine oV (aA (av rfl rfl) e0) ?_
    refine rO ar 7 rfl ?_
    refine oV (aU (av rfl rfl) e1) ?_
    refine rO ar 11 rfl ?_
    refine fD 61 rfl (fun h61 => ?_) (fun h61 => ?_)
    ·refine rO ar 6 rfl ?_
     refine j1 (_) ?_ (eN ln) (sub (.cons bK (bp .nil)) au)
     exact aa.dC (by unfold aa.fX; (repeat' split) <;> omega)
    ·refine rO ar 6 rfl ?_
     refine j1 (_) ?_ (eN ln) (sub (.cons bK (bp .nil)) au)
     exact aa.yF (by unfold aa.fX; (repeat' split) <;> omega)
   ·refine rL ar 3 rfl ?_
    refine oV (af V.s3 rfl cx rfl) ?_
    refine rO ar 5 rfl ?_
    refine oV (aA (av rfl rfl) e0) ?_
    refine rO ar 7 rfl ?_
    refine oV (aA (av rfl rfl) e1) ?_
    refine rO ar 6 rfl ?_
    refine oV (aU (av rfl rfl) e2) ?_
    refine rO ar 11 rfl ?_
    refine fD 61 rfl (fun h61 => ?_) (fun h61 => ?_)
    ·refine rO ar 6 rfl ?_
     refine j1 (_) ?_ (eN ln) (sub (.cons bK (bp .nil)) au)
     exact aa.dC (by unfold aa.fX; (repeat' split) <;> omega)
    ·refine rO ar 6 rfl ?_
     refine j1 (_) ?_ (eN ln) (sub (.cons bK (bp .nil)) au)
     exact aa.yF (by unfold aa.fX; (repeat' split) <;> omega)
   ·refine rL ar 3 rfl ?_
    refine oV (af V.s3 rfl cx rfl) ?_
    refine rO ar 5 rfl ?_
    refine oV (aA (av rfl rfl) e0) ?_
    refine rO ar 7 rfl ?_
    refine oV (aA (av rfl rfl) e1) ?_
    refine rO ar 6 rfl ?_
    refine oV (aA (av rfl rfl) e2) ?_
    refine rO ar 5 rfl ?_
    refine oV (aU (av rfl rfl) e3) ?_
    refine rO ar 8 rfl ?_
    refine fD 61 rfl (fun h61 => ?_) (fun h61 => ?_)
    ·refine rO ar 6 rfl ?_
     refine j1 (_) ?_ (eN ln) (sub (.cons bK (bp .nil)) au)
     exact aa.dC (by unfold aa.fX; (repeat' split) <;> omega)
    ·refine rO ar 6 rfl ?_
     refine j1 (_) ?_ (eN ln) (sub (.cons bK (bp .nil)) au)
     exact aa.yF (by unfold aa.fX; (repeat' split) <;> omega)
   ·refine rL ar 3 rfl ?_
    refine oV (af V.s3 rfl cx rfl) ?_
    refine rO ar 5 rfl ?_
    refine oV (aA (av rfl rfl) e0) ?_
    refine rO ar 7 rfl ?_
    refine oV (aA (av rfl rfl) e1) ?_
    refine rO ar 6 rfl ?_
    refine oV (aA (av rfl rfl) e2) ?_
    refine rO ar 5 rfl ?_
    refine oV (aA (av rfl rfl) e3) ?_
    refine rO ar 6 rfl ?_
    refine oV (aU (av rfl rfl) e4) ?_
    refine rO ar 8 rfl ?_
    refine fD 69 rfl (fun h69 => ?_) (fun h69 => ?_)
    ·refine rO ar 14 rfl ?_
     refine j1 (_) ?_ (eN ln) (sub (.cons bK (bp .nil)) au)
     exact aa.dC (by unfold aa.fX; (repeat' split) <;> omega)
    ·refine rO ar 4 rfl ?_
     refine fD 73 rfl (fun h73 => ?_) (fun h73 => ?_)
     ·refine rO ar 10 rfl ?_
      refine j1 (_) ?_ (eN ln) (sub (.cons bK (bp .nil)) au)
      exact aa.dC (by unfold aa.fX; (repeat' split) <;> omega)
     ·refine rO ar 4 rfl ?_
      refine fD 77 rfl (fun h77 => ?_) (fun h77 => ?_)
      ·refine rO ar 6 rfl ?_
       refine j1 (_) ?_ (eN ln) (sub (.cons bK (bp .nil)) au)
       exact aa.dC (by unfold aa.fX; (repeat' split) <;> omega)
      ·refine rO ar 6 rfl ?_
       refine j1 (_) ?_ (eN ln) (sub (.cons bK (bp .nil)) au)
       exact aa.yF (by unfold aa.fX; (repeat' split) <;> omega)
   ·refine rL ar 3 rfl ?_
    refine oV (af V.s3 rfl cx rfl) ?_
    refine rO ar 5 rfl ?_
    refine oV (aA (av rfl rfl) e0) ?_
    refine rO ar 7 rfl ?_
    refine oV (aA (av rfl rfl) e1) ?_
    refine rO ar 6 rfl ?_
    refine oV (aA (av rfl rfl) e2) ?_
    refine rO ar 5 rfl ?_
    refine oV (aA (av rfl rfl) e3) ?_
    refine rO ar 6 rfl ?_
    refine oV (aA (av rfl rfl) e4) ?_
    refine rO ar 6 rfl ?_
    refine j1 (_) ?_ (eN ln) (sub (.cons bK (bp .nil)) au)
    exact aa.yF (by unfold aa.fX; (repeat' split) <;> omega)
  ·intro t
   rintro ht
   rcases (aa.Ql hB h0) with ⟨a1, hs⟩ | ⟨a1, a2, hs⟩ | ⟨a1, a2, a3, hs⟩ | ⟨a1, a2, a3, a4, hs⟩ | ⟨a1, a2, a3, a4, a5, hs⟩ | ⟨a1, a2, a3, a4, a5, a6, hs⟩ | ⟨a1, a2, a3, a4, a5, a6, a7, hs⟩ | ⟨a1, a2, a3, a4, a5, a6, a7, a8, hs, hs2⟩ | ⟨a1, a2, a3, a4, a5, a6, a7, a8, hs⟩
   ·refine rC ar 3 rfl ?_
    obtain rfl : t = false := ht.trans (decide_eq_false a1)
    refine rO ar 41 rfl ?_
    refine oV (bV V.nL V.oi rfl (cs := [_, _, _, _, _]) rfl) ?_
    refine aQ (aD V.kq rfl rfl (us := [_, _, _, _, _]) rfl rfl (by exact jG) (by exact Nat.le_of_ble_eq_true rfl) rfl) ?_
    refine rO ar 5 rfl ?_
    exact aj (dY V.kq rfl bY rfl rfl) ⟨by rw [hs, aa.jt hs (by decide)]; rfl, rfl⟩ (sub (.cons bK .nil) fS)
   ·refine rC ar 3 rfl ?_
    obtain rfl : t = true := ht.trans (decide_eq_true a1)
    refine rO ar 4 rfl ?_
    refine ae rfl ?_
    refine oV (af V.s3 rfl an rfl) ?_
    refine ae rfl ?_
    refine ai (kB (B.getD 9 0)) V.oa  rfl .nil rfl ?_
    rintro _ _ ⟨rfl, rfl⟩
    refine ae rfl ?_
    refine oV (aU (av rfl rfl) a2) ?_
    refine rO ar 34 rfl ?_
    refine oV (bV V.nL V.oi rfl (cs := [_, _, _, _, _]) rfl) ?_
    refine aQ (aD V.kq rfl rfl (us := [_, _, _, _, _]) rfl rfl (by exact jG) (by exact Nat.le_of_ble_eq_true rfl) rfl) ?_
    refine rO ar 5 rfl ?_
    exact aj (dY V.kq rfl bY rfl rfl) ⟨by rw [hs, aa.jt hs (by decide)]; rfl, rfl⟩ (sub (.cons bK .nil) fS)
   ·refine rC ar 3 rfl ?_
    obtain rfl : t = true := ht.trans (decide_eq_true a1)
    refine rO ar 4 rfl ?_
    refine ae rfl ?_
    refine oV (af V.s3 rfl an rfl) ?_
    refine ae rfl ?_
    refine ai (kB (B.getD 9 0)) V.oa  rfl .nil rfl ?_
    rintro _ _ ⟨rfl, rfl⟩
    refine ae rfl ?_
    refine oV (aA (av rfl rfl) a2) ?_
    refine rO ar 3 rfl ?_
    refine ae rfl ?_
    refine oV (xI V.bP (by exact aY hR cx)) ?_
    refine ae rfl ?_
    refine oV (xL V.s5 (by exact aY hR cx)) ?_
    refine ae rfl ?_
    refine oV (aU (bG rfl rfl) a3) ?_
    refine rO ar 28 rfl ?_
    refine oV (bV V.nL V.oi rfl (cs := [_, _, _, _, _]) rfl) ?_
    refine aQ (aD V.kq rfl rfl (us := [_, _, _, _, _]) rfl rfl (by exact jG) (by exact Nat.le_of_ble_eq_true rfl) rfl) ?_
    refine rO ar 5 rfl ?_
    exact aj (dY V.kq rfl bY rfl rfl) ⟨by rw [hs, aa.jt hs (by decide)]; rfl, rfl⟩ (sub (.cons bK .nil) fS)
   ·refine rC ar 3 rfl ?_
    obtain rfl : t = true := ht.trans (decide_eq_true a1)
    refine rO ar 4 rfl ?_
    refine ae rfl ?_
    refine oV (af V.s3 rfl an rfl) ?_
    refine ae rfl ?_
    refine ai (kB (B.getD 9 0)) V.oa  rfl .nil rfl ?_
    rintro _ _ ⟨rfl, rfl⟩
    refine ae rfl ?_
    refine oV (aA (av rfl rfl) a2) ?_
    refine rO ar 3 rfl ?_
    refine ae rfl ?_
    refine oV (xI V.bP (by exact aY hR cx)) ?_
    refine ae rfl ?_
    refine oV (xL V.s5 (by exact aY hR cx)) ?_
    refine ae rfl ?_
    refine oV (aA (bG rfl rfl) a3) ?_
    refine rO ar 3 rfl ?_
    refine ae rfl ?_
    refine oV (xI V.bP (by exact aY hR cx)) ?_
    refine ae rfl ?_
    refine oV (xL V.s5 (by exact aY hR cx)) ?_
    refine ae rfl ?_
    refine oV (aU (bG rfl rfl) a4) ?_
    refine rO ar 22 rfl ?_
    refine oV (bV V.nL V.oi rfl (cs := [_, _, _, _, _]) rfl) ?_
    refine aQ (aD V.kq rfl rfl (us := [_, _, _, _, _]) rfl rfl (by exact jG) (by exact Nat.le_of_ble_eq_true rfl) rfl) ?_
    refine rO ar 5 rfl ?_
    exact aj (dY V.kq rfl bY rfl rfl) ⟨by rw [hs, aa.jt hs (by decide)]; rfl, rfl⟩ (sub (.cons bK .nil) fS)
   ·refine rC ar 3 rfl ?_
    obtain rfl : t = true := ht.trans (decide_eq_true a1)
    refine rO ar 4 rfl ?_
    refine ae rfl ?_
    refine oV (af V.s3 rfl an rfl) ?_
    refine ae rfl ?_
    refine ai (kB (B.getD 9 0)) V.oa  rfl .nil rfl ?_
    rintro _ _ ⟨rfl, rfl⟩
    refine ae rfl ?_
    refine oV (aA (av rfl rfl) a2) ?_
    refine rO ar 3 rfl ?_
    refine ae rfl ?_
    refine oV (xI V.bP (by exact aY hR cx)) ?_
    refine ae rfl ?_
    refine oV (xL V.s5 (by exact aY hR cx)) ?_
    refine ae rfl ?_
    refine oV (aA (bG rfl rfl) a3) ?_
    refine rO ar 3 rfl ?_
    refine ae rfl ?_
    refine oV (xI V.bP (by exact aY hR cx)) ?_
    refine ae rfl ?_
    refine oV (xL V.s5 (by exact aY hR cx)) ?_
    refine ae rfl ?_
    refine oV (aA (bG rfl rfl) a4) ?_
    refine rO ar 3 rfl ?_
    refine ae rfl ?_
    refine oV (xI V.bP (by exact aY hR cx)) ?_
    refine ae rfl ?_
    refine oV (xL V.s5 (by exact aY hR cx)) ?_
    refine ae rfl ?_
    refine oV (aU (bj rfl rfl) a5) ?_
    refine rO ar 16 rfl ?_
    refine oV (bV V.nL V.oi rfl (cs := [_, _, _, _, _]) rfl) ?_
    refine aQ (aD V.kq rfl rfl (us := [_, _, _, _, _]) rfl rfl (by exact jG) (by exact Nat.le_of_ble_eq_true rfl) rfl) ?_
    refine rO ar 5 rfl ?_
    exact aj (dY V.kq rfl bY rfl rfl) ⟨by rw [hs, aa.jt hs (by decide)]; rfl, rfl⟩ (sub (.cons bK .nil) fS)
   ·refine rC ar 3 rfl ?_
    obtain rfl : t = true := ht.trans (decide_eq_true a1)
    refine rO ar 4 rfl ?_
    refine ae rfl ?_
    refine oV (af V.s3 rfl an rfl) ?_
    refine ae rfl ?_
    refine ai (kB (B.getD 9 0)) V.oa  rfl .nil rfl ?_
    rintro _ _ ⟨rfl, rfl⟩
    refine ae rfl ?_
    refine oV (aA (av rfl rfl) a2) ?_
    refine rO ar 3 rfl ?_
    refine ae rfl ?_
    refine oV (xI V.bP (by exact aY hR cx)) ?_
    refine ae rfl ?_
    refine oV (xL V.s5 (by exact aY hR cx)) ?_
    refine ae rfl ?_
    refine oV (aA (bG rfl rfl) a3) ?_
    refine rO ar 3 rfl ?_
    refine ae rfl ?_
    refine oV (xI V.bP (by exact aY hR cx)) ?_
    refine ae rfl ?_
    refine oV (xL V.s5 (by exact aY hR cx)) ?_
    refine ae rfl ?_
    refine oV (aA (bG rfl rfl) a4) ?_
    refine rO ar 3 rfl ?_
    refine ae rfl ?_
    refine oV (xI V.bP (by exact aY hR cx)) ?_
    refine ae rfl ?_
    refine oV (xL V.s5 (by exact aY hR cx)) ?_
    refine ae rfl ?_
    refine oV (aA (bj rfl rfl) a5) ?_
    refine rO ar 3 rfl ?_
    refine ae rfl ?_
    refine oV (af V.s3 rfl an rfl) ?_
    refine ae rfl ?_
    refine oV (aU (av rfl rfl) a6) ?_
    refine rO ar 11 rfl ?_
    refine oV (bV V.nL V.oi rfl (cs := [_, _, _, _, _]) rfl) ?_
    refine aQ (aD V.kq rfl rfl (us := [_, _, _, _, _]) rfl rfl (by exact jG) (by exact Nat.le_of_ble_eq_true rfl) rfl) ?_
    refine rO ar 5 rfl ?_
    exact aj (dY V.kq rfl bY rfl rfl) ⟨by rw [hs, aa.jt hs (by decide)]; rfl, rfl⟩ (sub (.cons bK .nil) fS)
   ·refine rC ar 3 rfl ?_
    obtain rfl : t = true := ht.trans (decide_eq_true a1)
    refine rO ar 4 rfl ?_
    refine ae rfl ?_
    refine oV (af V.s3 rfl an rfl) ?_
    refine ae rfl ?_
    refine ai (kB (B.getD 9 0)) V.oa  rfl .nil rfl ?_
    rintro _ _ ⟨rfl, rfl⟩
    refine ae rfl ?_
    refine oV (aA (av rfl rfl) a2) ?_
    refine rO ar 3 rfl ?_
    refine ae rfl ?_
    refine oV (xI V.bP (by exact aY hR cx)) ?_
    refine ae rfl ?_
    refine oV (xL V.s5 (by exact aY hR cx)) ?_
    refine ae rfl ?_
    refine oV (aA (bG rfl rfl) a3) ?_
    refine rO ar 3 rfl ?_
    refine ae rfl ?_
    refine oV (xI V.bP (by exact aY hR cx)) ?_
    refine ae rfl ?_
    refine oV (xL V.s5 (by exact aY hR cx)) ?_
    refine ae rfl ?_
    refine oV (aA (bG rfl rfl) a4) ?_
    refine rO ar 3 rfl ?_
    refine ae rfl ?_
    refine oV (xI V.bP (by exact aY hR cx)) ?_
    refine ae rfl ?_
    refine oV (xL V.s5 (by exact aY hR cx)) ?_
    refine ae rfl ?_
    refine oV (aA (bj rfl rfl) a5) ?_
    refine rO ar 3 rfl ?_
    refine ae rfl ?_
    refine oV (af V.s3 rfl an rfl) ?_
    refine ae rfl ?_
    refine oV (aA (av rfl rfl) a6) ?_
    refine rO ar 3 rfl ?_
    refine ae rfl ?_
    refine oV (af V.s3 rfl an rfl) ?_
    refine ae rfl ?_
    refine oV (aU (av rfl rfl) a7) ?_
    refine rO ar 6 rfl ?_
    refine oV (bV V.nL V.oi rfl (cs := [_, _, _, _, _]) rfl) ?_
    refine aQ (aD V.kq rfl rfl (us := [_, _, _, _, _]) rfl rfl (by exact jG) (by exact Nat.le_of_ble_eq_true rfl) rfl) ?_
    refine rO ar 5 rfl ?_
    exact aj (dY V.kq rfl bY rfl rfl) ⟨by rw [hs, aa.jt hs (by decide)]; rfl, rfl⟩ (sub (.cons bK .nil) fS)
   ·refine rC ar 3 rfl ?_
    obtain rfl : t = true := ht.trans (decide_eq_true a1)
    refine rO ar 4 rfl ?_
    refine ae rfl ?_
    refine oV (af V.s3 rfl an rfl) ?_
    refine ae rfl ?_
    refine ai (kB (B.getD 9 0)) V.oa  rfl .nil rfl ?_
    rintro _ _ ⟨rfl, rfl⟩
    refine ae rfl ?_
    refine oV (aA (av rfl rfl) a2) ?_
    refine rO ar 3 rfl ?_
    refine ae rfl ?_
    refine oV (xI V.bP (by exact aY hR cx)) ?_
    refine ae rfl ?_
    refine oV (xL V.s5 (by exact aY hR cx)) ?_
    refine ae rfl ?_
    refine oV (aA (bG rfl rfl) a3) ?_
    refine rO ar 3 rfl ?_
    refine ae rfl ?_
    refine oV (xI V.bP (by exact aY hR cx)) ?_
    refine ae rfl ?_
    refine oV (xL V.s5 (by exact aY hR cx)) ?_
    refine ae rfl ?_
    refine oV (aA (bG rfl rfl) a4) ?_
    refine rO ar 3 rfl ?_
    refine ae rfl ?_
    refine oV (xI V.bP (by exact aY hR cx)) ?_
    refine ae rfl ?_
    refine oV (xL V.s5 (by exact aY hR cx)) ?_
    refine ae rfl ?_
    refine oV (aA (bj rfl rfl) a5) ?_
    refine rO ar 3 rfl ?_
    refine ae rfl ?_
    refine oV (af V.s3 rfl an rfl) ?_
    refine ae rfl ?_
    refine oV (aA (av rfl rfl) a6) ?_
    refine rO ar 3 rfl ?_
    refine ae rfl ?_
    refine oV (af V.s3 rfl an rfl) ?_
    refine ae rfl ?_
    refine oV (aA (av rfl rfl) a7) ?_
    refine rO ar 9 rfl ?_
    refine oV (af V.s3 rfl an rfl) ?_
    refine oV (aF V.Av rfl) ?_
    refine oV (af V.s3 rfl an rfl) ?_
    refine ai (qb (aL.cW B) (aL.cW (B.drop 4))) V.AX  rfl .nil rfl ?_
    rintro _ _ ⟨rfl, rfl⟩
    refine rO ar 7 rfl ?_
    refine oV (aU (bG rfl rfl) a8) ?_
    refine rO ar 5 rfl ?_
    refine oV (bV V.nL V.oi rfl (cs := [_, _, _, _, _]) rfl) ?_
    refine oV (aG rfl) ?_
    refine aQ (aD V.kq rfl rfl (us := [_, _, _, _, _]) rfl rfl (by exact jG) (by exact Nat.le_of_ble_eq_true rfl) rfl) ?_
    refine rO ar 5 rfl ?_
    exact aj (dY V.kq rfl bY rfl rfl) ⟨by rw [hs, aa.jt rfl hs2]; rfl, rfl⟩ (sub (.cons bK .nil) fS)
   ·refine rC ar 3 rfl ?_
    obtain rfl : t = true := ht.trans (decide_eq_true a1)
    refine rO ar 4 rfl ?_
    refine ae rfl ?_
    refine oV (af V.s3 rfl an rfl) ?_
    refine ae rfl ?_
    refine ai (kB (B.getD 9 0)) V.oa  rfl .nil rfl ?_
    rintro _ _ ⟨rfl, rfl⟩
    refine ae rfl ?_
    refine oV (aA (av rfl rfl) a2) ?_
    refine rO ar 3 rfl ?_
    refine ae rfl ?_
    refine oV (xI V.bP (by exact aY hR cx)) ?_
    refine ae rfl ?_
    refine oV (xL V.s5 (by exact aY hR cx)) ?_
    refine ae rfl ?_
    refine oV (aA (bG rfl rfl) a3) ?_
    refine rO ar 3 rfl ?_
    refine ae rfl ?_
    refine oV (xI V.bP (by exact aY hR cx)) ?_
    refine ae rfl ?_
    refine oV (xL V.s5 (by exact aY hR cx)) ?_
    refine ae rfl ?_
    refine oV (aA (bG rfl rfl) a4) ?_
    refine rO ar 3 rfl ?_
    refine ae rfl ?_
    refine oV (xI V.bP (by exact aY hR cx)) ?_
    refine ae rfl ?_
    refine oV (xL V.s5 (by exact aY hR cx)) ?_
    refine ae rfl ?_
    refine oV (aA (bj rfl rfl) a5) ?_
    refine rO ar 3 rfl ?_
    refine ae rfl ?_
    refine oV (af V.s3 rfl an rfl) ?_
    refine ae rfl ?_
    refine oV (aA (av rfl rfl) a6) ?_
    refine rO ar 3 rfl ?_
    refine ae rfl ?_
    refine oV (af V.s3 rfl an rfl) ?_
    refine ae rfl ?_
    refine oV (aA (av rfl rfl) a7) ?_
    refine rO ar 9 rfl ?_
    refine oV (af V.s3 rfl an rfl) ?_
    refine oV (aF V.Av rfl) ?_
    refine oV (af V.s3 rfl an rfl) ?_
    refine ai (qb (aL.cW B) (aL.cW (B.drop 4))) V.AX  rfl .nil rfl ?_
    rintro _ _ ⟨rfl, rfl⟩
    refine rO ar 7 rfl ?_
    refine oV (aA (bG rfl rfl) a8) ?_
    refine rO ar 7 rfl ?_
    refine oV (bX V.kq rfl an (vs := [_, _, _, _, _]) rfl rfl) ?_
    refine aQ (aD V.kq rfl rfl (us := [_, _, _, _, _]) rfl rfl (by exact jG) (by exact Nat.le_of_ble_eq_true rfl) rfl) ?_
    refine rO ar 4 rfl ?_
    exact aj (dY V.kq rfl bY rfl rfl) ⟨by rw [hs, aa.tv hs]; rfl, rfl⟩ (sub (.cons bK .nil) fS)
end Go.Proofs.YtmaiakpjgomnpaaGreat
namespace Go.Proofs.YtmaiakpjgomnpaaGreat
open Go.Sl
theorem V.yr : gZ Tryz.prog 90 = some 9 := by kernel_rfl
theorem V.iH : bW Tryz.prog 90 0 = some 0 := by kernel_rfl
theorem V.M0 : bW Tryz.prog 90 1 = some 5 := by kernel_rfl
theorem V.tN : bW Tryz.prog 90 2 = some 6 := by kernel_rfl
theorem V.ML : bW Tryz.prog 90 3 = some 7 := by kernel_rfl
theorem V.FK : bW Tryz.prog 90 4 = some 8 := by kernel_rfl
theorem V.Gj : dH Tryz.prog 90 = some ([.int .i64 0, .int .i64 0, .int .i64 0, .int .i64 0, .bool false, .slice none 0 0, .slice none 0 0, .slice none 0 0, .slice none 0 0]) := by kernel_rfl
end Go.Proofs.YtmaiakpjgomnpaaGreat

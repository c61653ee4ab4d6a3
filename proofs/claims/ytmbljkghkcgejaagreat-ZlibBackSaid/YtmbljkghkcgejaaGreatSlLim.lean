/- Walks of functions that the law reaches, and what they lean on; no conditions. -/
import Derived.Test.YtmbljkghkcgejaaGreatSlOpen
set_option linter.unusedVariables false
set_option linter.unusedSimpArgs false
set_option maxRecDepth 100000
namespace Go.Sl
def Td.uS : (d : Td) → d.Ty → Prop
 | .sl _ e, x => x.cap ≤ 140737488351232 ∧ ∀ y ∈ x.l, e.uS y
 | .st d, x => d.uS x
 | .seq a b, x => a.uS x.1 ∧ b.uS x.2
 | .arr _ _ e, x => True
 | .int _, _ => True
 | .bool, _ => True
 | .flt _, _ => True
 | .str, _ => True
 | .unit, _ => True
def Td.tg (P : Program) : Td → Bool
 | .sl T e => Nat.ble 1 (P.bytesOf T) && e.tg P
 | .st d => d.tg P
 | .seq a b => a.tg P && b.tg P
 | _ => true
section
variable {H : Type} {enc : TypeId × Value → H} {P : Program} {w : World} {held : Bool}
theorem ox {e : TypeId} : ∀ {l : List (DataW H)} {d : DataW H}, d ∈ l → (DataW.weightsAll P e l).all (· ≤ reachBytes) = true → (d.weights P e).all (· ≤ reachBytes) = true
 | x :: l, d, hd, h => by
  simp only [DataW.weightsAll, List.all_append, Bool.and_eq_true] at h
  rcases List.mem_cons.1 hd with rfl | hd
  ·exact h.1
  ·exact ox hd h.2
theorem lk : ∀ {ts : List TypeId} {l : List (DataW H)} {i : Nat} {t : TypeId} {d : DataW H}, ts[i]? = some t → l[i]? = some d → (DataW.weightsEach P ts l).all (· ≤ reachBytes) = true → (d.weights P t).all (· ≤ reachBytes) = true
 | [], _, i, _, _, h, _, _ => by simp at h
 | _ :: _, [], i, _, _, _, h, _ => by simp at h
 | t :: ts, x :: l, i, t', d, h1, h2, h => by
  simp only [DataW.weightsEach, List.all_append, Bool.and_eq_true] at h
  cases i with
  | zero => simp at h1 h2; subst h1; subst h2; exact h.1
  | succ i => exact lk (by simpa using h1) (by simpa using h2) h.2
theorem Td.ns : ∀ (d : Td), (∀ t, d.fits P (.inl t) = true → d.tg P = true → ∀ (fuel : Nat) (y : d.Ty) (x : DataW H × List MemPlace), DataW.trod enc P w 0 (fun _ => true) held fuel t (d.cells y) = some x → d.Holds w y → (x.1.weights P t).all (· ≤ reachBytes) = true → d.uS y) ∧
  (∀ fs o, d.fits P (.inr (fs, o)) = true → d.tg P = true → ∀ (fuel : Nat) (cs : List Value) (y : d.Ty), cs.drop o = d.cells y → d.Holds w y → (∀ (i : Nat) (f : Field), fs[i]? = some f → ∃ x, DataW.trod enc P w 0 (fun _ => true) held fuel f.type ((cs.drop f.offset).take (P.cellsOf f.type)) = some x ∧ (x.1.weights P f.type).all (· ≤ reachBytes) = true) → d.uS y)
 | .int k => ⟨fun _ _ _ _ _ _ _ _ _ => trivial, fun _ _ _ _ _ _ _ _ _ _ => trivial⟩
 | .bool => ⟨fun _ _ _ _ _ _ _ _ _ => trivial, fun _ _ _ _ _ _ _ _ _ _ => trivial⟩
 | .flt k => ⟨fun _ _ _ _ _ _ _ _ _ => trivial, fun _ _ _ _ _ _ _ _ _ _ => trivial⟩
 | .str => ⟨fun _ _ _ _ _ _ _ _ _ => trivial, fun _ _ _ _ _ _ _ _ _ _ => trivial⟩
 | .unit => ⟨fun _ _ _ _ _ _ _ _ _ => trivial, fun _ _ _ _ _ _ _ _ _ _ => trivial⟩
 | .arr _ _ _ => ⟨fun _ _ _ _ _ _ _ _ _ => trivial, fun _ _ _ _ _ _ _ _ _ _ => trivial⟩
 | .sl T e => ⟨fun t hf hb fuel y x h hy hw => by
   simp only [Td.fits] at hf
   split at hf
   ·rename_i T' hk
    simp only [Bool.and_eq_true] at hf
    obtain ⟨⟨⟨h1, h2⟩, h3⟩, h4⟩ := hf
    obtain rfl := Nat.eq_of_beq_eq_true h1
    have h3 := Nat.eq_of_beq_eq_true h3
    simp only [Td.tg, Bool.and_eq_true] at hb
    have hb1 := Nat.le_of_ble_eq_true hb.1
    rcases DataW.trod_slice hk h with ⟨hc, _⟩ | ⟨a, len, cap, elems, rest, n, _, hc, hx, _, hlc, hcm, hel, hgo, hsp, _⟩
    ·have hc2 : [Value.slice y.p y.l.length y.cap] = [.slice none 0 0] := hc
     injection hc2 with hc3 _
     injection hc3 with _ e2 e3
     refine ⟨by omega, fun z hz => ?_⟩
     have := List.length_eq_zero_iff.1 e2
     rw [this] at hz
     cases hz
    ·have hc2 : [Value.slice y.p y.l.length y.cap] = [.slice (some a) len cap] := hc
     injection hc2 with hc3 _
     injection hc3 with e1 e2 e3
     have hrest := (hsp rfl).1
     rw [hx] at hw
     simp only [DataW.weights, hk, List.all_cons, List.all_append, Bool.and_eq_true, List.length_map, decide_eq_true_eq] at hw
     obtain ⟨hw1, hw2, hw3⟩ := hw
     have hcap : y.cap ≤ 140737488351232 := by
      have e4 : elems.length + rest.length = y.cap := by omega
      rw [e4] at hw1
      have e5 : reachBytes = 140737488351232 := rfl
      have := Nat.mul_le_mul_left y.cap hb1
      omega
     refine ⟨hcap, fun z hz => ?_⟩
     obtain ⟨i, hi, rfl⟩ := List.getElem_of_mem hz
     have h5 := hgo i (by omega)
     have h6 : elems[i]? = some elems[i] := List.getElem?_eq_getElem (by omega)
     rw [h6, Option.bind_eq_some_iff] at h5
     obtain ⟨cs', h7, h8⟩ := h5
     obtain ⟨hl9, h9⟩ := vc h7
     have hr := hy.2.1
     obtain ⟨_, hr2⟩ := hr.2
     rcases hr2 with hr2 | ⟨b, o, hp, hr2⟩
     ·omega
     ·have hcs : cs' = e.cells y.l[i] := by
       refine List.ext_getElem? fun j => ?_
       by_cases hj : j < e.size
       ·rw [← h9 j (by omega)]
        have hg : (y.l.flatMap e.cells)[i * e.size + j]? = (e.cells y.l[i])[j]? := nh (Td.ec T' e) y.l i j hi hj
        have hlen : j < (e.cells y.l[i]).length := by rw [Td.fE]; exact hj
        rw [List.getElem?_eq_getElem hlen] at hg ⊢
        have h10 := hr2 _ _ hg
        have ha : a = ⟨b, o, none⟩ := by rw [hp] at e1; exact (Option.some.inj e1).symm
        subst ha
        rw [Addr.add_add, h3, Addr.hJ]
        simp only [pA] at h10
        split at h10
        ·exact h10
        ·cases h10
       ·rw [List.getElem?_eq_none (by omega), List.getElem?_eq_none (by rw [Td.fE]; omega)]
      subst hcs
      exact (Td.ns e).1 T' h2 hb.2 n y.l[i] _ h8 (hy.2.2 _ (List.getElem_mem hi)) (ox (List.mem_map.2 ⟨_, List.getElem_mem (by omega), rfl⟩) hw2)
   ·exact absurd hf Bool.false_ne_true, fun fs o hf => by simp [Td.fits] at hf⟩
 | .st d => ⟨fun t hf hb fuel y x h hy hw => by
   simp only [Td.fits] at hf
   split at hf
   ·rename_i fs hk
    simp only [Bool.and_eq_true] at hf
    obtain ⟨xs, n, _, hx, h3, h4, h5⟩ := DataW.trod_struct hk h
    rw [hx] at hw
    simp only [DataW.weights, hk] at hw
    exact (Td.ns d).2 fs.toList 0 hf.1 hb n (d.cells y) y (by rw [List.drop_zero]) hy (fun i f hi => by
     have hi' : fs[i]? = some f := by simpa using hi
     have h6 := h5 i f hi'
     have hlt := (Array.getElem?_eq_some_iff.1 hi').1
     have h7 : xs[i]? = some (xs[i]'(by omega)) := List.getElem?_eq_getElem (by omega)
     exact ⟨_, h6.trans h7, lk (i := i) (by simpa using ⟨f, hi', rfl⟩) (by rw [List.getElem?_map, h7]; rfl) hw⟩)
   ·exact absurd hf Bool.false_ne_true, fun fs o hf => by simp [Td.fits] at hf⟩
 | .seq a b => ⟨fun t hf => by simp [Td.fits] at hf, fun fs o hf hb fuel cs y hl hy h => by
   cases fs with
   | nil => simp [Td.fits] at hf
   | cons f fs =>
    simp only [Td.fits, Bool.and_eq_true] at hf
    obtain ⟨⟨⟨h1, h2⟩, h3⟩, h4⟩ := hf
    have h1 := Nat.eq_of_beq_eq_true h1
    have h3 := Nat.eq_of_beq_eq_true h3
    simp only [Td.tg, Bool.and_eq_true] at hb
    obtain ⟨x, hx, hxw⟩ := h 0 f rfl
    rw [h1, h3] at hx
    have hl2 : cs.drop o = a.cells y.1 ++ b.cells y.2 := hl
    have e1 : (cs.drop o).take a.size = a.cells y.1 := by rw [hl2, List.take_append_of_le_length (by rw [Td.fE]; omega), List.take_of_length_le (by rw [Td.fE]; omega)]
    have e2 : cs.drop (o + a.size) = b.cells y.2 := by
     rw [← List.drop_drop, hl2, List.drop_append_of_le_length (by rw [Td.fE]; omega), List.drop_of_length_le (by rw [Td.fE]; omega), List.nil_append]
    rw [e1] at hx
    exact ⟨(Td.ns a).1 _ h2 hb.1 fuel y.1 x hx hy.1 hxw, (Td.ns b).2 fs (o + a.size) h4 hb.2 fuel cs y.2 e2 hy.2 (fun i g hi => h (i + 1) g (by simpa using hi))⟩⟩
theorem Td.lim (d : Td) {t : TypeId} {y : d.Ty} {r : DataW H} {p : List MemPlace} (hf : d.fits P (.inl t) = true) (hb : d.tg P = true) (h : ∃ fuel, DataW.trod enc P w 0 (fun _ => true) held fuel t (d.val y).cells.toList = some (r, p)) (hc : (d.val y).cells.toList = d.cells y) (hy : d.Holds w y) (hw : (r.weights P t).all (· ≤ reachBytes) = true) : d.uS y := by
 obtain ⟨fuel, h⟩ := h
 rw [hc] at h
 exact (Td.ns d).1 t hf hb fuel y _ h hy hw
end
end Go.Sl

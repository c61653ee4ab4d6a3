/- Walks of functions that the law reaches, and what they lean on; no conditions. -/
import Derived.Test.YtookicfejdbddaaGreatM4
import Derived.KernelRfl
set_option linter.unusedVariables false
set_option linter.unusedSimpArgs false
set_option linter.unnecessarySimpa false
set_option maxRecDepth 100000
namespace Go.StoreP
open Go.Sl
structure It where
  h : Int
  c : Int
  d : Int
  j : Option Addr
  late : Bool
  can : Bool
  dn : Bool
def It.nil : It := ⟨0, 0, 0, none, false, false, false⟩
def enc (x : It) : List Value := [.int .i64 x.h, .int .i64 x.c, .int .i64 x.d, .pointer x.j, .bool x.late, .bool x.can]
def idx {α : Type} (l : List α) (p : α → Bool) : Int := match l.findIdx? p with | some i => i | none => -1
theorem idx_no {α : Type} {l : List α} {p : α → Bool} (h : ∀ j (hj : j < l.length), p l[j] = false) : idx l p = -1 := by
  unfold idx
  rw [List.findIdx?_eq_none_iff.2]
  intro x hx
  obtain ⟨j, hj, rfl⟩ := List.getElem_of_mem hx
  exact h j hj
theorem idx_yes {α : Type} {l : List α} {p : α → Bool} {k : Nat} (hk : k < l.length) (hp : p l[k] = true) (h : ∀ j (hj : j < k), p (l[j]'(by omega)) = false) : idx l p = k := by
  unfold idx
  have : l.findIdx? p = some k := by
    rw [List.findIdx?_eq_some_iff_getElem]
    exact ⟨hk, hp, fun j hj => by simp [h j hj]⟩
  rw [this]
def isH (h : Int) (x : It) : Bool := decide (x.h = h)
def low : List Int := [10, 122, 14, 108, 18, 1, 22, 1, 26, 2097153, 30, 3, 54, 255, 58, 65280, 62, 16711680, 66, 4278190080]
def at_ (m : Nat) : Nat := (low.getD (2 * (m / 4)) 0).toNat + m % 4
def by_ (m : Nat) : Int := low.getD (2 * (m / 4) + 1) 0 / 2 ^ (8 * (m % 4)) % 256
def headK : Nat → List Int
  | 0 => [66, 77] ++ List.replicate 120 0
  | m + 1 => (headK m).set (at_ m) (by_ m)
def head : List Int := [66, 77, 0, 0, 0, 0, 0, 0, 0, 0, 122, 0, 0, 0, 108, 0, 0, 0, 1, 0, 0, 0, 1, 0, 0, 0, 1, 0, 32, 0, 3, 0, 0, 0, 0, 0, 0, 0, 0, 0, 0, 0, 0, 0, 0, 0, 0, 0, 0, 0, 0, 0, 0, 0, 255, 0, 0, 0, 0, 255, 0, 0, 0, 0, 255, 0, 0, 0, 0, 255, 0, 0, 0, 0, 0, 0, 0, 0, 0, 0, 0, 0, 0, 0, 0, 0, 0, 0, 0, 0, 0, 0, 0, 0, 0, 0, 0, 0, 0, 0, 0, 0, 0, 0, 0, 0, 0, 0, 0, 0, 0, 0, 0, 0, 0, 0, 0, 0, 0, 0, 0, 0]
def bmp1 : List Int := [66, 77, 0, 0, 0, 0, 0, 0, 0, 0, 122, 0, 0, 0, 108, 0, 0, 0, 1, 0, 0, 0, 1, 0, 0, 0, 1, 0, 32, 0, 3, 0, 0, 0, 0, 0, 0, 0, 0, 0, 0, 0, 0, 0, 0, 0, 0, 0, 0, 0, 0, 0, 0, 0, 255, 0, 0, 0, 0, 255, 0, 0, 0, 0, 255, 0, 0, 0, 0, 255, 0, 0, 0, 0, 0, 0, 0, 0, 0, 0, 0, 0, 0, 0, 0, 0, 0, 0, 0, 0, 0, 0, 0, 0, 0, 0, 0, 0, 0, 0, 0, 0, 0, 0, 0, 0, 0, 0, 0, 0, 0, 0, 0, 0, 0, 0, 0, 0, 0, 0, 0, 0, 1, 0, 0, 255]
def pix : List Int := [257, 0, 0, 65535]
def pixo : List Int := [1, 0, 0, 255]
end Go.StoreP
namespace Go.StoreP
open Go.Sl
def ov (x : It) : Bool := x.late || x.can || x.dn
def due (now : Int) (x : It) : Bool := !ov x && (decide (1 ≤ x.d) && decide (x.d ≤ now))
def mark (now : Int) (x : It) : It := if due now x then { x with late := true } else x
def kd (K : List Int) (x : It) : Int := K.getD (x.h - 1).toNat 0 % 4
def fin (K : List Int) (x : It) : Option It :=
  if kd K x = 0 then none else if kd K x = 1 then some { x with can := true } else if kd K x = 2 then some { x with dn := true } else some x
structure Ini1 (K : List Int) (i : Nat) (x : It) : Prop where
  h : x.h = (i : Int) + 1
  j : ∃ a : Addr, x.j = some a
  d : x.d = 1 + K.getD i 0 / 16
  late : x.late = false
  can : x.can = false
  dn : x.dn = false
def Ini (K : List Int) (l : List It) : Prop := ∀ i (hi : i < l.length), Ini1 K i l[i]
def mid (K : List Int) (l : List It) (k : Nat) : List It := l.take k ++ (l.drop k).filterMap (fin K)
theorem Ini.nil (K : List Int) : Ini K [] := fun i hi => absurd hi (Nat.not_lt_zero _)
theorem Ini.snoc {K : List Int} {l : List It} {x : It} (h : Ini K l) (hx : Ini1 K l.length x) : Ini K (l ++ [x]) := fun i hi => by
  rw [List.length_append, List.length_singleton] at hi
  rcases Nat.lt_or_ge i l.length with h1 | h1
  · rw [List.getElem_append_left h1]; exact h i h1
  · rw [List.getElem_append_right h1]
    have e : i = l.length := by omega
    subst e
    simpa using hx
theorem Ini.kd {K : List Int} {l : List It} (h : Ini K l) {i : Nat} (hi : i < l.length) : StoreP.kd K l[i] = K.getD i 0 % 4 := by
  unfold StoreP.kd
  rw [(h i hi).h, show ((i : Int) + 1 - 1).toNat = i from by omega]
variable {K : List Int} {l : List It} {k : Nat}
theorem mid_all (K : List Int) (l : List It) : mid K l l.length = l := by unfold mid; simp
theorem mid_zero (K : List Int) (l : List It) : mid K l 0 = l.filterMap (fin K) := by unfold mid; simp
theorem mid_len (K : List Int) (l : List It) (k : Nat) : (mid K l k).length ≤ l.length := by
  unfold mid
  have := List.length_filterMap_le (fin K) (l.drop k)
  rw [List.length_append, List.length_take]
  rw [List.length_drop] at this
  omega
theorem mid_lt (hk : k < l.length) : k < (mid K l (k + 1)).length := by
  unfold mid
  rw [List.length_append, List.length_take]
  omega
theorem mid_get {i : Nat} (hi : i < k) (hk : k ≤ l.length) (h : i < (mid K l k).length) : (mid K l k)[i] = l[i]'(by omega) := by
  have e : (mid K l k)[i]? = l[i]? := by
    unfold mid
    rw [List.getElem?_append_left (by rw [List.length_take]; omega), List.getElem?_take, if_pos hi]
  rw [List.getElem?_eq_getElem h, List.getElem?_eq_getElem (by omega)] at e
  exact Option.some.inj e
theorem mid_idx (hI : Ini K l) (hk : k < l.length) : idx (mid K l (k + 1)) (isH ((k : Int) + 1)) = k := by
  refine idx_yes (mid_lt hk) ?_ (fun j hj => ?_)
  · rw [mid_get (by omega) (by omega) _]
    simp [isH, (hI k hk).h]
  · have := mid_lt (K := K) hk
    rw [mid_get (by omega) (by omega) (by omega)]
    simp only [isH, (hI j (by omega)).h, decide_eq_false_iff_not]
    omega
theorem mid_step (K : List Int) (hk : k < l.length) : mid K l k = l.take k ++ ((fin K l[k]).toList ++ (l.drop (k + 1)).filterMap (fin K)) ∧ mid K l (k + 1) = l.take k ++ (l[k] :: (l.drop (k + 1)).filterMap (fin K)) := by
  constructor
  · unfold mid
    rw [List.drop_eq_getElem_cons hk, List.filterMap_cons]
    cases fin K l[k] <;> simp
  · unfold mid
    rw [List.take_add_one, List.getElem?_eq_getElem hk, List.append_assoc]
    rfl
theorem tk_len (hk : k < l.length) : (l.take k).length = k := by rw [List.length_take]; omega
theorem mid_drop (hk : k < l.length) (h : kd K l[k] = 0) : (mid K l (k + 1)).eraseIdx k = mid K l k := by
  obtain ⟨h1, h2⟩ := mid_step K hk
  rw [h1, h2, List.eraseIdx_append_of_length_le (by rw [tk_len hk]; omega), tk_len hk]
  unfold fin
  rw [if_pos h]
  simp
theorem mid_set (hk : k < l.length) {x : It} (h : fin K l[k] = some x) : (mid K l (k + 1)).set k x = mid K l k := by
  obtain ⟨h1, h2⟩ := mid_step K hk
  rw [h1, h2, h]
  have e := tk_len hk
  rw [List.set_append, if_neg (by omega), e]
  simp
theorem mid_can (hk : k < l.length) (h : kd K l[k] = 1) : (mid K l (k + 1)).set k { l[k] with can := true } = mid K l k := mid_set hk (by unfold fin; rw [if_neg (by omega), if_pos h])
theorem mid_dn (hk : k < l.length) (h : kd K l[k] = 2) : (mid K l (k + 1)).set k { l[k] with dn := true } = mid K l k := mid_set hk (by unfold fin; rw [if_neg (by omega), if_neg (by omega), if_pos h])
theorem mid_is (hk : k < l.length) (h0 : kd K l[k] ≠ 0) (h1 : kd K l[k] ≠ 1) (h2 : kd K l[k] ≠ 2) : mid K l (k + 1) = mid K l k := by
  have h := mid_set hk (K := K) (x := l[k]) (by unfold fin; rw [if_neg h0, if_neg h1, if_neg h2])
  rw [← h]
  have h3 := mid_lt (K := K) hk
  conv => lhs; rw [← List.set_getElem_self h3]
  rw [mid_get (by omega) (by omega) _]
def lateQ (K : List Int) (now : Int) (x : It) : Bool := decide (kd K x = 3) && decide (x.d ≤ now)
def firstQ (K : List Int) (now : Int) (x : It) : Bool := decide (kd K x = 3) && !decide (x.d ≤ now)
def cnt (K : List Int) (now : Int) (l : List It) : Nat := (l.filter (lateQ K now)).length
def fst (K : List Int) (now : Int) (l : List It) : Int := match l.find? (firstQ K now) with | some x => x.h | none => 0
structure Fresh (x : It) : Prop where
  d : 1 ≤ x.d
  late : x.late = false
  can : x.can = false
  dn : x.dn = false
theorem kd_or (hK : ∀ x ∈ K, 0 ≤ x) (x : It) : kd K x = 0 ∨ kd K x = 1 ∨ kd K x = 2 ∨ kd K x = 3 := by
  unfold kd
  omega
theorem fin_due (hK : ∀ x ∈ K, 0 ≤ x) (now : Int) {x : It} (h : Fresh x) : (match fin K x with | none => False | some y => due now y = true) ↔ lateQ K now x = true := by
  obtain ⟨h1, h2, h3, h4⟩ := h
  unfold fin lateQ
  rcases kd_or hK x with e | e | e | e <;> simp [e, due, ov, h1, h2, h3, h4]
theorem fin_first (hK : ∀ x ∈ K, 0 ≤ x) (now : Int) {x : It} (h : Fresh x) : (match fin K x with | none => False | some y => ov (mark now y) = false) ↔ firstQ K now x = true := by
  obtain ⟨h1, h2, h3, h4⟩ := h
  unfold fin firstQ
  rcases kd_or hK x with e | e | e | e
  · simp [e]
  · simp [e, mark, due, ov, h2, h3, h4]
  · simp [e, mark, due, ov, h2, h3, h4]
  · simp only [e]
    by_cases hn : x.d ≤ now <;> simp [mark, due, ov, h1, h2, h3, h4, hn]
theorem fin_h {x y : It} (h : fin K x = some y) : y.h = x.h := by
  unfold fin at h
  split at h
  · cases h
  · split at h
    · cases h; rfl
    · split at h <;> (cases h; rfl)
theorem mark_h (now : Int) (x : It) : (mark now x).h = x.h := by unfold mark; split <;> rfl
theorem late_all (hK : ∀ x ∈ K, 0 ≤ x) (now : Int) : ∀ {l : List It}, (∀ x ∈ l, Fresh x) → ((l.filterMap (fin K)).filter (due now)).length = cnt K now l
  | [], _ => rfl
  | x :: l, h => by
    have ih := late_all hK now (l := l) (fun y hy => h y (List.mem_cons_of_mem _ hy))
    have hx := fin_due hK now (h x List.mem_cons_self)
    unfold cnt at ih ⊢
    rw [List.filterMap_cons]
    cases hf : fin K x with
    | none =>
      rw [hf] at hx
      have : ¬ lateQ K now x = true := fun e => hx.2 e
      rw [List.filter_cons_of_neg this]
      exact ih
    | some y =>
      rw [hf] at hx
      have hx : due now y = true ↔ lateQ K now x = true := hx
      by_cases hd : due now y = true
      · rw [List.filter_cons_of_pos hd, List.filter_cons_of_pos (hx.1 hd), List.length_cons, List.length_cons, ih]
      · rw [List.filter_cons_of_neg hd, List.filter_cons_of_neg (fun e => hd (hx.2 e)), ih]
theorem first_all (hK : ∀ x ∈ K, 0 ≤ x) (now : Int) : ∀ {l : List It}, (∀ x ∈ l, Fresh x) → (((l.filterMap (fin K)).map (mark now)).find? (fun x => !ov x)).map It.h = (l.find? (firstQ K now)).map It.h
  | [], _ => rfl
  | x :: l, h => by
    have ih := first_all hK now (l := l) (fun y hy => h y (List.mem_cons_of_mem _ hy))
    have hx := fin_first hK now (h x List.mem_cons_self)
    rw [List.filterMap_cons]
    cases hf : fin K x with
    | none =>
      rw [hf] at hx
      have : ¬ firstQ K now x = true := fun e => hx.2 e
      rw [List.find?_cons_of_neg this]
      exact ih
    | some y =>
      rw [hf] at hx
      have hx : ov (mark now y) = false ↔ firstQ K now x = true := hx
      have hy := fin_h hf
      simp only [List.map_cons]
      by_cases hd : ov (mark now y) = false
      · rw [List.find?_cons_of_pos (by simp [hd]), List.find?_cons_of_pos (hx.1 hd)]
        simp [mark_h, hy]
      · rw [List.find?_cons_of_neg (by simpa using hd), List.find?_cons_of_neg (fun e => hd (hx.2 e)), ih]
theorem Ini.fresh (hK : ∀ x ∈ K, 0 ≤ x) (h : Ini K l) : ∀ x ∈ l, Fresh x := fun x hx => by
  obtain ⟨i, hi, rfl⟩ := List.getElem_of_mem hx
  have h1 := h i hi
  refine ⟨?_, h1.late, h1.can, h1.dn⟩
  rw [h1.d]
  have : 0 ≤ K.getD i 0 := by
    rw [List.getD_eq_getElem?_getD]
    cases e : K[i]? with
    | none => simp
    | some y => exact hK y (List.mem_of_getElem? e)
  omega
theorem cnt_step (now : Int) (hk : k < l.length) : cnt K now (l.drop k) = (if lateQ K now l[k] = true then 1 else 0) + cnt K now (l.drop (k + 1)) := by
  unfold cnt
  rw [List.drop_eq_getElem_cons hk]
  by_cases h : lateQ K now l[k] = true
  · rw [List.filter_cons_of_pos h, if_pos h, List.length_cons]; omega
  · rw [List.filter_cons_of_neg h, if_neg h]; omega
theorem fst_step (now : Int) (hk : k < l.length) : fst K now (l.drop k) = if firstQ K now l[k] = true then l[k].h else fst K now (l.drop (k + 1)) := by
  unfold fst
  rw [List.drop_eq_getElem_cons hk]
  by_cases h : firstQ K now l[k] = true
  · rw [List.find?_cons_of_pos h, if_pos h]
  · rw [List.find?_cons_of_neg h, if_neg h]
def mkL (now : Int) (l : List It) (k : Nat) : List It := (l.take k).map (mark now) ++ l.drop k
def nDue (now : Int) (l : List It) (k : Nat) : Nat := ((l.take k).filter (due now)).length
theorem mkL_len (now : Int) (l : List It) (k : Nat) : (mkL now l k).length = l.length := by
  unfold mkL
  rw [List.length_append, List.length_map, ← List.length_append, List.take_append_drop]
theorem mkL_zero (now : Int) (l : List It) : mkL now l 0 = l := by unfold mkL; simp
theorem mkL_all (now : Int) (l : List It) : mkL now l l.length = l.map (mark now) := by unfold mkL; simp
theorem mkL_get (now : Int) (hk : k < l.length) : (mkL now l k)[k]'(by rw [mkL_len]; exact hk) = l[k] := by
  have e : (mkL now l k)[k]? = l[k]? := by
    unfold mkL
    have h := tk_len hk
    rw [List.getElem?_append_right (by rw [List.length_map, h]; exact Nat.le_refl _), List.length_map, h, Nat.sub_self, List.getElem?_drop]
    rfl
  rw [List.getElem?_eq_getElem (by rw [mkL_len]; exact hk), List.getElem?_eq_getElem hk] at e
  exact Option.some.inj e
theorem mkL_succ (now : Int) (hk : k < l.length) : mkL now l (k + 1) = (l.take k).map (mark now) ++ (mark now l[k] :: l.drop (k + 1)) := by
  unfold mkL
  rw [List.take_add_one, List.getElem?_eq_getElem hk, List.map_append, List.append_assoc]
  rfl
theorem mkL_yes {now : Int} (hk : k < l.length) (h : due now l[k] = true) : (mkL now l k).set k { l[k] with late := true } = mkL now l (k + 1) := by
  rw [mkL_succ now hk]
  unfold mkL mark
  rw [if_pos h, List.set_append, if_neg (by rw [List.length_map, tk_len hk]; omega), List.length_map, tk_len hk, Nat.sub_self, List.drop_eq_getElem_cons hk]
  rfl
theorem mkL_no {now : Int} (hk : k < l.length) (h : due now l[k] = false) : mkL now l k = mkL now l (k + 1) := by
  rw [mkL_succ now hk]
  unfold mkL mark
  rw [if_neg (by rw [h]; decide), List.drop_eq_getElem_cons hk]
theorem nDue_all (now : Int) (l : List It) : nDue now l l.length = (l.filter (due now)).length := by unfold nDue; rw [List.take_length]
theorem nDue_succ (now : Int) (hk : k < l.length) : nDue now l (k + 1) = nDue now l k + (if due now l[k] = true then 1 else 0) := by
  unfold nDue
  rw [List.take_add_one, List.getElem?_eq_getElem hk, List.filter_append, List.length_append]
  by_cases h : due now l[k] = true
  · rw [if_pos h]; simp [h]
  · rw [if_neg h]; simp [h]
theorem due4 (now : Int) (x : It) : (ov x = true ∧ due now x = false) ∨ (ov x = false ∧ x.d < 1 ∧ due now x = false) ∨ (ov x = false ∧ ¬ x.d < 1 ∧ x.d > now ∧ due now x = false) ∨ (ov x = false ∧ ¬ x.d < 1 ∧ ¬ x.d > now ∧ due now x = true) := by
  unfold due
  cases h : ov x with
  | true => exact .inl ⟨rfl, by simp⟩
  | false =>
    by_cases h1 : x.d < 1
    · exact .inr (.inl ⟨rfl, h1, by simp; omega⟩)
    · by_cases h2 : x.d > now
      · exact .inr (.inr (.inl ⟨rfl, h1, h2, by simp; omega⟩))
      · exact .inr (.inr (.inr ⟨rfl, h1, h2, by simp; omega⟩))
theorem tick_no {now : Int} (hk : k < l.length) {x : It} (hx : x = l[k]) (h : due now x = false) : nDue now l k = nDue now l (k + 1) ∧ mkL now l k = mkL now l (k + 1) := by
  subst hx
  refine ⟨?_, mkL_no hk h⟩
  rw [nDue_succ now hk, if_neg (by rw [h]; decide)]
  rfl
theorem tick_yes {now : Int} (hk : k < l.length) {x : It} (hx : x = l[k]) (h : due now x = true) : nDue now l k + 1 = nDue now l (k + 1) ∧ (mkL now l k).set k { x with late := true } = mkL now l (k + 1) := by
  subst hx
  refine ⟨?_, mkL_yes hk h⟩
  rw [nDue_succ now hk, if_pos h]
theorem tick4 {now : Int} (hk : k < l.length) {x : It} (hx : x = l[k]) : (ov x = true ∧ nDue now l k = nDue now l (k + 1) ∧ mkL now l k = mkL now l (k + 1)) ∨ (ov x = false ∧ x.d < 1 ∧ nDue now l k = nDue now l (k + 1) ∧ mkL now l k = mkL now l (k + 1)) ∨ (ov x = false ∧ ¬ x.d < 1 ∧ x.d > now ∧ nDue now l k = nDue now l (k + 1) ∧ mkL now l k = mkL now l (k + 1)) ∨ (ov x = false ∧ ¬ x.d < 1 ∧ ¬ x.d > now ∧ nDue now l k + 1 = nDue now l (k + 1) ∧ (mkL now l k).set k { x with late := true } = mkL now l (k + 1)) := by
  rcases due4 now x with ⟨a, b⟩ | ⟨a, b, c⟩ | ⟨a, b, c, d⟩ | ⟨a, b, c, d⟩
  · exact .inl ⟨a, tick_no hk hx b⟩
  · exact .inr (.inl ⟨a, b, tick_no hk hx c⟩)
  · exact .inr (.inr (.inl ⟨a, b, c, tick_no hk hx d⟩))
  · exact .inr (.inr (.inr ⟨a, b, c, tick_yes hk hx d⟩))
theorem nWait_succ (hk : k < l.length) : ((l.take (k + 1)).filter (fun x => !ov x)).length = ((l.take k).filter (fun x => !ov x)).length + (if ov l[k] = true then 0 else 1) := by
  rw [List.take_add_one, List.getElem?_eq_getElem hk, List.filter_append, List.length_append]
  by_cases h : ov l[k] = true
  · rw [if_pos h]; simp [h]
  · rw [if_neg h]; simp [h]
theorem and3 {x : Int} (h0 : 0 ≤ x) (h1 : x < 256) : IntKind.u8.wrap ((BitVec.ofInt IntKind.u8.bits x &&& BitVec.ofInt IntKind.u8.bits 3).toNat : Int) = x % 4 := by
  obtain ⟨n, rfl⟩ : ∃ n : Fin 256, x = ((n : Nat) : Int) := ⟨⟨x.toNat, by omega⟩, by simp; omega⟩
  revert n
  have h : ∀ n : Fin 256, IntKind.u8.wrap ((BitVec.ofInt IntKind.u8.bits ((n : Nat) : Int) &&& BitVec.ofInt IntKind.u8.bits 3).toNat : Int) = ((n : Nat) : Int) % 4 := by decide +kernel
  exact fun n _ _ => h n
theorem shr4 {x : Int} : x.fdiv (2 ^ (min (4 : Int).toNat IntKind.u8.bits)) = x / 16 := by
  rw [show (2 : Int) ^ (min (4 : Int).toNat IntKind.u8.bits) = 16 from rfl, Int.fdiv_eq_ediv_of_nonneg _ (by decide)]
theorem kd4 (y : Int) : y % 4 = 0 ∨ y % 4 = 1 ∨ y % 4 = 2 ∨ (y % 4 = 3 ∧ y % 4 ≠ 0 ∧ y % 4 ≠ 1 ∧ y % 4 ≠ 2) := by omega
theorem late3 (hI : Ini K l) (now : Int) (hk : k < l.length) : (K.getD k 0 % 4 ≠ 3 ∧ cnt K now (l.drop (k + 1)) = cnt K now (l.drop k) ∧ fst K now (l.drop (k + 1)) = fst K now (l.drop k)) ∨ (K.getD k 0 % 4 = 3 ∧ 1 + K.getD k 0 / 16 ≤ now ∧ cnt K now (l.drop (k + 1)) + 1 = cnt K now (l.drop k) ∧ fst K now (l.drop (k + 1)) = fst K now (l.drop k)) ∨
    (K.getD k 0 % 4 = 3 ∧ ¬ (1 + K.getD k 0 / 16 ≤ now) ∧ cnt K now (l.drop (k + 1)) = cnt K now (l.drop k) ∧ (k : Int) + 1 = fst K now (l.drop k)) := by
  have h1 := cnt_step (K := K) now hk
  have h2 := fst_step (K := K) now hk
  have hd := (hI k hk).d
  have hh := (hI k hk).h
  have hkd := hI.kd hk
  unfold lateQ firstQ at *
  rw [hkd, hd] at h1 h2
  generalize K.getD k 0 = y at *
  by_cases h3 : y % 4 = 3
  · by_cases h4 : 1 + y / 16 ≤ now
    · refine .inr (.inl ⟨h3, h4, ?_, ?_⟩)
      · rw [h1, if_pos (by simp [h3, h4])]; omega
      · rw [h2, if_neg (by simp [h4])]
    · refine .inr (.inr ⟨h3, h4, ?_, ?_⟩)
      · rw [h1, if_neg (by simp [h4])]; omega
      · rw [h2, if_pos (by simp [h3, h4]), hh]
  · refine .inl ⟨h3, ?_, ?_⟩
    · rw [h1, if_neg (by simp [h3])]; omega
    · rw [h2, if_neg (by simp [h3])]
theorem late3k (hI : Ini K l) (now : Int) {i : Int} (h0 : 0 ≤ i) (hik : i = (k : Int) - 1) (hk : k ≤ l.length) : (∃ j : Nat, k = j + 1 ∧ i = (j : Int) ∧ j < l.length ∧ K.getD j 0 % 4 ≠ 3 ∧ cnt K now (l.drop (j + 1)) = cnt K now (l.drop j) ∧ fst K now (l.drop (j + 1)) = fst K now (l.drop j)) ∨ (∃ j : Nat, k = j + 1 ∧ i = (j : Int) ∧ j < l.length ∧ K.getD j 0 % 4 = 3 ∧ 1 + K.getD j 0 / 16 ≤ now ∧ cnt K now (l.drop (j + 1)) + 1 = cnt K now (l.drop j) ∧ fst K now (l.drop (j + 1)) = fst K now (l.drop j)) ∨
    (∃ j : Nat, k = j + 1 ∧ i = (j : Int) ∧ j < l.length ∧ K.getD j 0 % 4 = 3 ∧ ¬ (1 + K.getD j 0 / 16 ≤ now) ∧ cnt K now (l.drop (j + 1)) = cnt K now (l.drop j) ∧ (j : Int) + 1 = fst K now (l.drop j)) := by
  obtain ⟨j, rfl⟩ : ∃ j, k = j + 1 := ⟨k - 1, by omega⟩
  have hj : j < l.length := by omega
  rcases late3 hI now hj with h | h | h
  · exact .inl ⟨j, rfl, by omega, hj, h⟩
  · exact .inr (.inl ⟨j, rfl, by omega, hj, h⟩)
  · exact .inr (.inr ⟨j, rfl, by omega, hj, h⟩)
theorem cnt_le (K : List Int) (now : Int) (l : List It) : cnt K now l ≤ l.length := List.length_filter_le _ _
theorem first4 (hK : ∀ x ∈ K, 0 ≤ x) (hI : Ini K l) (now : Int) {M : List It} (hM : M = (mid K l 0).map (mark now)) : (∃ i, ∃ hi : i < M.length, ov M[i] = false ∧ (∀ j (hj : j < i), ov (M[j]'(by omega)) = true) ∧ M[i].h = fst K now l ∧ 0 < fst K now l) ∨ ((∀ j (hj : j < M.length), ov M[j] = true) ∧ fst K now l = 0) := by
  have hF := hI.fresh hK
  have h := first_all hK now hF
  rw [← mid_zero, ← hM] at h
  unfold fst
  cases hf : M.find? (fun x => !ov x) with
  | none =>
    rw [hf] at h
    right
    have h2 := List.find?_eq_none.1 hf
    refine ⟨fun j hj => by have := h2 _ (List.getElem_mem hj); simpa using this, ?_⟩
    cases hg : l.find? (firstQ K now) with
    | none => rfl
    | some y => rw [hg] at h; cases h
  | some x =>
    rw [hf] at h
    left
    obtain ⟨h1, i, hi, h2, h3⟩ := List.find?_eq_some_iff_getElem.1 hf
    refine ⟨i, hi, by rw [h2]; simpa using h1, fun j hj => by have := h3 j hj; simpa using this, ?_⟩
    cases hg : l.find? (firstQ K now) with
    | none => rw [hg] at h; cases h
    | some y =>
      rw [hg] at h
      have e : x.h = y.h := Option.some.inj h
      obtain ⟨k, hk, rfl⟩ := List.getElem_of_mem (List.mem_of_find?_eq_some hg)
      have := (hI k hk).h
      rw [h2]
      exact ⟨e, by show 0 < l[k].h; omega⟩
theorem enc_dn (x : It) (t : Bool) : enc { x with dn := t } = enc x := rfl
end Go.StoreP

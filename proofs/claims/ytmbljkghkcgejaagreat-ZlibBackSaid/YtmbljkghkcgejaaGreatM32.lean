/- Walks of functions that the law reaches, and what they lean on; no conditions. -/
import Derived.Test.YtmbljkghkcgejaaGreatSl19
import Derived.Test.YtmbljkghkcgejaaGreatSl20
set_option linter.unusedVariables false
set_option linter.unusedSimpArgs false
set_option maxRecDepth 100000
namespace Go.aV
variable {α : Type}
structure Rl (key : α → Int) (d : α) (l l' : List α) (a b : Nat) : Prop where
 len : l'.length = l.length
 out : ∀ i, i < a ∨ b ≤ i → l'.getD i d = l.getD i d
 mem : ∀ i, a ≤ i → i < b → ∃ j, a ≤ j ∧ j < b ∧ l'.getD i d = l.getD j d
 same : ∀ c, l'.filter (fun x => decide (key x = c)) = l.filter (fun x => decide (key x = c))
def Sd (key : α → Int) (d : α) (l : List α) (a b : Nat) : Prop := ∀ i j, a ≤ i → i ≤ j → j < b → key (l.getD i d) ≤ key (l.getD j d)
variable {key : α → Int} {d : α}
theorem Rl.refl (l : List α) (a b : Nat) : Rl key d l l a b := ⟨rfl, fun _ _ => rfl, fun i h1 h2 => ⟨i, h1, h2, rfl⟩, fun _ => rfl⟩
theorem Rl.trans {l1 l2 l3 : List α} {a b : Nat} (h : Rl key d l1 l2 a b) (k : Rl key d l2 l3 a b) : Rl key d l1 l3 a b :=
 ⟨k.len.trans h.len, fun i hi => (k.out i hi).trans (h.out i hi), fun i h1 h2 => by
  obtain ⟨j, j1, j2, j3⟩ := k.mem i h1 h2
  obtain ⟨m, m1, m2, m3⟩ := h.mem j j1 j2
  exact ⟨m, m1, m2, j3.trans m3⟩, fun c => (k.same c).trans (h.same c)⟩
theorem Rl.wide {l l' : List α} {a b a' b' : Nat} (h : Rl key d l l' a b) (h1 : a' ≤ a) (h2 : b ≤ b') : Rl key d l l' a' b' :=
 ⟨h.len, fun i hi => h.out i (by omega), fun i i1 i2 => by
  by_cases hi : a ≤ i ∧ i < b
  ·obtain ⟨j, j1, j2, j3⟩ := h.mem i hi.1 hi.2
   exact ⟨j, by omega, by omega, j3⟩
  ·exact ⟨i, i1, i2, h.out i (by omega)⟩, h.same⟩
theorem Sd.congr {l l' : List α} {a b : Nat} (h : Sd key d l a b) (e : ∀ i, a ≤ i → i < b → l'.getD i d = l.getD i d) : Sd key d l' a b := fun i j h1 h2 h3 => by
 rw [e i h1 (by omega), e j (by omega) h3]; exact h i j h1 h2 h3
theorem Sd.small {l : List α} {a b : Nat} (h : b ≤ a + 1) : Sd key d l a b := fun i j h1 h2 h3 => by
 obtain rfl : i = j := by omega
 exact Int.le_refl _
theorem Sd.sub {l : List α} {a b a' b' : Nat} (h : Sd key d l a b) (h1 : a ≤ a') (h2 : b' ≤ b) : Sd key d l a' b' := fun i j h3 h4 h5 => h i j (by omega) h4 (by omega)
theorem Sd.join {l : List α} {a m b : Nat} (h1 : Sd key d l a m) (h2 : Sd key d l m b) (h : ∀ i j, a ≤ i → i < m → m ≤ j → j < b → key (l.getD i d) ≤ key (l.getD j d)) : Sd key d l a b := fun i j i1 i2 i3 => by
 by_cases hj : j < m
 ·exact h1 i j i1 i2 hj
 ·by_cases hi : i < m
  ·exact h i j i1 hi (by omega) i3
  ·exact h2 i j (by omega) i2 i3
theorem IT (l : List α) (i : Nat) (h : i + 1 < l.length) : l = l.take i ++ (l.getD i d :: l.getD (i + 1) d :: l.drop (i + 2)) := by
 conv => lhs; rw [← List.take_append_drop i l]
 congr 1
 rw [List.drop_eq_getElem_cons (by omega), List.drop_eq_getElem_cons h]
 simp [List.getD_eq_getElem?_getD, show i < l.length by omega, h]
theorem Dz (l : List α) (i : Nat) (h : i + 1 < l.length) : (l.set i (l.getD (i + 1) d)).set (i + 1) (l.getD i d) = l.take i ++ (l.getD (i + 1) d :: l.getD i d :: l.drop (i + 2)) := by
 apply List.ext_getElem?
 intro j
 have hl : (l.take i).length = i := by simp; omega
 by_cases h1 : j < i
 ·rw [List.getElem?_append_left (by omega), List.getElem?_set_ne (by omega), List.getElem?_set_ne (by omega)]
  simp [List.getElem?_take, h1]
 ·rw [List.getElem?_append_right (by omega), hl]
  by_cases h2 : j = i
  ·subst h2
   simp [List.getElem?_set, show j < l.length by omega]
  ·by_cases h3 : j = i + 1
   ·subst h3
    simp [List.getElem?_set, h]
   ·rw [List.getElem?_set_ne (by omega), List.getElem?_set_ne (by omega)]
    obtain ⟨k, rfl⟩ : ∃ k, j = i + 2 + k := ⟨j - (i + 2), by omega⟩
    rw [show i + 2 + k - i = k + 2 by omega]
    simp [List.getElem?_drop]
theorem swap_comm (l : List α) (i : Nat) (x y : α) : (l.set (i + 1) x).set i y = (l.set i y).set (i + 1) x := by
 rw [List.set_comm]; omega
theorem Rl.swap {l : List α} {a b i : Nat} (h1 : a ≤ i) (h2 : i + 1 < b) (hl : i + 1 < l.length) (hk : key (l.getD i d) ≠ key (l.getD (i + 1) d)) : Rl key d l ((l.set i (l.getD (i + 1) d)).set (i + 1) (l.getD i d)) a b := by
 refine ⟨by simp, fun j hj => ?_, fun j j1 j2 => ?_, fun c => ?_⟩
 ·simp only [List.getD_eq_getElem?_getD]
  rw [List.getElem?_set_ne (by omega), List.getElem?_set_ne (by omega)]
 ·by_cases e1 : j = i
  ·subst e1
   refine ⟨j + 1, by omega, h2, ?_⟩
   simp only [List.getD_eq_getElem?_getD]
   rw [List.getElem?_set_ne (by omega)]
   simp [List.getElem?_set, show j < l.length by omega]
  ·by_cases e2 : j = i + 1
   ·subst e2
    refine ⟨i, h1, by omega, ?_⟩
    simp only [List.getD_eq_getElem?_getD]
    simp [List.getElem?_set, hl]
   ·refine ⟨j, j1, j2, ?_⟩
    simp only [List.getD_eq_getElem?_getD]
    rw [List.getElem?_set_ne (by omega), List.getElem?_set_ne (by omega)]
 ·rw [Dz l i hl]
  conv => rhs; rw [IT (d := d) l i hl]
  simp only [List.filter_append, List.filter_cons]
  congr 1
  generalize l.getD i d = x at hk
  generalize l.getD (i + 1) d = y at hk
  by_cases k1 : key x = c
  ·have k2 : ¬ key y = c := fun e => hk (k1.trans e.symm)
   simp [k1, k2]
  ·simp [k1]
theorem cj {x y : List α} {i : Nat} (h : i < x.length) : (x ++ y).getD i d = x.getD i d := by
 simp only [List.getD_eq_getElem?_getD, List.getElem?_append_left h]
theorem dm {x y : List α} {i : Nat} (h : x.length ≤ i) : (x ++ y).getD i d = y.getD (i - x.length) d := by
 simp only [List.getD_eq_getElem?_getD, List.getElem?_append_right h]
theorem mY {x : List α} {i : Nat} (h : i < x.length) : x.getD i d ∈ x := by
 simp [List.getD_eq_getElem?_getD, h]
theorem Rl.rotate {P X Y S : List α} {a b : Nat} (ha : a ≤ P.length) (hb : P.length + X.length + Y.length ≤ b) (hk : ∀ x ∈ X, ∀ y ∈ Y, key x ≠ key y) : Rl key d (P ++ X ++ Y ++ S) (P ++ Y ++ X ++ S) a b := by
 have hin : ∀ i, P.length ≤ i → i < P.length + X.length + Y.length → ∃ j, P.length ≤ j ∧ j < P.length + X.length + Y.length ∧ (P ++ Y ++ X ++ S).getD i d = (P ++ X ++ Y ++ S).getD j d := by
  intro i i1 i2
  by_cases h1 : i < P.length + Y.length
  ·refine ⟨i + X.length, by omega, by omega, ?_⟩
   rw [cj (by simp; omega), cj (by simp; omega), dm i1, cj (by simp; omega), dm (by simp; omega)]
   congr 1
   simp; omega
  ·refine ⟨i - Y.length, by omega, by omega, ?_⟩
   rw [cj (by simp; omega), dm (by simp; omega), cj (by simp; omega), cj (by simp; omega), dm (by omega)]
   congr 1
   simp; omega
 have hout : ∀ i, i < P.length ∨ P.length + X.length + Y.length ≤ i → (P ++ Y ++ X ++ S).getD i d = (P ++ X ++ Y ++ S).getD i d := by
  intro i hi
  rcases hi with hi | hi
  ·rw [cj (by simp; omega), cj (by simp; omega), cj hi, cj (by simp; omega), cj (by simp; omega), cj hi]
  ·rw [dm (by simp; omega), dm (by simp; omega)]
   congr 1
   simp; omega
 refine ⟨by simp; omega, fun i hi => hout i (by omega), fun i i1 i2 => ?_, fun c => ?_⟩
 ·by_cases hi : P.length ≤ i ∧ i < P.length + X.length + Y.length
  ·obtain ⟨j, j1, j2, j3⟩ := hin i hi.1 hi.2
   exact ⟨j, by omega, by omega, j3⟩
  ·exact ⟨i, i1, i2, hout i (by omega)⟩
 ·simp only [List.filter_append]
  have : Y.filter (fun x => decide (key x = c)) ++ X.filter (fun x => decide (key x = c)) = X.filter (fun x => decide (key x = c)) ++ Y.filter (fun x => decide (key x = c)) := by
   by_cases hx : ∃ x ∈ X, key x = c
   ·obtain ⟨x, x1, x2⟩ := hx
    have : Y.filter (fun x => decide (key x = c)) = [] := by
     rw [List.filter_eq_nil_iff]
     intro y hy
     simp
     intro e
     exact hk x x1 y hy (x2.trans e.symm)
    rw [this]; simp
   ·have : X.filter (fun x => decide (key x = c)) = [] := by
     rw [List.filter_eq_nil_iff]
     intro y hy
     simp
     intro e
     exact hx ⟨y, hy, e⟩
    rw [this]; simp
  rw [List.append_assoc (P.filter _), this]
  simp [List.append_assoc]
theorem blocks (l : List α) (a m b : Nat) (h1 : a ≤ m) (h2 : m ≤ b) (h3 : b ≤ l.length) : ∃ P X Y S, l = P ++ X ++ Y ++ S ∧ P.length = a ∧ X.length = m - a ∧ Y.length = b - m ∧
  (∀ x ∈ X, ∃ i, a ≤ i ∧ i < m ∧ x = l.getD i d) ∧ (∀ y ∈ Y, ∃ i, m ≤ i ∧ i < b ∧ y = l.getD i d) := by
 refine ⟨l.take a, (l.drop a).take (m - a), (l.drop m).take (b - m), l.drop b, ?_, by simp; omega, by simp; omega, by simp; omega, ?_, ?_⟩
 ·have e1 : l.take a ++ (l.drop a).take (m - a) = l.take m := by
   have := List.take_add (l := l) (i := a) (j := m - a)
   rw [show a + (m - a) = m by omega] at this
   exact this.symm
  have e2 : l.take m ++ (l.drop m).take (b - m) = l.take b := by
   have := List.take_add (l := l) (i := m) (j := b - m)
   rw [show m + (b - m) = b by omega] at this
   exact this.symm
  rw [e1, e2, List.take_append_drop]
 ·intro x hx
  obtain ⟨i, hi⟩ := List.getElem?_of_mem hx
  have hlt := (List.getElem?_eq_some_iff.1 hi).1
  simp at hlt
  rw [List.getElem?_take_of_lt (by omega), List.getElem?_drop] at hi
  exact ⟨a + i, by omega, by omega, by simp [List.getD_eq_getElem?_getD, hi]⟩
 ·intro x hx
  obtain ⟨i, hi⟩ := List.getElem?_of_mem hx
  have hlt := (List.getElem?_eq_some_iff.1 hi).1
  simp at hlt
  rw [List.getElem?_take_of_lt (by omega), List.getElem?_drop] at hi
  exact ⟨m + i, by omega, by omega, by simp [List.getD_eq_getElem?_getD, hi]⟩
theorem rY {P X Y S : List α} {i : Nat} : (P ++ Y ++ X ++ S).getD i d = (P ++ X ++ Y ++ S).getD (if i < P.length then i else if i < P.length + Y.length then i + X.length else if i < P.length + X.length + Y.length then i - Y.length else i) d := by
 split
 ·rename_i hi
  rw [cj (by simp; omega), cj (by simp; omega), cj hi, cj (by simp; omega), cj (by simp; omega), cj hi]
 ·split
  ·rw [cj (by simp; omega), cj (by simp; omega), dm (by omega), cj (by simp; omega), dm (by simp; omega)]
   congr 1
   simp; omega
  ·split
   ·rw [cj (by simp; omega), dm (by simp; omega), cj (by simp; omega), cj (by simp; omega), dm (by omega)]
    congr 1
    simp; omega
   ·rw [dm (by simp; omega), dm (by simp; omega)]
    congr 1
    simp; omega
theorem r5 {P A B C S : List α} {k : Nat} (hA : k < A.length) (hC : C.length = A.length) :
  ((P ++ (C.take k ++ A.drop k) ++ B ++ (A.take k ++ C.drop k) ++ S).set (P.length + k) ((P ++ (C.take k ++ A.drop k) ++ B ++ (A.take k ++ C.drop k) ++ S).getD (P.length + A.length + B.length + k) d)).set (P.length + A.length + B.length + k) ((P ++ (C.take k ++ A.drop k) ++ B ++ (A.take k ++ C.drop k) ++ S).getD (P.length + k) d)
   = P ++ (C.take (k + 1) ++ A.drop (k + 1)) ++ B ++ (A.take (k + 1) ++ C.drop (k + 1)) ++ S := by
 have e1 : (P ++ (C.take k ++ A.drop k) ++ B ++ (A.take k ++ C.drop k) ++ S).getD (P.length + A.length + B.length + k) d = C[k] := by
  rw [cj (by simp; omega), dm (by simp; omega), dm (by simp; omega)]
  simp only [List.getD_eq_getElem?_getD, List.getElem?_drop]
  have : k + (P.length + A.length + B.length + k - (P ++ (C.take k ++ A.drop k) ++ B).length - (A.take k).length) = k := by simp; omega
  rw [this, List.getElem?_eq_getElem (by omega)]; rfl
 have e2 : (P ++ (C.take k ++ A.drop k) ++ B ++ (A.take k ++ C.drop k) ++ S).getD (P.length + k) d = A[k] := by
  rw [cj (by simp; omega), cj (by simp; omega), cj (by simp; omega), dm (by omega), dm (by simp; omega)]
  simp only [List.getD_eq_getElem?_getD, List.getElem?_drop]
  have : k + (P.length + k - P.length - (C.take k).length) = k := by simp; omega
  rw [this, List.getElem?_eq_getElem hA]; rfl
 rw [e1, e2]
 rw [show A.drop k = A[k] :: A.drop (k + 1) from List.drop_eq_getElem_cons hA, show C.drop k = C[k] :: C.drop (k + 1) from List.drop_eq_getElem_cons (by omega)]
 rw [List.take_succ_eq_append_getElem hA, List.take_succ_eq_append_getElem (show k < C.length by omega)]
 have f1 : ∀ (V : List α) (x : α), (P ++ (C.take k ++ A[k] :: A.drop (k + 1)) ++ V).set (P.length + k) x = P ++ (C.take k ++ x :: A.drop (k + 1)) ++ V := by
  intro V x
  rw [List.set_append_left _ _ (by simp; omega), List.set_append_right _ _ (by omega), List.set_append_right _ _ (by simp; omega)]
  congr 3
  have : P.length + k - P.length - (C.take k).length = 0 := by simp; omega
  rw [this]; rfl
 have f2 : ∀ (U : List α) (x : α), U.length = A.length → (P ++ U ++ B ++ (A.take k ++ C[k] :: C.drop (k + 1)) ++ S).set (P.length + A.length + B.length + k) x = P ++ U ++ B ++ (A.take k ++ x :: C.drop (k + 1)) ++ S := by
  intro U x hU
  rw [List.set_append_left _ _ (by simp; omega), List.set_append_right _ _ (by simp; omega), List.set_append_right _ _ (by simp; omega)]
  congr 3
  have : P.length + A.length + B.length + k - (P ++ U ++ B).length - (A.take k).length = 0 := by simp; omega
  rw [this]; rfl
 have g := f1 (B ++ (A.take k ++ C[k] :: C.drop (k + 1)) ++ S) C[k]
 simp only [List.append_assoc] at g f2 ⊢
 rw [g]
 have h := f2 (C.take k ++ C[k] :: A.drop (k + 1)) A[k] (by simp; omega)
 simp only [List.append_assoc] at h
 rw [h]
 simp
theorem xv {l : List α} {a m b mid s : Nat} (hml : b ≤ l.length) (ham : a < m) (hmb : m < b) (hmid : mid = (a + b) / 2) (h1 : Sd key d l a m) (h2 : Sd key d l m b)
  (hs0 : (if mid < m then mid + m - b else a) ≤ s) (hs1 : s ≤ (if mid < m then mid else m))
  (hy : (if mid < m then mid + m - b else a) < s → key (l.getD (s - 1) d) ≤ key (l.getD (mid + m - 1 - (s - 1)) d))
  (hn : s < (if mid < m then mid else m) → key (l.getD (mid + m - 1 - s) d) < key (l.getD s d)) :
  a ≤ s ∧ s ≤ mid ∧ s ≤ m ∧ m ≤ mid + m - s ∧ mid ≤ mid + m - s ∧ mid + m - s ≤ b ∧
  (s < m → m < mid + m - s → ∀ i j, s ≤ i → i < m → m ≤ j → j < mid + m - s → key (l.getD j d) < key (l.getD i d)) ∧
  (∀ i j, a ≤ i → i < s → mid + m - s ≤ j → j < b → key (l.getD i d) ≤ key (l.getD j d)) := by
 refine ⟨by split at hs0 <;> omega, by split at hs1 <;> omega, by split at hs1 <;> omega, by split at hs1 <;> omega, by split at hs1 <;> omega, by split at hs0 <;> omega, ?_, ?_⟩
 ·intro h3 h4 i j i1 i2 j1 j2
  have hlt : s < (if mid < m then mid else m) := by split <;> omega
  have h5 := hn hlt
  have h6 := h1 s i (by split at hs0 <;> omega) i1 i2
  have h7 := h2 j (mid + m - 1 - s) j1 (by omega) (by split at hs0 <;> omega)
  omega
 ·intro i j i1 i2 j1 j2
  have hlt : (if mid < m then mid + m - b else a) < s := by
   rcases Nat.lt_or_ge (if mid < m then mid + m - b else a) s with h | h
   ·exact h
   ·exfalso; split at h <;> omega
  have h5 := hy hlt
  have h6 := h1 i (s - 1) i1 (by omega) (by split at hs1 <;> omega)
  have h7 := h2 (mid + m - 1 - (s - 1)) j (by split at hs1 <;> omega) (by omega) j2
  omega
theorem unique {l1 l2 : List α} (h1 : Sd key d l1 0 l1.length) (h2 : Sd key d l2 0 l2.length) (h : ∀ c, l1.filter (fun x => decide (key x = c)) = l2.filter (fun x => decide (key x = c))) : l1 = l2 := by
 induction l1 generalizing l2 with
 | nil =>
  cases l2 with
  | nil => rfl
  | cons y l2 => have := h (key y); simp at this
 | cons x l1 ih =>
  cases l2 with
  | nil => have := h (key x); simp at this
  | cons y l2 =>
   have hx : key y ≤ key x := by
    have hm : x ∈ (y :: l2) := by
     have hf : x ∈ (x :: l1).filter (fun z => decide (key z = key x)) := by simp
     rw [h (key x)] at hf
     exact (List.mem_filter.1 hf).1
    obtain ⟨j, hj⟩ := List.getElem?_of_mem hm
    have hlt := (List.getElem?_eq_some_iff.1 hj).1
    have := h2 0 j (Nat.le_refl _) (Nat.zero_le _) hlt
    simpa [List.getD_eq_getElem?_getD, hj] using this
   have hy : key x ≤ key y := by
    have hm : y ∈ (x :: l1) := by
     have hf : y ∈ (y :: l2).filter (fun z => decide (key z = key y)) := by simp
     rw [← h (key y)] at hf
     exact (List.mem_filter.1 hf).1
    obtain ⟨j, hj⟩ := List.getElem?_of_mem hm
    have hlt := (List.getElem?_eq_some_iff.1 hj).1
    have := h1 0 j (Nat.le_refl _) (Nat.zero_le _) hlt
    simpa [List.getD_eq_getElem?_getD, hj] using this
   have hk : key x = key y := by omega
   have hxy : x = y := by
    have := h (key x)
    simp [hk] at this
    exact this.1
   subst hxy
   congr 1
   refine ih (fun i j i1 i2 i3 => ?_) (fun i j i1 i2 i3 => ?_) (fun c => ?_)
   ·have := h1 (i + 1) (j + 1) (by omega) (by omega) (by simp; omega)
    simpa [List.getD_eq_getElem?_getD] using this
   ·have := h2 (i + 1) (j + 1) (by omega) (by omega) (by simp; omega)
    simpa [List.getD_eq_getElem?_getD] using this
   ·have := h c
    simp only [List.filter_cons] at this
    split at this
    ·simpa using this
    ·exact this
end Go.aV
namespace Go.aV
variable {α : Type} {key : α → Int} {d : α}
theorem Rl.pd {Pd : α → Prop} {l l' : List α} {a b n : Nat} (h : Rl key d l l' a b) (hb : b ≤ n) (hp : ∀ i, i < n → Pd (l.getD i d)) : ∀ i, i < n → Pd (l'.getD i d) := fun i hi => by
 by_cases h1 : a ≤ i ∧ i < b
 ·obtain ⟨j, j1, j2, j3⟩ := h.mem i h1.1 h1.2
  rw [j3]; exact hp j (by omega)
 ·rw [h.out i (by omega)]; exact hp i hi
def Ins (key : α → Int) (d : α) (l : List α) (a j i : Nat) : Prop := ∀ x y, a ≤ x → x ≤ y → y ≤ i → y ≠ j → key (l.getD x d) ≤ key (l.getD y d)
theorem Ins.start {l : List α} {a i : Nat} (h : Sd key d l a i) : Ins key d l a i i := fun x y h1 h2 h3 h4 => h x y h1 h2 (by omega)
theorem kP {l : List α} {j k : Nat} (hj : 0 < j) (hl : j < l.length) : ((l.set j (l.getD (j - 1) d)).set (j - 1) (l.getD j d)).getD k d = if k = j then l.getD (j - 1) d else if k = j - 1 then l.getD j d else l.getD k d := by
 by_cases e1 : k = j
 ·subst e1
  rw [if_pos rfl]
  simp only [List.getD_eq_getElem?_getD]
  rw [List.getElem?_set_ne (by omega)]
  simp [hl]
 ·rw [if_neg e1]
  by_cases e2 : k = j - 1
  ·subst e2
   rw [if_pos rfl]
   simp only [List.getD_eq_getElem?_getD]
   simp [show j - 1 < l.length by omega]
  ·rw [if_neg e2]
   simp only [List.getD_eq_getElem?_getD]
   rw [List.getElem?_set_ne (by omega), List.getElem?_set_ne (by omega)]
theorem Ins.step {l : List α} {a j i : Nat} (h : Ins key d l a j i) (h1 : a < j) (h2 : j ≤ i) (hl : j < l.length) (hk : key (l.getD j d) < key (l.getD (j - 1) d)) : Ins key d ((l.set j (l.getD (j - 1) d)).set (j - 1) (l.getD j d)) a (j - 1) i := fun x y x1 x2 x3 x4 => by
 rw [kP (by omega) hl, kP (by omega) hl, if_neg x4]
 by_cases ey : y = j
 ·rw [if_pos ey]
  by_cases ex : x = j
  ·rw [if_pos ex]; exact Int.le_refl _
  ·rw [if_neg ex]
   by_cases ex2 : x = j - 1
   ·rw [if_pos ex2]; omega
   ·rw [if_neg ex2]; exact h x (j - 1) x1 (by omega) (by omega) (by omega)
 ·rw [if_neg ey]
  by_cases ex : x = j
  ·rw [if_pos ex]; exact h (j - 1) y (by omega) (by omega) x3 ey
  ·rw [if_neg ex]
   by_cases ex2 : x = j - 1
   ·rw [if_pos ex2]; exact h j y (by omega) (by omega) x3 ey
   ·rw [if_neg ex2]; exact h x y x1 x2 x3 ey
theorem Rl.Ao {l : List α} {a b j : Nat} (h1 : a < j) (h2 : j < b) (hl : j < l.length) (hk : key (l.getD j d) < key (l.getD (j - 1) d)) : Rl key d l ((l.set j (l.getD (j - 1) d)).set (j - 1) (l.getD j d)) a b := by
 obtain ⟨i, rfl⟩ : ∃ i, j = i + 1 := ⟨j - 1, by omega⟩
 rw [show i + 1 - 1 = i by omega] at hk ⊢
 rw [swap_comm]
 exact Rl.swap (by omega) h2 hl (by omega)
theorem Rl.Lr {l : List α} {a b j : Nat} (h1 : a ≤ j) (h2 : j + 1 < b) (hl : j + 1 < l.length) (hk : key (l.getD (j + 1) d) ≠ key (l.getD j d)) : Rl key d l ((l.set j (l.getD (j + 1) d)).set (j + 1) (l.getD j d)) a b :=
 Rl.swap h1 h2 hl (fun e => hk e.symm)
theorem Ins.fin {l : List α} {a j i : Nat} (h : Ins key d l a j i) (hj : a ≤ j) (he : j = a ∨ key (l.getD (j - 1) d) ≤ key (l.getD j d)) : Sd key d l a (i + 1) := fun x y h1 h2 h3 => by
 by_cases ey : y = j
 ·subst ey
  by_cases ex : x = y
  ·subst ex; exact Int.le_refl _
  ·rcases he with he | he
   ·omega
   ·exact Int.le_trans (h x (y - 1) h1 (by omega) (by omega) (by omega)) he
 ·exact h x y h1 h2 (by omega) ey
end Go.aV
namespace Go.aV
variable {α : Type} {key : α → Int} {d : α}
theorem Gh {l : List α} {m b h : Nat} {k : Int} (hs : Sd key d l m b) (h1 : m ≤ h) (h2 : h < b) (hk : key (l.getD h d) < k) : ∀ x, m ≤ x → x < h + 1 → key (l.getD x d) < k := fun x x1 x2 => by
 have := hs x h x1 (by omega) h2; omega
theorem F4 {l : List α} {m b h : Nat} {k : Int} (hs : Sd key d l m b) (h1 : m ≤ h) (h2 : h < b) (hk : k ≤ key (l.getD h d)) : ∀ x, h ≤ x → x < b → k ≤ key (l.getD x d) := fun x x1 x2 => by
 have := hs h x h1 x1 x2; omega
theorem FZ {l : List α} {m b h : Nat} {k : Int} (hs : Sd key d l m b) (h1 : m ≤ h) (h2 : h < b) (hk : key (l.getD h d) ≤ k) : ∀ x, m ≤ x → x < h + 1 → key (l.getD x d) ≤ k := fun x x1 x2 => by
 have := hs x h x1 (by omega) h2; omega
theorem GH {l : List α} {m b h : Nat} {k : Int} (hs : Sd key d l m b) (h1 : m ≤ h) (h2 : h < b) (hk : k < key (l.getD h d)) : ∀ x, h ≤ x → x < b → k < key (l.getD x d) := fun x x1 x2 => by
 have := hs h x h1 x1 x2; omega
structure Mv (key : α → Int) (d : α) (l l2 : List α) (a b k : Nat) : Prop where
 rl : Rl key d l l2 a b
 at_ : l2.getD k d = l.getD a d
 lo : ∀ x, a ≤ x → x < k → l2.getD x d = l.getD (x + 1) d
 hi : ∀ x, k < x → l2.getD x d = l.getD x d
theorem Mv.start (l : List α) (a b : Nat) : Mv key d l l a b a := ⟨Rl.refl _ _ _, rfl, fun x h1 h2 => by omega, fun _ _ => rfl⟩
theorem qt {l : List α} {j k : Nat} (hl : j + 1 < l.length) : ((l.set j (l.getD (j + 1) d)).set (j + 1) (l.getD j d)).getD k d = if k = j then l.getD (j + 1) d else if k = j + 1 then l.getD j d else l.getD k d := by
 have := kP (d := d) (l := l) (j := j + 1) (k := k) (by omega) hl
 rw [show j + 1 - 1 = j by omega] at this
 rw [swap_comm] at this
 rw [this]
 by_cases e1 : k = j
 ·rw [if_neg (by omega), if_pos e1, if_pos e1]
 ·by_cases e2 : k = j + 1
  ·rw [if_pos e2, if_neg e1, if_pos e2]
  ·rw [if_neg e2, if_neg e1, if_neg e1, if_neg e2]
theorem Mv.step {l l2 : List α} {a b k : Nat} (h : Mv key d l l2 a b k) (h1 : a ≤ k) (h2 : k + 1 < b) (hl : b ≤ l.length) (hk : key (l.getD (k + 1) d) < key (l.getD a d)) : Mv key d l ((l2.set k (l2.getD (k + 1) d)).set (k + 1) (l2.getD k d)) a b (k + 1) := by
 have hlen := h.rl.len
 refine ⟨h.rl.trans (Rl.Lr h1 h2 (by omega) (by rw [h.at_, h.hi _ (by omega)]; omega)), ?_, fun x x1 x2 => ?_, fun x x1 => ?_⟩
 ·rw [qt (by omega), if_neg (by omega), if_pos rfl, h.at_]
 ·rw [qt (by omega)]
  by_cases e : x = k
  ·subst e; rw [if_pos rfl, h.hi _ (by omega)]
  ·rw [if_neg e, if_neg (by omega), h.lo x x1 (by omega)]
 ·rw [qt (by omega), if_neg (by omega), if_neg (by omega), h.hi x (by omega)]
theorem Mv.fin {l l2 : List α} {a b i : Nat} (h : Mv key d l l2 a b (i - 1)) (ha : a + 1 ≤ i) (hi : i ≤ b) (hs : Sd key d l (a + 1) b) (hlo : ∀ x, a + 1 ≤ x → x < i → key (l.getD x d) < key (l.getD a d)) (hhi : ∀ x, i ≤ x → x < b → key (l.getD a d) ≤ key (l.getD x d)) : Sd key d l2 a b := by
 have get : ∀ x, a ≤ x → l2.getD x d = if x < i - 1 then l.getD (x + 1) d else if x = i - 1 then l.getD a d else l.getD x d := by
  intro x hx
  by_cases e1 : x < i - 1
  ·rw [if_pos e1, h.lo x hx e1]
  ·rw [if_neg e1]
   by_cases e2 : x = i - 1
   ·rw [if_pos e2, e2, h.at_]
   ·rw [if_neg e2, h.hi x (by omega)]
 intro x y x1 x2 x3
 rw [get x x1, get y (by omega)]
 by_cases e1 : x < i - 1
 ·rw [if_pos e1]
  by_cases f1 : y < i - 1
  ·rw [if_pos f1]; exact hs _ _ (by omega) (by omega) (by omega)
  ·rw [if_neg f1]
   by_cases f2 : y = i - 1
   ·rw [if_pos f2]; have := hlo (x + 1) (by omega) (by omega); omega
   ·rw [if_neg f2]; exact hs _ _ (by omega) (by omega) (by omega)
 ·rw [if_neg e1]
  by_cases e2 : x = i - 1
  ·rw [if_pos e2, if_neg (by omega)]
   by_cases f2 : y = i - 1
   ·rw [if_pos f2]; exact Int.le_refl _
   ·rw [if_neg f2]; exact hhi y (by omega) x3
  ·rw [if_neg e2, if_neg (by omega), if_neg (by omega)]; exact hs _ _ (by omega) x2 x3
structure Mw (key : α → Int) (d : α) (l l2 : List α) (a b m k : Nat) : Prop where
 rl : Rl key d l l2 a b
 at_ : l2.getD k d = l.getD m d
 hi : ∀ x, k < x → x ≤ m → l2.getD x d = l.getD (x - 1) d
 lo : ∀ x, x < k → l2.getD x d = l.getD x d
 up : ∀ x, m < x → l2.getD x d = l.getD x d
theorem Mw.start (l : List α) (a b m : Nat) : Mw key d l l a b m m := ⟨Rl.refl _ _ _, rfl, fun x h1 h2 => by omega, fun _ _ => rfl, fun _ _ => rfl⟩
theorem Mw.step {l l2 : List α} {a b m k : Nat} (h : Mw key d l l2 a b m k) (h0 : a < k) (h1 : k ≤ m) (h2 : m < b) (hl : b ≤ l.length) (hk : key (l.getD m d) < key (l.getD (k - 1) d)) : Mw key d l ((l2.set k (l2.getD (k - 1) d)).set (k - 1) (l2.getD k d)) a b m (k - 1) := by
 have hlen := h.rl.len
 refine ⟨h.rl.trans (Rl.Ao h0 (by omega) (by omega) (by rw [h.at_, h.lo _ (by omega)]; exact hk)), ?_, fun x x1 x2 => ?_, fun x x1 => ?_, fun x x1 => ?_⟩
 ·rw [kP (by omega) (by omega), if_neg (by omega), if_pos rfl, h.at_]
 ·rw [kP (by omega) (by omega)]
  by_cases e : x = k
  ·subst e; rw [if_pos rfl, h.lo _ (by omega)]
  ·rw [if_neg e, if_neg (by omega), h.hi x (by omega) x2]
 ·rw [kP (by omega) (by omega), if_neg (by omega), if_neg (by omega), h.lo x (by omega)]
 ·rw [kP (by omega) (by omega), if_neg (by omega), if_neg (by omega), h.up x x1]
theorem Mw.fin {l l2 : List α} {a b i : Nat} {m : Nat} (h : Mw key d l l2 a b m i) (ha : a ≤ i) (hi : i ≤ m) (hb : b = m + 1) (hs : Sd key d l a m) (hlo : ∀ x, a ≤ x → x < i → key (l.getD x d) ≤ key (l.getD m d)) (hhi : ∀ x, i ≤ x → x < m → key (l.getD m d) < key (l.getD x d)) : Sd key d l2 a b := by
 have get : ∀ x, x ≤ m → l2.getD x d = if x < i then l.getD x d else if x = i then l.getD m d else l.getD (x - 1) d := by
  intro x hx
  by_cases e1 : x < i
  ·rw [if_pos e1, h.lo x e1]
  ·rw [if_neg e1]
   by_cases e2 : x = i
   ·rw [if_pos e2, e2, h.at_]
   ·rw [if_neg e2, h.hi x (by omega) hx]
 intro x y x1 x2 x3
 rw [get x (by omega), get y (by omega)]
 by_cases e1 : x < i
 ·rw [if_pos e1]
  by_cases f1 : y < i
  ·rw [if_pos f1]; exact hs _ _ x1 x2 (by omega)
  ·rw [if_neg f1]
   by_cases f2 : y = i
   ·rw [if_pos f2]; exact hlo x x1 e1
   ·rw [if_neg f2]; exact hs _ _ x1 (by omega) (by omega)
 ·rw [if_neg e1]
  by_cases e2 : x = i
  ·rw [if_pos e2, if_neg (show ¬ y < i by omega)]
   by_cases f2 : y = i
   ·rw [if_pos f2]; exact Int.le_refl _
   ·rw [if_neg f2]; have := hhi (y - 1) (by omega) (by omega); omega
  ·rw [if_neg e2, if_neg (show ¬ y < i by omega), if_neg (show ¬ y = i by omega)]; exact hs _ _ (by omega) (by omega) (by omega)
structure kI (key : α → Int) (d : α) (l l1 : List α) (a s mid e b : Nat) : Prop where
 rl : Rl key d l l1 a b
 s1 : Sd key d l1 a s
 s2 : Sd key d l1 s mid
 s3 : Sd key d l1 mid e
 s4 : Sd key d l1 e b
 cr : ∀ i j, a ≤ i → i < mid → mid ≤ j → j < b → key (l1.getD i d) ≤ key (l1.getD j d)
theorem kI.stay {l : List α} {a m b mid s : Nat} (h1 : Sd key d l a m) (h2 : Sd key d l m b) (hs : a ≤ s ∧ s ≤ mid ∧ s ≤ m ∧ m ≤ mid + m - s ∧ mid ≤ mid + m - s ∧ mid + m - s ≤ b)
  (hc : ∀ i j, a ≤ i → i < s → mid + m - s ≤ j → j < b → key (l.getD i d) ≤ key (l.getD j d)) (hn : ¬ (s < m ∧ m < mid + m - s)) : kI key d l l a s mid (mid + m - s) b := by
 obtain ⟨e1, e2, e3, e4, e5, e6⟩ := hs
 by_cases hm : s = m
 ·subst hm
  have he : mid + s - s = mid := by omega
  rw [he] at hc ⊢
  refine ⟨Rl.refl _ _ _, h1, h2.sub (Nat.le_refl _) (by omega), Sd.small (by omega), h2.sub e2 (Nat.le_refl _), fun i j i1 i2 j1 j2 => ?_⟩
  by_cases hi : i < s
  ·exact hc i j i1 hi j1 j2
  ·exact h2 i j (by omega) (by omega) j2
 ·have hs2 : s = mid := by omega
  subst hs2
  have he : s + m - s = m := by omega
  rw [he] at hc ⊢
  refine ⟨Rl.refl _ _ _, h1.sub (Nat.le_refl _) (by omega), Sd.small (by omega), h1.sub e1 (Nat.le_refl _), h2, fun i j i1 i2 j1 j2 => ?_⟩
  by_cases hj : j < m
  ·exact h1 i j i1 (by omega) hj
  ·exact hc i j i1 i2 (by omega) j2
theorem kI.Mg {P X Y Z : List α} {a m b mid s : Nat} (hP : P.length = s) (hX : X.length = m - s) (hY : Y.length = mid + m - s - m) (h1 : Sd key d (P ++ X ++ Y ++ Z) a m) (h2 : Sd key d (P ++ X ++ Y ++ Z) m b) (hs : a ≤ s ∧ s ≤ mid ∧ s ≤ m ∧ m ≤ mid + m - s ∧ mid ≤ mid + m - s ∧ mid + m - s ≤ b)
  (hlt : ∀ i j, s ≤ i → i < m → m ≤ j → j < mid + m - s → key ((P ++ X ++ Y ++ Z).getD j d) < key ((P ++ X ++ Y ++ Z).getD i d))
  (hc : ∀ i j, a ≤ i → i < s → mid + m - s ≤ j → j < b → key ((P ++ X ++ Y ++ Z).getD i d) ≤ key ((P ++ X ++ Y ++ Z).getD j d))
  (hXm : ∀ x ∈ X, ∃ i, s ≤ i ∧ i < m ∧ x = (P ++ X ++ Y ++ Z).getD i d) (hYm : ∀ y ∈ Y, ∃ i, m ≤ i ∧ i < mid + m - s ∧ y = (P ++ X ++ Y ++ Z).getD i d) :
  kI key d (P ++ X ++ Y ++ Z) (P ++ Y ++ X ++ Z) a s mid (mid + m - s) b := by
 obtain ⟨e1, e2, e3, e4, e5, e6⟩ := hs
 have hr : Rl key d (P ++ X ++ Y ++ Z) (P ++ Y ++ X ++ Z) a b := Rl.rotate (by omega) (by omega) (fun x hx y hy => by
  obtain ⟨i, i1, i2, rfl⟩ := hXm x hx
  obtain ⟨j, j1, j2, rfl⟩ := hYm y hy
  have := hlt i j i1 i2 j1 j2
  omega)
 have g1 : ∀ i, i < s → (P ++ Y ++ X ++ Z).getD i d = (P ++ X ++ Y ++ Z).getD i d := fun i hi => by rw [rY, if_pos (by omega)]
 have g2 : ∀ i, s ≤ i → i < mid → (P ++ Y ++ X ++ Z).getD i d = (P ++ X ++ Y ++ Z).getD (i + (m - s)) d := fun i i1 i2 => by rw [rY, if_neg (by omega), if_pos (by omega), hX]
 have g3 : ∀ i, mid ≤ i → i < mid + m - s → (P ++ Y ++ X ++ Z).getD i d = (P ++ X ++ Y ++ Z).getD (i - (mid + m - s - m)) d := fun i i1 i2 => by rw [rY, if_neg (by omega), if_neg (by omega), if_pos (by omega), hY]
 have g4 : ∀ i, mid + m - s ≤ i → (P ++ Y ++ X ++ Z).getD i d = (P ++ X ++ Y ++ Z).getD i d := fun i hi => by rw [rY, if_neg (by omega), if_neg (by omega), if_neg (by omega)]
 refine ⟨hr, fun i j i1 i2 i3 => ?_, fun i j i1 i2 i3 => ?_, fun i j i1 i2 i3 => ?_, fun i j i1 i2 i3 => ?_, fun i j i1 i2 j1 j2 => ?_⟩
 ·rw [g1 i (by omega), g1 j (by omega)]; exact h1 i j i1 i2 (by omega)
 ·rw [g2 i i1 (by omega), g2 j (by omega) i3]; exact h2 _ _ (by omega) (by omega) (by omega)
 ·rw [g3 i i1 (by omega), g3 j (by omega) i3]; exact h1 _ _ (by omega) (by omega) (by omega)
 ·rw [g4 i i1, g4 j (by omega)]; exact h2 _ _ (by omega) i2 i3
 ·by_cases hi : i < s
  ·rw [g1 i hi]
   by_cases hj : j < mid + m - s
   ·rw [g3 j j1 hj]; exact h1 _ _ i1 (by omega) (by omega)
   ·rw [g4 j (by omega)]; exact hc i j i1 hi (by omega) j2
  ·rw [g2 i (by omega) i2]
   by_cases hj : j < mid + m - s
   ·rw [g3 j j1 hj]
    have := hlt (j - (mid + m - s - m)) (i + (m - s)) (by omega) (by omega) (by omega) (by omega)
    omega
   ·rw [g4 j (by omega)]; exact h2 _ _ (by omega) (by omega) j2
theorem kl {l1 l2 : List α} {a mid b : Nat} (h : ∀ i j, a ≤ i → i < mid → mid ≤ j → j < b → key (l1.getD i d) ≤ key (l1.getD j d)) (hr : Rl key d l1 l2 a mid) : ∀ i j, a ≤ i → i < mid → mid ≤ j → j < b → key (l2.getD i d) ≤ key (l2.getD j d) := fun i j i1 i2 j1 j2 => by
 obtain ⟨k, k1, k2, e⟩ := hr.mem i i1 i2
 rw [e, hr.out j (by omega)]
 exact h k j k1 k2 j1 j2
theorem r1 {l1 l2 : List α} {a mid b : Nat} (h : ∀ i j, a ≤ i → i < mid → mid ≤ j → j < b → key (l1.getD i d) ≤ key (l1.getD j d)) (hr : Rl key d l1 l2 mid b) : ∀ i j, a ≤ i → i < mid → mid ≤ j → j < b → key (l2.getD i d) ≤ key (l2.getD j d) := fun i j i1 i2 j1 j2 => by
 obtain ⟨k, k1, k2, e⟩ := hr.mem j j1 j2
 rw [e, hr.out i (by omega)]
 exact h i k i1 i2 k1 k2
theorem De {l : List α} {a m b mid h st0 r0 : Nat} (ham : a < m) (hmb : m < b) (hmid : mid = (a + b) / 2) (h1 : Sd key d l a m) (h2 : Sd key d l m b) (e0 : st0 = if mid < m then mid + m - b else a) (e1 : r0 = if mid < m then mid else m) (i1 : st0 ≤ h) (i2 : h < r0)
  (hk : key (l.getD h d) ≤ key (l.getD (mid + m - 1 - h) d)) : ∀ x, st0 ≤ x → x < h + 1 → key (l.getD x d) ≤ key (l.getD (mid + m - 1 - x) d) := fun x x1 x2 => by
 have f1 := h1 x h (by split at e0 <;> omega) (by omega) (by split at e1 <;> omega)
 have f2 := h2 (mid + m - 1 - h) (mid + m - 1 - x) (by split at e1 <;> omega) (by omega) (by split at e0 <;> omega)
 omega
theorem Di {l : List α} {a m b mid h st0 r0 : Nat} (ham : a < m) (hmb : m < b) (hmid : mid = (a + b) / 2) (h1 : Sd key d l a m) (h2 : Sd key d l m b) (e0 : st0 = if mid < m then mid + m - b else a) (e1 : r0 = if mid < m then mid else m) (i1 : st0 ≤ h) (i2 : h < r0)
  (hk : key (l.getD (mid + m - 1 - h) d) < key (l.getD h d)) : ∀ x, h ≤ x → x < r0 → key (l.getD (mid + m - 1 - x) d) < key (l.getD x d) := fun x x1 x2 => by
 have f1 := h1 h x (by split at e0 <;> omega) (by omega) (by split at e1 <;> omega)
 have f2 := h2 (mid + m - 1 - x) (mid + m - 1 - h) (by split at e1 <;> omega) (by omega) (by split at e0 <;> omega)
 omega
end Go.aV
namespace Go.aV
variable {α : Type} {key : α → Int} {d : α}
theorem um {b x A : Nat} (h1 : b ∣ x) (h2 : b ∣ A) (h : x ≤ A) : x = A ∨ x + b ≤ A := by
 obtain ⟨u, rfl⟩ := h1
 obtain ⟨v, rfl⟩ := h2
 rcases Nat.eq_zero_or_pos b with hb | hb
 ·subst hb; left; simp
 ·have huv : u ≤ v := Nat.le_of_mul_le_mul_left h hb
  rcases Nat.lt_or_ge u v with h3 | h3
  ·right
   have := Nat.mul_le_mul_left b h3
   rw [Nat.mul_succ] at this
   exact this
  ·left; congr 1; omega
def Bk (key : α → Int) (d : α) (l : List α) (s n : Nat) : Prop := ∀ x, s ∣ x → Sd key d l x (min (x + s) n)
def Bd (key : α → Int) (d : α) (l : List α) (s A : Nat) : Prop := ∀ x, s ∣ x → x + s ≤ A → Sd key d l x (x + s)
theorem Bd.zero (l : List α) (s : Nat) (hs : 0 < s) : Bd key d l s 0 := fun x _ h => by omega
theorem Bd.step {l l2 : List α} {s A : Nat} (h : Bd key d l s A) (hA : s ∣ A) (hr : Rl key d l l2 A (s + A)) (h2 : Sd key d l2 A (s + A)) : Bd key d l2 s (s + A) := fun x hx hle => by
 rcases um hx hA (by omega) with e | e
 ·subst e; exact h2.sub (Nat.le_refl _) (by omega)
 ·exact (h x hx e).congr (fun i i1 i2 => hr.out i (by omega))
theorem Bd.fin {l l2 : List α} {s A n : Nat} (h : Bd key d l s A) (hA : s ∣ A) (hAn : A ≤ n) (hn : n < s + A) (hr : Rl key d l l2 A n) (h2 : Sd key d l2 A n) : Bk key d l2 s n := fun x hx => by
 rcases Nat.lt_or_ge A x with h3 | h3
 ·rcases um hA hx (Nat.le_of_lt h3) with e | e
  ·omega
  ·exact Sd.small (by omega)
 ·rcases um hx hA h3 with e | e
  ·subst e; exact h2.sub (Nat.le_refl _) (by omega)
  ·rw [Nat.min_eq_left (by omega)]
   exact (h x hx e).congr (fun i i1 i2 => hr.out i (by omega))
def Br (key : α → Int) (d : α) (l : List α) (s n A : Nat) : Prop := ∀ x, s ∣ x → A ≤ x → Sd key d l x (min (x + s) n)
theorem Bk.br {l : List α} {s n : Nat} (h : Bk key d l s n) : Br key d l s n 0 := fun x hx _ => h x hx
theorem Br.step {l l2 : List α} {s n A B : Nat} (h : Br key d l s n A) (hAB : A ≤ B) (hr : Rl key d l l2 A B) : Br key d l2 s n B := fun x hx hle => (h x hx (by omega)).congr (fun i i1 i2 => hr.out i (by omega))
theorem og {s A : Nat} (h : 2 * s ∣ A) : s ∣ A := Nat.dvd_trans ⟨2, by rw [Nat.mul_comm]⟩ h
theorem Br.two {l : List α} {s n A : Nat} (h : Br key d l s n A) (hA : 2 * s ∣ A) (hn : 2 * s + A ≤ n) : Sd key d l A (A + s) ∧ Sd key d l (A + s) (2 * s + A) := by
 have h1 := h A (og hA) (Nat.le_refl _)
 have h2 := h (A + s) (Nat.dvd_add (og hA) (Nat.dvd_refl _)) (by omega)
 rw [Nat.min_eq_left (by omega)] at h1
 rw [Nat.min_eq_left (by omega)] at h2
 exact ⟨h1, h2.sub (Nat.le_refl _) (by omega)⟩
theorem Br.last {l : List α} {s n A : Nat} (h : Br key d l s n A) (hA : 2 * s ∣ A) (hn : n < 2 * s + A) (hm : A + s < n) : Sd key d l A (A + s) ∧ Sd key d l (A + s) n := by
 have h1 := h A (og hA) (Nat.le_refl _)
 have h2 := h (A + s) (Nat.dvd_add (og hA) (Nat.dvd_refl _)) (by omega)
 rw [Nat.min_eq_left (by omega)] at h1
 rw [Nat.min_eq_right (by omega)] at h2
 exact ⟨h1, h2⟩
theorem Br.one {l : List α} {s n A : Nat} (h : Br key d l s n A) (hA : 2 * s ∣ A) (hm : n ≤ A + s) : Sd key d l A n := by
 have h1 := h A (og hA) (Nat.le_refl _)
 rwa [Nat.min_eq_right (by omega)] at h1
theorem Bk.all {l : List α} {s n : Nat} (h : Bk key d l s n) (hn : n ≤ s) : Sd key d l 0 n := by
 have := h 0 (Nat.dvd_zero _)
 rwa [Nat.min_eq_right (by omega)] at this
end Go.aV
namespace Go.ab
def cls (ls : List Int) (n : Nat) : List Int := ((List.range ls.length).filter (fun i => decide (ls.getD i 0 = (n : Int)))).map (fun i : Nat => (i : Int))
def dG (ls : List Int) : Nat → List Int
 | 0 => []
 | n + 1 => dG ls n ++ cls ls (n + 1)
def ord (ls : List Int) : List Int := dG ls 15
def off (ls : List Int) : Nat → Nat
 | 0 => 0
 | n + 1 => (dG ls n).length
def da (ls : List Int) (n : Nat) : Int := if n = 0 then 0 else ((cls ls n).length : Int)
def bx (ls : List Int) : List Int := (List.range 16).map (da ls)
def base (ls : List Int) : Nat → Int
 | 0 => 0
 | n + 1 => 2 * (base ls n + da ls n)
def lenOf (ls : List Int) (s : Nat) : Nat := (ls.getD s 0).toNat
def ff (ls : List Int) (s : Nat) : Int := base ls (lenOf ls s) + ((cls (ls.take s) (lenOf ls s)).length : Int)
def Vl (ls : List Int) : Prop := ls.length ≤ 320 ∧ ∀ x ∈ ls, 0 ≤ x ∧ x ≤ 15
theorem gY (ls : List Int) : (bx ls).length = 16 := by simp [bx]
theorem jT {ls : List Int} {n : Nat} (h : n < 16) : (bx ls).getD n 0 = da ls n := by simp [bx, List.getD_eq_getElem?_getD, h]
theorem mJ (ls : List Int) (n : Nat) : (cls ls n).length ≤ ls.length := by
 unfold cls
 have := List.length_filter_le (fun i => decide (ls.getD i 0 = (n : Int))) (List.range ls.length)
 simpa using this
theorem gw (ls : List Int) (n : Nat) : 0 ≤ da ls n := by unfold da; split <;> omega
theorem IH (ls : List Int) (n : Nat) : da ls n ≤ ls.length := by
 have := mJ ls n
 unfold da; split <;> omega
theorem getD_take {ls : List Int} {i k : Nat} (h : i < k) : (ls.take k).getD i 0 = ls.getD i 0 := by
 simp [List.getD_eq_getElem?_getD, List.getElem?_take, h]
theorem jZ {ls : List Int} {k n : Nat} (h : k < ls.length) : cls (ls.take (k + 1)) n = cls (ls.take k) n ++ (if ls[k] = (n : Int) then [(k : Int)] else []) := by
 unfold cls
 have e1 : (ls.take (k + 1)).length = k + 1 := by simp; omega
 have e2 : (ls.take k).length = k := by simp; omega
 rw [e1, e2, List.range_succ, List.filter_append, List.map_append]
 congr 1
 ·congr 1
  apply List.filter_congr
  intro i hi
  have hi := List.mem_range.1 hi
  rw [getD_take (by omega), getD_take hi]
 ·have : (ls.take (k + 1)).getD k 0 = ls[k] := by rw [getD_take (by omega)]; simp [List.getD_eq_getElem?_getD, h]
  by_cases he : ls[k] = (n : Int)
  ·simp only [List.filter_cons, List.filter_nil, this, he, decide_true, decide_false, if_true, if_false, List.map_cons, List.map_nil]; try rfl
  ·simp only [List.filter_cons, List.filter_nil, this, he, decide_true, decide_false, if_true, if_false, List.map_cons, List.map_nil]; try rfl
theorem py (n : Nat) : cls [] n = [] := by simp [cls]
theorem oZ {ls : List Int} {k n : Nat} (h : k < ls.length) : da (ls.take (k + 1)) n = da (ls.take k) n + (if n ≠ 0 ∧ ls[k] = (n : Int) then 1 else 0) := by
 unfold da
 by_cases h0 : n = 0
 ·simp [h0]
 ·rw [if_neg h0, if_neg h0, jZ h]
  by_cases he : ls[k] = (n : Int)
  ·simp [he, h0]
  ·simp [he]
theorem BX {ls : List Int} {k : Nat} (h : k < ls.length) (h1 : 0 < ls[k]) (h2 : ls[k] ≤ 15) : bx (ls.take (k + 1)) = (bx (ls.take k)).set ls[k].toNat ((bx (ls.take k)).getD ls[k].toNat 0 + 1) := by
 apply List.ext_getElem?
 intro i
 by_cases hi : i < 16
 ·rw [List.getElem?_set]
  by_cases he : ls[k].toNat = i
  ·rw [if_pos he, if_pos (by rw [gY]; omega), he, jT hi]
   simp only [bx, List.getElem?_map, List.getElem?_range hi, Option.map_some]
   rw [oZ h, if_pos ⟨by omega, by omega⟩]
  ·rw [if_neg he]
   simp only [bx, List.getElem?_map, List.getElem?_range hi, Option.map_some]
   rw [oZ h, if_neg (fun hh => he (by omega))]
   simp
 ·rw [List.getElem?_eq_none (by rw [gY]; omega), List.getElem?_eq_none (by rw [List.length_set, gY]; omega)]
theorem uP {ls : List Int} {k : Nat} (h : k < ls.length) (h1 : ls[k] = 0) : bx (ls.take (k + 1)) = bx (ls.take k) := by
 unfold bx
 apply List.map_congr_left
 intro i _
 rw [oZ h, if_neg (fun hh => hh.1 (by omega))]
 simp
theorem wS : bx [] = List.replicate 16 0 := by
 have : da [] = fun _ => 0 := by funext n; simp [da, py]
 unfold bx
 rw [this]
 rfl
def cG (ls : List Int) : List Int := ((List.range ls.length).filter (fun i => decide (0 < ls.getD i 0))).map (fun i : Nat => (i : Int))
theorem mv {ls : List Int} {k : Nat} (h : k < ls.length) : cG (ls.take (k + 1)) = cG (ls.take k) ++ (if 0 < ls[k] then [(k : Int)] else []) := by
 unfold cG
 have e1 : (ls.take (k + 1)).length = k + 1 := by simp; omega
 have e2 : (ls.take k).length = k := by simp; omega
 rw [e1, e2, List.range_succ, List.filter_append, List.map_append]
 congr 1
 ·congr 1
  apply List.filter_congr
  intro i hi
  have hi := List.mem_range.1 hi
  rw [getD_take (by omega), getD_take hi]
 ·have : (ls.take (k + 1)).getD k 0 = ls[k] := by rw [getD_take (by omega)]; simp [List.getD_eq_getElem?_getD, h]
  by_cases he : 0 < ls[k]
  ·simp only [List.filter_cons, List.filter_nil, this, he, decide_true, decide_false, if_true, if_false, List.map_cons, List.map_nil]; try rfl
  ·simp only [List.filter_cons, List.filter_nil, this, he, decide_true, decide_false, if_true, if_false, List.map_cons, List.map_nil]; try rfl
theorem rQ (ls : List Int) : (cG ls).length ≤ ls.length := by
 unfold cG
 have := List.length_filter_le (fun i => decide (0 < ls.getD i 0)) (List.range ls.length)
 simpa using this
def left (C : List Int) : Nat → Int
 | 0 => 1
 | n + 1 => 2 * left C n - C.getD (n + 1) 0
def gb (C : List Int) (all : Int) : Bool := (List.range 15).all (fun n => decide (0 ≤ left C (n + 1))) && (decide (left C 15 = 0) || decide (all = 0) || (decide (all = 1) && decide (C.getD 1 0 = 1)))
theorem yZ {C : List Int} (hC : ∀ i, 0 ≤ C.getD i 0) : ∀ n, left C n ≤ 2 ^ n
 | 0 => by simp [left]
 | n + 1 => by
  have h := yZ hC n
  have := hC (n + 1)
  simp only [left]
  rw [Int.pow_succ]
  omega
theorem tj {C : List Int} (hC : ∀ i, 0 ≤ C.getD i 0) {n : Nat} (hn : n ≤ 15) : left C n ≤ 32768 := by
 refine Int.le_trans (yZ hC n) ?_
 have : (2 : Nat) ^ n ≤ 2 ^ 15 := Nat.pow_le_pow_right (by decide) hn
 have e : ((2 : Int) ^ n) = ((2 ^ n : Nat) : Int) := by simp
 rw [e]
 omega
theorem sL {C : List Int} {all : Int} {n : Nat} (h1 : 1 ≤ n) (h2 : n ≤ 15) (h : left C n < 0) : gb C all = false := by
 unfold gb
 have : (List.range 15).all (fun n => decide (0 ≤ left C (n + 1))) = false := by
  rw [List.all_eq_false]
  exact ⟨n - 1, List.mem_range.2 (by omega), by rw [show n - 1 + 1 = n by omega]; simpa using h⟩
 rw [this]; rfl
theorem nO {C : List Int} {all : Int} (h : ∀ n, 1 ≤ n → n ≤ 15 → 0 ≤ left C n) : gb C all = (decide (left C 15 = 0) || decide (all = 0) || (decide (all = 1) && decide (C.getD 1 0 = 1))) := by
 unfold gb
 have : (List.range 15).all (fun n => decide (0 ≤ left C (n + 1))) = true := by
  rw [List.all_eq_true]
  intro x hx
  have := List.mem_range.1 hx
  simpa using h (x + 1) (by omega) (by omega)
 rw [this]; rfl
theorem yR {C : List Int} {k : Nat} (hno : ∀ m, 1 ≤ m → m ≤ k → 0 ≤ left C m) : 0 ≤ left C k := by
 rcases Nat.eq_zero_or_pos k with e | e
 ·subst e; simp [left]
 ·exact hno k e (Nat.le_refl _)
theorem mj {C : List Int} {k : Nat} : 2 * left C k - C.getD ((k : Int) + 1).toNat 0 = left C (k + 1) := by
 rw [show ((k : Int) + 1).toNat = k + 1 by omega]; rfl
theorem vr {C : List Int} {k : Nat} (hno : ∀ m, 1 ≤ m → m ≤ k → 0 ≤ left C m) (h : ¬ 2 * left C k - C.getD ((k : Int) + 1).toNat 0 < 0) : ∀ m, 1 ≤ m → m ≤ k + 1 → 0 ≤ left C m := by
 intro m h1 h2
 rcases Nat.lt_or_ge m (k + 1) with h3 | h3
 ·exact hno m h1 (by omega)
 ·obtain rfl : m = k + 1 := by omega
  rw [mj] at h
  omega
theorem iy {C : List Int} {all : Int} {k : Nat} (hk : k ≤ 15) (h8 : ¬ ((k : Int) + 1 ≤ 15)) (hno : ∀ m, 1 ≤ m → m ≤ k → 0 ≤ left C m) : gb C all = (decide (left C k = 0) || decide (all = 0) || (decide (all = 1) && decide (C.getD (Int.toNat 1) 0 = 1))) := by
 obtain rfl : k = 15 := by omega
 exact nO hno
def okB (ls : List Int) : Bool := ls.all (fun x => decide (0 ≤ x ∧ x ≤ 15))
def aO (ls : List Int) : Int := if 320 < ls.length then 1 else if okB ls = true then (if gb (bx ls) ((cG ls).length : Int) = true then 0 else 4) else 1
def cF (ls : List Int) : Int := ls.foldl (fun a x => if a < x then x else a) 0
theorem il {ls : List Int} {n : Nat} {x : Int} : x ∈ cls ls n ↔ 0 ≤ x ∧ x.toNat < ls.length ∧ ls.getD x.toNat 0 = (n : Int) := by
 unfold cls
 simp only [List.mem_map, List.mem_filter, List.mem_range, decide_eq_true_eq]
 constructor
 ·rintro ⟨i, ⟨h1, h2⟩, rfl⟩
  exact ⟨by omega, by simpa using h1, by simpa using h2⟩
 ·rintro ⟨h1, h2, h3⟩
  exact ⟨x.toNat, ⟨h2, h3⟩, by omega⟩
theorem sv {ls : List Int} {x : Int} : ∀ {n : Nat}, x ∈ dG ls n ↔ ∃ m, 1 ≤ m ∧ m ≤ n ∧ x ∈ cls ls m
 | 0 => by simp [dG]; omega
 | n + 1 => by
  simp only [dG, List.mem_append, sv (n := n)]
  constructor
  ·rintro (⟨m, h1, h2, h3⟩ | h)
   ·exact ⟨m, h1, by omega, h3⟩
   ·exact ⟨n + 1, by omega, Nat.le_refl _, h⟩
  ·rintro ⟨m, h1, h2, h3⟩
   by_cases e : m = n + 1
   ·subst e; exact .inr h3
   ·exact .inl ⟨m, h1, by omega, h3⟩
theorem rV {ls : List Int} (hv : Vl ls) {x : Int} : x ∈ ord ls ↔ 0 ≤ x ∧ x.toNat < ls.length ∧ 0 < ls.getD x.toNat 0 := by
 unfold ord
 rw [sv]
 constructor
 ·rintro ⟨m, h1, h2, h3⟩
  obtain ⟨a, b, c⟩ := il.1 h3
  exact ⟨a, b, by omega⟩
 ·rintro ⟨h1, h2, h3⟩
  have h4 := hv.2 (ls.getD x.toNat 0) (by simp [List.getD_eq_getElem?_getD, h2])
  refine ⟨(ls.getD x.toNat 0).toNat, by omega, by omega, il.2 ⟨h1, h2, by omega⟩⟩
theorem m9 (ls : List Int) {n : Nat} (h : 1 ≤ n) : off ls (n + 1) = off ls n + (cls ls n).length := by
 obtain ⟨m, rfl⟩ : ∃ m, n = m + 1 := ⟨n - 1, by omega⟩
 simp [off, dG]
theorem kf (ls : List Int) (n : Nat) : (off ls (n + 1) : Int) = off ls n + da ls n := by
 rcases Nat.eq_zero_or_pos n with h | h
 ·subst h; simp [off, dG, da]
 ·rw [m9 ls h]
  unfold da
  rw [if_neg (by omega)]
  omega
theorem Er (ls : List Int) {m n : Nat} (h : m ≤ n) : ∃ t, dG ls n = dG ls m ++ t := by
 induction n with
 | zero =>
  obtain rfl : m = 0 := by omega
  exact ⟨[], by simp⟩
 | succ n ih =>
  by_cases e : m = n + 1
  ·subst e; exact ⟨[], by simp⟩
  ·obtain ⟨t, ht⟩ := ih (by omega)
   exact ⟨t ++ cls ls (n + 1), by simp [dG, ht]⟩
theorem gZ (ls : List Int) {m n : Nat} (h : m ≤ n) : off ls m ≤ off ls n := by
 induction n with
 | zero =>
  obtain rfl : m = 0 := by omega
  exact Nat.le_refl _
 | succ n ih =>
  by_cases e : m = n + 1
  ·subst e; exact Nat.le_refl _
  ·have := ih (by omega)
   have h2 := kf ls n
   have h3 := gw ls n
   omega
theorem lU (ls : List Int) : (ord ls).length = off ls 16 := rfl
theorem zr {ls : List Int} {n r : Nat} (h1 : 1 ≤ n) (h2 : n ≤ 15) (h : r < (cls ls n).length) : (ord ls).getD (off ls n + r) 0 = (cls ls n).getD r 0 := by
 obtain ⟨t, ht⟩ := Er ls (show n ≤ 15 from h2)
 obtain ⟨m, rfl⟩ : ∃ m, n = m + 1 := ⟨n - 1, by omega⟩
 have e : ord ls = dG ls m ++ cls ls (m + 1) ++ t := by unfold ord; rw [ht]; rfl
 rw [e, List.append_assoc]
 simp only [List.getD_eq_getElem?_getD, off]
 rw [List.getElem?_append_right (by omega), List.getElem?_append_left (by omega)]
 congr 2
 omega
theorem rA {ls : List Int} {p : Nat} (h : p < (ord ls).length) : ∃ n r, 1 ≤ n ∧ n ≤ 15 ∧ r < (cls ls n).length ∧ p = off ls n + r := by
 have key : ∀ n, p < off ls (n + 1) → ∃ m r, 1 ≤ m ∧ m ≤ n ∧ r < (cls ls m).length ∧ p = off ls m + r := by
  intro n
  induction n with
  | zero => intro h; simp [off, dG] at h
  | succ n ih =>
   intro h
   by_cases h2 : p < off ls (n + 1)
   ·obtain ⟨m, r, a, b, c, d⟩ := ih h2
    exact ⟨m, r, a, by omega, c, d⟩
   ·have := m9 ls (n := n + 1) (by omega)
    exact ⟨n + 1, p - off ls (n + 1), by omega, Nat.le_refl _, by omega, by omega⟩
 exact key 15 h
theorem w8 {ls : List Int} {s n : Nat} (h : s < ls.length) (hn : ls.getD s 0 = (n : Int)) : ∃ t, cls ls n = cls (ls.take s) n ++ ((s : Int) :: t) := by
 have e : ls = ls.take (s + 1) ++ ls.drop (s + 1) := (List.take_append_drop _ _).symm
 have key : ∀ k, s + 1 + k ≤ ls.length → ∃ t, cls (ls.take (s + 1 + k)) n = cls (ls.take s) n ++ ((s : Int) :: t) := by
  intro k
  induction k with
  | zero =>
   intro _
   refine ⟨[], ?_⟩
   rw [Nat.add_zero, jZ h, if_pos (by rw [← hn]; simp [List.getD_eq_getElem?_getD, h])]
  | succ k ih =>
   intro hk
   obtain ⟨t, ht⟩ := ih (by omega)
   refine ⟨t ++ (if ls[s + 1 + k] = (n : Int) then [((s + 1 + k : Nat) : Int)] else []), ?_⟩
   rw [show s + 1 + (k + 1) = (s + 1 + k) + 1 by omega, jZ (show s + 1 + k < ls.length by omega), ht]
   simp
 obtain ⟨t, ht⟩ := key (ls.length - (s + 1)) (by omega)
 rw [show s + 1 + (ls.length - (s + 1)) = ls.length by omega, List.take_length] at ht
 exact ⟨t, ht⟩
theorem uX (ls : List Int) (n : Nat) : (cls ls n).Nodup := by
 unfold cls
 have h : ((List.range ls.length).filter (fun i => decide (ls.getD i 0 = (n : Int)))).Nodup := List.Pairwise.filter _ List.nodup_range
 rw [List.Nodup, List.pairwise_map]
 exact List.Pairwise.imp (fun {a b} hab he => hab (Int.ofNat.inj he)) h
theorem ra {ls : List Int} {n r : Nat} (h1 : 1 ≤ n) (h2 : n ≤ 15) (h : r < (cls ls n).length) :
  ∃ s : Nat, (ord ls).getD (off ls n + r) 0 = (s : Int) ∧ s < ls.length ∧ ls.getD s 0 = (n : Int) ∧ lenOf ls s = n ∧ ff ls s = base ls n + r := by
 have hr0 : (cls ls n)[r]? = some ((cls ls n).getD r 0) := by simp [List.getD_eq_getElem?_getD, h]
 have hm : (cls ls n).getD r 0 ∈ cls ls n := List.mem_of_getElem? hr0
 obtain ⟨a, b, c⟩ := il.1 hm
 obtain ⟨s, hs⟩ : ∃ s : Nat, (cls ls n).getD r 0 = (s : Int) := ⟨((cls ls n).getD r 0).toNat, by omega⟩
 rw [hs] at hr0 b c
 simp only [Int.toNat_natCast] at b c
 have hl : lenOf ls s = n := by unfold lenOf; rw [c]; omega
 refine ⟨s, by rw [zr h1 h2 h, hs], b, c, hl, ?_⟩
 unfold ff
 rw [hl]
 congr 1
 obtain ⟨t, ht⟩ := w8 b c
 have hidx : (cls ls n)[(cls (ls.take s) n).length]? = some (s : Int) := by
  rw [ht, List.getElem?_append_right (Nat.le_refl _), Nat.sub_self]
  rfl
 have := (List.getElem?_inj (List.getElem?_eq_some_iff.1 hr0).1 (uX ls n)).1 (hr0.trans hidx.symm)
 omega
theorem o3 {ls : List Int} {m n : Nat} (h : m ≤ n) (hz : ∀ k, m < k → k < n → da ls k = 0) (hmn : m < n) : base ls n = (base ls m + da ls m) * 2 ^ (n - m) := by
 induction n with
 | zero => omega
 | succ n ih =>
  by_cases e : m = n
  ·subst e
   rw [show m + 1 - m = 1 by omega]
   simp only [base]
   omega
  ·have := ih (by omega) (fun k k1 k2 => hz k k1 (by omega)) (by omega)
   simp only [base]
   rw [this, hz n (by omega) (by omega), show n + 1 - m = (n - m) + 1 by omega, Int.pow_succ]
   rw [Int.add_zero, Int.mul_comm 2, Int.mul_assoc]
theorem Cm {ls : List Int} {p : Nat} (hp : p + 1 < (ord ls).length) : ∃ s t : Nat, (ord ls).getD p 0 = (s : Int) ∧ (ord ls).getD (p + 1) 0 = (t : Int) ∧ s < ls.length ∧ t < ls.length ∧ 1 ≤ lenOf ls s ∧ lenOf ls s ≤ lenOf ls t ∧ lenOf ls t ≤ 15 ∧ ls.getD s 0 = (lenOf ls s : Int) ∧ ls.getD t 0 = (lenOf ls t : Int) ∧ ff ls t = (ff ls s + 1) * 2 ^ (lenOf ls t - lenOf ls s) := by
 obtain ⟨m, r, m1, m2, hr, e1⟩ := rA (show p < (ord ls).length by omega)
 obtain ⟨n, q, n1, n2, hq, e2⟩ := rA hp
 obtain ⟨s, s1, s2, s3, s4, s5⟩ := ra m1 m2 hr
 obtain ⟨t, t1, t2, t3, t4, t5⟩ := ra n1 n2 hq
 have hmn : m ≤ n := by
  rcases Nat.lt_or_ge n m with h | h
  ·exfalso
   have := gZ ls (show n + 1 ≤ m from h)
   have := m9 ls n1
   omega
  ·exact h
 refine ⟨s, t, by rw [e1]; exact s1, by rw [e2]; exact t1, s2, t2, by omega, by omega, by omega, by rw [s4]; exact s3, by rw [t4]; exact t3, ?_⟩
 rw [s4, t4, s5, t5]
 by_cases e : m = n
 ·subst e
  rw [Nat.sub_self]
  simp
  omega
 ·have h3 := gZ ls (show m + 1 ≤ n by omega)
  have h4 := m9 ls m1
  have hq0 : q = 0 := by omega
  have hrl : r + 1 = (cls ls m).length := by omega
  subst hq0
  have hz : ∀ k, m < k → k < n → da ls k = 0 := by
   intro k k1 k2
   have h5 := gZ ls (show m + 1 ≤ k by omega)
   have h6 := gZ ls (show k + 1 ≤ n by omega)
   have h7 := kf ls k
   have h8 := gw ls k
   omega
  have hc : da ls m = (r : Int) + 1 := by unfold da; rw [if_neg (by omega)]; omega
  rw [o3 hmn hz (by omega), hc]
  simp [Int.add_assoc]
theorem AX {ls : List Int} (hp : 0 < (ord ls).length) : ∃ t : Nat, (ord ls).getD 0 0 = (t : Int) ∧ t < ls.length ∧ 1 ≤ lenOf ls t ∧ lenOf ls t ≤ 15 ∧ ls.getD t 0 = (lenOf ls t : Int) ∧ ff ls t = 0 := by
 obtain ⟨n, q, n1, n2, hq, e2⟩ := rA hp
 obtain ⟨t, t1, t2, t3, t4, t5⟩ := ra n1 n2 hq
 refine ⟨t, by rw [e2]; exact t1, t2, by omega, by omega, by rw [t4]; exact t3, ?_⟩
 have hz : ∀ k, 0 < k → k < n → da ls k = 0 := by
  intro k k1 k2
  have h6 := gZ ls (show k + 1 ≤ n by omega)
  have h7 := kf ls k
  have h8 := gw ls k
  omega
 rw [t5, o3 (Nat.zero_le n) hz (by omega)]
 simp [base, da]
 omega
end Go.ab
namespace Go.ab
open Go.aV
abbrev key (ls : List Int) (x : Int) : Int := ls.getD x.toNat 0
theorem E9 (l : List Nat) (q : Nat → Bool) (p : Int → Bool) : ((l.filter q).map (fun i : Nat => (i : Int))).filter p = (l.filter (fun i => q i && p (i : Int))).map (fun i : Nat => (i : Int)) := by
 rw [List.filter_map, List.filter_filter]
 congr 2
 funext i
 simp [Bool.and_comm]
theorem EK (ls : List Int) (m : Nat) (c : Int) : (cls ls m).filter (fun x => decide (key ls x = c)) = if (m : Int) = c then cls ls m else [] := by
 by_cases h : (m : Int) = c
 ·rw [if_pos h, List.filter_eq_self]
  intro x hx
  have := (il.1 hx).2.2
  simpa [h] using this.trans h
 ·rw [if_neg h, List.filter_eq_nil_iff]
  intro x hx
  have := (il.1 hx).2.2
  simp only [decide_eq_true_eq]
  intro e
  exact h (this.symm.trans e)
theorem xw (ls : List Int) (c : Int) : ∀ n : Nat, (dG ls n).filter (fun x => decide (key ls x = c)) = if 1 ≤ c ∧ c ≤ (n : Int) then cls ls c.toNat else []
 | 0 => by rw [if_neg (by omega)]; rfl
 | n + 1 => by
  simp only [dG]
  rw [List.filter_append, xw ls c n, EK]
  by_cases h : ((n + 1 : Nat) : Int) = c
  ·rw [if_neg (by omega), if_pos h, if_pos (by omega), List.nil_append, ← h]
   rfl
  ·rw [if_neg h, List.append_nil]
   by_cases h2 : 1 ≤ c ∧ c ≤ (n : Int)
   ·rw [if_pos h2, if_pos (by omega)]
   ·rw [if_neg h2, if_neg (by omega)]
theorem Cs {ls : List Int} (hv : ∀ x ∈ ls, 0 ≤ x ∧ x ≤ 15) (c : Int) : (cG ls).filter (fun x => decide (key ls x = c)) = if 1 ≤ c ∧ c ≤ 15 then cls ls c.toNat else [] := by
 unfold cG
 rw [E9]
 by_cases h : 1 ≤ c ∧ c ≤ 15
 ·rw [if_pos h]
  unfold cls
  congr 1
  apply List.filter_congr
  intro i hi
  simp only [key, Int.toNat_natCast]
  by_cases e : ls.getD i 0 = c
  ·have e2 : ls.getD i 0 = ((c.toNat : Nat) : Int) := by omega
   have e3 : 0 < ls.getD i 0 := by omega
   simp only [e, e2, decide_true, Bool.and_true, decide_eq_true_eq]
   simp; omega
  ·have e2 : ¬ ls.getD i 0 = ((c.toNat : Nat) : Int) := by omega
   rw [decide_eq_false e, decide_eq_false e2, Bool.and_false]
 ·rw [if_neg h]
  simp only [List.map_eq_nil_iff]
  rw [List.filter_eq_nil_iff]
  intro i hi hp
  have hi := List.mem_range.1 hi
  simp only [key, Int.toNat_natCast, Bool.and_eq_true, decide_eq_true_eq] at hp
  have := hv (ls.getD i 0) (by simp [List.getD_eq_getElem?_getD, hi])
  omega
theorem IL (ls : List Int) : Sd (key ls) 0 (ord ls) 0 (ord ls).length := by
 have : ∀ n, Sd (key ls) 0 (dG ls n) 0 (dG ls n).length ∧ ∀ x ∈ dG ls n, key ls x ≤ (n : Int) := by
  intro n
  induction n with
  | zero => exact ⟨Sd.small (by simp [dG]), fun x hx => by simp [dG] at hx⟩
  | succ n ih =>
   have hle : ∀ x ∈ dG ls n, key ls x ≤ (n : Int) := ih.2
   have hcl : ∀ x ∈ cls ls (n + 1), key ls x = ((n + 1 : Nat) : Int) := fun x hx => (il.1 hx).2.2
   refine ⟨?_, ?_⟩
   ·simp only [dG, List.length_append]
    refine Sd.join (m := (dG ls n).length) ?_ ?_ ?_
    ·exact ih.1.congr (fun i _ h => cj h)
    ·intro i j i1 i2 i3
     rw [dm i1, dm (by omega), hcl _ (mY (by omega)), hcl _ (mY (by omega))]
     exact Int.le_refl _
    ·intro i j i1 i2 i3 i4
     rw [cj i2, dm i3, hcl _ (mY (by omega))]
     have := hle _ (mY (d := 0) i2)
     omega
   ·intro x hx
    simp only [dG, List.mem_append] at hx
    rcases hx with hx | hx
    ·have := hle x hx; omega
    ·have := hcl x hx; omega
 exact (this 15).1
theorem Em {ls l2 : List Int} (hv : ∀ x ∈ ls, 0 ≤ x ∧ x ≤ 15) (hR : Rl (key ls) 0 (cG ls) l2 0 (cG ls).length) (hS : Sd (key ls) 0 l2 0 (cG ls).length) : l2 = ord ls := by
 refine unique (d := 0) (by rw [hR.len]; exact hS) (IL ls) (fun c => ?_)
 rw [hR.same c, Cs hv]
 unfold ord
 rw [xw]
 rfl
theorem yk {ls : List Int} {x : Int} : x ∈ cG ls ↔ 0 ≤ x ∧ x.toNat < ls.length ∧ 0 < ls.getD x.toNat 0 := by
 unfold cG
 simp only [List.mem_map, List.mem_filter, List.mem_range, decide_eq_true_eq]
 constructor
 ·rintro ⟨i, ⟨h1, h2⟩, rfl⟩
  exact ⟨by omega, by simpa using h1, by simpa using h2⟩
 ·rintro ⟨h1, h2, h3⟩
  exact ⟨x.toNat, ⟨h2, h3⟩, by omega⟩
theorem Bf {l : List Nat} (h : l.Nodup) : (l.map (fun i : Nat => (i : Int))).Nodup := by
 rw [List.Nodup, List.pairwise_map]
 exact List.Pairwise.imp (fun {a b} hab he => hab (Int.ofNat.inj he)) h
theorem Be (ls : List Int) : (cG ls).Nodup := Bf (List.Pairwise.filter _ List.nodup_range)
theorem tE (ls : List Int) : ∀ n, (dG ls n).Nodup
 | 0 => by simp [dG]
 | n + 1 => by
  simp only [dG]
  rw [List.nodup_append]
  refine ⟨tE ls n, uX ls _, ?_⟩
  intro a ha b hb e
  subst e
  obtain ⟨m, m1, m2, m3⟩ := sv.1 ha
  have h1 := (il.1 m3).2.2
  have h2 := (il.1 hb).2.2
  omega
theorem sg {ls : List Int} (hv : Vl ls) : (cG ls).length = (ord ls).length :=
 ((List.perm_ext_iff_of_nodup (Be ls) (tE ls 15)).2 (fun x => by rw [yk]; exact (rV hv).symm)).length_eq
def xA (ls : List Int) : Nat → Int
 | 0 => 0
 | k + 1 => ff ls ((ord ls).getD k 0).toNat + 1
def nK (ls : List Int) : Nat → Int
 | 0 => 0
 | k + 1 => (lenOf ls ((ord ls).getD k 0).toNat : Int)
theorem lY (ls : List Int) : ∀ n, 0 ≤ base ls n
 | 0 => by simp [base]
 | n + 1 => by
  have := lY ls n
  have := gw ls n
  simp only [base]
  omega
theorem nU {ls : List Int} : ∀ n : Nat, n ≤ 15 → left (bx ls) n = 2 ^ n - (base ls n + da ls n)
 | 0, _ => by simp [left, base, da]
 | n + 1, h => by
  simp only [left, base]
  rw [nU n (by omega), jT (by omega), Int.pow_succ]
  omega
theorem oW {C : List Int} {all : Int} (h : gb C all = true) {n : Nat} (hn : n ≤ 15) : 0 ≤ left C n := by
 rcases Nat.eq_zero_or_pos n with e | e
 ·subst e; simp [left]
 ·by_cases hl : left C n < 0
  ·rw [sL e hn hl] at h
   cases h
  ·omega
theorem tY {ls : List Int} {all : Int} (hw : gb (bx ls) all = true) {n r : Nat} (h1 : 1 ≤ n) (h2 : n ≤ 15) (h : r < (cls ls n).length) : base ls n + (r : Int) < 2 ^ n := by
 have h3 := oW hw h2
 rw [nU n h2] at h3
 have : da ls n = ((cls ls n).length : Int) := by unfold da; rw [if_neg (by omega)]
 omega
theorem mm {n : Nat} (h : n ≤ 15) : (2 : Int) ^ n ≤ 32768 := by
 have : (2 : Nat) ^ n ≤ 2 ^ 15 := Nat.pow_le_pow_right (by decide) h
 have e : ((2 : Int) ^ n) = ((2 ^ n : Nat) : Int) := by simp
 rw [e]
 omega
structure At (ls : List Int) (k : Nat) (s : Nat) : Prop where
 sym : (ord ls).getD k 0 = (s : Int)
 lt : s < ls.length
 one : 1 ≤ lenOf ls s
 top : lenOf ls s ≤ 15
 len : ls.getD s 0 = (lenOf ls s : Int)
 ge : nK ls k ≤ lenOf ls s
 nn : 0 ≤ nK ls k
 word : xA ls k * 2 ^ (lenOf ls s - (nK ls k).toNat) = ff ls s
 w0 : 0 ≤ ff ls s
 w1 : ff ls s < 2 ^ lenOf ls s
theorem MT {ls : List Int} {all : Int} (hw : gb (bx ls) all = true) {k : Nat} (hk : k < (ord ls).length) : ∃ s, At ls k s := by
 obtain ⟨n, r, n1, n2, hr, e⟩ := rA hk
 obtain ⟨t, t1, t2, t3, t4, t5⟩ := ra n1 n2 hr
 have hlt := tY hw n1 n2 hr
 have hb := lY ls n
 cases k with
 | zero =>
  obtain ⟨s, s1, s2, s3, s4, s5, s6⟩ := AX hk
  have hst : s = t := by rw [e] at s1; rw [t1] at s1; omega
  subst hst
  refine ⟨s, s1, s2, s3, s4, s5, by simp [nK], by simp [nK], by simp [xA, s6], by omega, by rw [t4, t5]; exact hlt⟩
 | succ k =>
  obtain ⟨s, u, s1, u1, s2, u2, s3, s4, s5, s6, u6, u7⟩ := Cm hk
  have hut : u = t := by rw [e] at u1; rw [t1] at u1; omega
  subst hut
  refine ⟨u, u1, u2, by omega, s5, u6, by simp only [nK]; rw [s1]; simp; exact s4, by simp only [nK]; omega, ?_, by rw [t5]; omega, by rw [t4, t5]; exact hlt⟩
  simp only [xA, nK]
  rw [s1, u7]
  simp
def wd (ls : List Int) (s : Nat) : Int × Int := if 0 < lenOf ls s then (ff ls s, (lenOf ls s : Int)) else (0, 0)
def iC (ls : List Int) (k : Nat) : List (Int × Int) := (List.range ls.length).map (fun s : Nat => if (s : Int) ∈ (ord ls).take k then wd ls s else (0, 0))
def words (ls : List Int) : List (Int × Int) := (List.range ls.length).map (wd ls)
theorem o4 (ls : List Int) (k : Nat) : (iC ls k).length = ls.length := by simp [iC]
theorem yq (ls : List Int) : iC ls 0 = List.replicate ls.length (0, 0) := by
 simp [iC, List.map_const']
theorem Bm {ls : List Int} (hv : Vl ls) {k : Nat} (hk : (ord ls).length ≤ k) : iC ls k = words ls := by
 unfold iC words
 rw [List.take_of_length_le hk]
 apply List.map_congr_left
 intro s hs
 have hs := List.mem_range.1 hs
 by_cases h : (s : Int) ∈ ord ls
 ·rw [if_pos h]
 ·rw [if_neg h]
  unfold wd
  rw [if_neg]
  intro h2
  exact h ((rV hv).2 ⟨by omega, by simpa using hs, by simpa [lenOf] using h2⟩)
theorem yv {ls : List Int} {k s : Nat} (hk : k < (ord ls).length) (ha : At ls k s) : iC ls (k + 1) = (iC ls k).set s (ff ls s, (lenOf ls s : Int)) := by
 have e1 : (ord ls).take (k + 1) = (ord ls).take k ++ [(s : Int)] := by
  rw [List.take_succ_eq_append_getElem hk]
  congr 2
  have := ha.sym
  simpa [List.getD_eq_getElem?_getD, hk] using this
 apply List.ext_getElem?
 intro i
 rw [List.getElem?_set]
 by_cases hi : i < ls.length
 ·by_cases e : s = i
  ·subst e
   rw [if_pos rfl, if_pos (by rw [o4]; exact hi)]
   simp only [iC, List.getElem?_map, List.getElem?_range hi, Option.map_some]
   rw [if_pos (by rw [e1]; simp)]
   unfold wd
   rw [if_pos (by have := ha.one; omega)]
  ·rw [if_neg e]
   simp only [iC, List.getElem?_map, List.getElem?_range hi, Option.map_some]
   by_cases hm : (i : Int) ∈ (ord ls).take k
   ·rw [if_pos hm, if_pos (by rw [e1]; exact List.mem_append_left _ hm)]
   ·rw [if_neg hm, if_neg]
    rw [e1]
    intro h
    rcases List.mem_append.1 h with h | h
    ·exact hm h
    ·have := List.mem_singleton.1 h
     omega
 ·rw [List.getElem?_eq_none (by rw [o4]; omega)]
  have hs := ha.lt
  rw [if_neg (by omega), List.getElem?_eq_none (by rw [o4]; omega)]
theorem BL {ls : List Int} {s : Nat} (h : s < ls.length) : (words ls).getD s (0, 0) = wd ls s := by
 simp [words, List.getD_eq_getElem?_getD, h]
theorem vh {ls : List Int} {k : Nat} (h : k < ls.length) : cF (ls.take (k + 1)) = if cF (ls.take k) < ls[k] then ls[k] else cF (ls.take k) := by
 unfold cF
 rw [List.take_succ_eq_append_getElem h, List.foldl_append]
 rfl
theorem yP (ls : List Int) : 0 ≤ cF ls := by
 have : ∀ (l : List Int) (a : Int), 0 ≤ a → 0 ≤ l.foldl (fun a x => if a < x then x else a) a := by
  intro l
  induction l with
  | nil => intro a h; exact h
  | cons x l ih => intro a h; simp only [List.foldl_cons]; exact ih _ (by split <;> omega)
 exact this ls 0 (Int.le_refl _)
theorem zT {ls : List Int} {k : Nat} (h : ∀ i, i < k → 0 ≤ ls.getD i 0 ∧ ls.getD i 0 ≤ 15) (hk : ls.length ≤ k) : ∀ x ∈ ls, 0 ≤ x ∧ x ≤ 15 := by
 intro x hx
 obtain ⟨i, hi⟩ := List.getElem?_of_mem hx
 have hlt := (List.getElem?_eq_some_iff.1 hi).1
 have := h i (by omega)
 simpa [List.getD_eq_getElem?_getD, hi] using this
theorem jc {ls : List Int} (h : ls.length ≤ 320) : ∀ i, 0 ≤ (bx ls).getD i 0 ∧ (bx ls).getD i 0 ≤ 320 := by
 intro i
 rcases Nat.lt_or_ge i 16 with hi | hi
 ·rw [jT hi]
  have := gw ls i
  have := IH ls i
  omega
 ·rw [List.getD_eq_getElem?_getD, List.getElem?_eq_none (by rw [gY]; exact hi)]
  simp
theorem H8 (ls : List Int) : ∀ i, i < (cG ls).length → 0 ≤ (cG ls).getD i 0 ∧ (cG ls).getD i 0 < (ls.length : Int) := by
 intro i hi
 have := yk.1 (mY (d := 0) hi)
 omega
theorem rG {ls : List Int} {k : Nat} (hok : ∀ i, i < k → 0 ≤ ls.getD i 0 ∧ ls.getD i 0 ≤ 15) (h : 0 ≤ ls.getD k 0 ∧ ls.getD k 0 ≤ 15) : ∀ i, i < k + 1 → 0 ≤ ls.getD i 0 ∧ ls.getD i 0 ≤ 15 := by
 intro i hi
 by_cases e : i = k
 ·subst e; exact h
 ·exact hok i (by omega)
theorem DF {ls : List Int} {k : Nat} {x : Int} (h : k < ls.length) (hx : x = ls[k]) (h0 : x = 0) : bx (ls.take (k + 1)) = bx (ls.take k) ∧ cG (ls.take (k + 1)) = cG (ls.take k) ∧ cF (ls.take (k + 1)) = cF (ls.take k) := by
 have hz : ls[k] = 0 := by omega
 refine ⟨uP h hz, ?_, ?_⟩
 ·rw [mv h, if_neg (by omega), List.append_nil]
 ·rw [vh h, if_neg]
  have := yP (ls.take k)
  omega
theorem step_pos {ls : List Int} {k : Nat} {x : Int} (h : k < ls.length) (hx : x = ls[k]) (h0 : 0 < x) (h1 : x ≤ 15) : (bx (ls.take k)).set x.toNat ((bx (ls.take k)).getD x.toNat 0 + 1) = bx (ls.take (k + 1)) ∧ cG (ls.take k) ++ [(k : Int)] = cG (ls.take (k + 1)) ∧ (cG (ls.take k)).length + 1 = (cG (ls.take (k + 1))).length ∧ (if cF (ls.take k) < x then x else cF (ls.take k)) = cF (ls.take (k + 1)) := by
 subst hx
 refine ⟨(BX h h0 h1).symm, ?_, ?_, (vh h).symm⟩
 ·rw [mv h, if_pos h0]
 ·rw [mv h, if_pos h0]; simp
theorem se : cG [] = [] := rfl
theorem D4 : cF [] = 0 := rfl
theorem nQ {ls : List Int} (h : 320 < ls.length) : aO ls = 1 := if_pos h
theorem jK {ls : List Int} {k : Nat} (h : ¬ 320 < ls.length) (hk : k < ls.length) (hb : ls.getD k 0 < 0 ∨ 15 < ls.getD k 0) : aO ls = 1 := by
 unfold aO
 rw [if_neg h, if_neg]
 intro ho
 unfold okB at ho
 rw [List.all_eq_true] at ho
 have := ho (ls.getD k 0) (by simp [List.getD_eq_getElem?_getD, hk])
 simp only [decide_eq_true_eq] at this
 omega
theorem rM {ls : List Int} (h : ¬ 320 < ls.length) (hv : ∀ x ∈ ls, 0 ≤ x ∧ x ≤ 15) : aO ls = if gb (bx ls) ((cG ls).length : Int) = true then 0 else 4 := by
 unfold aO
 rw [if_neg h, if_pos]
 unfold okB
 rw [List.all_eq_true]
 intro x hx
 simpa using hv x hx
theorem cM {ls : List Int} (h : aO ls = 0) : Vl ls ∧ gb (bx ls) ((cG ls).length : Int) = true := by
 unfold aO at h
 split at h
 ·omega
 ·split at h
  ·rename_i ho
   split at h
   ·rename_i hw
    refine ⟨⟨by omega, ?_⟩, hw⟩
    unfold okB at ho
    rw [List.all_eq_true] at ho
    intro x hx
    simpa using ho x hx
   ·omega
  ·omega
def gF (ls : List Int) (x : Int) : Int := if 0 ≤ x ∧ x < ls.length then (wd ls x.toNat).1 else 0
def eC (ls : List Int) (x : Int) : Int := if 0 ≤ x ∧ x < ls.length then (wd ls x.toNat).2 else 0
def fT (ls : List Int) (x : Int) : Bool := decide (0 ≤ x ∧ x < ls.length ∧ (wd ls x.toNat).2 ≠ 0)
theorem H3 {ls : List Int} {s : Nat} (h : (wd ls s).2 = 0) : (wd ls s).1 = 0 := by
 unfold wd at h ⊢
 split at h
 ·simp at h; omega
 ·rename_i h2; rw [if_neg h2]
theorem lO {ls : List Int} {x : Int} (h : x < 0 ∨ (ls.length : Int) ≤ x ∨ (wd ls x.toNat).2 = 0) : gF ls x = 0 ∧ eC ls x = 0 ∧ fT ls x = false := by
 unfold gF eC fT
 by_cases hx : 0 ≤ x ∧ x < ls.length
 ·have h3 : (wd ls x.toNat).2 = 0 := by omega
  rw [if_pos hx, if_pos hx, H3 h3, h3]
  exact ⟨rfl, rfl, by simp⟩
 ·rw [if_neg hx, if_neg hx]
  refine ⟨rfl, rfl, ?_⟩
  rw [decide_eq_false_iff_not]
  omega
theorem y8 {ls : List Int} {x : Int} (h0 : 0 ≤ x) (h1 : x < ls.length) (h : (wd ls x.toNat).2 ≠ 0) : gF ls x = (wd ls x.toNat).1 ∧ eC ls x = (wd ls x.toNat).2 ∧ fT ls x = true := by
 unfold gF eC fT
 rw [if_pos ⟨h0, h1⟩, if_pos ⟨h0, h1⟩]
 exact ⟨rfl, rfl, by simp [h0, h1, h]⟩
end Go.ab
namespace Go.ab
def eX (ls : List Int) : List Int := (List.range 16).map (fun n => ((cls ls n).length : Int))
theorem kb (ls : List Int) : (eX ls).length = 16 := by simp [eX]
theorem xX {ls : List Int} {n : Nat} (h : n < 16) : (eX ls).getD n 0 = ((cls ls n).length : Int) := by simp [eX, List.getD_eq_getElem?_getD, h]
theorem Fg : eX [] = List.replicate 16 0 := by
 unfold eX
 simp only [py]
 rfl
theorem Aa {ls : List Int} (h : ls.length ≤ 320) : ∀ i, 0 ≤ (eX ls).getD i 0 ∧ (eX ls).getD i 0 ≤ 320 := by
 intro i
 rcases Nat.lt_or_ge i 16 with hi | hi
 ·rw [xX hi]
  have := mJ ls i
  omega
 ·rw [List.getD_eq_getElem?_getD, List.getElem?_eq_none (by rw [kb]; exact hi)]
  simp
theorem uR {ls : List Int} {k : Nat} {x : Int} (h : k < ls.length) (hx : x = ls[k]) (h1 : 0 ≤ x) (h2 : x ≤ 15) : (eX (ls.take k)).set x.toNat ((eX (ls.take k)).getD x.toNat 0 + 1) = eX (ls.take (k + 1)) := by
 subst hx
 symm
 apply List.ext_getElem?
 intro i
 by_cases hi : i < 16
 ·rw [List.getElem?_set]
  by_cases he : ls[k].toNat = i
  ·rw [if_pos he, if_pos (by rw [kb]; omega), he, xX hi]
   simp only [eX, List.getElem?_map, List.getElem?_range hi, Option.map_some]
   rw [jZ h, if_pos (by omega)]
   simp
  ·rw [if_neg he]
   simp only [eX, List.getElem?_map, List.getElem?_range hi, Option.map_some]
   rw [jZ h, if_neg (by omega), List.append_nil]
 ·rw [List.getElem?_eq_none (by rw [kb]; omega), List.getElem?_eq_none (by rw [List.length_set, kb]; omega)]
theorem Fc (ls : List Int) : (eX ls).set (0 : Int).toNat 0 = bx ls := by
 apply List.ext_getElem?
 intro i
 rw [show (0 : Int).toNat = 0 from rfl, List.getElem?_set]
 by_cases he : 0 = i
 ·subst he
  rw [if_pos rfl, if_pos (by rw [kb]; omega)]
  rfl
 ·rw [if_neg he]
  by_cases hi : i < 16
  ·simp only [eX, bx, List.getElem?_map, List.getElem?_range hi, Option.map_some]
   unfold da
   rw [if_neg (by omega)]
  ·rw [List.getElem?_eq_none (by rw [kb]; omega), List.getElem?_eq_none (by rw [gY]; omega)]
theorem vq {ls : List Int} {k : Nat} {x : Int} (h : k < ls.length) (hx : x = ls[k]) : ls.take k ++ [x] = ls.take (k + 1) := by
 subst hx; exact (List.take_succ_eq_append_getElem h).symm
theorem D6 {ls : List Int} {k : Nat} {x : Int} (h : k < ls.length) (hx : x = ls[k]) (h0 : 0 < x) : ((cG (ls.take k)).length : Int) + 1 = ((cG (ls.take (k + 1))).length : Int) := by
 rw [mv h, if_pos (by omega)]; simp
theorem Cf {ls : List Int} {k : Nat} {x : Int} (h : k < ls.length) (hx : x = ls[k]) (h0 : x ≤ 0) : ((cG (ls.take k)).length : Int) = ((cG (ls.take (k + 1))).length : Int) := by
 rw [mv h, if_neg (by omega)]; simp
def sy (ls : List Int) (m i : Nat) : List Int := dG ls m ++ cls (ls.take i) (m + 1)
theorem ud (ls : List Int) (m : Nat) : sy ls m 0 = dG ls m := by simp [sy, py]
theorem yn {ls : List Int} {m i : Nat} (h : ls.length ≤ i) : sy ls m i = dG ls (m + 1) := by simp [sy, dG, List.take_of_length_le h]
theorem te {ls : List Int} {m i : Nat} {x : Int} (h : i < ls.length) (hx : x = ls[i]) (he : x = (m : Int) + 1) : sy ls m i ++ [(i : Int)] = sy ls m (i + 1) := by
 unfold sy
 rw [jZ h, if_pos (by rw [← hx, he]; rfl), List.append_assoc]
theorem oc {ls : List Int} {m i : Nat} {x : Int} (h : i < ls.length) (hx : x = ls[i]) (he : x = (m : Int) + 1) : (sy ls m i).length + 1 = (sy ls m (i + 1)).length := by
 rw [← te h hx he]; simp
theorem Au {ls : List Int} {m i : Nat} {x : Int} (h : i < ls.length) (hx : x = ls[i]) (he : ¬ x = (m : Int) + 1) : sy ls m i = sy ls m (i + 1) := by
 unfold sy
 rw [jZ h, if_neg (by rw [← hx]; exact he), List.append_nil]
theorem zZ (ls : List Int) : dG ls 15 = ord ls := rfl
theorem yS (ls : List Int) : ∀ n, (dG ls n).length ≤ n * ls.length
 | 0 => by simp [dG]
 | n + 1 => by
  have := yS ls n
  have := mJ ls (n + 1)
  simp only [dG, List.length_append]
  rw [Nat.succ_mul]
  omega
theorem Ax {ls : List Int} {m i : Nat} (hm : m ≤ 15) (hl : ls.length ≤ 320) : (sy ls m i).length ≤ 10000 := by
 have h1 := yS ls m
 have h2 := mJ (ls.take i) (m + 1)
 have h3 : m * ls.length ≤ 15 * 320 := Nat.mul_le_mul hm hl
 have h4 : (ls.take i).length ≤ ls.length := by rw [List.length_take]; omega
 simp only [sy, List.length_append]
 omega
end Go.ab
namespace Go.ab
theorem Hl {ls : List Int} {s : Nat} (h : ls.getD s 0 = 0) : (wd ls s).2 = 0 := by
 unfold wd
 rw [if_neg (by unfold lenOf; omega)]
def bk (ls : List Int) (n : Nat) : Nat → Int
 | 0 => base ls n
 | k + 1 => bk ls n k + 1
structure Sy (ls : List Int) (x : Int) (L r : Nat) : Prop where
 one : 1 ≤ L
 top : L ≤ 15
 lt : r < (cls ls L).length
 get : (cls ls L).getD r 0 = x
 w : gF ls x = base ls L + (r : Int)
 n : eC ls x = (L : Int)
 b : fT ls x = true
theorem w9 {ls : List Int} (hV : Vl ls) {x : Int} (h0 : 0 ≤ x) (h1 : x < ls.length) (h : ls.getD x.toNat 0 ≠ 0) : ∃ L r, Sy ls x L r := by
 have hlt : x.toNat < ls.length := by omega
 have hb := hV.2 (ls.getD x.toNat 0) (by simp [List.getD_eq_getElem?_getD, hlt])
 have hlen : ls.getD x.toNat 0 = (lenOf ls x.toNat : Int) := by unfold lenOf; omega
 obtain ⟨t, ht⟩ := w8 hlt hlen
 have hp : 0 < lenOf ls x.toNat := by omega
 have hw : wd ls x.toNat = (ff ls x.toNat, (lenOf ls x.toNat : Int)) := by unfold wd; rw [if_pos hp]
 obtain ⟨e1, e2, e3⟩ := y8 h0 h1 (by rw [hw]; simp only; omega)
 refine ⟨lenOf ls x.toNat, (cls (ls.take x.toNat) (lenOf ls x.toNat)).length, by omega, by omega, ?_, ?_, ?_, ?_, e3⟩
 ·rw [ht]; simp
 ·rw [ht, List.getD_eq_getElem?_getD, List.getElem?_append_right (Nat.le_refl _), Nat.sub_self]
  simp
  omega
 ·rw [e1, hw]; rfl
 ·rw [e2, hw]
theorem Hi (ls : List Int) (m : Nat) : da ls (m + 1) = ((cls ls (m + 1)).length : Int) := by unfold da; rw [if_neg (by omega)]
theorem IC (ls : List Int) {m k : Nat} (hm : m < 15) (hk : k < (cls ls (m + 1)).length) : off ls (m + 1) + k < (ord ls).length := by
 have h1 := m9 ls (n := m + 1) (by omega)
 have h2 := gZ ls (show m + 1 + 1 ≤ 16 by omega)
 rw [lU]
 omega
theorem tN {ls : List Int} {all : Int} (hw : gb (bx ls) all = true) {n : Nat} (hn : n ≤ 15) : base ls n + da ls n ≤ 32768 := by
 have h3 := oW hw hn
 rw [nU n hn] at h3
 have := mm hn
 omega
end Go.ab
namespace Go.Sl
theorem DT {ls : List Int} {k s : Nat} (hs : ab.At ls k s) {x : Int} (hx : x = (ab.lenOf ls s : Int)) : IntKind.i64.wrap (ab.xA ls k * 2 ^ (min (x - ab.nK ls k).toNat IntKind.i64.bits)) = ab.ff ls s := by
 have h1 := hs.top
 have h2 := hs.nn
 have h3 := hs.ge
 have h4 := hs.w0
 have h5 := hs.w1
 have h6 := ab.mm hs.top
 have e : min (x - ab.nK ls k).toNat IntKind.i64.bits = ab.lenOf ls s - (ab.nK ls k).toNat := by
  have : IntKind.i64.bits = 64 := rfl
  omega
 rw [e, hs.word]
 exact gQ (by omega) (by omega)
theorem vU {ls : List Int} {all : Int} (hw : ab.gb (ab.bx ls) all = true) {m : Nat} (hm : m ≤ 15) : IntKind.i64.wrap ((ab.base ls m + ab.da ls m) * 2 ^ (min (1 : Int).toNat IntKind.i64.bits)) = ab.base ls (m + 1) := by
 have h1 := ab.tN hw hm
 have h2 := ab.lY ls m
 have h3 := ab.gw ls m
 rw [show min (1 : Int).toNat IntKind.i64.bits = 1 from rfl]
 simp only [ab.base]
 rw [Int.mul_comm 2, Int.pow_one]
 exact gQ (by omega) (by omega)
end Go.Sl
namespace Go.ab
theorem GO (ls : List Int) {m n : Nat} (h : m < n) : (base ls m + da ls m) * 2 ^ (n - m) ≤ base ls n := by
 induction n with
 | zero => omega
 | succ n ih =>
  have hc := gw ls n
  by_cases e : m = n
  ·subst e
   rw [show m + 1 - m = 1 by omega]
   simp only [base]
   omega
  ·have := ih (by omega)
   simp only [base]
   rw [show n + 1 - m = (n - m) + 1 by omega, Int.pow_succ, ← Int.mul_assoc]
   omega
theorem rk {ls : List Int} (hV : Vl ls) {x : Int} (h0 : 0 ≤ x) (h1 : x < ls.length) : fT ls x = decide (0 < ls.getD x.toNat 0) ∧ eC ls x = ls.getD x.toNat 0 := by
 have hlt : x.toNat < ls.length := by omega
 have hb := hV.2 (ls.getD x.toNat 0) (by simp [List.getD_eq_getElem?_getD, hlt])
 by_cases h : 0 < ls.getD x.toNat 0
 ·obtain ⟨L, r, hs⟩ := w9 hV h0 h1 (by omega)
  have hm := hs.get
  have hin : (cls ls L)[r]? = some x := by rw [← hm]; simp [List.getD_eq_getElem?_getD, hs.lt]
  have := (il.1 (List.mem_of_getElem? hin)).2.2
  exact ⟨by rw [hs.b, decide_eq_true h], by rw [hs.n, this]⟩
 ·have hz : ls.getD x.toNat 0 = 0 := by omega
  obtain ⟨_, e2, e3⟩ := lO (ls := ls) (x := x) (.inr (.inr (Hl hz)))
  exact ⟨by rw [e3, decide_eq_false h], by rw [e2, hz]⟩
structure Pf (ls : List Int) (i k : Int) : Prop where
 n1 : 1 ≤ eC ls i
 n2 : eC ls i ≤ 15
 m1 : 1 ≤ eC ls k
 m2 : eC ls k ≤ 15
 a0 : 0 ≤ gF ls i
 a1 : gF ls i < 32768
 b0 : 0 ≤ gF ls k
 b1 : gF ls k < 32768
 ge : eC ls k ≤ eC ls i → gF ls k < (gF ls i).fdiv (2 ^ (eC ls i - eC ls k).toNat)
 lt : eC ls i < eC ls k → gF ls i < (gF ls k).fdiv (2 ^ (eC ls k - eC ls i).toNat)
def gr (ls : List Int) : Nat → Int
 | 0 => 0
 | k + 1 => gr ls k + (if 0 < ls.getD k 0 then 2 ^ (15 - lenOf ls k) else 0)
theorem DR {ls : List Int} {k : Nat} (h : 0 < ls.getD k 0) : gr ls k + 2 ^ (15 - lenOf ls k) = gr ls (k + 1) := by simp only [gr]; rw [if_pos h]
theorem Hq {ls : List Int} {k : Nat} (h : ¬ 0 < ls.getD k 0) : gr ls k = gr ls (k + 1) := by simp only [gr]; rw [if_neg h]; omega
theorem xR {C D : List Int} {L : Nat} (h1 : 1 ≤ L) : ∀ n : Nat, (∀ j, 1 ≤ j → j ≤ n → D.getD j 0 = C.getD j 0 + (if j = L then 1 else 0)) → left D n = left C n - (if L ≤ n then 2 ^ (n - L) else 0)
 | 0, _ => by simp [left]; omega
 | n + 1, h => by
  have ih := xR (C := C) (D := D) h1 n (fun j j1 j2 => h j j1 (by omega))
  have hh := h (n + 1) (by omega) (Nat.le_refl _)
  simp only [left]
  rw [ih, hh]
  by_cases e : n + 1 = L
  ·subst e
   rw [if_neg (by omega), if_pos rfl, if_pos (Nat.le_refl _), Nat.sub_self, Int.pow_zero]
   omega
  ·rw [if_neg e]
   by_cases e2 : L ≤ n
   ·rw [if_pos e2, if_pos (by omega), show n + 1 - L = (n - L) + 1 by omega, Int.pow_succ]
    omega
   ·rw [if_neg e2, if_neg (by omega)]
    omega
theorem qu {ls : List Int} (hv : ∀ x ∈ ls, 0 ≤ x ∧ x ≤ 15) : ∀ k : Nat, k ≤ ls.length → left (bx (ls.take k)) 15 = 32768 - gr ls k
 | 0, _ => by rw [List.take_zero, wS]; rfl
 | k + 1, h => by
  have ih := qu hv k (by omega)
  have hk : k < ls.length := by omega
  have hg : ls.getD k 0 = ls[k] := by simp [List.getD_eq_getElem?_getD, hk]
  have hb := hv ls[k] (List.getElem_mem hk)
  by_cases e : 0 < ls[k]
  ·rw [← DR (by omega)]
   have hl : lenOf ls k = ls[k].toNat := by unfold lenOf; rw [hg]
   rw [hl]
   have := xR (C := bx (ls.take k)) (D := bx (ls.take (k + 1))) (L := ls[k].toNat) (by omega) 15 (by
    intro j j1 j2
    rw [jT (by omega), jT (by omega), oZ hk]
    by_cases ej : j = ls[k].toNat
    ·rw [if_pos ej, if_pos (by omega)]
    ·rw [if_neg ej, if_neg (by omega)])
   rw [this, if_pos (by omega), ih]
   omega
  ·rw [← Hq (by omega), uP hk (by omega), ih]
end Go.ab
namespace Go.af
def aY (B : List Int) : Prop := ∀ x ∈ B, 0 ≤ x ∧ x < 256
theorem aY.get {B : List Int} (h : aY B) (i : Nat) : 0 ≤ B.getD i 0 ∧ B.getD i 0 < 256 := by
 rcases Nat.lt_or_ge i B.length with hi | hi
 ·exact h _ (by simp [List.getD_eq_getElem?_getD, hi])
 ·simp [List.getD_eq_getElem?_getD, hi]
def dM (B : List Int) (i : Nat) : Int := B.getD (i / 8) 0 / 2 ^ (i % 8) % 2
theorem kq (B : List Int) (i : Nat) : 0 ≤ dM B i ∧ dM B i ≤ 1 := by unfold dM; omega
def az (B : List Int) (at_ : Nat) : Nat → Int
 | 0 => 0
 | n + 1 => az B at_ n + dM B (at_ + n) * 2 ^ n
theorem aU (B : List Int) (at_ : Nat) : ∀ n : Nat, 0 ≤ az B at_ n ∧ az B at_ n < 2 ^ n
 | 0 => by simp [az]
 | n + 1 => by
  have h := aU B at_ n
  have h2 := kq B (at_ + n)
  have hp : (0 : Int) < 2 ^ n := Int.pow_pos (by decide)
  simp only [az]
  rw [Int.pow_succ]
  have h3 : dM B (at_ + n) = 0 ∨ dM B (at_ + n) = 1 := by omega
  rcases h3 with e | e <;> rw [e] <;> omega
theorem ig {n : Nat} (h : n ≤ 24) : (2 : Int) ^ n ≤ 16777216 := by
 have : (2 : Nat) ^ n ≤ 2 ^ 24 := Nat.pow_le_pow_right (by decide) h
 have e : ((2 : Int) ^ n) = ((2 ^ n : Nat) : Int) := by simp
 rw [e]
 omega
theorem ep (k : Nat) (a : Nat) : (BitVec.ofInt k (a : Int)).toNat = a % 2 ^ k := by
 rw [BitVec.toNat_ofInt]
 have : ((a : Int) % ((2 ^ k : Nat) : Int)) = ((a % 2 ^ k : Nat) : Int) := by simp
 omega
theorem uq {a b : Nat} (ha : a < 2 ^ 62) (hb : b < 2 ^ 62) : IntKind.i64.wrap ((BitVec.ofInt IntKind.i64.bits (a : Int) ||| BitVec.ofInt IntKind.i64.bits (b : Int)).toNat : Int) = ((a ||| b : Nat) : Int) := by
 have e : IntKind.i64.bits = 64 := rfl
 rw [e, BitVec.toNat_or, ep, ep, Nat.mod_eq_of_lt (by omega), Nat.mod_eq_of_lt (by omega)]
 have := Nat.or_lt_two_pow ha hb
 exact Sl.gQ (by omega) (by omega)
theorem Gi {x b : Int} {n : Nat} (h0 : 0 ≤ x) (h1 : x < 2 ^ n) (hb : 0 ≤ b ∧ b ≤ 1) (hn : n ≤ 24) : IntKind.i64.wrap ((BitVec.ofInt IntKind.i64.bits x ||| BitVec.ofInt IntKind.i64.bits (b * 2 ^ n)).toNat : Int) = x + b * 2 ^ n := by
 obtain ⟨a, rfl⟩ : ∃ a : Nat, x = (a : Int) := ⟨x.toNat, by omega⟩
 obtain ⟨c, rfl⟩ : ∃ c : Nat, b = (c : Int) := ⟨b.toNat, by omega⟩
 have hp := ig hn
 have e1 : (c : Int) * 2 ^ n = ((2 ^ n * c : Nat) : Int) := by rw [Nat.mul_comm]; simp
 have ha : a < 2 ^ n := by
  have : ((a : Nat) : Int) < ((2 ^ n : Nat) : Int) := by simpa using h1
  omega
 have hpn : 2 ^ n ≤ 16777216 := by
  have : ((2 ^ n : Nat) : Int) ≤ 16777216 := by simpa using hp
  omega
 have hc : 2 ^ n * c ≤ 16777216 := by
  have : c = 0 ∨ c = 1 := by omega
  rcases this with rfl | rfl <;> omega
 rw [e1, uq (by omega) (by omega), Nat.or_comm, ← Nat.two_pow_add_eq_or_of_lt ha]
 omega
theorem CU {x b : Int} (h0 : 0 ≤ x) (h1 : x < 2 ^ 40) (hb : 0 ≤ b ∧ b ≤ 1) : IntKind.i64.wrap ((BitVec.ofInt IntKind.i64.bits (2 * x) ||| BitVec.ofInt IntKind.i64.bits b).toNat : Int) = 2 * x + b := by
 obtain ⟨a, rfl⟩ : ∃ a : Nat, x = (a : Int) := ⟨x.toNat, by omega⟩
 obtain ⟨c, rfl⟩ : ∃ c : Nat, b = (c : Int) := ⟨b.toNat, by omega⟩
 have e1 : 2 * (a : Int) = ((2 ^ 1 * a : Nat) : Int) := by omega
 rw [e1, uq (by omega) (by omega), ← Nat.two_pow_add_eq_or_of_lt (by omega)]
 omega
theorem E7 {x : Int} (h0 : 0 ≤ x) (h1 : x < 256) : IntKind.u8.wrap ((BitVec.ofInt IntKind.u8.bits x &&& BitVec.ofInt IntKind.u8.bits 1).toNat : Int) = x % 2 := by
 obtain ⟨a, rfl⟩ : ∃ a : Nat, x = (a : Int) := ⟨x.toNat, by omega⟩
 have e : IntKind.u8.bits = 8 := rfl
 have e1 : BitVec.ofInt 8 1 = BitVec.ofInt 8 ((1 : Nat) : Int) := rfl
 rw [e, e1, BitVec.toNat_and, ep, ep, Nat.mod_eq_of_lt (by omega)]
 have : a &&& (1 % 2 ^ 8) = a % 2 := Nat.and_one_is_mod a
 rw [this]
 have e2 : IntKind.u8.wrap (((a % 2 : Nat)) : Int) = ((a % 2 : Nat) : Int) % 256 := by simp [IntKind.wrap, IntKind.bits, IntKind.signed]
 rw [e2]
 omega
theorem uW {x : Int} (h0 : 0 ≤ x) (h1 : x < 2 ^ 62) : IntKind.i64.wrap ((BitVec.ofInt IntKind.i64.bits x &&& BitVec.ofInt IntKind.i64.bits 1).toNat : Int) = x % 2 := by
 obtain ⟨a, rfl⟩ : ∃ a : Nat, x = (a : Int) := ⟨x.toNat, by omega⟩
 have e : IntKind.i64.bits = 64 := rfl
 have e1 : BitVec.ofInt 64 1 = BitVec.ofInt 64 ((1 : Nat) : Int) := rfl
 rw [e, e1, BitVec.toNat_and, ep, ep, Nat.mod_eq_of_lt (by omega)]
 have : a &&& (1 % 2 ^ 64) = a % 2 := Nat.and_one_is_mod a
 rw [this]
 exact (Sl.gQ (by omega) (by omega)).trans (by omega)
theorem Jk {x : Int} {k : Nat} (h0 : 0 ≤ x) (hk : k < 8) {d : Int} (hd : d = (k : Int)) : x.fdiv (2 ^ (min d.toNat IntKind.u8.bits)) = x / 2 ^ k := by
 have e : min d.toNat IntKind.u8.bits = k := by
  have : IntKind.u8.bits = 8 := rfl
  omega
 rw [e, Int.fdiv_eq_ediv_of_nonneg _ (Int.le_of_lt (Int.pow_pos (by decide)))]
theorem GA {b : Int} {n : Nat} (hb : 0 ≤ b ∧ b ≤ 1) (hn : n ≤ 24) {d : Int} (hd : d = (n : Int)) : IntKind.i64.wrap (b * 2 ^ (min d.toNat IntKind.i64.bits)) = b * 2 ^ n := by
 have e : min d.toNat IntKind.i64.bits = n := by
  have : IntKind.i64.bits = 64 := rfl
  omega
 rw [e]
 have hp := ig hn
 have h0 : (0 : Int) < 2 ^ n := Int.pow_pos (by decide)
 have h3 : b = 0 ∨ b = 1 := by omega
 rcases h3 with e | e <;> rw [e] <;> exact Sl.gQ (by omega) (by omega)
theorem Ed {x : Int} (h0 : 0 ≤ x) (h1 : x < 2 ^ 40) : IntKind.i64.wrap (x * 2 ^ (min (1 : Int).toNat IntKind.i64.bits)) = 2 * x := by
 rw [show min (1 : Int).toNat IntKind.i64.bits = 1 from rfl, Int.pow_one]
 rw [Sl.gQ (by omega) (by omega)]
 omega
theorem wo {x : Int} (h0 : 0 ≤ x) (h1 : x < 256) (k : Nat) : 0 ≤ x / 2 ^ k ∧ x / 2 ^ k < 256 := by
 have hp : (0 : Int) < 2 ^ k := Int.pow_pos (by decide)
 have h2 := Int.ediv_nonneg h0 (Int.le_of_lt hp)
 have h3 := Int.ediv_le_self (2 ^ k) h0
 omega
end Go.af
namespace Go.Sl
theorem lE {n : Int} (h1 : 0 ≤ n) (h2 : n < 256) : IntKind.u8.wrap n = n := by
 have e : IntKind.u8.wrap n = n % 256 := by simp [IntKind.wrap, IntKind.bits, IntKind.signed]
 rw [e]; omega
end Go.Sl
namespace Go.af
def acc (B : List Int) (at_ : Nat) : Nat → Int
 | 0 => 0
 | n + 1 => 2 * acc B at_ n + dM B (at_ + n)
theorem kY (B : List Int) (at_ : Nat) : ∀ n : Nat, 0 ≤ acc B at_ n ∧ acc B at_ n < 2 ^ n
 | 0 => by simp [acc]
 | n + 1 => by
  have h := kY B at_ n
  have h2 := kq B (at_ + n)
  simp only [acc]
  rw [Int.pow_succ]
  omega
theorem oQ (B : List Int) (a : Nat) : az B a 1 = dM B a := by simp [az]
end Go.af
namespace Go.ab
open Go.af
inductive TR where
 | qh (n : Nat) (s : Int)
 | short (n : Nat)
 | none_ (n : Nat)
def o5 (ls B : List Int) (at_ : Nat) : Nat → Nat → TR
 | 0, n => .none_ n
 | r + 1, n => if at_ + n < 8 * B.length then (if acc B at_ (n + 1) - base ls (n + 1) < da ls (n + 1) then .qh (n + 1) ((ord ls).getD (off ls (n + 1) + (acc B at_ (n + 1) - base ls (n + 1)).toNat) 0) else o5 ls B at_ r (n + 1)) else .short n
def e8 (ls : List Int) : Nat := (cF ls).toNat
def tk (ls B : List Int) (at_ : Nat) : TR := o5 ls B at_ (e8 ls) 0
structure Tk (ls B : List Int) (at_ n : Nat) : Prop where
 le : n ≤ e8 ls
 eq : tk ls B at_ = o5 ls B at_ (e8 ls - n) n
 ge : base ls n + da ls n ≤ acc B at_ n
 room : at_ + n ≤ 8 * B.length
theorem oU {ls B : List Int} {at_ : Nat} (h : at_ ≤ 8 * B.length) : Tk ls B at_ 0 := ⟨Nat.zero_le _, rfl, by simp [base, da, acc], h⟩
section
variable {ls B : List Int} {at_ n : Nat}
theorem Tk.none (h : Tk ls B at_ n) (hm : e8 ls ≤ n) : tk ls B at_ = .none_ n := by
 rw [h.eq, show e8 ls - n = 0 by omega]; rfl
theorem Tk.short (h : Tk ls B at_ n) (hm : n < e8 ls) (hx : 8 * B.length ≤ at_ + n) : tk ls B at_ = .short n := by
 rw [h.eq, show e8 ls - n = (e8 ls - (n + 1)) + 1 by omega]
 simp only [o5]
 rw [if_neg (by omega)]
theorem Tk.qh (h : Tk ls B at_ n) (hm : n < e8 ls) (hx : at_ + n < 8 * B.length) (hl : acc B at_ (n + 1) - base ls (n + 1) < da ls (n + 1)) : tk ls B at_ = .qh (n + 1) ((ord ls).getD (off ls (n + 1) + (acc B at_ (n + 1) - base ls (n + 1)).toNat) 0) := by
 rw [h.eq, show e8 ls - n = (e8 ls - (n + 1)) + 1 by omega]
 simp only [o5]
 rw [if_pos hx, if_pos hl]
theorem Tk.Ek (h : Tk ls B at_ n) (hm : n < e8 ls) (hx : at_ + n < 8 * B.length) (hl : ¬ acc B at_ (n + 1) - base ls (n + 1) < da ls (n + 1)) : Tk ls B at_ (n + 1) := by
 refine ⟨hm, ?_, by omega, by omega⟩
 rw [h.eq, show e8 ls - n = (e8 ls - (n + 1)) + 1 by omega]
 simp only [o5]
 rw [if_pos hx, if_neg hl]
theorem Tk.nn (h : Tk ls B at_ n) : base ls (n + 1) ≤ acc B at_ (n + 1) := by
 have h1 := h.ge
 have h2 := kq B (at_ + n)
 simp only [base, acc]
 omega
end
theorem uj (ls : List Int) : ∀ x ∈ ls, x ≤ cF ls := by
 have key : ∀ (l : List Int) (a : Int), a ≤ l.foldl (fun a x => if a < x then x else a) a ∧ ∀ x ∈ l, x ≤ l.foldl (fun a x => if a < x then x else a) a := by
  intro l
  induction l with
  | nil => intro a; exact ⟨Int.le_refl _, fun x hx => by cases hx⟩
  | cons y l ih =>
   intro a
   simp only [List.foldl_cons]
   obtain ⟨h1, h2⟩ := ih (if a < y then y else a)
   refine ⟨Int.le_trans (by split <;> omega) h1, fun x hx => ?_⟩
   rcases List.mem_cons.1 hx with rfl | hx
   ·exact Int.le_trans (by split <;> omega) h1
   ·exact h2 x hx
 exact (key ls 0).2
theorem yX (ls : List Int) : cF ls = 0 ∨ cF ls ∈ ls := by
 have key : ∀ (l : List Int) (a : Int), l.foldl (fun a x => if a < x then x else a) a = a ∨ l.foldl (fun a x => if a < x then x else a) a ∈ l := by
  intro l
  induction l with
  | nil => intro a; exact .inl rfl
  | cons y l ih =>
   intro a
   simp only [List.foldl_cons]
   rcases ih (if a < y then y else a) with h | h
   ·rw [h]
    split
    ·exact .inr (List.mem_cons_self ..)
    ·exact .inl rfl
   ·exact .inr (List.mem_cons_of_mem _ h)
 exact key ls 0
theorem tt {ls : List Int} (hV : Vl ls) : e8 ls ≤ 15 := by
 unfold e8
 rcases yX ls with h | h
 ·omega
 ·have := hV.2 _ h; omega
theorem om (ls : List Int) : cF ls = (e8 ls : Int) := by
 have := yP ls
 unfold e8; omega
theorem uL {ls : List Int} {k : Nat} (h : e8 ls < k) : da ls k = 0 := by
 unfold da
 rw [if_neg (by omega)]
 cases hc : cls ls k with
 | nil => rfl
 | cons x l =>
  exfalso
  have hx : x ∈ cls ls k := by rw [hc]; exact List.mem_cons_self ..
  obtain ⟨h1, h2, h3⟩ := il.1 hx
  have := uj ls (ls.getD x.toNat 0) (by simp [List.getD_eq_getElem?_getD, h2])
  have := om ls
  omega
theorem zy {ls : List Int} (h : 0 < e8 ls) : 1 ≤ da ls (e8 ls) := by
 unfold da
 rw [if_neg (by omega)]
 have he := om ls
 rcases yX ls with h0 | hm
 ·omega
 ·obtain ⟨i, hi⟩ := List.getElem?_of_mem hm
  have hlt := (List.getElem?_eq_some_iff.1 hi).1
  have : (i : Int) ∈ cls ls (e8 ls) := il.2 ⟨by omega, by simpa using hlt, by simp [List.getD_eq_getElem?_getD, hi]; omega⟩
  have := List.length_pos_of_mem this
  omega
theorem yK {ls : List Int} (hV : Vl ls) (h : 0 < (ord ls).length) : 0 < e8 ls := by
 have hm : (ord ls).getD 0 0 ∈ ord ls := by
  have : (ord ls)[0]? = some ((ord ls).getD 0 0) := by simp [List.getD_eq_getElem?_getD, h]
  exact List.mem_of_getElem? this
 obtain ⟨h1, h2, h3⟩ := (rV hV).1 hm
 have := uj ls (ls.getD ((ord ls).getD 0 0).toNat 0) (by simp only [List.getD_eq_getElem?_getD] at h2 ⊢; simp [h2])
 have := om ls
 omega
theorem EP {ls : List Int} (hV : Vl ls) (h : (ord ls).length = 0) : e8 ls = 0 := by
 rcases Nat.eq_zero_or_pos (e8 ls) with e | e
 ·exact e
 ·have h1 := zy e
  have h2 := kf ls (e8 ls)
  have h3 := gZ ls (show e8 ls + 1 ≤ 16 by have := tt hV; omega)
  rw [lU] at h
  omega
theorem yl {ls : List Int} (hE : aO ls = 0) (h : (ord ls).length ≠ 0) : base ls 15 + da ls 15 = 32768 ∨ ((ord ls).length = 1 ∧ da ls 1 = 1) := by
 obtain ⟨hV, hW⟩ := cM hE
 have hlb := nU (ls := ls) 15 (by omega)
 rw [nO (fun n _ h2 => oW hW h2)] at hW
 simp only [Bool.or_eq_true, Bool.and_eq_true, decide_eq_true_eq] at hW
 have hp := sg hV
 rcases hW with (h0 | h0) | ⟨h1, h2⟩
 ·left; omega
 ·omega
 ·right
  rw [jT (by omega)] at h2
  exact ⟨by omega, h2⟩
theorem BQ {ls : List Int} (hV : Vl ls) {m : Nat} (h1 : e8 ls ≤ m) (h2 : m ≤ 15) : base ls 15 + da ls 15 = (base ls m + da ls m) * 2 ^ (15 - m) := by
 by_cases e : m = 15
 ·subst e; simp
 ·rw [o3 (ls := ls) (m := m) (n := 15) h2 (fun k a b => uL (by omega)) (by omega), uL (ls := ls) (k := 15) (by omega)]
  omega
theorem He {ls B : List Int} {at_ m : Nat} (hE : aO ls = 0) (h2 : 2 ≤ (ord ls).length) (hm : m ≤ 15) (hg : base ls m + da ls m ≤ acc B at_ m) : m < e8 ls := by
 have hV := (cM hE).1
 rcases Nat.lt_or_ge m (e8 ls) with h | h
 ·exact h
 ·exfalso
  have h3 : base ls 15 + da ls 15 = 32768 := by
   rcases yl hE (by omega) with h | ⟨h, _⟩
   ·exact h
   ·omega
  rw [BQ hV h hm] at h3
  have h4 := (kY B at_ m).2
  have hp : (0 : Int) < 2 ^ (15 - m) := Int.pow_pos (by decide)
  have h5 : acc B at_ m * 2 ^ (15 - m) < 2 ^ m * 2 ^ (15 - m) := Int.mul_lt_mul_of_pos_right h4 hp
  have h6 : (2 : Int) ^ m * 2 ^ (15 - m) = 32768 := by
   rw [← Int.pow_add, show m + (15 - m) = 15 by omega]; rfl
  have h7 : (base ls m + da ls m) * 2 ^ (15 - m) ≤ acc B at_ m * 2 ^ (15 - m) := Int.mul_le_mul_of_nonneg_right hg (Int.le_of_lt hp)
  omega
theorem Hu {ls : List Int} (hE : aO ls = 0) (h : (ord ls).length = 1) : e8 ls = 1 := by
 have hV := (cM hE).1
 have hp := yK hV (by omega)
 have h15 := tt hV
 have hc := zy hp
 have ho := kf ls (e8 ls)
 have hm := gZ ls (show e8 ls + 1 ≤ 16 by omega)
 rw [lU] at h
 rcases yl hE (by rw [lU]; omega) with h3 | ⟨_, h3⟩
 ·exfalso
  rw [BQ hV (Nat.le_refl _) h15] at h3
  have hz : ∀ k, 0 < k → k < e8 ls → da ls k = 0 := by
   intro k k1 k2
   have a1 := gZ ls (show k + 1 ≤ e8 ls by omega)
   have a2 := kf ls k
   have a3 := gw ls k
   omega
  rw [o3 (ls := ls) (m := 0) (n := e8 ls) (Nat.zero_le _) hz hp, show base ls 0 + da ls 0 = 0 from by simp [base, da], Int.zero_mul, Int.zero_add, show da ls (e8 ls) = 1 by omega, Int.one_mul] at h3
  have : (2 : Nat) ^ (15 - e8 ls) ≤ 2 ^ 14 := Nat.pow_le_pow_right (by decide) (by omega)
  have e : ((2 : Int) ^ (15 - e8 ls)) = ((2 ^ (15 - e8 ls) : Nat) : Int) := by simp
  rw [e] at h3
  omega
 ·by_cases e : e8 ls = 1
  ·exact e
  ·exfalso
   have a1 := gZ ls (show 2 ≤ e8 ls by omega)
   have a2 : (off ls 2 : Int) = off ls 1 + da ls 1 := kf ls 1
   omega
theorem sR {ls : List Int} (hV : Vl ls) {m : Nat} (hm : m ≤ 15) : off ls (m + 1) ≤ 320 := by
 have h1 := gZ ls (show m + 1 ≤ 16 by omega)
 have h2 := sg hV
 have h3 := rQ ls
 have h4 := hV.1
 rw [lU] at h2
 omega
theorem Dk {ls : List Int} {m : Nat} (hm : m < 15) : (bx ls).getD ((m : Int) + 1).toNat 0 = da ls (m + 1) := by
 rw [show ((m : Int) + 1).toNat = m + 1 by omega, jT (by omega)]
theorem DA {ls : List Int} {m : Nat} {a : Int} (hm : m < 15) (h0 : base ls (m + 1) ≤ a) (hl : a - base ls (m + 1) < da ls (m + 1)) : off ls (m + 1) + (a - base ls (m + 1)).toNat < (ord ls).length := by
 have := Hi ls m
 exact IC ls hm (by omega)
end Go.ab
namespace Go.af
structure Pk (bs out : List Int) (fr : Nat) : Prop where
 le : fr ≤ 8
 len : 8 * out.length = bs.length + fr
 lH : aY out
 get : ∀ i, i < bs.length → dM out i = bs.getD i 0
 zero : ∀ i, bs.length ≤ i → dM out i = 0
theorem Kf : Pk [] [] 0 := ⟨by omega, rfl, (fun x hx => by cases hx), (fun i hi => by cases hi), (fun i _ => by simp [dM])⟩
theorem Io {bs out : List Int} (h : Pk bs out 0) : Pk bs (out ++ [0]) 8 := by
 have hl := h.len
 refine ⟨by omega, by simp; omega, ?_, ?_, ?_⟩
 ·intro x hx
  rcases List.mem_append.1 hx with hx | hx
  ·exact h.lH x hx
  ·have := List.mem_singleton.1 hx; omega
 ·intro i hi
  rw [← h.get i hi]
  unfold dM
  congr 2
  simp only [List.getD_eq_getElem?_getD]
  rw [List.getElem?_append_left (by omega)]
 ·intro i hi
  unfold dM
  have : (out ++ [0]).getD (i / 8) 0 = 0 := by
   simp only [List.getD_eq_getElem?_getD]
   rw [List.getElem?_append_right (by omega)]
   cases hk : i / 8 - out.length with
   | zero => rfl
   | succ k => rfl
  rw [this]
  simp
theorem sD (x q : Nat) : x / 2 ^ q % 2 = (x.testBit q).toNat := by
 rw [Nat.testBit_eq_decide_div_mod_eq]
 rcases Nat.mod_two_eq_zero_or_one (x / 2 ^ q) with h | h <;> rw [h] <;> rfl
theorem yL {x b p : Nat} (hb : b ≤ 1) (hz : x / 2 ^ p % 2 = 0) (q : Nat) : (x ||| b * 2 ^ p) / 2 ^ q % 2 = if q = p then b else x / 2 ^ q % 2 := by
 rw [sD] at hz
 rw [sD, sD, Nat.testBit_or]
 have hb2 : (b * 2 ^ p).testBit q = (decide (q = p) && decide (b = 1)) := by
  have : b = 0 ∨ b = 1 := by omega
  rcases this with rfl | rfl
  ·simp
  ·rw [Nat.one_mul, Nat.testBit_two_pow]
   by_cases e : p = q
   ·subst e; simp
   ·simp [e, Ne.symm e]
 rw [hb2]
 by_cases e : q = p
 ·subst e
  rw [if_pos rfl]
  cases hx : x.testBit q with
  | true => rw [hx] at hz; cases hz
  | false =>
   have : b = 0 ∨ b = 1 := by omega
   rcases this with rfl | rfl <;> simp
 ·rw [if_neg e]
  simp [e]
theorem DK {x b p : Nat} (hx : x < 256) (hb : b ≤ 1) (hp : p < 8) : x ||| b * 2 ^ p < 256 := by
 have h2 : b * 2 ^ p < 2 ^ 8 := by
  have h3 : 2 ^ p ≤ 2 ^ 7 := Nat.pow_le_pow_right (by decide) (by omega)
  have : b = 0 ∨ b = 1 := by omega
  rcases this with rfl | rfl <;> omega
 exact Nat.or_lt_two_pow (n := 8) hx h2
theorem ND {a b : Nat} (ha : a < 256) (hb : b < 256) : IntKind.u8.wrap ((BitVec.ofInt IntKind.u8.bits (a : Int) ||| BitVec.ofInt IntKind.u8.bits (b : Int)).toNat : Int) = ((a ||| b : Nat) : Int) := by
 have e : IntKind.u8.bits = 8 := rfl
 rw [e, BitVec.toNat_or, ep, ep, Nat.mod_eq_of_lt (by omega), Nat.mod_eq_of_lt (by omega)]
 have := Nat.or_lt_two_pow (n := 8) ha hb
 have e2 : ∀ n : Nat, n < 256 → IntKind.u8.wrap (n : Int) = (n : Int) := fun n hn => Sl.lE (by omega) (by omega)
 exact e2 _ this
def oD (x b : Int) (p : Nat) : Int := ((x.toNat ||| b.toNat * 2 ^ p : Nat) : Int)
theorem Jm {x b : Int} {p : Nat} (hx : 0 ≤ x ∧ x < 256) (hb : 0 ≤ b ∧ b ≤ 1) (hp : p < 8) : IntKind.u8.wrap ((BitVec.ofInt IntKind.u8.bits x ||| BitVec.ofInt IntKind.u8.bits (b * 2 ^ p)).toNat : Int) = oD x b p := by
 obtain ⟨a, rfl⟩ : ∃ a : Nat, x = (a : Int) := ⟨x.toNat, by omega⟩
 obtain ⟨c, rfl⟩ : ∃ c : Nat, b = (c : Int) := ⟨b.toNat, by omega⟩
 have e : (c : Int) * 2 ^ p = ((c * 2 ^ p : Nat) : Int) := by simp
 have h2 : c * 2 ^ p < 256 := by
  have h3 : 2 ^ p ≤ 2 ^ 7 := Nat.pow_le_pow_right (by decide) (by omega)
  have : c = 0 ∨ c = 1 := by omega
  rcases this with rfl | rfl <;> omega
 rw [e, ND (by omega) h2]
 rfl
theorem MN {b : Int} {p : Nat} (hb : 0 ≤ b ∧ b ≤ 1) (hp : p < 8) {d : Int} (hd : d = (p : Int)) : IntKind.u8.wrap (b * 2 ^ (min d.toNat IntKind.u8.bits)) = b * 2 ^ p := by
 have e : min d.toNat IntKind.u8.bits = p := by
  have : IntKind.u8.bits = 8 := rfl
  omega
 rw [e]
 have hp2 : (2 : Nat) ^ p ≤ 2 ^ 7 := Nat.pow_le_pow_right (by decide) (by omega)
 have e2 : ((2 : Int) ^ p) = ((2 ^ p : Nat) : Int) := by simp
 have h0 : (0 : Int) < 2 ^ p := Int.pow_pos (by decide)
 have h3 : b = 0 ∨ b = 1 := by omega
 rcases h3 with e | e <;> rw [e] <;> exact Sl.lE (by omega) (by omega)
theorem Jo {bs out : List Int} {fr : Nat} {b : Int} (h : Pk bs out fr) (h1 : 1 ≤ fr) (hb : 0 ≤ b ∧ b ≤ 1) : Pk (bs ++ [b]) (out.set (out.length - 1) (oD (out.getD (out.length - 1) 0) b (8 - fr))) (fr - 1) := by
 have hle := h.le
 have hl := h.len
 have hx := h.lH.get (out.length - 1)
 have hz := h.zero bs.length (Nat.le_refl _)
 have e1 : bs.length / 8 = out.length - 1 := by omega
 have e2 : bs.length % 8 = 8 - fr := by omega
 unfold dM at hz
 rw [e1, e2] at hz
 obtain ⟨x, hxe⟩ : ∃ x : Nat, out.getD (out.length - 1) 0 = (x : Int) := ⟨(out.getD (out.length - 1) 0).toNat, by omega⟩
 obtain ⟨c, rfl⟩ : ∃ c : Nat, b = (c : Int) := ⟨b.toNat, by omega⟩
 rw [hxe] at hz hx
 have ez : ∀ q : Nat, (x : Int) / 2 ^ q % 2 = ((x / 2 ^ q % 2 : Nat) : Int) := fun q => by simp
 rw [ez] at hz
 have hor : oD (out.getD (out.length - 1) 0) (c : Int) (8 - fr) = ((x ||| c * 2 ^ (8 - fr) : Nat) : Int) := by rw [hxe]; simp only [oD, Int.toNat_natCast]
 rw [hor]
 have hbit : ∀ i, dM (out.set (out.length - 1) ((x ||| c * 2 ^ (8 - fr) : Nat) : Int)) i = if i = bs.length then (c : Int) else dM out i := by
  intro i
  unfold dM
  simp only [List.getD_eq_getElem?_getD, List.getElem?_set]
  by_cases hi : out.length - 1 = i / 8
  ·rw [if_pos hi, if_pos (by omega)]
   simp only [Option.getD_some]
   have e3 : ((x ||| c * 2 ^ (8 - fr) : Nat) : Int) / 2 ^ (i % 8) % 2 = (((x ||| c * 2 ^ (8 - fr)) / 2 ^ (i % 8) % 2 : Nat) : Int) := by simp
   rw [e3, yL (by omega) (by omega)]
   by_cases hq : i % 8 = 8 - fr
   ·rw [if_pos hq, if_pos (by omega)]
   ·rw [if_neg hq, if_neg (by omega), ← hi]
    rw [List.getD_eq_getElem?_getD] at hxe
    rw [hxe, ez]
  ·rw [if_neg hi, if_neg (by omega)]
 refine ⟨by omega, by simp; omega, ?_, ?_, ?_⟩
 ·intro y hy
  rcases List.mem_or_eq_of_mem_set hy with hy | rfl
  ·exact h.lH y hy
  ·have := DK (x := x) (b := c) (p := 8 - fr) (by omega) (by omega) (by omega)
   omega
 ·intro i hi
  rw [hbit]
  simp at hi
  by_cases e : i = bs.length
  ·subst e
   rw [if_pos rfl]
   simp [List.getD_eq_getElem?_getD]
  ·rw [if_neg e, h.get i (by omega)]
   simp only [List.getD_eq_getElem?_getD]
   rw [List.getElem?_append_left (by omega)]
 ·intro i hi
  rw [hbit]
  simp at hi
  rw [if_neg (by omega)]
  exact h.zero i (by omega)
end Go.af
namespace Go.ab
open Go.af
def wb (ls : List Int) (s : Int) : List Int := (List.range (eC ls s).toNat).map (fun i => gF ls s / 2 ^ ((eC ls s).toNat - 1 - i) % 2)
theorem jM (ls : List Int) (s : Int) : (wb ls s).length = (eC ls s).toNat := by simp [wb]
theorem BY {ls : List Int} {s : Int} {i : Nat} (h : i < (eC ls s).toNat) : (wb ls s).getD i 0 = gF ls s / 2 ^ ((eC ls s).toNat - 1 - i) % 2 := by
 simp [wb, List.getD_eq_getElem?_getD, h]
theorem ED {W : Int} {k : Nat} (h : 1 ≤ k) : W / 2 ^ (k - 1) = 2 * (W / 2 ^ k) + W / 2 ^ (k - 1) % 2 := by
 have : W / 2 ^ k = W / 2 ^ (k - 1) / 2 := by
  rw [Int.ediv_ediv_of_nonneg (Int.le_of_lt (Int.pow_pos (by decide)))]
  congr 1
  rw [← Int.pow_succ]
  congr 1
  omega
 rw [this]
 omega
theorem G7 {ls B : List Int} {at_ : Nat} {s : Int} (hE : aO ls = 0) (h0 : 0 ≤ s) (h1 : s < ls.length) (hb : fT ls s = true) (hg : ∀ i, i < (wb ls s).length → dM B (at_ + i) = (wb ls s).getD i 0) (hr : at_ + (wb ls s).length ≤ 8 * B.length) : tk ls B at_ = .qh (wb ls s).length s := by
 obtain ⟨hV, hW⟩ := cM hE
 have hp : 0 < ls.getD s.toNat 0 := by rw [(rk hV h0 h1).1, decide_eq_true_eq] at hb; exact hb
 obtain ⟨L, r, hs⟩ := w9 hV h0 h1 (by omega)
 have hn : (eC ls s).toNat = L := by rw [hs.n]; omega
 have hwl := jM ls s
 rw [hn] at hwl
 rw [hwl] at hg hr ⊢
 have w1 := tY hW hs.one hs.top hs.lt
 have b1 := lY ls L
 have i1 := hs.one
 have i2 := hs.top
 have hL : L ≤ e8 ls := by
  have h2 : ls.getD s.toNat 0 = (L : Int) := by rw [← (rk hV h0 h1).2, hs.n]
  have h3 := uj ls (ls.getD s.toNat 0) (by
   have hlt : s.toNat < ls.length := by omega
   simp [List.getD_eq_getElem?_getD, hlt])
  have := om ls
  omega
 have hacc : ∀ m, m ≤ L → acc B at_ m = (base ls L + (r : Int)) / 2 ^ (L - m) := by
  intro m
  induction m with
  | zero =>
   intro _
   rw [Nat.sub_zero, Int.ediv_eq_zero_of_lt (by omega) w1]
   rfl
  | succ m ih =>
   intro hm
   simp only [acc]
   rw [ih (by omega), hg m (by omega), BY (by omega), hn, hs.w, show L - 1 - m = (L - m) - 1 by omega, show L - (m + 1) = (L - m) - 1 by omega]
   exact (ED (by omega)).symm
 have htk : ∀ m, m < L → Tk ls B at_ m := by
  intro m
  induction m with
  | zero => exact fun _ => oU (by omega)
  | succ m ih =>
   intro hm
   refine (ih (by omega)).Ek (by omega) (by omega) ?_
   rw [hacc (m + 1) (by omega)]
   have h4 := GO ls hm
   have hpp : (0 : Int) < 2 ^ (L - (m + 1)) := Int.pow_pos (by decide)
   have : base ls (m + 1) + da ls (m + 1) ≤ (base ls L + (r : Int)) / 2 ^ (L - (m + 1)) := by
    rw [Int.le_ediv_iff_mul_le hpp]
    omega
   omega
 have hT := htk (L - 1) (by omega)
 have e1 : L - 1 + 1 = L := by omega
 have hc : da ls L = ((cls ls L).length : Int) := by unfold da; rw [if_neg (by omega)]
 have hlt := hs.lt
 have hL2 := hacc L (Nat.le_refl _)
 rw [Nat.sub_self, Int.pow_zero, Int.ediv_one] at hL2
 have := hT.qh (by omega) (by omega) (by rw [e1, hL2]; omega)
 rw [e1, hL2, show (base ls L + (r : Int) - base ls L).toNat = r by omega, zr i1 i2 hlt, hs.get] at this
 exact this
def ins (ls syms : List Int) : List Int := (syms.map (· % 330)).filter (fun s => decide (s < ls.length) && fT ls s)
def bits (ls : List Int) (l : List Int) : List Int := l.flatMap (wb ls)
theorem xF (ls : List Int) : bits ls [] = [] := rfl
theorem Cb (ls l : List Int) (s : Int) : bits ls (l ++ [s]) = bits ls l ++ wb ls s := by simp [bits]
theorem Ly {ls : List Int} {s : Int} : ∀ b ∈ wb ls s, 0 ≤ b ∧ b ≤ 1 := by
 intro b hb
 unfold wb at hb
 obtain ⟨i, _, rfl⟩ := List.mem_map.1 hb
 omega
theorem G9 {ls : List Int} {s : Int} {k : Nat} (h : k < (eC ls s).toNat) : (wb ls s).take k ++ [gF ls s / 2 ^ ((eC ls s).toNat - 1 - k) % 2] = (wb ls s).take (k + 1) := by
 have hk : k < (wb ls s).length := by rw [jM]; exact h
 rw [List.take_succ_eq_append_getElem hk]
 congr 2
 have := BY h
 simpa [List.getD_eq_getElem?_getD, hk] using this.symm
theorem BJ {ls : List Int} (hV : Vl ls) {s : Int} (h0 : 0 ≤ s) : ((ls.length : Int) ≤ s ∧ fT ls s = false) ∨ (s < ls.length ∧ 0 < ls.getD s.toNat 0 ∧ fT ls s = true) ∨ (s < ls.length ∧ ¬ 0 < ls.getD s.toNat 0 ∧ fT ls s = false) := by
 by_cases h1 : s < ls.length
 ·have := (rk hV h0 h1).1
  by_cases h2 : 0 < ls.getD s.toNat 0
  ·exact .inr (.inl ⟨h1, h2, by rw [this, decide_eq_true h2]⟩)
  ·exact .inr (.inr ⟨h1, h2, by rw [this, decide_eq_false h2]⟩)
 ·exact .inl ⟨by omega, (lO (.inr (.inl (by omega)))).2.2⟩
theorem AT {ls : List Int} {all : Int} (hV : Vl ls) (hW : gb (bx ls) all = true) {s : Int} (hb : fT ls s = true) : 0 ≤ gF ls s ∧ gF ls s < 32768 ∧ 1 ≤ eC ls s ∧ eC ls s ≤ 15 := by
 by_cases h0 : 0 ≤ s ∧ s < ls.length
 ·have hp : 0 < ls.getD s.toNat 0 := by rw [(rk hV h0.1 h0.2).1, decide_eq_true_eq] at hb; exact hb
  obtain ⟨L, r, hs⟩ := w9 hV h0.1 h0.2 (by omega)
  have w1 := tY hW hs.one hs.top hs.lt
  have b1 := lY ls L
  have p1 := mm hs.top
  have i1 := hs.one
  have i2 := hs.top
  rw [hs.w, hs.n]
  omega
 ·rw [(lO (x := s) (by omega)).2.2] at hb; cases hb
theorem mB {ls : List Int} (hV : Vl ls) (s : Int) : 0 ≤ eC ls s ∧ eC ls s ≤ 15 := by
 by_cases h0 : 0 ≤ s ∧ s < ls.length
 ·rw [(rk hV h0.1 h0.2).2]
  have hlt : s.toNat < ls.length := by omega
  exact hV.2 _ (by simp [List.getD_eq_getElem?_getD, hlt])
 ·rw [(lO (ls := ls) (x := s) (by omega)).2.1]; omega
theorem nb {ls : List Int} (hV : Vl ls) : ∀ l : List Int, (bits ls l).length ≤ 15 * l.length
 | [] => by simp [bits]
 | s :: l => by
  have := nb hV l
  have h2 := mB hV s
  have h3 := jM ls s
  simp only [bits, List.flatMap_cons, List.length_append, List.length_cons] at this ⊢
  omega
end Go.ab
namespace Go.af
def aQ (x : Int) (n : Nat) : List Int := (List.range n).map (fun i => x / 2 ^ i % 2)
theorem Co (x : Int) : aQ x 0 = [] := rfl
theorem C4 (x : Int) (n : Nat) : aQ x n ++ [x / 2 ^ n % 2] = aQ x (n + 1) := by simp [aQ, List.range_succ]
theorem dH (x : Int) (n : Nat) : (aQ x n).length = n := by simp [aQ]
theorem FI (x : Int) : aQ x 1 = [x % 2] := by simp [aQ]
theorem mE {x : Int} {k : Nat} (hk : k ≤ 60) {d : Int} (hd : d = (k : Int)) : x.fdiv (2 ^ (min d.toNat IntKind.i64.bits)) = x / 2 ^ k := by
 have e : min d.toNat IntKind.i64.bits = k := by
  have : IntKind.i64.bits = 64 := rfl
  omega
 rw [e, Int.fdiv_eq_ediv_of_nonneg _ (Int.le_of_lt (Int.pow_pos (by decide)))]
theorem C1 {x : Int} (h0 : 0 ≤ x) (k : Nat) : 0 ≤ x / 2 ^ k ∧ x / 2 ^ k ≤ x := ⟨Int.ediv_nonneg h0 (Int.le_of_lt (Int.pow_pos (by decide))), Int.ediv_le_self _ h0⟩
end Go.af
namespace Go.aa
open Go.af Go.ab
structure St where
 at_ : Nat
 out : List Int
 kind : Int
 left : Nat
 last : Bool
 lits : List Int
 cH : List Int
 aq : Nat
 aL : Nat
 ended : Bool
def bF : List Int := List.replicate 144 8 ++ List.replicate 112 9 ++ List.replicate 24 7 ++ List.replicate 8 8
def fu : List Int := List.replicate 32 5
def sym (ls B : List Int) (a : Nat) : Except Int (Int × Nat) := match tk ls B a with
 | .qh n s => .ok (s, a + n)
 | .short _ => .error 2
 | .none_ _ => .error 4
def cC (a : Nat) : Nat := (a + 7) / 8 * 8
def dv : List Int := [16, 17, 18, 0, 8, 7, 9, 6, 10, 5, 11, 4, 12, 3, 13, 2, 14, 1, 15]
def fP (B : List Int) (a : Nat) : Nat → List Int
 | 0 => List.replicate 19 0
 | i + 1 => (fP B a i).set (dv.getD i 0).toNat (az B (a + 3 * i) 3)
def cW (s : Int) : Nat := if s = 16 then 2 else if s = 17 then 3 else 7
def gV (s : Int) : Int := if s = 18 then 11 else 3
def gx (s : Int) (l : List Int) : Int := if s = 16 then l.getD (l.length - 1) 0 else 0
def rep (B : List Int) (s : Int) (l : List Int) (a : Nat) : Except Int (Int × Int × Nat) :=
 if s < 16 then .ok (s, 1, a) else if 8 * B.length < a + cW s then .error 2 else if s = 16 ∧ l = [] then .error 4 else .ok (gx s l, gV s + az B a (cW s), a + cW s)
def kG (B c l : List Int) (a : Nat) : Except Int (List Int × Nat) := match sym c B a with
 | .error e => .error e
 | .ok (s, a) => match rep B s l a with
  | .error e => .error e
  | .ok (x, n, a) => .ok (l ++ List.replicate n.toNat x, a)
def eZ (B c : List Int) (tot : Nat) : Nat → List Int → Nat → Except Int (List Int × Nat)
 | 0, l, a => .ok (l, a)
 | f + 1, l, a => if l.length < tot then (match kG B c l a with
  | .error e => .error e
  | .ok (l', a') => if l'.length ≤ tot then eZ B c tot f l' a' else .error 4) else .ok (l, a)
def hL (B : List Int) (a : Nat) : Nat := 257 + (az B a 5).toNat
def hD (B : List Int) (a : Nat) : Nat := 1 + (az B (a + 5) 5).toNat
def hC (B : List Int) (a : Nat) : Nat := 4 + (az B (a + 10) 4).toNat
def told (B : List Int) (a : Nat) : Except Int (Nat × List Int × List Int) :=
 if 8 * B.length < a + 14 then .error 2 else
 if ¬ (hL B a ≤ 286 ∧ hD B a ≤ 30) then .error 4 else
 if 8 * B.length < a + 14 + 3 * hC B a then .error 2 else
 if aO (fP B (a + 14) (hC B a)) ≠ 0 then .error 4 else
 match eZ B (fP B (a + 14) (hC B a)) (hL B a + hD B a) (hL B a + hD B a) [] (a + 14 + 3 * hC B a) with
 | .error e => .error e
 | .ok (l, a') => if aO (l.take (hL B a)) ≠ 0 ∨ aO (l.drop (hL B a)) ≠ 0 ∨ l.getD 256 0 = 0 then .error 4 else .ok (a', l.take (hL B a), l.drop (hL B a))
def cT (B : List Int) (s : St) : Except Int St :=
 if 8 * B.length < s.at_ + 3 then .error 2 else
 if az B (s.at_ + 1) 2 = 0 then
  (if 8 * B.length < cC (s.at_ + 3) + 32 then .error 2 else
   if az B (cC (s.at_ + 3)) 16 = 65535 - az B (cC (s.at_ + 3) + 16) 16 then .ok { s with at_ := cC (s.at_ + 3) + 32, kind := 0, left := (az B (cC (s.at_ + 3)) 16).toNat, last := decide (az B s.at_ 1 = 1) } else .error 4) else
 if az B (s.at_ + 1) 2 = 1 then .ok { s with at_ := s.at_ + 3, kind := 1, last := decide (az B s.at_ 1 = 1), lits := bF, cH := fu } else
 if az B (s.at_ + 1) 2 = 2 then (match told B (s.at_ + 3) with
  | .error e => .error e
  | .ok (a, l, d) => .ok { s with at_ := a, kind := 2, last := decide (az B s.at_ 1 = 1), lits := l, cH := d }) else .error 4
def j9 (s : Int) : Int := if s < 8 then 3 + s else if s = 28 then 258 else 3 + (4 + s % 4) * 2 ^ (s / 4 - 1).toNat
def ga (s : Int) : Nat := if s < 8 ∨ s = 28 then 0 else (s / 4 - 1).toNat
def mf (d : Int) : Int := if d < 4 then 1 + d else 1 + (2 + d % 2) * 2 ^ (d / 2 - 1).toNat
def gH (d : Int) : Nat := if d < 4 then 0 else (d / 2 - 1).toNat
def eE (most : Int) (s : St) (y : Int) : Except Int St := if (s.out.length : Int) < most then .ok { s with out := s.out ++ [y] } else .error 6
def eG (B : List Int) (most : Int) (s : St) : Except Int St := match sym s.lits B s.at_ with
 | .error e => .error e
 | .ok (y, a) =>
  if y < 256 then eE most { s with at_ := a } y else
  if y = 256 then .ok { s with at_ := a, kind := -1, ended := s.last } else
  if 286 ≤ y then .error 4 else
  if 8 * B.length < a + ga (y - 257) then .error 2 else
  match sym s.cH B (a + ga (y - 257)) with
  | .error e => .error e
  | .ok (d, a3) => if 30 ≤ d then .error 4 else if 8 * B.length < a3 + gH d then .error 2 else
   if mf d + az B a3 (gH d) ≤ s.out.length then .ok { s with at_ := a3 + gH d, aq := (j9 (y - 257) + az B a (ga (y - 257))).toNat, aL := (mf d + az B a3 (gH d)).toNat } else .error 4
def one (B : List Int) (most : Int) (s : St) : Except Int St :=
 if 0 < s.aq then eE most { s with aq := s.aq - 1 } (s.out.getD (s.out.length - s.aL) 0) else
 if s.kind = -1 then cT B s else
 if s.kind ≠ 0 then eG B most s else
 if s.left = 0 then .ok { s with kind := -1, ended := s.last } else
 if 8 * B.length < s.at_ + 8 then .error 2 else eE most { s with at_ := s.at_ + 8, left := s.left - 1 } (az B s.at_ 8)
def start : St := ⟨0, [], -1, 0, false, [], [], 0, 0, false⟩
abbrev Oc := Except Int (List Int × Nat)
inductive ia (B : List Int) (most : Int) : St → Oc → Prop
 | done {s : St} : s.ended = true → ia B most s (.ok (s.out, (s.at_ + 7) / 8))
 | step {s s' : St} {o : Oc} : s.ended = false → one B most s = .ok s' → ia B most s' o → ia B most s o
 | fail {s : St} {e : Int} : s.ended = false → one B most s = .error e → ia B most s (.error e)
theorem ia.k8 {B : List Int} {most : Int} {s : St} {o : Oc} (h : ia B most s o) : ∀ {o' : Oc}, ia B most s o' → o = o' := by
 induction h with
 | done h1 => intro o' h; cases h with
  | done _ => rfl
  | step h2 _ _ => rw [h1] at h2; cases h2
  | fail h2 _ => rw [h1] at h2; cases h2
 | step h1 h2 h3 ih => intro o' h; cases h with
  | done h4 => rw [h1] at h4; cases h4
  | step _ h5 h6 => rw [h2] at h5; cases h5; exact ih h6
  | fail _ h5 => rw [h2] at h5; cases h5
 | fail h1 h2 => intro o' h; cases h with
  | done h4 => rw [h1] at h4; cases h4
  | step _ h5 h6 => rw [h2] at h5; cases h5
  | fail _ h5 => rw [h2] at h5; cases h5; rfl
def eD (B : List Int) (most : Int) (s s' : St) : Prop := ∀ o, ia B most s' o → ia B most s o
theorem eD.refl (B : List Int) (most : Int) (s : St) : eD B most s s := fun _ h => h
theorem eD.trans {B : List Int} {most : Int} {s s' s'' : St} (h : eD B most s s') (k : eD B most s' s'') : eD B most s s'' := fun o r => h o (k o r)
theorem eD.one {B : List Int} {most : Int} {s s' : St} (h : s.ended = false) (k : one B most s = .ok s') : eD B most s s' := fun o r => .step h k r
theorem eD.next {B : List Int} {most : Int} {s s' s'' : St} (g : eD B most s s') (h : s'.ended = false) (k : aa.one B most s' = .ok s'') : eD B most s s'' := g.trans (.one h k)
theorem eD.fail {B : List Int} {most : Int} {s s' : St} {e : Int} (g : eD B most s s') (h : s'.ended = false) (k : aa.one B most s' = .error e) : ia B most s (.error e) := g _ (.fail h k)
def iN (ls : List Int) : Except Int Unit := if aO ls = 0 then .ok () else .error 4
section
variable {B l : List Int} {s : Int} {a : Nat}
theorem vZ (h : s < 16) : rep B s l a = .ok (s, 1, a) := if_pos h
theorem jS (h : ¬ s < 16) (hx : 8 * B.length < a + cW s) : rep B s l a = .error 2 := by unfold rep; rw [if_neg h, if_pos hx]
theorem xB (h : s = 16) (hl : l = []) (hx : ¬ 8 * B.length < a + cW s) : rep B s l a = .error 4 := by unfold rep; rw [if_neg (by omega), if_neg hx, if_pos ⟨h, hl⟩]
theorem sS (h : ¬ s < 16) (hx : ¬ 8 * B.length < a + cW s) (hl : ¬ (s = 16 ∧ l = [])) : rep B s l a = .ok (gx s l, gV s + az B a (cW s), a + cW s) := by unfold rep; rw [if_neg h, if_neg hx, if_neg hl]
end
theorem rq (B : List Int) (a : Nat) : ∀ k, (fP B a k).length = 19
 | 0 => by simp [fP]
 | k + 1 => by simp [fP, rq B a k]
theorem kU : aO bF = 0 := by decide +kernel
theorem lX : aO fu = 0 := by decide +kernel
def fI : List (Int × Int) := [(8, 144), (9, 112), (7, 24), (8, 8)]
def dW : Nat → List Int
 | 0 => []
 | k + 1 => dW k ++ List.replicate (fI.getD k (0, 0)).2.toNat (fI.getD k (0, 0)).1
theorem qf : dW 4 = bF := by decide +kernel
theorem zC : ∀ k, k ≤ 4 → (dW k).length ≤ 288 := by
 intro k hk
 have : k = 0 ∨ k = 1 ∨ k = 2 ∨ k = 3 ∨ k = 4 := by omega
 rcases this with rfl | rfl | rfl | rfl | rfl <;> decide +kernel
theorem ue {k : Nat} (h : k < 19) : 0 ≤ dv.getD k 0 ∧ dv.getD k 0 < 19 := by
 have : ∀ k, k < 19 → 0 ≤ dv.getD k 0 ∧ dv.getD k 0 < 19 := by decide
 exact this k h
theorem wj (B : List Int) (a : Nat) : 257 + az B a 5 = (hL B a : Int) ∧ 1 + az B (a + 5) 5 = (hD B a : Int) ∧ 4 + az B (a + 10) 4 = (hC B a : Int) ∧ hL B a ≤ 288 ∧ hD B a ≤ 32 ∧ hC B a ≤ 19 ∧ 4 ≤ hC B a ∧ 257 ≤ hL B a := by
 have h1 := aU B a 5
 have h2 := aU B (a + 5) 5
 have h3 := aU B (a + 10) 4
 unfold hL hD hC
 omega
end Go.aa
namespace Go.aa
open Go.af Go.ab
theorem eT {α : Type} (E : Except Int α) : (∃ e, E = .error e) ∨ ∃ x, E = .ok x := by
 cases E with
 | error e => exact .inl ⟨e, rfl⟩
 | ok x => exact .inr ⟨x, rfl⟩
theorem EU {ls B : List Int} {a : Nat} : ∀ {r n n' : Nat} {s : Int}, o5 ls B a r n = .qh n' s → n < n' ∧ a + n' ≤ 8 * B.length ∧ (s ∈ ord ls ∨ s = 0) := by
 intro r
 induction r with
 | zero => intro n n' s h; simp [o5] at h
 | succ r ih =>
  intro n n' s h
  simp only [o5] at h
  split at h
  ·rename_i h1
   split at h
   ·cases h
    refine ⟨by omega, by omega, ?_⟩
    rw [List.getD_eq_getElem?_getD]
    cases hh : (ord ls)[off ls (n + 1) + (acc B a (n + 1) - base ls (n + 1)).toNat]? with
    | none => exact .inr rfl
    | some x => exact .inl (List.mem_of_getElem? hh)
   ·have := ih h; exact ⟨by omega, this.2.1, this.2.2⟩
  ·cases h
theorem ql {ls B : List Int} {a a' : Nat} {s : Int} (hE : aO ls = 0) (h0 : 0 < ls.length) (h : sym ls B a = .ok (s, a')) : 0 ≤ s ∧ s < ls.length ∧ a < a' ∧ a' ≤ 8 * B.length := by
 unfold sym at h
 split at h
 ·rename_i n s' hs
  cases h
  obtain ⟨h1, h2, h3⟩ := EU hs
  have : 0 ≤ s ∧ s < ls.length := by
   rcases h3 with h3 | rfl
   ·obtain ⟨k1, k2, _⟩ := (rV (cM hE).1).1 h3
    omega
   ·omega
  omega
 ·cases h
 ·cases h
theorem wy {B l : List Int} {s x n : Int} {a a' : Nat} (ha : a ≤ 8 * B.length) (h : rep B s l a = .ok (x, n, a')) : 1 ≤ n ∧ n < 200 ∧ a ≤ a' ∧ a' ≤ 8 * B.length := by
 unfold rep at h
 split at h
 ·cases h; omega
 split at h
 ·cases h
 split at h
 ·cases h
 cases h
 have hb := aU B a (cW s)
 have : gV s + az B a (cW s) < 200 ∧ 1 ≤ gV s := by
  unfold gV
  unfold cW at hb ⊢
  by_cases h1 : s = 16
  ·rw [if_pos h1] at hb ⊢; rw [if_neg (by omega)]; omega
  ·by_cases h2 : s = 17
   ·rw [if_neg h1, if_pos h2] at hb ⊢; rw [if_neg (by omega)]; omega
   ·rw [if_neg h1, if_neg h2] at hb ⊢; split <;> omega
 omega
section
variable {B c l l' : List Int} {tot f a a' : Nat} {e s x n : Int}
theorem kK (h : tot ≤ l.length) : eZ B c tot f l a = .ok (l, a) := by
 cases f with
 | zero => rfl
 | succ f => simp only [eZ]; rw [if_neg (by omega)]
theorem iE (h : l.length < tot) (hf : tot ≤ f + l.length) (k : kG B c l a = .error e) : eZ B c tot f l a = .error e := by
 obtain ⟨f, rfl⟩ : ∃ g, f = g + 1 := ⟨f - 1, by omega⟩
 simp only [eZ]; rw [if_pos h, k]
theorem ka (h : l.length < tot) (hf : tot ≤ f + l.length) (k : kG B c l a = .ok (l', a')) (hl : l'.length ≤ tot) : eZ B c tot f l a = eZ B c tot (f - 1) l' a' := by
 obtain ⟨f, rfl⟩ : ∃ g, f = g + 1 := ⟨f - 1, by omega⟩
 simp only [eZ]; rw [if_pos h, k]; simp only; rw [if_pos hl]; rfl
theorem nz (h : l.length < tot) (hf : tot ≤ f + l.length) (k : kG B c l a = .ok (l', a')) (hl : ¬ l'.length ≤ tot) : eZ B c tot f l a = .error 4 := by
 obtain ⟨f, rfl⟩ : ∃ g, f = g + 1 := ⟨f - 1, by omega⟩
 simp only [eZ]; rw [if_pos h, k]; simp only; rw [if_neg hl]
theorem pj (h : sym c B a = .error e) : kG B c l a = .error e := by unfold kG; rw [h]
theorem jX (h : sym c B a = .ok (s, a')) (k : rep B s l a' = .error e) : kG B c l a = .error e := by unfold kG; rw [h]; simp only; rw [k]
theorem gj {a'' : Nat} (h : sym c B a = .ok (s, a')) (k : rep B s l a' = .ok (x, n, a'')) : kG B c l a = .ok (l ++ List.replicate n.toNat x, a'') := by unfold kG; rw [h]; simp only; rw [k]
end
theorem Ac (B c l : List Int) (a : Nat) : (∃ e, sym c B a = .error e) ∨ (∃ s a' e, sym c B a = .ok (s, a') ∧ rep B s l a' = .error e) ∨ (∃ s a' x n a'', sym c B a = .ok (s, a') ∧ rep B s l a' = .ok (x, n, a'')) := by
 rcases eT (sym c B a) with ⟨e, h⟩ | ⟨⟨s, a'⟩, h⟩
 ·exact .inl ⟨e, h⟩
 ·rcases eT (rep B s l a') with ⟨e, k⟩ | ⟨⟨x, n, a''⟩, k⟩
  ·exact .inr (.inl ⟨s, a', e, h, k⟩)
  ·exact .inr (.inr ⟨s, a', x, n, a'', h, k⟩)
def bG (B : List Int) (a : Nat) : List Int := fP B (a + 14) (hC B a)
def bO (B : List Int) (a : Nat) : Nat := hL B a + hD B a
def cY (B : List Int) (a : Nat) : Nat := a + 14 + 3 * hC B a
section
variable {B l : List Int} {a a' : Nat} {e : Int}
theorem qp (h : 8 * B.length < a + 14) : told B a = .error 2 := if_pos h
theorem qQ (h : a + 14 ≤ 8 * B.length) (k : ¬ (hL B a ≤ 286 ∧ hD B a ≤ 30)) : told B a = .error 4 := by
 unfold told; rw [if_neg (by omega), if_pos k]
theorem xz (h : a + 14 ≤ 8 * B.length) (k : hL B a ≤ 286 ∧ hD B a ≤ 30) (x : 8 * B.length < cY B a) : told B a = .error 2 := by
 unfold told; rw [if_neg (by omega), if_neg (fun h => h k)]; exact if_pos x
theorem xC (h : a + 14 ≤ 8 * B.length) (k : hL B a ≤ 286 ∧ hD B a ≤ 30) (x : cY B a ≤ 8 * B.length) (y : aO (bG B a) ≠ 0) : told B a = .error 4 := by
 unfold told; rw [if_neg (by omega), if_neg (fun h => h k), if_neg (by unfold cY at x; omega)]; exact if_pos y
theorem ur (h : a + 14 ≤ 8 * B.length) (k : hL B a ≤ 286 ∧ hD B a ≤ 30) (x : cY B a ≤ 8 * B.length) (y : aO (bG B a) = 0) : told B a = (match eZ B (bG B a) (bO B a) (bO B a) [] (cY B a) with
  | .error e => .error e
  | .ok (l, a') => if aO (l.take (hL B a)) ≠ 0 ∨ aO (l.drop (hL B a)) ≠ 0 ∨ l.getD 256 0 = 0 then .error 4 else .ok (a', l.take (hL B a), l.drop (hL B a))) := by
 unfold told; rw [if_neg (by omega), if_neg (fun h => h k), if_neg (by unfold cY at x; omega)]; exact if_neg (fun h => h y)
theorem iQ (h : a + 14 ≤ 8 * B.length) (k : hL B a ≤ 286 ∧ hD B a ≤ 30) (x : cY B a ≤ 8 * B.length) (y : aO (bG B a) = 0) (z : eZ B (bG B a) (bO B a) (bO B a) [] (cY B a) = .error e) : told B a = .error e := by
 rw [ur h k x y, z]
theorem mA (h : a + 14 ≤ 8 * B.length) (k : hL B a ≤ 286 ∧ hD B a ≤ 30) (x : cY B a ≤ 8 * B.length) (y : aO (bG B a) = 0) (z : eZ B (bG B a) (bO B a) (bO B a) [] (cY B a) = .ok (l, a')) (q : aO (l.take (hL B a)) ≠ 0 ∨ aO (l.drop (hL B a)) ≠ 0 ∨ l.getD 256 0 = 0) : told B a = .error 4 := by
 rw [ur h k x y, z]; exact if_pos q
theorem tC (h : a + 14 ≤ 8 * B.length) (k : hL B a ≤ 286 ∧ hD B a ≤ 30) (x : cY B a ≤ 8 * B.length) (y : aO (bG B a) = 0) (z : eZ B (bG B a) (bO B a) (bO B a) [] (cY B a) = .ok (l, a')) (q1 : aO (l.take (hL B a)) = 0) (q2 : aO (l.drop (hL B a)) = 0) (q3 : l.getD 256 0 ≠ 0) : told B a = .ok (a', l.take (hL B a), l.drop (hL B a)) := by
 rw [ur h k x y, z]; exact if_neg (fun h => by rcases h with h | h | h; exact h q1; exact h q2; exact q3 h)
end
theorem eY (B : List Int) (a : Nat) : (bG B a).length = 19 := rq _ _ _
theorem H5 {k : Nat} (h : k < 4) : (fI.getD k (0, 0)).2 = ((fI.getD k (0, 0)).2.toNat : Int) ∧ (fI.getD k (0, 0)).2.toNat < 200 := by
 have : ∀ k, k < 4 → (fI.getD k (0, 0)).2 = ((fI.getD k (0, 0)).2.toNat : Int) ∧ (fI.getD k (0, 0)).2.toNat < 200 := by decide
 exact this k h
theorem yV {ls : List Int} (hE : aO ls = 0) (i : Nat) : 0 ≤ ls.getD i 0 := by
 have hV := (cM hE).1
 rw [List.getD_eq_getElem?_getD]
 cases h : ls[i]? with
 | none => exact Int.le_refl _
 | some x => exact (hV.2 x (List.mem_of_getElem? h)).1
theorem getD_take {l : List Int} {n i : Nat} (h : i < n) : (l.take n).getD i 0 = l.getD i 0 := by
 simp [List.getD_eq_getElem?_getD, List.getElem?_take, h]
end Go.aa
namespace Go.aa
open Go.af
theorem uZ (k : Nat) : dW (k + 1) = dW k ++ List.replicate (fI.getD k (0, 0)).2.toNat (fI.getD k (0, 0)).1 := rfl
theorem BE {k : Nat} (h : k < 4) : 0 ≤ (fI.getD k (0, 0)).2 ∧ (fI.getD k (0, 0)).2 < 200 := by have := H5 h; omega
theorem xG (B : List Int) (a : Nat) : fP B a 0 = List.replicate 19 0 := rfl
theorem yd (B : List Int) (a k : Nat) : fP B a (k + 1) = (fP B a k).set (dv.getD k 0).toNat (az B (a + 3 * k) 3) := rfl
theorem KS (n a : Nat) : 8 * n < a + 5 ∨ (a + 5 ≤ 8 * n ∧ 8 * n < a + 10) ∨ (a + 10 ≤ 8 * n ∧ 8 * n < a + 14) ∨ a + 14 ≤ 8 * n := by omega
theorem Ka (p q : Prop) : (p ∧ q) ∨ (p ∧ ¬ q) ∨ ¬ p := by
 rcases Classical.em p with h | h
 ·rcases Classical.em q with k | k
  ·exact .inl ⟨h, k⟩
  ·exact .inr (.inl ⟨h, k⟩)
 ·exact .inr (.inr h)
theorem sG (B : List Int) (a : Nat) : bO B a = hL B a + hD B a := rfl
theorem sJ (B : List Int) (a : Nat) : cY B a = a + 14 + 3 * hC B a := rfl
theorem oT (B : List Int) (a : Nat) : bG B a = fP B (a + 14) (hC B a) := rfl
end Go.aa
namespace Go.aa
theorem MH (p q r : Prop) : (p ∧ q ∧ r) ∨ (p ∧ q ∧ ¬ r) ∨ (p ∧ ¬ q) ∨ ¬ p := by
 rcases Classical.em p with h | h
 ·rcases Classical.em q with k | k
  ·rcases Classical.em r with m | m
   ·exact .inl ⟨h, k, m⟩
   ·exact .inr (.inl ⟨h, k, m⟩)
  ·exact .inr (.inr (.inl ⟨h, k⟩))
 ·exact .inr (.inr (.inr h))
end Go.aa
namespace Go.aa
open Go.af Go.ab
def eo (B : List Int) (s : Int) (a : Nat) : Except Int (Int × Nat) := if 29 ≤ s then .error 4 else if 8 * B.length < a + ga s then .error 2 else .ok (j9 s + az B a (ga s), a + ga s)
def dr (B ds : List Int) (a : Nat) : Except Int (Int × Nat) := match sym ds B a with
 | .error e => .error e
 | .ok (d, a3) => if 30 ≤ d then .error 4 else if 8 * B.length < a3 + gH d then .error 2 else .ok (mf d + az B a3 (gH d), a3 + gH d)
theorem qI (B : List Int) (a : Nat) : az B a 0 = 0 := rfl
section
variable {B : List Int} {s : Int} {a : Nat}
theorem wQ (h : 29 ≤ s) : eo B s a = .error 4 := if_pos h
def fY (s : Int) : Nat := (s / 4 - 1).toNat
def fU (s : Int) : Nat := (s / 2 - 1).toNat
theorem uc (h : s < 8 ∨ s = 28) : ga s = 0 := if_pos h
theorem z6 (h : 8 ≤ s) (h2 : s < 28) : ga s = fY s := if_neg (by omega)
theorem yU (h : s < 8) : j9 s = 3 + s := if_pos h
theorem HK (h : s = 28) : j9 s = 258 := by unfold j9; rw [if_neg (by omega)]; exact if_pos h
theorem Gz (h : 8 ≤ s) (h2 : s < 28) : j9 s = 3 + (4 + s % 4) * 2 ^ fY s := by unfold j9; rw [if_neg (by omega), if_neg (by omega)]; rfl
theorem uD (h : s < 4) : gH s = 0 := if_pos h
theorem vC (h : 4 ≤ s) : gH s = fU s := if_neg (by omega)
theorem uk (h : s < 4) : mf s = 1 + s := if_pos h
theorem Bo (h : 4 ≤ s) : mf s = 1 + (2 + s % 2) * 2 ^ fU s := if_neg (by omega)
theorem yE (h0 : 0 ≤ s) (h : s < 8) (ha : a ≤ 8 * B.length) : eo B s a = .ok (3 + s, a) := by
 unfold eo
 rw [if_neg (by omega), uc (.inl h), yU h, qI, Int.add_zero]; exact if_neg (by omega)
theorem zI (h : s = 28) (ha : a ≤ 8 * B.length) : eo B s a = .ok (258, a) := by
 unfold eo
 rw [if_neg (by omega), uc (.inr h), HK h, qI, Int.add_zero]; exact if_neg (by omega)
theorem ve (h : 8 ≤ s) (h2 : s < 28) (hx : 8 * B.length < a + fY s) : eo B s a = .error 2 := by
 unfold eo
 rw [if_neg (by omega), z6 h h2]; exact if_pos hx
theorem Bw (h : 8 ≤ s) (h2 : s < 28) (hx : a + fY s ≤ 8 * B.length) : eo B s a = .ok (3 + (4 + s % 4) * 2 ^ fY s + az B a (fY s), a + fY s) := by
 unfold eo
 rw [if_neg (by omega), z6 h h2, Gz h h2]; exact if_neg (by omega)
theorem wO (h : 8 ≤ s) (h2 : s < 28) : s / 4 - 1 = (fY s : Int) ∧ fY s ≤ 5 ∧ 1 ≤ fY s := by unfold fY; omega
theorem tA (h : 4 ≤ s) (h2 : s < 30) : s / 2 - 1 = (fU s : Int) ∧ fU s ≤ 13 ∧ 1 ≤ fU s := by unfold fU; omega
end
section
variable {B ds : List Int} {s e : Int} {a a3 : Nat}
theorem xW (h : sym ds B a = .error e) : dr B ds a = .error e := by unfold dr; rw [h]
theorem uB (h : sym ds B a = .ok (s, a3)) (k : 30 ≤ s) : dr B ds a = .error 4 := by unfold dr; rw [h]; exact if_pos k
theorem vY (h : sym ds B a = .ok (s, a3)) (h0 : 0 ≤ s) (k : s < 4) (ha : a3 ≤ 8 * B.length) : dr B ds a = .ok (1 + s, a3) := by
 unfold dr; rw [h]; simp only; rw [if_neg (by omega), uD k, uk k, qI, Int.add_zero]; exact if_neg (by omega)
theorem th (h : sym ds B a = .ok (s, a3)) (h1 : 4 ≤ s) (h2 : s < 30) (hx : 8 * B.length < a3 + fU s) : dr B ds a = .error 2 := by
 unfold dr; rw [h]; simp only; rw [if_neg (by omega), vC h1]; exact if_pos hx
theorem zK (h : sym ds B a = .ok (s, a3)) (h1 : 4 ≤ s) (h2 : s < 30) (hx : a3 + fU s ≤ 8 * B.length) : dr B ds a = .ok (1 + (2 + s % 2) * 2 ^ fU s + az B a3 (fU s), a3 + fU s) := by
 unfold dr; rw [h]; simp only; rw [if_neg (by omega), vC h1, Bo h1]; exact if_neg (by omega)
end
theorem jQ {x : Int} {n : Nat} (h0 : 0 ≤ x) (h1 : x < 8) (hn : n ≤ 13) {d : Int} (hd : d = (n : Int)) : IntKind.i64.wrap (x * 2 ^ (min d.toNat IntKind.i64.bits)) = x * 2 ^ n ∧ 0 ≤ x * 2 ^ n ∧ x * 2 ^ n < 65536 := by
 have e : min d.toNat IntKind.i64.bits = n := by
  have : IntKind.i64.bits = 64 := rfl
  omega
 have hp : (2 : Int) ^ n ≤ 2 ^ 13 := by
  have := Nat.pow_le_pow_right (n := 2) (by decide) hn
  have e2 : ((2 : Int) ^ n) = ((2 ^ n : Nat) : Int) := by simp
  rw [e2]; exact_mod_cast this
 have h2 : (0 : Int) < 2 ^ n := Int.pow_pos (by decide)
 have h3 : 0 ≤ x * 2 ^ n := Int.mul_nonneg h0 (Int.le_of_lt h2)
 have h4 : x * 2 ^ n ≤ 7 * 2 ^ 13 := Int.le_trans (Int.mul_le_mul_of_nonneg_right (show x ≤ 7 by omega) (Int.le_of_lt h2)) (Int.mul_le_mul_of_nonneg_left hp (by decide))
 rw [e]
 exact ⟨Sl.gQ (by omega) (by omega), h3, by omega⟩
theorem Gf {x y : Int} (hx : 0 ≤ x ∧ x < 65536) (hy : 0 ≤ y ∧ y < 65536) : (IntKind.i64.wrap ((BitVec.ofInt IntKind.i64.bits x ^^^ BitVec.ofInt IntKind.i64.bits y).toNat : Int) = 65535) ↔ x = 65535 - y := by
 obtain ⟨a, rfl⟩ : ∃ a : Nat, x = (a : Int) := ⟨x.toNat, by omega⟩
 obtain ⟨b, rfl⟩ : ∃ b : Nat, y = (b : Int) := ⟨y.toNat, by omega⟩
 have e : IntKind.i64.bits = 64 := rfl
 have ha : a < 2 ^ 16 := by omega
 have hb : b < 2 ^ 16 := by omega
 have hlt : a ^^^ b < 2 ^ 16 := Nat.xor_lt_two_pow ha hb
 rw [e, BitVec.toNat_xor, ep, ep, Nat.mod_eq_of_lt (by omega), Nat.mod_eq_of_lt (by omega), Sl.gQ (by omega) (by omega)]
 have hc : b ^^^ 65535 = 65535 - b := by
  have h1 : (BitVec.ofNat 16 b ^^^ BitVec.allOnes 16) = ~~~ (BitVec.ofNat 16 b) := BitVec.xor_allOnes
  have h2 := congrArg BitVec.toNat h1
  rw [BitVec.toNat_xor, BitVec.toNat_not, BitVec.toNat_ofNat, BitVec.toNat_allOnes, Nat.mod_eq_of_lt hb] at h2
  exact h2
 constructor
 ·intro h
  have h' : a ^^^ b = 65535 := by omega
  have : a = 65535 ^^^ b := by rw [← h', Nat.xor_assoc, Nat.xor_self, Nat.xor_zero]
  rw [Nat.xor_comm, hc] at this
  omega
 ·intro h
  have h' : a = 65535 - b := by omega
  rw [h', ← hc, Nat.xor_comm b, Nat.xor_assoc, Nat.xor_self, Nat.xor_zero]
  rfl
section
variable {B : List Int} {s : St} {e : Int}
theorem vy (h : 8 * B.length < s.at_ + 3) : cT B s = .error 2 := if_pos h
theorem tG (h : s.at_ + 3 ≤ 8 * B.length) (k : az B (s.at_ + 1) 2 = 0) (hx : 8 * B.length < cC (s.at_ + 3) + 32) : cT B s = .error 2 := by
 unfold cT; rw [if_neg (by omega), if_pos k]; exact if_pos hx
theorem wR (h : s.at_ + 3 ≤ 8 * B.length) (k : az B (s.at_ + 1) 2 = 0) (hx : cC (s.at_ + 3) + 32 ≤ 8 * B.length) (hm : az B (cC (s.at_ + 3)) 16 ≠ 65535 - az B (cC (s.at_ + 3) + 16) 16) : cT B s = .error 4 := by
 unfold cT; rw [if_neg (by omega), if_pos k, if_neg (by omega)]; exact if_neg hm
theorem qD (h : s.at_ + 3 ≤ 8 * B.length) (k : az B (s.at_ + 1) 2 = 0) (hx : cC (s.at_ + 3) + 32 ≤ 8 * B.length) (hm : az B (cC (s.at_ + 3)) 16 = 65535 - az B (cC (s.at_ + 3) + 16) 16) : cT B s = .ok { s with at_ := cC (s.at_ + 3) + 32, kind := 0, left := (az B (cC (s.at_ + 3)) 16).toNat, last := decide (az B s.at_ 1 = 1) } := by
 unfold cT; rw [if_neg (by omega), if_pos k, if_neg (by omega)]; exact if_pos hm
theorem ti (h : s.at_ + 3 ≤ 8 * B.length) (k : az B (s.at_ + 1) 2 = 1) : cT B s = .ok { s with at_ := s.at_ + 3, kind := 1, last := decide (az B s.at_ 1 = 1), lits := bF, cH := fu } := by
 unfold cT; rw [if_neg (by omega), if_neg (by omega)]; exact if_pos k
theorem ya (h : s.at_ + 3 ≤ 8 * B.length) (k : az B (s.at_ + 1) 2 = 2) (t : told B (s.at_ + 3) = .error e) : cT B s = .error e := by
 unfold cT; rw [if_neg (by omega), if_neg (by omega), if_neg (by omega), if_pos k, t]
theorem pZ {a : Nat} {l d : List Int} (h : s.at_ + 3 ≤ 8 * B.length) (k : az B (s.at_ + 1) 2 = 2) (t : told B (s.at_ + 3) = .ok (a, l, d)) : cT B s = .ok { s with at_ := a, kind := 2, last := decide (az B s.at_ 1 = 1), lits := l, cH := d } := by
 unfold cT; rw [if_neg (by omega), if_neg (by omega), if_neg (by omega), if_pos k, t]
theorem wL (h : s.at_ + 3 ≤ 8 * B.length) (k : az B (s.at_ + 1) 2 ≠ 0) (k1 : az B (s.at_ + 1) 2 ≠ 1) (k2 : az B (s.at_ + 1) 2 ≠ 2) : cT B s = .error 4 := by
 unfold cT; rw [if_neg (by omega), if_neg k, if_neg k1]; exact if_neg k2
end
section
variable {B : List Int} {most : Int} {s : St} {y n f e : Int} {a a2 a3 : Nat}
theorem rI (h : sym s.lits B s.at_ = .error e) : eG B most s = .error e := by unfold eG; rw [h]
theorem kp (h : sym s.lits B s.at_ = .ok (y, a)) (k : y < 256) : eG B most s = eE most { s with at_ := a } y := by unfold eG; rw [h]; exact if_pos k
theorem lS (h : sym s.lits B s.at_ = .ok (y, a)) (k : y = 256) : eG B most s = .ok { s with at_ := a, kind := -1, ended := s.last } := by unfold eG; rw [h]; simp only; rw [if_neg (by omega)]; exact if_pos k
theorem tv (h : sym s.lits B s.at_ = .ok (y, a)) (k : 256 < y) : eG B most s = (match eo B (y - 257) a with
  | .error e => .error e
  | .ok (n, a2) => match dr B s.cH a2 with
   | .error e => .error e
   | .ok (f, a3) => if f ≤ s.out.length then .ok { s with at_ := a3, aq := n.toNat, aL := f.toNat } else .error 4) := by
 unfold eG eo; rw [h]; simp only
 rw [if_neg (by omega), if_neg (by omega)]
 by_cases h1 : 286 ≤ y
 ·rw [if_pos h1, if_pos (show 29 ≤ y - 257 by omega)]
 ·rw [if_neg h1, if_neg (show ¬ 29 ≤ y - 257 by omega)]
  by_cases h2 : 8 * B.length < a + ga (y - 257)
  ·rw [if_pos h2, if_pos h2]
  ·rw [if_neg h2, if_neg h2]
   unfold dr
   simp only
   cases hs : sym s.cH B (a + ga (y - 257)) with
   | error e => rfl
   | ok q =>
    obtain ⟨d, a3⟩ := q
    simp only
    by_cases h3 : 30 ≤ d
    ·rw [if_pos h3, if_pos h3]
    ·rw [if_neg h3, if_neg h3]
     by_cases h4 : 8 * B.length < a3 + gH d
     ·rw [if_pos h4, if_pos h4]
     ·rw [if_neg h4, if_neg h4]
theorem pF (h : sym s.lits B s.at_ = .ok (y, a)) (k : 256 < y) (l : eo B (y - 257) a = .error e) : eG B most s = .error e := by rw [tv h k, l]
theorem nT (h : sym s.lits B s.at_ = .ok (y, a)) (k : 256 < y) (l : eo B (y - 257) a = .ok (n, a2)) (w : dr B s.cH a2 = .error e) : eG B most s = .error e := by rw [tv h k, l]; simp only; rw [w]
theorem rF (h : sym s.lits B s.at_ = .ok (y, a)) (k : 256 < y) (l : eo B (y - 257) a = .ok (n, a2)) (w : dr B s.cH a2 = .ok (f, a3)) (q : ¬ f ≤ s.out.length) : eG B most s = .error 4 := by rw [tv h k, l]; simp only; rw [w]; exact if_neg q
theorem pQ (h : sym s.lits B s.at_ = .ok (y, a)) (k : 256 < y) (l : eo B (y - 257) a = .ok (n, a2)) (w : dr B s.cH a2 = .ok (f, a3)) (q : f ≤ s.out.length) : eG B most s = .ok { s with at_ := a3, aq := n.toNat, aL := f.toNat } := by rw [tv h k, l]; simp only; rw [w]; exact if_pos q
end
theorem uI {B : List Int} {s n : Int} {a a2 : Nat} (h0 : 0 ≤ s) (ha : a ≤ 8 * B.length) (h : eo B s a = .ok (n, a2)) : 3 ≤ n ∧ n < 400 ∧ a ≤ a2 ∧ a2 ≤ 8 * B.length := by
 by_cases h1 : s < 8
 ·rw [yE h0 h1 ha] at h; cases h; omega
 by_cases h2 : 29 ≤ s
 ·rw [wQ h2] at h; cases h
 by_cases h3 : s = 28
 ·rw [zI h3 ha] at h; cases h; omega
 by_cases h4 : a + fY s ≤ 8 * B.length
 ·rw [Bw (by omega) (by omega) h4] at h; cases h
  obtain ⟨k1, k2, k3⟩ := wO (s := s) (by omega) (by omega)
  have hb := aU B a (fY s)
  have : fY s = 1 ∨ fY s = 2 ∨ fY s = 3 ∨ fY s = 4 ∨ fY s = 5 := by omega
  rcases this with e | e | e | e | e <;> rw [e] at hb ⊢ <;> omega
 ·rw [ve (by omega) (by omega) (by omega)] at h; cases h
theorem A7 {B ds : List Int} {n : Int} {a a3 : Nat} (hE : aO ds = 0) (hd : 0 < ds.length) (h : dr B ds a = .ok (n, a3)) : 1 ≤ n ∧ n < 100000 ∧ a ≤ a3 ∧ a3 ≤ 8 * B.length := by
 cases hs : sym ds B a with
 | error e => rw [xW hs] at h; cases h
 | ok q =>
  obtain ⟨s, b⟩ := q
  have hg := ql hE hd hs
  by_cases h2 : 30 ≤ s
  ·rw [uB hs h2] at h; cases h
  by_cases h1 : s < 4
  ·rw [vY hs hg.1 h1 hg.2.2.2] at h; cases h; omega
  by_cases h4 : b + fU s ≤ 8 * B.length
  ·rw [zK hs (by omega) (by omega) h4] at h; cases h
   obtain ⟨k1, k2, k3⟩ := tA (s := s) (by omega) (by omega)
   have hb := aU B b (fU s)
   obtain ⟨_, m1, m2⟩ := jQ (x := 2 + s % 2) (n := fU s) (by omega) (by omega) (by omega) rfl
   have hp : (2 : Int) ^ fU s ≤ 2 ^ 13 := by
    have := Nat.pow_le_pow_right (n := 2) (by decide) k2
    have e2 : ((2 : Int) ^ fU s) = ((2 ^ fU s : Nat) : Int) := by simp
    rw [e2]; exact_mod_cast this
   omega
  ·rw [th hs (by omega) (by omega) (by omega)] at h; cases h
end Go.aa
namespace Go.aa
open Go.af Go.ab
theorem Db {B : List Int} {s : Int} {a : Nat} (h0 : 0 ≤ s) (ha : a ≤ 8 * B.length) : (∃ e, eo B s a = .error e) ∨ ∃ n a2 : Nat, eo B s a = .ok ((n : Int), a2) ∧ 3 ≤ n ∧ n < 400 ∧ a ≤ a2 ∧ a2 ≤ 8 * B.length := by
 rcases eT (eo B s a) with h | ⟨⟨n, a2⟩, h⟩
 ·exact .inl h
 ·have hg := uI h0 ha h
  refine .inr ⟨n.toNat, a2, ?_, by omega, by omega, hg.2.2.1, hg.2.2.2⟩
  rw [h, Int.toNat_of_nonneg (by omega)]
theorem zJ {B ds : List Int} {a : Nat} (hE : aO ds = 0) (hd : 0 < ds.length) : (∃ e, dr B ds a = .error e) ∨ ∃ f a2 : Nat, dr B ds a = .ok ((f : Int), a2) ∧ 1 ≤ f ∧ f < 100000 ∧ a ≤ a2 ∧ a2 ≤ 8 * B.length := by
 rcases eT (dr B ds a) with h | ⟨⟨n, a2⟩, h⟩
 ·exact .inl h
 ·have hg := A7 hE hd h
  refine .inr ⟨n.toNat, a2, ?_, by omega, by omega, hg.2.2.1, hg.2.2.2⟩
  rw [h, Int.toNat_of_nonneg (by omega)]
theorem oJ {B ls : List Int} {a : Nat} (hE : aO ls = 0) (hd : 0 < ls.length) : (∃ e, sym ls B a = .error e) ∨ ∃ (y : Int) (a2 : Nat), sym ls B a = .ok (y, a2) ∧ 0 ≤ y ∧ y < ls.length ∧ a < a2 ∧ a2 ≤ 8 * B.length := by
 rcases eT (sym ls B a) with h | ⟨⟨y, a2⟩, h⟩
 ·exact .inl h
 ·exact .inr ⟨y, a2, h, ql hE hd h⟩
theorem I6 {a n : Nat} (h : a ≤ 8 * n) : cC a ≤ 8 * n ∧ a ≤ cC a := by unfold cC; omega
structure Ok (B : List Int) (mo : Int) (s : St) : Prop where
 at_ : s.at_ ≤ 8 * B.length
 room : (s.out.length : Int) ≤ mo
 lH : aY s.out
 kind : s.kind = -1 ∨ s.kind = 0 ∨ s.kind = 1 ∨ s.kind = 2
 left : s.left < 65536
 zX : 0 < s.kind → aO s.lits = 0 ∧ aO s.cH = 0 ∧ 0 < s.lits.length ∧ 0 < s.cH.length
 aq : s.aq < 400
 aL : 0 < s.aq → 1 ≤ s.aL ∧ s.aL ≤ s.out.length
theorem DE {B l d : List Int} {a a' : Nat} (h : told B a = .ok (a', l, d)) : aO l = 0 ∧ aO d = 0 ∧ 0 < l.length ∧ 0 < d.length ∧ a < a' ∧ a' ≤ 8 * B.length := by
 by_cases h1 : 8 * B.length < a + 14
 ·rw [qp h1] at h; cases h
 by_cases h2' : ¬ (hL B a ≤ 286 ∧ hD B a ≤ 30)
 ·rw [qQ (by omega) h2'] at h; cases h
 have h2 := Classical.not_not.1 h2'
 by_cases h3 : 8 * B.length < cY B a
 ·rw [xz (by omega) h2 h3] at h; cases h
 by_cases h4' : aO (bG B a) ≠ 0
 ·rw [xC (by omega) h2 (by omega) h4'] at h; cases h
 have h4 := Classical.not_not.1 h4'
 cases h5 : eZ B (bG B a) (bO B a) (bO B a) [] (cY B a) with
 | error e => rw [iQ (by omega) h2 (by omega) h4 h5] at h; cases h
 | ok q =>
  obtain ⟨ls, a2⟩ := q
  by_cases h6 : aO (ls.take (hL B a)) ≠ 0 ∨ aO (ls.drop (hL B a)) ≠ 0 ∨ ls.getD 256 0 = 0
  ·rw [mA (by omega) h2 (by omega) h4 h5 h6] at h; cases h
  ·have h7 : aO (ls.take (hL B a)) = 0 := by
    rcases Classical.em (aO (ls.take (hL B a)) = 0) with k | k
    ·exact k
    ·exact (h6 (.inl k)).elim
   have h8 : aO (ls.drop (hL B a)) = 0 := by
    rcases Classical.em (aO (ls.drop (hL B a)) = 0) with k | k
    ·exact k
    ·exact (h6 (.inr (.inl k))).elim
   have h9 : ls.getD 256 0 ≠ 0 := fun k => h6 (.inr (.inr k))
   rw [tC (by omega) h2 (by omega) h4 h5 h7 h8 h9] at h
   cases h
   have key : ∀ (f : Nat) (l : List Int) (x : Nat), bO B a ≤ f + l.length → l.length ≤ bO B a → x ≤ 8 * B.length → eZ B (bG B a) (bO B a) f l x = .ok (ls, a') → ls.length = bO B a ∧ x ≤ a' ∧ a' ≤ 8 * B.length := by
    intro f
    induction f with
    | zero => intro l x k1 k2 k3 k4; rw [kK (by omega)] at k4; cases k4; exact ⟨by omega, Nat.le_refl _, k3⟩
    | succ f ih =>
     intro l x k1 k2 k3 k4
     by_cases hl : bO B a ≤ l.length
     ·rw [kK hl] at k4; cases k4; exact ⟨by omega, Nat.le_refl _, k3⟩
     ·rcases Ac B (bG B a) l x with ⟨e, hs⟩ | ⟨sy, x2, e, hs, hr⟩ | ⟨sy, x2, v, n, x3, hs, hr⟩
      ·rw [iE (by omega) k1 (pj hs)] at k4; cases k4
      ·rw [iE (by omega) k1 (jX hs hr)] at k4; cases k4
      ·have hsg := ql h4 (by rw [eY]; omega) hs
       have hrg := wy hsg.2.2.2 hr
       by_cases hb : (l ++ List.replicate n.toNat v).length ≤ bO B a
       ·rw [ka (by omega) k1 (gj hs hr) hb] at k4
        have := ih _ _ (by rw [List.length_append, List.length_replicate]; omega) hb hrg.2.2.2 k4
        exact ⟨this.1, by omega, this.2.2⟩
       ·rw [nz (by omega) k1 (gj hs hr) hb] at k4; cases k4
   have hA := sJ B a
   have := key _ [] _ (Nat.le_add_right _ _) (Nat.zero_le _) (show cY B a ≤ 8 * B.length by omega) h5
   have hN := sG B a
   have hd := wj B a
   have hn2 := aU B (a + 5) 5
   refine ⟨h7, h8, ?_, ?_, by omega, this.2.2⟩
   ·rw [List.length_take]; omega
   ·rw [List.length_drop]
    have : 1 ≤ hD B a := by omega
    omega
end Go.aa
namespace Go.aa
open Go.af Go.ab
theorem pg {ls : List Int} (h : aO ls = 0) : ls.length ≤ 320 := (cM h).1.1
theorem tJ (a : Nat) : cC a = (a + 7) / 8 * 8 := rfl
theorem K9 (n a : Nat) : 8 * n < a + 16 ∨ (a + 16 ≤ 8 * n ∧ 8 * n < a + 32) ∨ a + 32 ≤ 8 * n := by omega
end Go.aa
namespace Go.aa
open Go.af Go.ab
section
variable {B : List Int} {mo y e : Int} {s s2 : St} {at_ : Nat}
theorem my (h : eE mo s y = .ok s2) : (s.out.length : Int) < mo ∧ s2 = { s with out := s.out ++ [y] } := by
 unfold eE at h
 split at h
 ·cases h; rename_i k; exact ⟨k, rfl⟩
 ·cases h
theorem kR (h : (s.out.length : Int) < mo) : eE mo s y = .ok { s with out := s.out ++ [y] } := if_pos h
theorem kx (h : ¬ (s.out.length : Int) < mo) : eE mo s y = .error 6 := if_neg h
theorem I9 (h : eE mo { s with at_ := at_ } y = .error e) : eE mo s y = .error e := by
 by_cases k : (s.out.length : Int) < mo
 ·rw [kR (s := { s with at_ := at_ }) k] at h; cases h
 ·rw [kx (s := { s with at_ := at_ }) k] at h; rw [kx k]; exact h
theorem Jf (B : List Int) (a : Nat) (mo : Int) (s : St) (y : Int) : 8 * B.length < a + 8 ∨ (a + 8 ≤ 8 * B.length ∧ ∃ e, eE mo s y = .error e) ∨ (a + 8 ≤ 8 * B.length ∧ ∃ s2, eE mo s y = .ok s2) := by
 rcases Nat.lt_or_ge (8 * B.length) (a + 8) with h | h
 ·exact .inl h
 ·rcases eT (eE mo s y) with k | k
  ·exact .inr (.inl ⟨h, k⟩)
  ·exact .inr (.inr ⟨h, k⟩)
theorem we (h : 0 < s.aq) (k : (s.out.length : Int) < mo) : one B mo s = .ok { s with aq := s.aq - 1, out := s.out ++ [s.out.getD (s.out.length - s.aL) 0] } := by
 unfold one; rw [if_pos h]; exact kR k
theorem BF (h : 0 < s.aq) (k : eE mo s (s.out.getD (s.out.length - s.aL) 0) = .error e) : one B mo s = .error e := by
 unfold one; rw [if_pos h]
 by_cases q : (s.out.length : Int) < mo
 ·rw [kR q] at k; cases k
 ·rw [kx q] at k; rw [← k]; exact kx q
theorem jd (h : ¬ 0 < s.aq) (k : s.kind = -1) : one B mo s = cT B s := by unfold one; rw [if_neg h, if_pos k]
theorem iw (h : ¬ 0 < s.aq) (k : ¬ s.kind = -1) (k0 : s.kind ≠ 0) : one B mo s = eG B mo s := by unfold one; rw [if_neg h, if_neg k, if_pos k0]
theorem oy (h : ¬ 0 < s.aq) (k : ¬ s.kind = -1) (k0 : s.kind = 0) (l : s.left = 0) : one B mo s = .ok { s with kind := -1, ended := s.last } := by unfold one; rw [if_neg h, if_neg k, if_neg (by omega), if_pos l]
theorem qB (h : ¬ 0 < s.aq) (k : ¬ s.kind = -1) (k0 : s.kind = 0) (l : ¬ s.left = 0) (x : 8 * B.length < s.at_ + 8) : one B mo s = .error 2 := by unfold one; rw [if_neg h, if_neg k, if_neg (by omega), if_neg l, if_pos x]
theorem oG (h : ¬ 0 < s.aq) (k : ¬ s.kind = -1) (k0 : s.kind = 0) (l : ¬ s.left = 0) (x : s.at_ + 8 ≤ 8 * B.length) : one B mo s = eE mo { s with at_ := s.at_ + 8, left := s.left - 1 } (az B s.at_ 8) := by unfold one; rw [if_neg h, if_neg k, if_neg (by omega), if_neg l, if_neg (by omega)]
theorem one_le (h : ¬ 0 < s.aq) (k : ¬ s.kind = -1) (k0 : s.kind = 0) (l : ¬ s.left = 0) (x : s.at_ + 8 ≤ 8 * B.length) (p : eE mo { s with at_ := s.at_ + 8 } (az B s.at_ 8) = .error e) : one B mo s = .error e := by
 rw [oG h k k0 l x]
 by_cases q : (s.out.length : Int) < mo
 ·rw [kR (s := { s with at_ := s.at_ + 8 }) q] at p; cases p
 ·rw [kx (s := { s with at_ := s.at_ + 8 }) q] at p; rw [← p]; exact kx q
theorem w4 (h : ¬ 0 < s.aq) (k : ¬ s.kind = -1) (k0 : s.kind = 0) (l : ¬ s.left = 0) (x : s.at_ + 8 ≤ 8 * B.length) (q : (s.out.length : Int) < mo) : one B mo s = .ok { s with at_ := s.at_ + 8, left := s.left - 1, out := s.out ++ [az B s.at_ 8] } := by
 rw [oG h k k0 l x]; exact kR q
end
end Go.aa
namespace Go.aa
open Go.af Go.ab
theorem gL : bF.length = 288 := by decide +kernel
theorem nv : fu.length = 32 := by decide +kernel
def mu (B : List Int) (s : St) : Nat := (8 * B.length - s.at_) * 1000 + s.aq + (if s.kind = -1 then 0 else 1)
theorem FU {B : List Int} {s : St} (h : s.kind = -1) : mu B s = (8 * B.length - s.at_) * 1000 + s.aq := by unfold mu; rw [if_pos h, Nat.add_zero]
theorem Ku {B : List Int} {s : St} (h : ¬ s.kind = -1) : mu B s = (8 * B.length - s.at_) * 1000 + s.aq + 1 := by unfold mu; rw [if_neg h]
theorem pN (B : List Int) (s : St) : mu B s ≤ (8 * B.length - s.at_) * 1000 + s.aq + 1 := by unfold mu; split <;> omega
theorem H4 {l : List Int} {y : Int} (h : aY l) (hy : 0 ≤ y ∧ y < 256) : aY (l ++ [y]) := by
 intro x hx
 rcases List.mem_append.1 hx with hx | hx
 ·exact h x hx
 ·rw [List.mem_singleton.1 hx]; exact hy
structure Good (B : List Int) (mo : Int) (s s2 : St) : Prop where
 ok : Ok B mo s2
 less : mu B s2 < mu B s
 le : s.out.length ≤ s2.out.length
 one : s2.out.length ≤ s.out.length + 1
theorem sB {B : List Int} {mo : Int} {s s1 s2 : St} {y : Int} (hy : 0 ≤ y ∧ y < 256) (h : eE mo s1 y = .ok s2) (ho : s1.out = s.out) (hok : Ok B mo s1) (hl : mu B s1 < mu B s) (hf : s1.aq = 0 ∨ True) : Good B mo s s2 := by
 obtain ⟨k, rfl⟩ := my h
 refine ⟨⟨hok.at_, by simp; omega, H4 hok.lH hy, hok.kind, hok.left, hok.zX, hok.aq, fun h => ?_⟩, hl, by simp [ho], by simp [ho]⟩
 have := hok.aL h
 simp; omega
theorem dZ {B : List Int} {mo : Int} {s s2 : St} (hB : aY B) (hok : Ok B mo s) (h : one B mo s = .ok s2) : Good B mo s s2 := by
 obtain ⟨q1, q2, q3, q4, q5, q6, q7, q8⟩ := hok
 by_cases hc : 0 < s.aq
 ·have he : eE mo { s with aq := s.aq - 1 } (s.out.getD (s.out.length - s.aL) 0) = .ok s2 := by unfold one at h; rw [if_pos hc] at h; exact h
  refine sB (q3.get _) he rfl ⟨q1, q2, q3, q4, q5, q6, by show s.aq - 1 < 400; omega, fun _ => q8 hc⟩ ?_ (.inr trivial)
  show (8 * B.length - s.at_) * 1000 + (s.aq - 1) + (if s.kind = -1 then 0 else 1) < (8 * B.length - s.at_) * 1000 + s.aq + (if s.kind = -1 then 0 else 1)
  omega
 by_cases hk : s.kind = -1
 ·rw [jd hc hk] at h
  by_cases h1 : 8 * B.length < s.at_ + 3
  ·rw [vy h1] at h; cases h
  have hx1 : s.at_ + 3 ≤ 8 * B.length := by omega
  have hm := FU (B := B) hk
  by_cases k0 : az B (s.at_ + 1) 2 = 0
  ·by_cases hx : 8 * B.length < cC (s.at_ + 3) + 32
   ·rw [tG hx1 k0 hx] at h; cases h
   ·by_cases hn : az B (cC (s.at_ + 3)) 16 = 65535 - az B (cC (s.at_ + 3) + 16) 16
    ·rw [qD hx1 k0 (by omega) hn] at h; cases h
     have hb := aU B (cC (s.at_ + 3)) 16
     have ha := tJ (s.at_ + 3)
     refine ⟨⟨by show cC (s.at_ + 3) + 32 ≤ _; omega, q2, q3, .inr (.inl rfl), by show (az B (cC (s.at_ + 3)) 16).toNat < 65536; omega, fun h => absurd h (by show ¬ (0 : Int) < 0; omega), q7, q8⟩, ?_, Nat.le_refl _, Nat.le_succ _⟩
     refine Nat.lt_of_le_of_lt (pN B _) ?_
     rw [hm]
     show (8 * B.length - (cC (s.at_ + 3) + 32)) * 1000 + s.aq + 1 < _
     omega
    ·rw [wR hx1 k0 (by omega) hn] at h; cases h
  ·by_cases k1 : az B (s.at_ + 1) 2 = 1
   ·rw [ti hx1 k1] at h; cases h
    refine ⟨⟨hx1, q2, q3, .inr (.inr (.inl rfl)), q5, fun _ => ⟨kU, lX, by show 0 < bF.length; rw [gL]; decide, by show 0 < fu.length; rw [nv]; decide⟩, q7, q8⟩, ?_, Nat.le_refl _, Nat.le_succ _⟩
    refine Nat.lt_of_le_of_lt (pN B _) ?_
    rw [hm]
    show (8 * B.length - (s.at_ + 3)) * 1000 + s.aq + 1 < _
    omega
   ·by_cases k2 : az B (s.at_ + 1) 2 = 2
    ·rcases eT (told B (s.at_ + 3)) with ⟨e, ht⟩ | ⟨⟨a, l, d⟩, ht⟩
     ·rw [ya hx1 k2 ht] at h; cases h
     ·rw [pZ hx1 k2 ht] at h; cases h
      obtain ⟨t1, t2, t3, t4, t5, t6⟩ := DE ht
      refine ⟨⟨t6, q2, q3, .inr (.inr (.inr rfl)), q5, fun _ => ⟨t1, t2, t3, t4⟩, q7, q8⟩, ?_, Nat.le_refl _, Nat.le_succ _⟩
      refine Nat.lt_of_le_of_lt (pN B _) ?_
      rw [hm]
      show (8 * B.length - a) * 1000 + s.aq + 1 < _
      omega
    ·rw [wL hx1 k0 k1 k2] at h; cases h
 have hm := Ku (B := B) hk
 by_cases hk0 : s.kind = 0
 ·by_cases hl : s.left = 0
  ·rw [oy hc hk hk0 hl] at h; cases h
   refine ⟨⟨q1, q2, q3, .inl rfl, q5, fun h => absurd h (by show ¬ (0 : Int) < -1; omega), q7, q8⟩, ?_, Nat.le_refl _, Nat.le_succ _⟩
   rw [hm, FU rfl]
   show (8 * B.length - s.at_) * 1000 + s.aq < _
   omega
  ·by_cases hx : 8 * B.length < s.at_ + 8
   ·rw [qB hc hk hk0 hl hx] at h; cases h
   ·rw [oG hc hk hk0 hl (by omega)] at h
    have hb := aU B s.at_ 8
    refine sB (by omega) h rfl ⟨by show s.at_ + 8 ≤ _; omega, q2, q3, q4, by show s.left - 1 < 65536; omega, q6, q7, q8⟩ ?_ (.inr trivial)
    refine Nat.lt_of_le_of_lt (pN B _) ?_
    rw [hm]
    show (8 * B.length - (s.at_ + 8)) * 1000 + s.aq + 1 < _
    omega
 ·rw [iw hc hk hk0] at h
  have hkp : 0 < s.kind := by omega
  obtain ⟨e1, e2, z1, z2⟩ := q6 hkp
  rcases oJ (B := B) (a := s.at_) e1 z1 with ⟨e, hs⟩ | ⟨y, a1, hs, y0, y1, a0, ha1⟩
  ·rw [rI hs] at h; cases h
  by_cases hy : y < 256
  ·rw [kp hs hy] at h
   refine sB (by omega) h rfl ⟨ha1, q2, q3, q4, q5, q6, q7, q8⟩ ?_ (.inr trivial)
   refine Nat.lt_of_le_of_lt (pN B _) ?_
   rw [hm]
   show (8 * B.length - a1) * 1000 + s.aq + 1 < _
   omega
  by_cases hy2 : y = 256
  ·rw [lS hs hy2] at h; cases h
   refine ⟨⟨ha1, q2, q3, .inl rfl, q5, fun h => absurd h (by show ¬ (0 : Int) < -1; omega), q7, q8⟩, ?_, Nat.le_refl _, Nat.le_succ _⟩
   refine Nat.lt_of_le_of_lt (pN B _) ?_
   rw [hm]
   show (8 * B.length - a1) * 1000 + s.aq + 1 < _
   omega
  rcases Db (B := B) (s := y - 257) (a := a1) (by omega) ha1 with ⟨e, hn⟩ | ⟨n, a2, hn, n0, n1, n2, n3⟩
  ·rw [pF hs (by omega) hn] at h; cases h
  rcases zJ (B := B) (a := a2) e2 z2 with ⟨e, hf⟩ | ⟨f, a3, hf, f0, f1, f2, f3⟩
  ·rw [nT hs (by omega) hn hf] at h; cases h
  by_cases hfo : f ≤ s.out.length
  ·rw [pQ hs (by omega) hn hf (by omega)] at h; cases h
   refine ⟨⟨f3, q2, q3, q4, q5, q6, by show ((n : Int)).toNat < 400; omega, fun _ => by show 1 ≤ ((f : Int)).toNat ∧ ((f : Int)).toNat ≤ s.out.length; omega⟩, ?_, Nat.le_refl _, Nat.le_succ _⟩
   refine Nat.lt_of_le_of_lt (pN B _) ?_
   rw [hm]
   show (8 * B.length - a3) * 1000 + ((n : Int)).toNat + 1 < _
   omega
  ·rw [rF hs (by omega) hn hf (by omega)] at h; cases h
inductive Lp (B : List Int) (mo : Int) (w : Nat) (n : Int) : St → Except Int St → Prop
 | stop {s : St} : (s.ended = true ∨ n ≤ (s.out.length : Int) - w) → Lp B mo w n s (.ok s)
 | step {s s' : St} {o : Except Int St} : s.ended = false → (s.out.length : Int) - w < n → one B mo s = .ok s' → Lp B mo w n s' o → Lp B mo w n s o
 | fail {s : St} {e : Int} : s.ended = false → (s.out.length : Int) - w < n → one B mo s = .error e → Lp B mo w n s (.error e)
theorem KT {B : List Int} {mo : Int} (hB : aY B) (w : Nat) (n : Int) : ∀ (k : Nat) {s : St}, mu B s ≤ k → Ok B mo s → ∃ o, Lp B mo w n s o := by
 intro k
 induction k with
 | zero =>
  intro s hk hok
  by_cases h1 : s.ended = true
  ·exact ⟨_, .stop (.inl h1)⟩
  by_cases h2 : n ≤ (s.out.length : Int) - w
  ·exact ⟨_, .stop (.inr h2)⟩
  rcases eT (one B mo s) with ⟨e, h⟩ | ⟨s2, h⟩
  ·exact ⟨_, .fail (by simpa using h1) (by omega) h⟩
  ·have := (dZ hB hok h).less; omega
 | succ k ih =>
  intro s hk hok
  by_cases h1 : s.ended = true
  ·exact ⟨_, .stop (.inl h1)⟩
  by_cases h2 : n ≤ (s.out.length : Int) - w
  ·exact ⟨_, .stop (.inr h2)⟩
  rcases eT (one B mo s) with ⟨e, h⟩ | ⟨s2, h⟩
  ·exact ⟨_, .fail (by simpa using h1) (by omega) h⟩
  ·have hg := dZ hB hok h
   have := hg.less
   obtain ⟨o, ho⟩ := ih (show mu B s2 ≤ k by omega) hg.ok
   exact ⟨o, .step (by simpa using h1) (by omega) h ho⟩
theorem Im {B : List Int} {mo : Int} {w : Nat} {n : Int} {s : St} {o : Except Int St} (hB : aY B) (h : Lp B mo w n s o) : Ok B mo s → (∀ s2, o = .ok s2 → Ok B mo s2 ∧ mu B s2 ≤ mu B s ∧ eD B mo s s2 ∧ (s2.ended = true ∨ n ≤ (s2.out.length : Int) - w) ∧ (s.ended = false → (s.out.length : Int) - w < n → mu B s2 < mu B s) ∧ s.out.length ≤ s2.out.length) ∧ (∀ e, o = .error e → ia B mo s (.error e)) := by
 induction h with
 | stop h => intro hok; exact ⟨fun s2 e => by cases e; exact ⟨hok, Nat.le_refl _, .refl _ _ _, h, fun h1 h2 => by rcases h with h | h; (rw [h1] at h; cases h); omega, Nat.le_refl _⟩, fun e h => by cases h⟩
 | step h1 h2 h3 h4 ih =>
  intro hok
  have hg := dZ hB hok h3
  have hl := hg.less
  have hle := hg.le
  obtain ⟨k1, k2⟩ := ih hg.ok
  refine ⟨fun s2 e => ?_, fun e h => .step h1 h3 (k2 e h)⟩
  obtain ⟨m1, m2, m3, m4, m5, m6⟩ := k1 s2 e
  exact ⟨m1, by omega, (eD.one h1 h3).trans m3, m4, fun _ _ => by omega, by omega⟩
 | fail h1 h2 h3 => intro hok; exact ⟨fun s2 e => (by cases e), fun e h => by cases h; exact .fail h1 h3⟩
abbrev Jt := Except Int St
def ku : Jt → Bool
 | .ok s => s.ended
 | .error _ => true
def qL : Jt → List Int
 | .ok s => if s.ended = true then s.out else []
 | .error _ => []
def Bj : Jt → Int
 | .ok _ => 0
 | .error e => e
def rn : Jt → Int
 | .ok s => if s.ended = true then ((s.at_ + 7) / 8 : Nat) else 0
 | .error _ => 0
def uH (B : List Int) (mo : Int) : Jt → Prop
 | .ok s => Ok B mo s
 | .error e => e ≠ 0
def AG (B : List Int) (mo n : Int) (r r' : Jt) : Prop := ((n < 1 ∨ ku r = true) ∧ r' = r) ∨ (1 ≤ n ∧ ∃ s, r = .ok s ∧ s.ended = false ∧ Lp B mo s.out.length n s r')
def CH (B : List Int) (mo : Int) (s0 : St) : Jt → Prop
 | .ok s => eD B mo s0 s
 | .error e => ia B mo s0 (.error e)
def Ou : Oc → List Int × Int × Int
 | .ok (x, n) => (x, (n : Int), 0)
 | .error e => ([], 0, e)
theorem oP {B : List Int} {mo : Int} (h : 0 ≤ mo) : Ok B mo start := ⟨Nat.zero_le _, by show ((0 : Nat) : Int) ≤ mo; omega, fun x hx => (by cases hx), .inl rfl, by decide, fun h => absurd h (by decide), by decide, fun h => absurd h (by decide)⟩
end Go.aa
namespace Go.aa
section
variable {B : List Int} {mo n e : Int} {w : Nat} {s s2 : St} {o : Except Int St}
theorem Gu (h : Lp B mo w n s o) (k : s.ended = true ∨ n ≤ (s.out.length : Int) - w) : o = .ok s := by
 cases h with
 | stop _ => rfl
 | step h1 h2 => exfalso; rcases k with k | k; (rw [h1] at k; cases k); omega
 | fail h1 h2 => exfalso; rcases k with k | k; (rw [h1] at k; cases k); omega
theorem K6 (h : Lp B mo w n s o) (k1 : s.ended = false) (k2 : (s.out.length : Int) - w < n) (p : one B mo s = .ok s2) : Lp B mo w n s2 o := by
 cases h with
 | stop h => exfalso; rcases h with k | k; (rw [k1] at k; cases k); omega
 | step _ _ h3 h4 => rw [h3] at p; cases p; exact h4
 | fail _ _ h3 => rw [h3] at p; cases p
theorem K5 (h : Lp B mo w n s o) (k1 : s.ended = false) (k2 : (s.out.length : Int) - w < n) (p : one B mo s = .error e) : o = .error e := by
 cases h with
 | stop h => exfalso; rcases h with k | k; (rw [k1] at k; cases k); omega
 | step _ _ h3 h4 => rw [h3] at p; cases p
 | fail _ _ h3 => rw [h3] at p; cases p; rfl
end
end Go.aa
namespace Go.aa
open Go.af Go.ab
section
variable {B : List Int} {mo e : Int}
theorem oM {ls : List Int} {a : Nat} (h : sym ls B a = .error e) : e ≠ 0 := by
 unfold sym at h; split at h <;> cases h <;> decide
theorem KK {l : List Int} {s : Int} {a : Nat} (h : rep B s l a = .error e) : e ≠ 0 := by
 unfold rep at h
 split at h
 ·cases h
 split at h
 ·cases h; decide
 split at h
 ·cases h; decide
 ·cases h
theorem Ht {c : List Int} {tot : Nat} : ∀ {f : Nat} {l : List Int} {a : Nat}, eZ B c tot f l a = .error e → e ≠ 0 := by
 intro f
 induction f with
 | zero => intro l a h; cases h
 | succ f ih =>
  intro l a h
  simp only [eZ] at h
  split at h
  ·rcases Ac B c l a with ⟨e2, hs⟩ | ⟨sy, x2, e2, hs, hr⟩ | ⟨sy, x2, v, n, x3, hs, hr⟩
   ·rw [pj hs] at h; cases h; exact oM hs
   ·rw [jX hs hr] at h; cases h; exact KK hr
   ·rw [gj hs hr] at h
    simp only at h
    split at h
    ·exact ih h
    ·cases h; decide
  ·cases h
theorem uy {a : Nat} (h : told B a = .error e) : e ≠ 0 := by
 unfold told at h
 split at h
 ·cases h; decide
 split at h
 ·cases h; decide
 split at h
 ·cases h; decide
 split at h
 ·cases h; decide
 split at h
 ·rename_i e2 h2; cases h; exact Ht h2
 ·split at h
  ·cases h; decide
  ·cases h
theorem wE {s : St} {y : Int} (h : eE mo s y = .error e) : e ≠ 0 := by
 unfold eE at h; split at h <;> cases h; decide
theorem JM {s : Int} {a : Nat} (h : eo B s a = .error e) : e ≠ 0 := by
 unfold eo at h
 split at h
 ·cases h; decide
 split at h
 ·cases h; decide
 ·cases h
theorem HL {ds : List Int} {a : Nat} (h : dr B ds a = .error e) : e ≠ 0 := by
 unfold dr at h
 split at h
 ·rename_i e2 h2; cases h; exact oM h2
 ·split at h
  ·cases h; decide
  split at h
  ·cases h; decide
  ·cases h
theorem Ff {s : St} (h : cT B s = .error e) : e ≠ 0 := by
 unfold cT at h
 split at h
 ·cases h; decide
 split at h
 ·split at h
  ·cases h; decide
  split at h
  ·cases h
  ·cases h; decide
 split at h
 ·cases h
 split at h
 ·split at h
  ·rename_i e2 h2; cases h; exact uy h2
  ·cases h
 ·cases h; decide
theorem Eo {s : St} (h : eG B mo s = .error e) : e ≠ 0 := by
 rcases eT (sym s.lits B s.at_) with ⟨e2, hs⟩ | ⟨⟨y, a⟩, hs⟩
 ·rw [rI hs] at h; cases h; exact oM hs
 by_cases h1 : y < 256
 ·rw [kp hs h1] at h; exact wE h
 by_cases h2 : y = 256
 ·rw [lS hs h2] at h; cases h
 rcases eT (eo B (y - 257) a) with ⟨e2, hn⟩ | ⟨⟨n, a2⟩, hn⟩
 ·rw [pF hs (by omega) hn] at h; cases h; exact JM hn
 rcases eT (dr B s.cH a2) with ⟨e2, hf⟩ | ⟨⟨f, a3⟩, hf⟩
 ·rw [nT hs (by omega) hn hf] at h; cases h; exact HL hf
 by_cases h3 : f ≤ s.out.length
 ·rw [pQ hs (by omega) hn hf h3] at h; cases h
 ·rw [rF hs (by omega) hn hf h3] at h; cases h; decide
theorem BD {s : St} (h : one B mo s = .error e) : e ≠ 0 := by
 unfold one at h
 split at h
 ·exact wE h
 split at h
 ·exact Ff h
 split at h
 ·exact Eo h
 split at h
 ·cases h
 split at h
 ·cases h; decide
 ·exact wE h
theorem F5 {s : St} {w : Nat} {n : Int} {o : Jt} (h : Lp B mo w n s o) : o = .error e → e ≠ 0 := by
 induction h with
 | stop _ => intro h; cases h
 | step _ _ _ _ ih => exact ih
 | fail _ _ h => intro q; cases q; exact BD h
theorem GX {s : St} {o : Oc} (h : ia B mo s o) : o = .error e → e ≠ 0 := by
 induction h with
 | done _ => intro h; cases h
 | step _ _ _ ih => exact ih
 | fail _ h => intro q; cases q; exact BD h
end
def CN (B : List Int) : Jt → Nat
 | .ok s => mu B s + 1
 | .error _ => 0
def Bh : Jt → Nat
 | .ok s => s.out.length
 | .error _ => 0
theorem El {B : List Int} {mo : Int} {r : Jt} (hB : aY B) (hok : uH B mo r) (n : Int) : ∃ r', AG B mo n r r' := by
 by_cases hn : n < 1
 ·exact ⟨r, .inl ⟨.inl hn, rfl⟩⟩
 cases r with
 | error e => exact ⟨_, .inl ⟨.inr rfl, rfl⟩⟩
 | ok s =>
  cases he : s.ended with
  | true => exact ⟨_, .inl ⟨.inr he, rfl⟩⟩
  | false =>
   obtain ⟨o, ho⟩ := KT hB s.out.length n _ (Nat.le_refl _) hok
   exact ⟨o, .inr ⟨by omega, s, rfl, he, ho⟩⟩
structure KO (B : List Int) (mo : Int) (s0 : St) (n : Int) (r r' : Jt) : Prop where
 ok : uH B mo r'
 at_ : CH B mo s0 r'
 le : CN B r' ≤ CN B r
 less : ku r = false → 1 ≤ n → CN B r' < CN B r
 out : ku r = false → 1 ≤ n → ku r' = true ∨ Bh r + 1 ≤ Bh r'
 stay : (n < 1 ∨ ku r = true) → r' = r
theorem AN {B : List Int} {mo n : Int} {s0 : St} {r r' : Jt} (hB : aY B) (hok : uH B mo r) (hat : CH B mo s0 r) (h : AG B mo n r r') : KO B mo s0 n r r' := by
 rcases h with ⟨hx, rfl⟩ | ⟨hn, s, rfl, he, hl⟩
 ·refine ⟨hok, hat, Nat.le_refl _, fun h1 h2 => ?_, fun h1 h2 => ?_, fun _ => rfl⟩ <;> (exfalso; rcases hx with hx | hx; omega; rw [h1] at hx; cases hx)
 ·obtain ⟨k1, k2⟩ := Im hB hl hok
  cases r' with
  | ok s2 =>
   obtain ⟨m1, m2, m3, m4, m5, m6⟩ := k1 s2 rfl
   have := m5 he (by omega)
   refine ⟨m1, hat.trans m3, by show mu B s2 + 1 ≤ mu B s + 1; omega, fun _ _ => by show mu B s2 + 1 < mu B s + 1; omega, fun _ _ => ?_, fun hx => ?_⟩
   ·rcases m4 with m4 | m4
    ·exact .inl m4
    ·right; show s.out.length + 1 ≤ s2.out.length; omega
   ·exfalso; rcases hx with hx | hx
    ·omega
    ·rw [show ku (.ok s) = s.ended from rfl, he] at hx; cases hx
  | error e =>
   refine ⟨F5 hl rfl, hat _ (k2 e rfl), Nat.zero_le _, fun _ _ => Nat.succ_pos _, fun _ _ => .inl rfl, fun hx => ?_⟩
   exfalso; rcases hx with hx | hx
   ·omega
   ·rw [show ku (.ok s) = s.ended from rfl, he] at hx; cases hx
def gU (B : List Int) (mo : Int) (q : List Int × Int × Int) : Prop := (mo < 0 ∧ q = ([], 0, 1)) ∨ (0 ≤ mo ∧ ∃ o, ia B mo start o ∧ q = Ou o)
theorem gU.k8 {B : List Int} {mo : Int} {q q' : List Int × Int × Int} (h : gU B mo q) (h' : gU B mo q') : q = q' := by
 rcases h with ⟨a, rfl⟩ | ⟨a, o, r, rfl⟩ <;> rcases h' with ⟨a', rfl⟩ | ⟨a', o', r', rfl⟩
 ·rfl
 ·omega
 ·omega
 ·rw [r.k8 r']
theorem G6 {B : List Int} {mo : Int} {r : Jt} (hm : 0 ≤ mo) (h : CH B mo start r) (he : ku r = true) : gU B mo (qL r, rn r, Bj r) := by
 refine .inr ⟨hm, ?_⟩
 cases r with
 | ok s => exact ⟨.ok (s.out, (s.at_ + 7) / 8), h _ (.done he), by simp only [qL, rn, Bj, Ou]; rw [if_pos (show s.ended = true from he), if_pos (show s.ended = true from he)]⟩
 | error e => exact ⟨.error e, h, rfl⟩
theorem BZ {B : List Int} {mo : Int} (hB : aY B) {s : St} {o : Oc} (h : ia B mo s o) : Ok B mo s → ∀ x n, o = .ok (x, n) → (x.length : Int) ≤ mo ∧ n ≤ B.length ∧ aY x := by
 induction h with
 | done h => intro hok x n e; cases e; exact ⟨hok.room, by have := hok.at_; omega, hok.lH⟩
 | step h1 h2 h3 ih => intro hok; exact ih (dZ hB hok h2).ok
 | fail _ _ => intro _ x n e; cases e
end Go.aa
namespace Go.aa
open Go.af Go.ab
def Oq (mo : Int) : Jt := if mo < 0 then .error 1 else .ok start
structure Way (B : List Int) (mo : Int) (r : Jt) : Prop where
 ok : uH B mo r
 at_ : (0 ≤ mo ∧ CH B mo start r) ∨ (mo < 0 ∧ r = .error 1)
structure Ol (B : List Int) (mo n : Int) (r r' : Jt) : Prop where
 Ow : Way B mo r'
 out : ku r = false → 1 ≤ n → ku r' = true ∨ Bh r + 1 ≤ Bh r'
 stay : (n < 1 ∨ ku r = true) → r' = r
end Go.aa
namespace Go.aa
open Go.af Go.ab
end Go.aa

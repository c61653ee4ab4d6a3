/- Walks of functions that the law reaches, and what they lean on; no conditions. -/
import Derived.Test.YtmbljkghkcgejaaGreatSl19
import Derived.Test.YtmbljkghkcgejaaGreatSl20
set_option linter.unusedVariables false
set_option linter.unusedSimpArgs false
set_option maxRecDepth 100000
namespace Go.StS
variable {α : Type}
structure Rl (key : α → Int) (d : α) (l l' : List α) (a b : Nat) : Prop where
 len : l'.length = l.length
 out : ∀ i, i < a ∨ b ≤ i → l'.getD i d = l.getD i d
 mem : ∀ i, a ≤ i → i < b → ∃ j, a ≤ j ∧ j < b ∧ l'.getD i d = l.getD j d
 same : ∀ c, l'.filter (fun x => decide (key x = c)) = l.filter (fun x => decide (key x = c))
def Sd (key : α → Int) (d : α) (l : List α) (a b : Nat) : Prop := ∀ i j, a ≤ i → i ≤ j → j < b → key (l.getD i d) ≤ key (l.getD j d)
variable {key : α → Int} {d : α}
theorem Rl.refl (l : List α) (a b : Nat) : Rl key d l l a b := ⟨rfl, fun _ _ => rfl, fun i h1 h2 => ⟨i, h1, h2, rfl⟩, fun _ => rfl⟩
theorem Rl.trans {l1 l2 l3 : List α} {a b : Nat} (h : Rl key d l1 l2 a b) (k : Rl key d l2 l3 a b) : Rl key d l1 l3 a b :=
 ⟨k.len.trans h.len, fun i hi => (k.out i hi).trans (h.out i hi), fun i h1 h2 => by
  obtain ⟨j, j1, j2, j3⟩ := k.mem i h1 h2
  obtain ⟨m, m1, m2, m3⟩ := h.mem j j1 j2
  exact ⟨m, m1, m2, j3.trans m3⟩, fun c => (k.same c).trans (h.same c)⟩
theorem Rl.wide {l l' : List α} {a b a' b' : Nat} (h : Rl key d l l' a b) (h1 : a' ≤ a) (h2 : b ≤ b') : Rl key d l l' a' b' :=
 ⟨h.len, fun i hi => h.out i (by omega), fun i i1 i2 => by
  by_cases hi : a ≤ i ∧ i < b
  ·obtain ⟨j, j1, j2, j3⟩ := h.mem i hi.1 hi.2
   exact ⟨j, by omega, by omega, j3⟩
  ·exact ⟨i, i1, i2, h.out i (by omega)⟩, h.same⟩
theorem Sd.congr {l l' : List α} {a b : Nat} (h : Sd key d l a b) (e : ∀ i, a ≤ i → i < b → l'.getD i d = l.getD i d) : Sd key d l' a b := fun i j h1 h2 h3 => by
 rw [e i h1 (by omega), e j (by omega) h3]; exact h i j h1 h2 h3
theorem Sd.small {l : List α} {a b : Nat} (h : b ≤ a + 1) : Sd key d l a b := fun i j h1 h2 h3 => by
 obtain rfl : i = j := by omega
 exact Int.le_refl _
theorem Sd.sub {l : List α} {a b a' b' : Nat} (h : Sd key d l a b) (h1 : a ≤ a') (h2 : b' ≤ b) : Sd key d l a' b' := fun i j h3 h4 h5 => h i j (by omega) h4 (by omega)
theorem Sd.join {l : List α} {a m b : Nat} (h1 : Sd key d l a m) (h2 : Sd key d l m b) (h : ∀ i j, a ≤ i → i < m → m ≤ j → j < b → key (l.getD i d) ≤ key (l.getD j d)) : Sd key d l a b := fun i j i1 i2 i3 => by
 by_cases hj : j < m
 ·exact h1 i j i1 i2 hj
 ·by_cases hi : i < m
  ·exact h i j i1 hi (by omega) i3
  ·exact h2 i j (by omega) i2 i3
theorem split2 (l : List α) (i : Nat) (h : i + 1 < l.length) : l = l.take i ++ (l.getD i d :: l.getD (i + 1) d :: l.drop (i + 2)) := by
 conv => lhs; rw [← List.take_append_drop i l]
 congr 1
 rw [List.drop_eq_getElem_cons (by omega), List.drop_eq_getElem_cons h]
 simp [List.getD_eq_getElem?_getD, show i < l.length by omega, h]
theorem swap_list (l : List α) (i : Nat) (h : i + 1 < l.length) : (l.set i (l.getD (i + 1) d)).set (i + 1) (l.getD i d) = l.take i ++ (l.getD (i + 1) d :: l.getD i d :: l.drop (i + 2)) := by
 apply List.ext_getElem?
 intro j
 have hl : (l.take i).length = i := by simp; omega
 by_cases h1 : j < i
 ·rw [List.getElem?_append_left (by omega), List.getElem?_set_ne (by omega), List.getElem?_set_ne (by omega)]
  simp [List.getElem?_take, h1]
 ·rw [List.getElem?_append_right (by omega), hl]
  by_cases h2 : j = i
  ·subst h2
   simp [List.getElem?_set, show j < l.length by omega]
  ·by_cases h3 : j = i + 1
   ·subst h3
    simp [List.getElem?_set, h]
   ·rw [List.getElem?_set_ne (by omega), List.getElem?_set_ne (by omega)]
    obtain ⟨k, rfl⟩ : ∃ k, j = i + 2 + k := ⟨j - (i + 2), by omega⟩
    rw [show i + 2 + k - i = k + 2 by omega]
    simp [List.getElem?_drop]
theorem swap_comm (l : List α) (i : Nat) (x y : α) : (l.set (i + 1) x).set i y = (l.set i y).set (i + 1) x := by
 rw [List.set_comm]; omega
theorem Rl.swap {l : List α} {a b i : Nat} (h1 : a ≤ i) (h2 : i + 1 < b) (hl : i + 1 < l.length) (hk : key (l.getD i d) ≠ key (l.getD (i + 1) d)) : Rl key d l ((l.set i (l.getD (i + 1) d)).set (i + 1) (l.getD i d)) a b := by
 refine ⟨by simp, fun j hj => ?_, fun j j1 j2 => ?_, fun c => ?_⟩
 ·simp only [List.getD_eq_getElem?_getD]
  rw [List.getElem?_set_ne (by omega), List.getElem?_set_ne (by omega)]
 ·by_cases e1 : j = i
  ·subst e1
   refine ⟨j + 1, by omega, h2, ?_⟩
   simp only [List.getD_eq_getElem?_getD]
   rw [List.getElem?_set_ne (by omega)]
   simp [List.getElem?_set, show j < l.length by omega]
  ·by_cases e2 : j = i + 1
   ·subst e2
    refine ⟨i, h1, by omega, ?_⟩
    simp only [List.getD_eq_getElem?_getD]
    simp [List.getElem?_set, hl]
   ·refine ⟨j, j1, j2, ?_⟩
    simp only [List.getD_eq_getElem?_getD]
    rw [List.getElem?_set_ne (by omega), List.getElem?_set_ne (by omega)]
 ·rw [swap_list l i hl]
  conv => rhs; rw [split2 (d := d) l i hl]
  simp only [List.filter_append, List.filter_cons]
  congr 1
  generalize l.getD i d = x at hk
  generalize l.getD (i + 1) d = y at hk
  by_cases k1 : key x = c
  ·have k2 : ¬ key y = c := fun e => hk (k1.trans e.symm)
   simp [k1, k2]
  ·simp [k1]
theorem getD_app1 {x y : List α} {i : Nat} (h : i < x.length) : (x ++ y).getD i d = x.getD i d := by
 simp only [List.getD_eq_getElem?_getD, List.getElem?_append_left h]
theorem getD_app2 {x y : List α} {i : Nat} (h : x.length ≤ i) : (x ++ y).getD i d = y.getD (i - x.length) d := by
 simp only [List.getD_eq_getElem?_getD, List.getElem?_append_right h]
theorem getD_mem {x : List α} {i : Nat} (h : i < x.length) : x.getD i d ∈ x := by
 simp [List.getD_eq_getElem?_getD, h]
theorem Rl.rotate {P X Y S : List α} {a b : Nat} (ha : a ≤ P.length) (hb : P.length + X.length + Y.length ≤ b) (hk : ∀ x ∈ X, ∀ y ∈ Y, key x ≠ key y) : Rl key d (P ++ X ++ Y ++ S) (P ++ Y ++ X ++ S) a b := by
 have hin : ∀ i, P.length ≤ i → i < P.length + X.length + Y.length → ∃ j, P.length ≤ j ∧ j < P.length + X.length + Y.length ∧ (P ++ Y ++ X ++ S).getD i d = (P ++ X ++ Y ++ S).getD j d := by
  intro i i1 i2
  by_cases h1 : i < P.length + Y.length
  ·refine ⟨i + X.length, by omega, by omega, ?_⟩
   rw [getD_app1 (by simp; omega), getD_app1 (by simp; omega), getD_app2 i1, getD_app1 (by simp; omega), getD_app2 (by simp; omega)]
   congr 1
   simp; omega
  ·refine ⟨i - Y.length, by omega, by omega, ?_⟩
   rw [getD_app1 (by simp; omega), getD_app2 (by simp; omega), getD_app1 (by simp; omega), getD_app1 (by simp; omega), getD_app2 (by omega)]
   congr 1
   simp; omega
 have hout : ∀ i, i < P.length ∨ P.length + X.length + Y.length ≤ i → (P ++ Y ++ X ++ S).getD i d = (P ++ X ++ Y ++ S).getD i d := by
  intro i hi
  rcases hi with hi | hi
  ·rw [getD_app1 (by simp; omega), getD_app1 (by simp; omega), getD_app1 hi, getD_app1 (by simp; omega), getD_app1 (by simp; omega), getD_app1 hi]
  ·rw [getD_app2 (by simp; omega), getD_app2 (by simp; omega)]
   congr 1
   simp; omega
 refine ⟨by simp; omega, fun i hi => hout i (by omega), fun i i1 i2 => ?_, fun c => ?_⟩
 ·by_cases hi : P.length ≤ i ∧ i < P.length + X.length + Y.length
  ·obtain ⟨j, j1, j2, j3⟩ := hin i hi.1 hi.2
   exact ⟨j, by omega, by omega, j3⟩
  ·exact ⟨i, i1, i2, hout i (by omega)⟩
 ·simp only [List.filter_append]
  have : Y.filter (fun x => decide (key x = c)) ++ X.filter (fun x => decide (key x = c)) = X.filter (fun x => decide (key x = c)) ++ Y.filter (fun x => decide (key x = c)) := by
   by_cases hx : ∃ x ∈ X, key x = c
   ·obtain ⟨x, x1, x2⟩ := hx
    have : Y.filter (fun x => decide (key x = c)) = [] := by
     rw [List.filter_eq_nil_iff]
     intro y hy
     simp
     intro e
     exact hk x x1 y hy (x2.trans e.symm)
    rw [this]; simp
   ·have : X.filter (fun x => decide (key x = c)) = [] := by
     rw [List.filter_eq_nil_iff]
     intro y hy
     simp
     intro e
     exact hx ⟨y, hy, e⟩
    rw [this]; simp
  rw [List.append_assoc (P.filter _), this]
  simp [List.append_assoc]
theorem blocks (l : List α) (a m b : Nat) (h1 : a ≤ m) (h2 : m ≤ b) (h3 : b ≤ l.length) : ∃ P X Y S, l = P ++ X ++ Y ++ S ∧ P.length = a ∧ X.length = m - a ∧ Y.length = b - m ∧
  (∀ x ∈ X, ∃ i, a ≤ i ∧ i < m ∧ x = l.getD i d) ∧ (∀ y ∈ Y, ∃ i, m ≤ i ∧ i < b ∧ y = l.getD i d) := by
 refine ⟨l.take a, (l.drop a).take (m - a), (l.drop m).take (b - m), l.drop b, ?_, by simp; omega, by simp; omega, by simp; omega, ?_, ?_⟩
 ·have e1 : l.take a ++ (l.drop a).take (m - a) = l.take m := by
   have := List.take_add (l := l) (i := a) (j := m - a)
   rw [show a + (m - a) = m by omega] at this
   exact this.symm
  have e2 : l.take m ++ (l.drop m).take (b - m) = l.take b := by
   have := List.take_add (l := l) (i := m) (j := b - m)
   rw [show m + (b - m) = b by omega] at this
   exact this.symm
  rw [e1, e2, List.take_append_drop]
 ·intro x hx
  obtain ⟨i, hi⟩ := List.getElem?_of_mem hx
  have hlt := (List.getElem?_eq_some_iff.1 hi).1
  simp at hlt
  rw [List.getElem?_take_of_lt (by omega), List.getElem?_drop] at hi
  exact ⟨a + i, by omega, by omega, by simp [List.getD_eq_getElem?_getD, hi]⟩
 ·intro x hx
  obtain ⟨i, hi⟩ := List.getElem?_of_mem hx
  have hlt := (List.getElem?_eq_some_iff.1 hi).1
  simp at hlt
  rw [List.getElem?_take_of_lt (by omega), List.getElem?_drop] at hi
  exact ⟨m + i, by omega, by omega, by simp [List.getD_eq_getElem?_getD, hi]⟩
theorem rot_get {P X Y S : List α} {i : Nat} : (P ++ Y ++ X ++ S).getD i d = (P ++ X ++ Y ++ S).getD (if i < P.length then i else if i < P.length + Y.length then i + X.length else if i < P.length + X.length + Y.length then i - Y.length else i) d := by
 split
 ·rename_i hi
  rw [getD_app1 (by simp; omega), getD_app1 (by simp; omega), getD_app1 hi, getD_app1 (by simp; omega), getD_app1 (by simp; omega), getD_app1 hi]
 ·split
  ·rw [getD_app1 (by simp; omega), getD_app1 (by simp; omega), getD_app2 (by omega), getD_app1 (by simp; omega), getD_app2 (by simp; omega)]
   congr 1
   simp; omega
  ·split
   ·rw [getD_app1 (by simp; omega), getD_app2 (by simp; omega), getD_app1 (by simp; omega), getD_app1 (by simp; omega), getD_app2 (by omega)]
    congr 1
    simp; omega
   ·rw [getD_app2 (by simp; omega), getD_app2 (by simp; omega)]
    congr 1
    simp; omega
theorem swap_blocks {P A B C S : List α} {k : Nat} (hA : k < A.length) (hC : C.length = A.length) :
  ((P ++ (C.take k ++ A.drop k) ++ B ++ (A.take k ++ C.drop k) ++ S).set (P.length + k) ((P ++ (C.take k ++ A.drop k) ++ B ++ (A.take k ++ C.drop k) ++ S).getD (P.length + A.length + B.length + k) d)).set (P.length + A.length + B.length + k) ((P ++ (C.take k ++ A.drop k) ++ B ++ (A.take k ++ C.drop k) ++ S).getD (P.length + k) d)
   = P ++ (C.take (k + 1) ++ A.drop (k + 1)) ++ B ++ (A.take (k + 1) ++ C.drop (k + 1)) ++ S := by
 have e1 : (P ++ (C.take k ++ A.drop k) ++ B ++ (A.take k ++ C.drop k) ++ S).getD (P.length + A.length + B.length + k) d = C[k] := by
  rw [getD_app1 (by simp; omega), getD_app2 (by simp; omega), getD_app2 (by simp; omega)]
  simp only [List.getD_eq_getElem?_getD, List.getElem?_drop]
  have : k + (P.length + A.length + B.length + k - (P ++ (C.take k ++ A.drop k) ++ B).length - (A.take k).length) = k := by simp; omega
  rw [this, List.getElem?_eq_getElem (by omega)]; rfl
 have e2 : (P ++ (C.take k ++ A.drop k) ++ B ++ (A.take k ++ C.drop k) ++ S).getD (P.length + k) d = A[k] := by
  rw [getD_app1 (by simp; omega), getD_app1 (by simp; omega), getD_app1 (by simp; omega), getD_app2 (by omega), getD_app2 (by simp; omega)]
  simp only [List.getD_eq_getElem?_getD, List.getElem?_drop]
  have : k + (P.length + k - P.length - (C.take k).length) = k := by simp; omega
  rw [this, List.getElem?_eq_getElem hA]; rfl
 rw [e1, e2]
 rw [show A.drop k = A[k] :: A.drop (k + 1) from List.drop_eq_getElem_cons hA, show C.drop k = C[k] :: C.drop (k + 1) from List.drop_eq_getElem_cons (by omega)]
 rw [List.take_succ_eq_append_getElem hA, List.take_succ_eq_append_getElem (show k < C.length by omega)]
 have f1 : ∀ (V : List α) (x : α), (P ++ (C.take k ++ A[k] :: A.drop (k + 1)) ++ V).set (P.length + k) x = P ++ (C.take k ++ x :: A.drop (k + 1)) ++ V := by
  intro V x
  rw [List.set_append_left _ _ (by simp; omega), List.set_append_right _ _ (by omega), List.set_append_right _ _ (by simp; omega)]
  congr 3
  have : P.length + k - P.length - (C.take k).length = 0 := by simp; omega
  rw [this]; rfl
 have f2 : ∀ (U : List α) (x : α), U.length = A.length → (P ++ U ++ B ++ (A.take k ++ C[k] :: C.drop (k + 1)) ++ S).set (P.length + A.length + B.length + k) x = P ++ U ++ B ++ (A.take k ++ x :: C.drop (k + 1)) ++ S := by
  intro U x hU
  rw [List.set_append_left _ _ (by simp; omega), List.set_append_right _ _ (by simp; omega), List.set_append_right _ _ (by simp; omega)]
  congr 3
  have : P.length + A.length + B.length + k - (P ++ U ++ B).length - (A.take k).length = 0 := by simp; omega
  rw [this]; rfl
 have g := f1 (B ++ (A.take k ++ C[k] :: C.drop (k + 1)) ++ S) C[k]
 simp only [List.append_assoc] at g f2 ⊢
 rw [g]
 have h := f2 (C.take k ++ C[k] :: A.drop (k + 1)) A[k] (by simp; omega)
 simp only [List.append_assoc] at h
 rw [h]
 simp
theorem sym_part {l : List α} {a m b mid s : Nat} (hml : b ≤ l.length) (ham : a < m) (hmb : m < b) (hmid : mid = (a + b) / 2) (h1 : Sd key d l a m) (h2 : Sd key d l m b)
  (hs0 : (if mid < m then mid + m - b else a) ≤ s) (hs1 : s ≤ (if mid < m then mid else m))
  (hy : (if mid < m then mid + m - b else a) < s → key (l.getD (s - 1) d) ≤ key (l.getD (mid + m - 1 - (s - 1)) d))
  (hn : s < (if mid < m then mid else m) → key (l.getD (mid + m - 1 - s) d) < key (l.getD s d)) :
  a ≤ s ∧ s ≤ mid ∧ s ≤ m ∧ m ≤ mid + m - s ∧ mid ≤ mid + m - s ∧ mid + m - s ≤ b ∧
  (s < m → m < mid + m - s → ∀ i j, s ≤ i → i < m → m ≤ j → j < mid + m - s → key (l.getD j d) < key (l.getD i d)) ∧
  (∀ i j, a ≤ i → i < s → mid + m - s ≤ j → j < b → key (l.getD i d) ≤ key (l.getD j d)) := by
 refine ⟨by split at hs0 <;> omega, by split at hs1 <;> omega, by split at hs1 <;> omega, by split at hs1 <;> omega, by split at hs1 <;> omega, by split at hs0 <;> omega, ?_, ?_⟩
 ·intro h3 h4 i j i1 i2 j1 j2
  have hlt : s < (if mid < m then mid else m) := by split <;> omega
  have h5 := hn hlt
  have h6 := h1 s i (by split at hs0 <;> omega) i1 i2
  have h7 := h2 j (mid + m - 1 - s) j1 (by omega) (by split at hs0 <;> omega)
  omega
 ·intro i j i1 i2 j1 j2
  have hlt : (if mid < m then mid + m - b else a) < s := by
   rcases Nat.lt_or_ge (if mid < m then mid + m - b else a) s with h | h
   ·exact h
   ·exfalso; split at h <;> omega
  have h5 := hy hlt
  have h6 := h1 i (s - 1) i1 (by omega) (by split at hs1 <;> omega)
  have h7 := h2 (mid + m - 1 - (s - 1)) j (by split at hs1 <;> omega) (by omega) j2
  omega
theorem unique {l1 l2 : List α} (h1 : Sd key d l1 0 l1.length) (h2 : Sd key d l2 0 l2.length) (h : ∀ c, l1.filter (fun x => decide (key x = c)) = l2.filter (fun x => decide (key x = c))) : l1 = l2 := by
 induction l1 generalizing l2 with
 | nil =>
  cases l2 with
  | nil => rfl
  | cons y l2 => have := h (key y); simp at this
 | cons x l1 ih =>
  cases l2 with
  | nil => have := h (key x); simp at this
  | cons y l2 =>
   have hx : key y ≤ key x := by
    have hm : x ∈ (y :: l2) := by
     have hf : x ∈ (x :: l1).filter (fun z => decide (key z = key x)) := by simp
     rw [h (key x)] at hf
     exact (List.mem_filter.1 hf).1
    obtain ⟨j, hj⟩ := List.getElem?_of_mem hm
    have hlt := (List.getElem?_eq_some_iff.1 hj).1
    have := h2 0 j (Nat.le_refl _) (Nat.zero_le _) hlt
    simpa [List.getD_eq_getElem?_getD, hj] using this
   have hy : key x ≤ key y := by
    have hm : y ∈ (x :: l1) := by
     have hf : y ∈ (y :: l2).filter (fun z => decide (key z = key y)) := by simp
     rw [← h (key y)] at hf
     exact (List.mem_filter.1 hf).1
    obtain ⟨j, hj⟩ := List.getElem?_of_mem hm
    have hlt := (List.getElem?_eq_some_iff.1 hj).1
    have := h1 0 j (Nat.le_refl _) (Nat.zero_le _) hlt
    simpa [List.getD_eq_getElem?_getD, hj] using this
   have hk : key x = key y := by omega
   have hxy : x = y := by
    have := h (key x)
    simp [hk] at this
    exact this.1
   subst hxy
   congr 1
   refine ih (fun i j i1 i2 i3 => ?_) (fun i j i1 i2 i3 => ?_) (fun c => ?_)
   ·have := h1 (i + 1) (j + 1) (by omega) (by omega) (by simp; omega)
    simpa [List.getD_eq_getElem?_getD] using this
   ·have := h2 (i + 1) (j + 1) (by omega) (by omega) (by simp; omega)
    simpa [List.getD_eq_getElem?_getD] using this
   ·have := h c
    simp only [List.filter_cons] at this
    split at this
    ·simpa using this
    ·exact this
end Go.StS
namespace Go.StS
variable {α : Type} {key : α → Int} {d : α}
theorem Rl.pd {Pd : α → Prop} {l l' : List α} {a b n : Nat} (h : Rl key d l l' a b) (hb : b ≤ n) (hp : ∀ i, i < n → Pd (l.getD i d)) : ∀ i, i < n → Pd (l'.getD i d) := fun i hi => by
 by_cases h1 : a ≤ i ∧ i < b
 ·obtain ⟨j, j1, j2, j3⟩ := h.mem i h1.1 h1.2
  rw [j3]; exact hp j (by omega)
 ·rw [h.out i (by omega)]; exact hp i hi
def Ins (key : α → Int) (d : α) (l : List α) (a j i : Nat) : Prop := ∀ x y, a ≤ x → x ≤ y → y ≤ i → y ≠ j → key (l.getD x d) ≤ key (l.getD y d)
theorem Ins.start {l : List α} {a i : Nat} (h : Sd key d l a i) : Ins key d l a i i := fun x y h1 h2 h3 h4 => h x y h1 h2 (by omega)
theorem swap_get {l : List α} {j k : Nat} (hj : 0 < j) (hl : j < l.length) : ((l.set j (l.getD (j - 1) d)).set (j - 1) (l.getD j d)).getD k d = if k = j then l.getD (j - 1) d else if k = j - 1 then l.getD j d else l.getD k d := by
 by_cases e1 : k = j
 ·subst e1
  rw [if_pos rfl]
  simp only [List.getD_eq_getElem?_getD]
  rw [List.getElem?_set_ne (by omega)]
  simp [hl]
 ·rw [if_neg e1]
  by_cases e2 : k = j - 1
  ·subst e2
   rw [if_pos rfl]
   simp only [List.getD_eq_getElem?_getD]
   simp [show j - 1 < l.length by omega]
  ·rw [if_neg e2]
   simp only [List.getD_eq_getElem?_getD]
   rw [List.getElem?_set_ne (by omega), List.getElem?_set_ne (by omega)]
theorem Ins.step {l : List α} {a j i : Nat} (h : Ins key d l a j i) (h1 : a < j) (h2 : j ≤ i) (hl : j < l.length) (hk : key (l.getD j d) < key (l.getD (j - 1) d)) : Ins key d ((l.set j (l.getD (j - 1) d)).set (j - 1) (l.getD j d)) a (j - 1) i := fun x y x1 x2 x3 x4 => by
 rw [swap_get (by omega) hl, swap_get (by omega) hl, if_neg x4]
 by_cases ey : y = j
 ·rw [if_pos ey]
  by_cases ex : x = j
  ·rw [if_pos ex]; exact Int.le_refl _
  ·rw [if_neg ex]
   by_cases ex2 : x = j - 1
   ·rw [if_pos ex2]; omega
   ·rw [if_neg ex2]; exact h x (j - 1) x1 (by omega) (by omega) (by omega)
 ·rw [if_neg ey]
  by_cases ex : x = j
  ·rw [if_pos ex]; exact h (j - 1) y (by omega) (by omega) x3 ey
  ·rw [if_neg ex]
   by_cases ex2 : x = j - 1
   ·rw [if_pos ex2]; exact h j y (by omega) (by omega) x3 ey
   ·rw [if_neg ex2]; exact h x y x1 x2 x3 ey
theorem Rl.swapD {l : List α} {a b j : Nat} (h1 : a < j) (h2 : j < b) (hl : j < l.length) (hk : key (l.getD j d) < key (l.getD (j - 1) d)) : Rl key d l ((l.set j (l.getD (j - 1) d)).set (j - 1) (l.getD j d)) a b := by
 obtain ⟨i, rfl⟩ : ∃ i, j = i + 1 := ⟨j - 1, by omega⟩
 rw [show i + 1 - 1 = i by omega] at hk ⊢
 rw [swap_comm]
 exact Rl.swap (by omega) h2 hl (by omega)
theorem Rl.swapU {l : List α} {a b j : Nat} (h1 : a ≤ j) (h2 : j + 1 < b) (hl : j + 1 < l.length) (hk : key (l.getD (j + 1) d) ≠ key (l.getD j d)) : Rl key d l ((l.set j (l.getD (j + 1) d)).set (j + 1) (l.getD j d)) a b :=
 Rl.swap h1 h2 hl (fun e => hk e.symm)
theorem Ins.fin {l : List α} {a j i : Nat} (h : Ins key d l a j i) (hj : a ≤ j) (he : j = a ∨ key (l.getD (j - 1) d) ≤ key (l.getD j d)) : Sd key d l a (i + 1) := fun x y h1 h2 h3 => by
 by_cases ey : y = j
 ·subst ey
  by_cases ex : x = y
  ·subst ex; exact Int.le_refl _
  ·rcases he with he | he
   ·omega
   ·exact Int.le_trans (h x (y - 1) h1 (by omega) (by omega) (by omega)) he
 ·exact h x y h1 h2 (by omega) ey
end Go.StS
namespace Go.StS
variable {α : Type} {key : α → Int} {d : α}
theorem bs_lt {l : List α} {m b h : Nat} {k : Int} (hs : Sd key d l m b) (h1 : m ≤ h) (h2 : h < b) (hk : key (l.getD h d) < k) : ∀ x, m ≤ x → x < h + 1 → key (l.getD x d) < k := fun x x1 x2 => by
 have := hs x h x1 (by omega) h2; omega
theorem bs_ge {l : List α} {m b h : Nat} {k : Int} (hs : Sd key d l m b) (h1 : m ≤ h) (h2 : h < b) (hk : k ≤ key (l.getD h d)) : ∀ x, h ≤ x → x < b → k ≤ key (l.getD x d) := fun x x1 x2 => by
 have := hs h x h1 x1 x2; omega
theorem bs_le {l : List α} {m b h : Nat} {k : Int} (hs : Sd key d l m b) (h1 : m ≤ h) (h2 : h < b) (hk : key (l.getD h d) ≤ k) : ∀ x, m ≤ x → x < h + 1 → key (l.getD x d) ≤ k := fun x x1 x2 => by
 have := hs x h x1 (by omega) h2; omega
theorem bs_gt {l : List α} {m b h : Nat} {k : Int} (hs : Sd key d l m b) (h1 : m ≤ h) (h2 : h < b) (hk : k < key (l.getD h d)) : ∀ x, h ≤ x → x < b → k < key (l.getD x d) := fun x x1 x2 => by
 have := hs h x h1 x1 x2; omega
structure Mv (key : α → Int) (d : α) (l l2 : List α) (a b k : Nat) : Prop where
 rl : Rl key d l l2 a b
 at_ : l2.getD k d = l.getD a d
 lo : ∀ x, a ≤ x → x < k → l2.getD x d = l.getD (x + 1) d
 hi : ∀ x, k < x → l2.getD x d = l.getD x d
theorem Mv.start (l : List α) (a b : Nat) : Mv key d l l a b a := ⟨Rl.refl _ _ _, rfl, fun x h1 h2 => by omega, fun _ _ => rfl⟩
theorem swapU_get {l : List α} {j k : Nat} (hl : j + 1 < l.length) : ((l.set j (l.getD (j + 1) d)).set (j + 1) (l.getD j d)).getD k d = if k = j then l.getD (j + 1) d else if k = j + 1 then l.getD j d else l.getD k d := by
 have := swap_get (d := d) (l := l) (j := j + 1) (k := k) (by omega) hl
 rw [show j + 1 - 1 = j by omega] at this
 rw [swap_comm] at this
 rw [this]
 by_cases e1 : k = j
 ·rw [if_neg (by omega), if_pos e1, if_pos e1]
 ·by_cases e2 : k = j + 1
  ·rw [if_pos e2, if_neg e1, if_pos e2]
  ·rw [if_neg e2, if_neg e1, if_neg e1, if_neg e2]
theorem Mv.step {l l2 : List α} {a b k : Nat} (h : Mv key d l l2 a b k) (h1 : a ≤ k) (h2 : k + 1 < b) (hl : b ≤ l.length) (hk : key (l.getD (k + 1) d) < key (l.getD a d)) : Mv key d l ((l2.set k (l2.getD (k + 1) d)).set (k + 1) (l2.getD k d)) a b (k + 1) := by
 have hlen := h.rl.len
 refine ⟨h.rl.trans (Rl.swapU h1 h2 (by omega) (by rw [h.at_, h.hi _ (by omega)]; omega)), ?_, fun x x1 x2 => ?_, fun x x1 => ?_⟩
 ·rw [swapU_get (by omega), if_neg (by omega), if_pos rfl, h.at_]
 ·rw [swapU_get (by omega)]
  by_cases e : x = k
  ·subst e; rw [if_pos rfl, h.hi _ (by omega)]
  ·rw [if_neg e, if_neg (by omega), h.lo x x1 (by omega)]
 ·rw [swapU_get (by omega), if_neg (by omega), if_neg (by omega), h.hi x (by omega)]
theorem Mv.fin {l l2 : List α} {a b i : Nat} (h : Mv key d l l2 a b (i - 1)) (ha : a + 1 ≤ i) (hi : i ≤ b) (hs : Sd key d l (a + 1) b) (hlo : ∀ x, a + 1 ≤ x → x < i → key (l.getD x d) < key (l.getD a d)) (hhi : ∀ x, i ≤ x → x < b → key (l.getD a d) ≤ key (l.getD x d)) : Sd key d l2 a b := by
 have get : ∀ x, a ≤ x → l2.getD x d = if x < i - 1 then l.getD (x + 1) d else if x = i - 1 then l.getD a d else l.getD x d := by
  intro x hx
  by_cases e1 : x < i - 1
  ·rw [if_pos e1, h.lo x hx e1]
  ·rw [if_neg e1]
   by_cases e2 : x = i - 1
   ·rw [if_pos e2, e2, h.at_]
   ·rw [if_neg e2, h.hi x (by omega)]
 intro x y x1 x2 x3
 rw [get x x1, get y (by omega)]
 by_cases e1 : x < i - 1
 ·rw [if_pos e1]
  by_cases f1 : y < i - 1
  ·rw [if_pos f1]; exact hs _ _ (by omega) (by omega) (by omega)
  ·rw [if_neg f1]
   by_cases f2 : y = i - 1
   ·rw [if_pos f2]; have := hlo (x + 1) (by omega) (by omega); omega
   ·rw [if_neg f2]; exact hs _ _ (by omega) (by omega) (by omega)
 ·rw [if_neg e1]
  by_cases e2 : x = i - 1
  ·rw [if_pos e2, if_neg (by omega)]
   by_cases f2 : y = i - 1
   ·rw [if_pos f2]; exact Int.le_refl _
   ·rw [if_neg f2]; exact hhi y (by omega) x3
  ·rw [if_neg e2, if_neg (by omega), if_neg (by omega)]; exact hs _ _ (by omega) x2 x3
structure Mw (key : α → Int) (d : α) (l l2 : List α) (a b m k : Nat) : Prop where
 rl : Rl key d l l2 a b
 at_ : l2.getD k d = l.getD m d
 hi : ∀ x, k < x → x ≤ m → l2.getD x d = l.getD (x - 1) d
 lo : ∀ x, x < k → l2.getD x d = l.getD x d
 up : ∀ x, m < x → l2.getD x d = l.getD x d
theorem Mw.start (l : List α) (a b m : Nat) : Mw key d l l a b m m := ⟨Rl.refl _ _ _, rfl, fun x h1 h2 => by omega, fun _ _ => rfl, fun _ _ => rfl⟩
theorem Mw.step {l l2 : List α} {a b m k : Nat} (h : Mw key d l l2 a b m k) (h0 : a < k) (h1 : k ≤ m) (h2 : m < b) (hl : b ≤ l.length) (hk : key (l.getD m d) < key (l.getD (k - 1) d)) : Mw key d l ((l2.set k (l2.getD (k - 1) d)).set (k - 1) (l2.getD k d)) a b m (k - 1) := by
 have hlen := h.rl.len
 refine ⟨h.rl.trans (Rl.swapD h0 (by omega) (by omega) (by rw [h.at_, h.lo _ (by omega)]; exact hk)), ?_, fun x x1 x2 => ?_, fun x x1 => ?_, fun x x1 => ?_⟩
 ·rw [swap_get (by omega) (by omega), if_neg (by omega), if_pos rfl, h.at_]
 ·rw [swap_get (by omega) (by omega)]
  by_cases e : x = k
  ·subst e; rw [if_pos rfl, h.lo _ (by omega)]
  ·rw [if_neg e, if_neg (by omega), h.hi x (by omega) x2]
 ·rw [swap_get (by omega) (by omega), if_neg (by omega), if_neg (by omega), h.lo x (by omega)]
 ·rw [swap_get (by omega) (by omega), if_neg (by omega), if_neg (by omega), h.up x x1]
theorem Mw.fin {l l2 : List α} {a b i : Nat} {m : Nat} (h : Mw key d l l2 a b m i) (ha : a ≤ i) (hi : i ≤ m) (hb : b = m + 1) (hs : Sd key d l a m) (hlo : ∀ x, a ≤ x → x < i → key (l.getD x d) ≤ key (l.getD m d)) (hhi : ∀ x, i ≤ x → x < m → key (l.getD m d) < key (l.getD x d)) : Sd key d l2 a b := by
 have get : ∀ x, x ≤ m → l2.getD x d = if x < i then l.getD x d else if x = i then l.getD m d else l.getD (x - 1) d := by
  intro x hx
  by_cases e1 : x < i
  ·rw [if_pos e1, h.lo x e1]
  ·rw [if_neg e1]
   by_cases e2 : x = i
   ·rw [if_pos e2, e2, h.at_]
   ·rw [if_neg e2, h.hi x (by omega) hx]
 intro x y x1 x2 x3
 rw [get x (by omega), get y (by omega)]
 by_cases e1 : x < i
 ·rw [if_pos e1]
  by_cases f1 : y < i
  ·rw [if_pos f1]; exact hs _ _ x1 x2 (by omega)
  ·rw [if_neg f1]
   by_cases f2 : y = i
   ·rw [if_pos f2]; exact hlo x x1 e1
   ·rw [if_neg f2]; exact hs _ _ x1 (by omega) (by omega)
 ·rw [if_neg e1]
  by_cases e2 : x = i
  ·rw [if_pos e2, if_neg (show ¬ y < i by omega)]
   by_cases f2 : y = i
   ·rw [if_pos f2]; exact Int.le_refl _
   ·rw [if_neg f2]; have := hhi (y - 1) (by omega) (by omega); omega
  ·rw [if_neg e2, if_neg (show ¬ y < i by omega), if_neg (show ¬ y = i by omega)]; exact hs _ _ (by omega) (by omega) (by omega)
structure Parts (key : α → Int) (d : α) (l l1 : List α) (a s mid e b : Nat) : Prop where
 rl : Rl key d l l1 a b
 s1 : Sd key d l1 a s
 s2 : Sd key d l1 s mid
 s3 : Sd key d l1 mid e
 s4 : Sd key d l1 e b
 cr : ∀ i j, a ≤ i → i < mid → mid ≤ j → j < b → key (l1.getD i d) ≤ key (l1.getD j d)
theorem Parts.stay {l : List α} {a m b mid s : Nat} (h1 : Sd key d l a m) (h2 : Sd key d l m b) (hs : a ≤ s ∧ s ≤ mid ∧ s ≤ m ∧ m ≤ mid + m - s ∧ mid ≤ mid + m - s ∧ mid + m - s ≤ b)
  (hc : ∀ i j, a ≤ i → i < s → mid + m - s ≤ j → j < b → key (l.getD i d) ≤ key (l.getD j d)) (hn : ¬ (s < m ∧ m < mid + m - s)) : Parts key d l l a s mid (mid + m - s) b := by
 obtain ⟨e1, e2, e3, e4, e5, e6⟩ := hs
 by_cases hm : s = m
 ·subst hm
  have he : mid + s - s = mid := by omega
  rw [he] at hc ⊢
  refine ⟨Rl.refl _ _ _, h1, h2.sub (Nat.le_refl _) (by omega), Sd.small (by omega), h2.sub e2 (Nat.le_refl _), fun i j i1 i2 j1 j2 => ?_⟩
  by_cases hi : i < s
  ·exact hc i j i1 hi j1 j2
  ·exact h2 i j (by omega) (by omega) j2
 ·have hs2 : s = mid := by omega
  subst hs2
  have he : s + m - s = m := by omega
  rw [he] at hc ⊢
  refine ⟨Rl.refl _ _ _, h1.sub (Nat.le_refl _) (by omega), Sd.small (by omega), h1.sub e1 (Nat.le_refl _), h2, fun i j i1 i2 j1 j2 => ?_⟩
  by_cases hj : j < m
  ·exact h1 i j i1 (by omega) hj
  ·exact hc i j i1 i2 (by omega) j2
theorem Parts.rot {P X Y Z : List α} {a m b mid s : Nat} (hP : P.length = s) (hX : X.length = m - s) (hY : Y.length = mid + m - s - m) (h1 : Sd key d (P ++ X ++ Y ++ Z) a m) (h2 : Sd key d (P ++ X ++ Y ++ Z) m b) (hs : a ≤ s ∧ s ≤ mid ∧ s ≤ m ∧ m ≤ mid + m - s ∧ mid ≤ mid + m - s ∧ mid + m - s ≤ b)
  (hlt : ∀ i j, s ≤ i → i < m → m ≤ j → j < mid + m - s → key ((P ++ X ++ Y ++ Z).getD j d) < key ((P ++ X ++ Y ++ Z).getD i d))
  (hc : ∀ i j, a ≤ i → i < s → mid + m - s ≤ j → j < b → key ((P ++ X ++ Y ++ Z).getD i d) ≤ key ((P ++ X ++ Y ++ Z).getD j d))
  (hXm : ∀ x ∈ X, ∃ i, s ≤ i ∧ i < m ∧ x = (P ++ X ++ Y ++ Z).getD i d) (hYm : ∀ y ∈ Y, ∃ i, m ≤ i ∧ i < mid + m - s ∧ y = (P ++ X ++ Y ++ Z).getD i d) :
  Parts key d (P ++ X ++ Y ++ Z) (P ++ Y ++ X ++ Z) a s mid (mid + m - s) b := by
 obtain ⟨e1, e2, e3, e4, e5, e6⟩ := hs
 have hr : Rl key d (P ++ X ++ Y ++ Z) (P ++ Y ++ X ++ Z) a b := Rl.rotate (by omega) (by omega) (fun x hx y hy => by
  obtain ⟨i, i1, i2, rfl⟩ := hXm x hx
  obtain ⟨j, j1, j2, rfl⟩ := hYm y hy
  have := hlt i j i1 i2 j1 j2
  omega)
 have g1 : ∀ i, i < s → (P ++ Y ++ X ++ Z).getD i d = (P ++ X ++ Y ++ Z).getD i d := fun i hi => by rw [rot_get, if_pos (by omega)]
 have g2 : ∀ i, s ≤ i → i < mid → (P ++ Y ++ X ++ Z).getD i d = (P ++ X ++ Y ++ Z).getD (i + (m - s)) d := fun i i1 i2 => by rw [rot_get, if_neg (by omega), if_pos (by omega), hX]
 have g3 : ∀ i, mid ≤ i → i < mid + m - s → (P ++ Y ++ X ++ Z).getD i d = (P ++ X ++ Y ++ Z).getD (i - (mid + m - s - m)) d := fun i i1 i2 => by rw [rot_get, if_neg (by omega), if_neg (by omega), if_pos (by omega), hY]
 have g4 : ∀ i, mid + m - s ≤ i → (P ++ Y ++ X ++ Z).getD i d = (P ++ X ++ Y ++ Z).getD i d := fun i hi => by rw [rot_get, if_neg (by omega), if_neg (by omega), if_neg (by omega)]
 refine ⟨hr, fun i j i1 i2 i3 => ?_, fun i j i1 i2 i3 => ?_, fun i j i1 i2 i3 => ?_, fun i j i1 i2 i3 => ?_, fun i j i1 i2 j1 j2 => ?_⟩
 ·rw [g1 i (by omega), g1 j (by omega)]; exact h1 i j i1 i2 (by omega)
 ·rw [g2 i i1 (by omega), g2 j (by omega) i3]; exact h2 _ _ (by omega) (by omega) (by omega)
 ·rw [g3 i i1 (by omega), g3 j (by omega) i3]; exact h1 _ _ (by omega) (by omega) (by omega)
 ·rw [g4 i i1, g4 j (by omega)]; exact h2 _ _ (by omega) i2 i3
 ·by_cases hi : i < s
  ·rw [g1 i hi]
   by_cases hj : j < mid + m - s
   ·rw [g3 j j1 hj]; exact h1 _ _ i1 (by omega) (by omega)
   ·rw [g4 j (by omega)]; exact hc i j i1 hi (by omega) j2
  ·rw [g2 i (by omega) i2]
   by_cases hj : j < mid + m - s
   ·rw [g3 j j1 hj]
    have := hlt (j - (mid + m - s - m)) (i + (m - s)) (by omega) (by omega) (by omega) (by omega)
    omega
   ·rw [g4 j (by omega)]; exact h2 _ _ (by omega) (by omega) j2
theorem cross_left {l1 l2 : List α} {a mid b : Nat} (h : ∀ i j, a ≤ i → i < mid → mid ≤ j → j < b → key (l1.getD i d) ≤ key (l1.getD j d)) (hr : Rl key d l1 l2 a mid) : ∀ i j, a ≤ i → i < mid → mid ≤ j → j < b → key (l2.getD i d) ≤ key (l2.getD j d) := fun i j i1 i2 j1 j2 => by
 obtain ⟨k, k1, k2, e⟩ := hr.mem i i1 i2
 rw [e, hr.out j (by omega)]
 exact h k j k1 k2 j1 j2
theorem cross_right {l1 l2 : List α} {a mid b : Nat} (h : ∀ i j, a ≤ i → i < mid → mid ≤ j → j < b → key (l1.getD i d) ≤ key (l1.getD j d)) (hr : Rl key d l1 l2 mid b) : ∀ i j, a ≤ i → i < mid → mid ≤ j → j < b → key (l2.getD i d) ≤ key (l2.getD j d) := fun i j i1 i2 j1 j2 => by
 obtain ⟨k, k1, k2, e⟩ := hr.mem j j1 j2
 rw [e, hr.out i (by omega)]
 exact h i k i1 i2 k1 k2
theorem sym_lo {l : List α} {a m b mid h st0 r0 : Nat} (ham : a < m) (hmb : m < b) (hmid : mid = (a + b) / 2) (h1 : Sd key d l a m) (h2 : Sd key d l m b) (e0 : st0 = if mid < m then mid + m - b else a) (e1 : r0 = if mid < m then mid else m) (i1 : st0 ≤ h) (i2 : h < r0)
  (hk : key (l.getD h d) ≤ key (l.getD (mid + m - 1 - h) d)) : ∀ x, st0 ≤ x → x < h + 1 → key (l.getD x d) ≤ key (l.getD (mid + m - 1 - x) d) := fun x x1 x2 => by
 have f1 := h1 x h (by split at e0 <;> omega) (by omega) (by split at e1 <;> omega)
 have f2 := h2 (mid + m - 1 - h) (mid + m - 1 - x) (by split at e1 <;> omega) (by omega) (by split at e0 <;> omega)
 omega
theorem sym_hi {l : List α} {a m b mid h st0 r0 : Nat} (ham : a < m) (hmb : m < b) (hmid : mid = (a + b) / 2) (h1 : Sd key d l a m) (h2 : Sd key d l m b) (e0 : st0 = if mid < m then mid + m - b else a) (e1 : r0 = if mid < m then mid else m) (i1 : st0 ≤ h) (i2 : h < r0)
  (hk : key (l.getD (mid + m - 1 - h) d) < key (l.getD h d)) : ∀ x, h ≤ x → x < r0 → key (l.getD (mid + m - 1 - x) d) < key (l.getD x d) := fun x x1 x2 => by
 have f1 := h1 h x (by split at e0 <;> omega) (by omega) (by split at e1 <;> omega)
 have f2 := h2 (mid + m - 1 - x) (mid + m - 1 - h) (by split at e1 <;> omega) (by omega) (by split at e0 <;> omega)
 omega
end Go.StS
namespace Go.StS
variable {α : Type} {key : α → Int} {d : α}
theorem dvd_gap {b x A : Nat} (h1 : b ∣ x) (h2 : b ∣ A) (h : x ≤ A) : x = A ∨ x + b ≤ A := by
 obtain ⟨u, rfl⟩ := h1
 obtain ⟨v, rfl⟩ := h2
 rcases Nat.eq_zero_or_pos b with hb | hb
 ·subst hb; left; simp
 ·have huv : u ≤ v := Nat.le_of_mul_le_mul_left h hb
  rcases Nat.lt_or_ge u v with h3 | h3
  ·right
   have := Nat.mul_le_mul_left b h3
   rw [Nat.mul_succ] at this
   exact this
  ·left; congr 1; omega
def Bk (key : α → Int) (d : α) (l : List α) (s n : Nat) : Prop := ∀ x, s ∣ x → Sd key d l x (min (x + s) n)
def Bd (key : α → Int) (d : α) (l : List α) (s A : Nat) : Prop := ∀ x, s ∣ x → x + s ≤ A → Sd key d l x (x + s)
theorem Bd.zero (l : List α) (s : Nat) (hs : 0 < s) : Bd key d l s 0 := fun x _ h => by omega
theorem Bd.step {l l2 : List α} {s A : Nat} (h : Bd key d l s A) (hA : s ∣ A) (hr : Rl key d l l2 A (s + A)) (h2 : Sd key d l2 A (s + A)) : Bd key d l2 s (s + A) := fun x hx hle => by
 rcases dvd_gap hx hA (by omega) with e | e
 ·subst e; exact h2.sub (Nat.le_refl _) (by omega)
 ·exact (h x hx e).congr (fun i i1 i2 => hr.out i (by omega))
theorem Bd.fin {l l2 : List α} {s A n : Nat} (h : Bd key d l s A) (hA : s ∣ A) (hAn : A ≤ n) (hn : n < s + A) (hr : Rl key d l l2 A n) (h2 : Sd key d l2 A n) : Bk key d l2 s n := fun x hx => by
 rcases Nat.lt_or_ge A x with h3 | h3
 ·rcases dvd_gap hA hx (Nat.le_of_lt h3) with e | e
  ·omega
  ·exact Sd.small (by omega)
 ·rcases dvd_gap hx hA h3 with e | e
  ·subst e; exact h2.sub (Nat.le_refl _) (by omega)
  ·rw [Nat.min_eq_left (by omega)]
   exact (h x hx e).congr (fun i i1 i2 => hr.out i (by omega))
def Br (key : α → Int) (d : α) (l : List α) (s n A : Nat) : Prop := ∀ x, s ∣ x → A ≤ x → Sd key d l x (min (x + s) n)
theorem Bk.br {l : List α} {s n : Nat} (h : Bk key d l s n) : Br key d l s n 0 := fun x hx _ => h x hx
theorem Br.step {l l2 : List α} {s n A B : Nat} (h : Br key d l s n A) (hAB : A ≤ B) (hr : Rl key d l l2 A B) : Br key d l2 s n B := fun x hx hle => (h x hx (by omega)).congr (fun i i1 i2 => hr.out i (by omega))
theorem dvd_dbl {s A : Nat} (h : 2 * s ∣ A) : s ∣ A := Nat.dvd_trans ⟨2, by rw [Nat.mul_comm]⟩ h
theorem Br.two {l : List α} {s n A : Nat} (h : Br key d l s n A) (hA : 2 * s ∣ A) (hn : 2 * s + A ≤ n) : Sd key d l A (A + s) ∧ Sd key d l (A + s) (2 * s + A) := by
 have h1 := h A (dvd_dbl hA) (Nat.le_refl _)
 have h2 := h (A + s) (Nat.dvd_add (dvd_dbl hA) (Nat.dvd_refl _)) (by omega)
 rw [Nat.min_eq_left (by omega)] at h1
 rw [Nat.min_eq_left (by omega)] at h2
 exact ⟨h1, h2.sub (Nat.le_refl _) (by omega)⟩
theorem Br.last {l : List α} {s n A : Nat} (h : Br key d l s n A) (hA : 2 * s ∣ A) (hn : n < 2 * s + A) (hm : A + s < n) : Sd key d l A (A + s) ∧ Sd key d l (A + s) n := by
 have h1 := h A (dvd_dbl hA) (Nat.le_refl _)
 have h2 := h (A + s) (Nat.dvd_add (dvd_dbl hA) (Nat.dvd_refl _)) (by omega)
 rw [Nat.min_eq_left (by omega)] at h1
 rw [Nat.min_eq_right (by omega)] at h2
 exact ⟨h1, h2⟩
theorem Br.one {l : List α} {s n A : Nat} (h : Br key d l s n A) (hA : 2 * s ∣ A) (hm : n ≤ A + s) : Sd key d l A n := by
 have h1 := h A (dvd_dbl hA) (Nat.le_refl _)
 rwa [Nat.min_eq_right (by omega)] at h1
theorem Bk.all {l : List α} {s n : Nat} (h : Bk key d l s n) (hn : n ≤ s) : Sd key d l 0 n := by
 have := h 0 (Nat.dvd_zero _)
 rwa [Nat.min_eq_right (by omega)] at this
end Go.StS
namespace Go.HuffP
def cls (ls : List Int) (n : Nat) : List Int := ((List.range ls.length).filter (fun i => decide (ls.getD i 0 = (n : Int)))).map (fun i : Nat => (i : Int))
def ordN (ls : List Int) : Nat → List Int
 | 0 => []
 | n + 1 => ordN ls n ++ cls ls (n + 1)
def ord (ls : List Int) : List Int := ordN ls 15
def off (ls : List Int) : Nat → Nat
 | 0 => 0
 | n + 1 => (ordN ls n).length
def cnt (ls : List Int) (n : Nat) : Int := if n = 0 then 0 else ((cls ls n).length : Int)
def cntL (ls : List Int) : List Int := (List.range 16).map (cnt ls)
def base (ls : List Int) : Nat → Int
 | 0 => 0
 | n + 1 => 2 * (base ls n + cnt ls n)
def lenOf (ls : List Int) (s : Nat) : Nat := (ls.getD s 0).toNat
def wordOf (ls : List Int) (s : Nat) : Int := base ls (lenOf ls s) + ((cls (ls.take s) (lenOf ls s)).length : Int)
def Vl (ls : List Int) : Prop := ls.length ≤ 320 ∧ ∀ x ∈ ls, 0 ≤ x ∧ x ≤ 15
theorem cntL_len (ls : List Int) : (cntL ls).length = 16 := by simp [cntL]
theorem cntL_get {ls : List Int} {n : Nat} (h : n < 16) : (cntL ls).getD n 0 = cnt ls n := by simp [cntL, List.getD_eq_getElem?_getD, h]
theorem cls_len_le (ls : List Int) (n : Nat) : (cls ls n).length ≤ ls.length := by
 unfold cls
 have := List.length_filter_le (fun i => decide (ls.getD i 0 = (n : Int))) (List.range ls.length)
 simpa using this
theorem cnt_nonneg (ls : List Int) (n : Nat) : 0 ≤ cnt ls n := by unfold cnt; split <;> omega
theorem cnt_le (ls : List Int) (n : Nat) : cnt ls n ≤ ls.length := by
 have := cls_len_le ls n
 unfold cnt; split <;> omega
theorem getD_take {ls : List Int} {i k : Nat} (h : i < k) : (ls.take k).getD i 0 = ls.getD i 0 := by
 simp [List.getD_eq_getElem?_getD, List.getElem?_take, h]
theorem cls_snoc {ls : List Int} {k n : Nat} (h : k < ls.length) : cls (ls.take (k + 1)) n = cls (ls.take k) n ++ (if ls[k] = (n : Int) then [(k : Int)] else []) := by
 unfold cls
 have e1 : (ls.take (k + 1)).length = k + 1 := by simp; omega
 have e2 : (ls.take k).length = k := by simp; omega
 rw [e1, e2, List.range_succ, List.filter_append, List.map_append]
 congr 1
 ·congr 1
  apply List.filter_congr
  intro i hi
  have hi := List.mem_range.1 hi
  rw [getD_take (by omega), getD_take hi]
 ·have : (ls.take (k + 1)).getD k 0 = ls[k] := by rw [getD_take (by omega)]; simp [List.getD_eq_getElem?_getD, h]
  by_cases he : ls[k] = (n : Int)
  ·simp only [List.filter_cons, List.filter_nil, this, he, decide_true, decide_false, if_true, if_false, List.map_cons, List.map_nil]; try rfl
  ·simp only [List.filter_cons, List.filter_nil, this, he, decide_true, decide_false, if_true, if_false, List.map_cons, List.map_nil]; try rfl
theorem cls_zero (n : Nat) : cls [] n = [] := by simp [cls]
theorem cnt_snoc {ls : List Int} {k n : Nat} (h : k < ls.length) : cnt (ls.take (k + 1)) n = cnt (ls.take k) n + (if n ≠ 0 ∧ ls[k] = (n : Int) then 1 else 0) := by
 unfold cnt
 by_cases h0 : n = 0
 ·simp [h0]
 ·rw [if_neg h0, if_neg h0, cls_snoc h]
  by_cases he : ls[k] = (n : Int)
  ·simp [he, h0]
  ·simp [he]
theorem cntL_snoc {ls : List Int} {k : Nat} (h : k < ls.length) (h1 : 0 < ls[k]) (h2 : ls[k] ≤ 15) : cntL (ls.take (k + 1)) = (cntL (ls.take k)).set ls[k].toNat ((cntL (ls.take k)).getD ls[k].toNat 0 + 1) := by
 apply List.ext_getElem?
 intro i
 by_cases hi : i < 16
 ·rw [List.getElem?_set]
  by_cases he : ls[k].toNat = i
  ·rw [if_pos he, if_pos (by rw [cntL_len]; omega), he, cntL_get hi]
   simp only [cntL, List.getElem?_map, List.getElem?_range hi, Option.map_some]
   rw [cnt_snoc h, if_pos ⟨by omega, by omega⟩]
  ·rw [if_neg he]
   simp only [cntL, List.getElem?_map, List.getElem?_range hi, Option.map_some]
   rw [cnt_snoc h, if_neg (fun hh => he (by omega))]
   simp
 ·rw [List.getElem?_eq_none (by rw [cntL_len]; omega), List.getElem?_eq_none (by rw [List.length_set, cntL_len]; omega)]
theorem cntL_same {ls : List Int} {k : Nat} (h : k < ls.length) (h1 : ls[k] = 0) : cntL (ls.take (k + 1)) = cntL (ls.take k) := by
 unfold cntL
 apply List.map_congr_left
 intro i _
 rw [cnt_snoc h, if_neg (fun hh => hh.1 (by omega))]
 simp
theorem cntL_nil : cntL [] = List.replicate 16 0 := by
 have : cnt [] = fun _ => 0 := by funext n; simp [cnt, cls_zero]
 unfold cntL
 rw [this]
 rfl
def posn (ls : List Int) : List Int := ((List.range ls.length).filter (fun i => decide (0 < ls.getD i 0))).map (fun i : Nat => (i : Int))
theorem posn_snoc {ls : List Int} {k : Nat} (h : k < ls.length) : posn (ls.take (k + 1)) = posn (ls.take k) ++ (if 0 < ls[k] then [(k : Int)] else []) := by
 unfold posn
 have e1 : (ls.take (k + 1)).length = k + 1 := by simp; omega
 have e2 : (ls.take k).length = k := by simp; omega
 rw [e1, e2, List.range_succ, List.filter_append, List.map_append]
 congr 1
 ·congr 1
  apply List.filter_congr
  intro i hi
  have hi := List.mem_range.1 hi
  rw [getD_take (by omega), getD_take hi]
 ·have : (ls.take (k + 1)).getD k 0 = ls[k] := by rw [getD_take (by omega)]; simp [List.getD_eq_getElem?_getD, h]
  by_cases he : 0 < ls[k]
  ·simp only [List.filter_cons, List.filter_nil, this, he, decide_true, decide_false, if_true, if_false, List.map_cons, List.map_nil]; try rfl
  ·simp only [List.filter_cons, List.filter_nil, this, he, decide_true, decide_false, if_true, if_false, List.map_cons, List.map_nil]; try rfl
theorem posn_le (ls : List Int) : (posn ls).length ≤ ls.length := by
 unfold posn
 have := List.length_filter_le (fun i => decide (0 < ls.getD i 0)) (List.range ls.length)
 simpa using this
def left (C : List Int) : Nat → Int
 | 0 => 1
 | n + 1 => 2 * left C n - C.getD (n + 1) 0
def wholeB (C : List Int) (all : Int) : Bool := (List.range 15).all (fun n => decide (0 ≤ left C (n + 1))) && (decide (left C 15 = 0) || decide (all = 0) || (decide (all = 1) && decide (C.getD 1 0 = 1)))
theorem left_le {C : List Int} (hC : ∀ i, 0 ≤ C.getD i 0) : ∀ n, left C n ≤ 2 ^ n
 | 0 => by simp [left]
 | n + 1 => by
  have h := left_le hC n
  have := hC (n + 1)
  simp only [left]
  rw [Int.pow_succ]
  omega
theorem left_bound {C : List Int} (hC : ∀ i, 0 ≤ C.getD i 0) {n : Nat} (hn : n ≤ 15) : left C n ≤ 32768 := by
 refine Int.le_trans (left_le hC n) ?_
 have : (2 : Nat) ^ n ≤ 2 ^ 15 := Nat.pow_le_pow_right (by decide) hn
 have e : ((2 : Int) ^ n) = ((2 ^ n : Nat) : Int) := by simp
 rw [e]
 omega
theorem whole_no {C : List Int} {all : Int} {n : Nat} (h1 : 1 ≤ n) (h2 : n ≤ 15) (h : left C n < 0) : wholeB C all = false := by
 unfold wholeB
 have : (List.range 15).all (fun n => decide (0 ≤ left C (n + 1))) = false := by
  rw [List.all_eq_false]
  exact ⟨n - 1, List.mem_range.2 (by omega), by rw [show n - 1 + 1 = n by omega]; simpa using h⟩
 rw [this]; rfl
theorem whole_yes {C : List Int} {all : Int} (h : ∀ n, 1 ≤ n → n ≤ 15 → 0 ≤ left C n) : wholeB C all = (decide (left C 15 = 0) || decide (all = 0) || (decide (all = 1) && decide (C.getD 1 0 = 1))) := by
 unfold wholeB
 have : (List.range 15).all (fun n => decide (0 ≤ left C (n + 1))) = true := by
  rw [List.all_eq_true]
  intro x hx
  have := List.mem_range.1 hx
  simpa using h (x + 1) (by omega) (by omega)
 rw [this]; rfl
theorem left_nn {C : List Int} {k : Nat} (hno : ∀ m, 1 ≤ m → m ≤ k → 0 ≤ left C m) : 0 ≤ left C k := by
 rcases Nat.eq_zero_or_pos k with e | e
 ·subst e; simp [left]
 ·exact hno k e (Nat.le_refl _)
theorem left_next {C : List Int} {k : Nat} : 2 * left C k - C.getD ((k : Int) + 1).toNat 0 = left C (k + 1) := by
 rw [show ((k : Int) + 1).toNat = k + 1 by omega]; rfl
theorem left_more {C : List Int} {k : Nat} (hno : ∀ m, 1 ≤ m → m ≤ k → 0 ≤ left C m) (h : ¬ 2 * left C k - C.getD ((k : Int) + 1).toNat 0 < 0) : ∀ m, 1 ≤ m → m ≤ k + 1 → 0 ≤ left C m := by
 intro m h1 h2
 rcases Nat.lt_or_ge m (k + 1) with h3 | h3
 ·exact hno m h1 (by omega)
 ·obtain rfl : m = k + 1 := by omega
  rw [left_next] at h
  omega
theorem whole_end {C : List Int} {all : Int} {k : Nat} (hk : k ≤ 15) (h8 : ¬ ((k : Int) + 1 ≤ 15)) (hno : ∀ m, 1 ≤ m → m ≤ k → 0 ≤ left C m) : wholeB C all = (decide (left C k = 0) || decide (all = 0) || (decide (all = 1) && decide (C.getD (Int.toNat 1) 0 = 1))) := by
 obtain rfl : k = 15 := by omega
 exact whole_yes hno
def okB (ls : List Int) : Bool := ls.all (fun x => decide (0 ≤ x ∧ x ≤ 15))
def newE (ls : List Int) : Int := if 320 < ls.length then 1 else if okB ls = true then (if wholeB (cntL ls) ((posn ls).length : Int) = true then 0 else 4) else 1
def mostL (ls : List Int) : Int := ls.foldl (fun a x => if a < x then x else a) 0
theorem cls_mem {ls : List Int} {n : Nat} {x : Int} : x ∈ cls ls n ↔ 0 ≤ x ∧ x.toNat < ls.length ∧ ls.getD x.toNat 0 = (n : Int) := by
 unfold cls
 simp only [List.mem_map, List.mem_filter, List.mem_range, decide_eq_true_eq]
 constructor
 ·rintro ⟨i, ⟨h1, h2⟩, rfl⟩
  exact ⟨by omega, by simpa using h1, by simpa using h2⟩
 ·rintro ⟨h1, h2, h3⟩
  exact ⟨x.toNat, ⟨h2, h3⟩, by omega⟩
theorem ordN_mem {ls : List Int} {x : Int} : ∀ {n : Nat}, x ∈ ordN ls n ↔ ∃ m, 1 ≤ m ∧ m ≤ n ∧ x ∈ cls ls m
 | 0 => by simp [ordN]; omega
 | n + 1 => by
  simp only [ordN, List.mem_append, ordN_mem (n := n)]
  constructor
  ·rintro (⟨m, h1, h2, h3⟩ | h)
   ·exact ⟨m, h1, by omega, h3⟩
   ·exact ⟨n + 1, by omega, Nat.le_refl _, h⟩
  ·rintro ⟨m, h1, h2, h3⟩
   by_cases e : m = n + 1
   ·subst e; exact .inr h3
   ·exact .inl ⟨m, h1, by omega, h3⟩
theorem ord_mem {ls : List Int} (hv : Vl ls) {x : Int} : x ∈ ord ls ↔ 0 ≤ x ∧ x.toNat < ls.length ∧ 0 < ls.getD x.toNat 0 := by
 unfold ord
 rw [ordN_mem]
 constructor
 ·rintro ⟨m, h1, h2, h3⟩
  obtain ⟨a, b, c⟩ := cls_mem.1 h3
  exact ⟨a, b, by omega⟩
 ·rintro ⟨h1, h2, h3⟩
  have h4 := hv.2 (ls.getD x.toNat 0) (by simp [List.getD_eq_getElem?_getD, h2])
  refine ⟨(ls.getD x.toNat 0).toNat, by omega, by omega, cls_mem.2 ⟨h1, h2, by omega⟩⟩
theorem off_succ (ls : List Int) {n : Nat} (h : 1 ≤ n) : off ls (n + 1) = off ls n + (cls ls n).length := by
 obtain ⟨m, rfl⟩ : ∃ m, n = m + 1 := ⟨n - 1, by omega⟩
 simp [off, ordN]
theorem off_cnt (ls : List Int) (n : Nat) : (off ls (n + 1) : Int) = off ls n + cnt ls n := by
 rcases Nat.eq_zero_or_pos n with h | h
 ·subst h; simp [off, ordN, cnt]
 ·rw [off_succ ls h]
  unfold cnt
  rw [if_neg (by omega)]
  omega
theorem ordN_pre (ls : List Int) {m n : Nat} (h : m ≤ n) : ∃ t, ordN ls n = ordN ls m ++ t := by
 induction n with
 | zero =>
  obtain rfl : m = 0 := by omega
  exact ⟨[], by simp⟩
 | succ n ih =>
  by_cases e : m = n + 1
  ·subst e; exact ⟨[], by simp⟩
  ·obtain ⟨t, ht⟩ := ih (by omega)
   exact ⟨t ++ cls ls (n + 1), by simp [ordN, ht]⟩
theorem off_mono (ls : List Int) {m n : Nat} (h : m ≤ n) : off ls m ≤ off ls n := by
 induction n with
 | zero =>
  obtain rfl : m = 0 := by omega
  exact Nat.le_refl _
 | succ n ih =>
  by_cases e : m = n + 1
  ·subst e; exact Nat.le_refl _
  ·have := ih (by omega)
   have h2 := off_cnt ls n
   have h3 := cnt_nonneg ls n
   omega
theorem ord_len (ls : List Int) : (ord ls).length = off ls 16 := rfl
theorem ord_get {ls : List Int} {n r : Nat} (h1 : 1 ≤ n) (h2 : n ≤ 15) (h : r < (cls ls n).length) : (ord ls).getD (off ls n + r) 0 = (cls ls n).getD r 0 := by
 obtain ⟨t, ht⟩ := ordN_pre ls (show n ≤ 15 from h2)
 obtain ⟨m, rfl⟩ : ∃ m, n = m + 1 := ⟨n - 1, by omega⟩
 have e : ord ls = ordN ls m ++ cls ls (m + 1) ++ t := by unfold ord; rw [ht]; rfl
 rw [e, List.append_assoc]
 simp only [List.getD_eq_getElem?_getD, off]
 rw [List.getElem?_append_right (by omega), List.getElem?_append_left (by omega)]
 congr 2
 omega
theorem ord_cls {ls : List Int} {p : Nat} (h : p < (ord ls).length) : ∃ n r, 1 ≤ n ∧ n ≤ 15 ∧ r < (cls ls n).length ∧ p = off ls n + r := by
 have key : ∀ n, p < off ls (n + 1) → ∃ m r, 1 ≤ m ∧ m ≤ n ∧ r < (cls ls m).length ∧ p = off ls m + r := by
  intro n
  induction n with
  | zero => intro h; simp [off, ordN] at h
  | succ n ih =>
   intro h
   by_cases h2 : p < off ls (n + 1)
   ·obtain ⟨m, r, a, b, c, d⟩ := ih h2
    exact ⟨m, r, a, by omega, c, d⟩
   ·have := off_succ ls (n := n + 1) (by omega)
    exact ⟨n + 1, p - off ls (n + 1), by omega, Nat.le_refl _, by omega, by omega⟩
 exact key 15 h
theorem cls_take {ls : List Int} {s n : Nat} (h : s < ls.length) (hn : ls.getD s 0 = (n : Int)) : ∃ t, cls ls n = cls (ls.take s) n ++ ((s : Int) :: t) := by
 have e : ls = ls.take (s + 1) ++ ls.drop (s + 1) := (List.take_append_drop _ _).symm
 have key : ∀ k, s + 1 + k ≤ ls.length → ∃ t, cls (ls.take (s + 1 + k)) n = cls (ls.take s) n ++ ((s : Int) :: t) := by
  intro k
  induction k with
  | zero =>
   intro _
   refine ⟨[], ?_⟩
   rw [Nat.add_zero, cls_snoc h, if_pos (by rw [← hn]; simp [List.getD_eq_getElem?_getD, h])]
  | succ k ih =>
   intro hk
   obtain ⟨t, ht⟩ := ih (by omega)
   refine ⟨t ++ (if ls[s + 1 + k] = (n : Int) then [((s + 1 + k : Nat) : Int)] else []), ?_⟩
   rw [show s + 1 + (k + 1) = (s + 1 + k) + 1 by omega, cls_snoc (show s + 1 + k < ls.length by omega), ht]
   simp
 obtain ⟨t, ht⟩ := key (ls.length - (s + 1)) (by omega)
 rw [show s + 1 + (ls.length - (s + 1)) = ls.length by omega, List.take_length] at ht
 exact ⟨t, ht⟩
theorem cls_nodup (ls : List Int) (n : Nat) : (cls ls n).Nodup := by
 unfold cls
 have h : ((List.range ls.length).filter (fun i => decide (ls.getD i 0 = (n : Int)))).Nodup := List.Pairwise.filter _ List.nodup_range
 rw [List.Nodup, List.pairwise_map]
 exact List.Pairwise.imp (fun {a b} hab he => hab (Int.ofNat.inj he)) h
theorem word_at {ls : List Int} {n r : Nat} (h1 : 1 ≤ n) (h2 : n ≤ 15) (h : r < (cls ls n).length) :
  ∃ s : Nat, (ord ls).getD (off ls n + r) 0 = (s : Int) ∧ s < ls.length ∧ ls.getD s 0 = (n : Int) ∧ lenOf ls s = n ∧ wordOf ls s = base ls n + r := by
 have hr0 : (cls ls n)[r]? = some ((cls ls n).getD r 0) := by simp [List.getD_eq_getElem?_getD, h]
 have hm : (cls ls n).getD r 0 ∈ cls ls n := List.mem_of_getElem? hr0
 obtain ⟨a, b, c⟩ := cls_mem.1 hm
 obtain ⟨s, hs⟩ : ∃ s : Nat, (cls ls n).getD r 0 = (s : Int) := ⟨((cls ls n).getD r 0).toNat, by omega⟩
 rw [hs] at hr0 b c
 simp only [Int.toNat_natCast] at b c
 have hl : lenOf ls s = n := by unfold lenOf; rw [c]; omega
 refine ⟨s, by rw [ord_get h1 h2 h, hs], b, c, hl, ?_⟩
 unfold wordOf
 rw [hl]
 congr 1
 obtain ⟨t, ht⟩ := cls_take b c
 have hidx : (cls ls n)[(cls (ls.take s) n).length]? = some (s : Int) := by
  rw [ht, List.getElem?_append_right (Nat.le_refl _), Nat.sub_self]
  rfl
 have := (List.getElem?_inj (List.getElem?_eq_some_iff.1 hr0).1 (cls_nodup ls n)).1 (hr0.trans hidx.symm)
 omega
theorem base_far {ls : List Int} {m n : Nat} (h : m ≤ n) (hz : ∀ k, m < k → k < n → cnt ls k = 0) (hmn : m < n) : base ls n = (base ls m + cnt ls m) * 2 ^ (n - m) := by
 induction n with
 | zero => omega
 | succ n ih =>
  by_cases e : m = n
  ·subst e
   rw [show m + 1 - m = 1 by omega]
   simp only [base]
   omega
  ·have := ih (by omega) (fun k k1 k2 => hz k k1 (by omega)) (by omega)
   simp only [base]
   rw [this, hz n (by omega) (by omega), show n + 1 - m = (n - m) + 1 by omega, Int.pow_succ]
   rw [Int.add_zero, Int.mul_comm 2, Int.mul_assoc]
theorem next_word {ls : List Int} {p : Nat} (hp : p + 1 < (ord ls).length) : ∃ s t : Nat, (ord ls).getD p 0 = (s : Int) ∧ (ord ls).getD (p + 1) 0 = (t : Int) ∧ s < ls.length ∧ t < ls.length ∧ 1 ≤ lenOf ls s ∧ lenOf ls s ≤ lenOf ls t ∧ lenOf ls t ≤ 15 ∧ ls.getD s 0 = (lenOf ls s : Int) ∧ ls.getD t 0 = (lenOf ls t : Int) ∧ wordOf ls t = (wordOf ls s + 1) * 2 ^ (lenOf ls t - lenOf ls s) := by
 obtain ⟨m, r, m1, m2, hr, e1⟩ := ord_cls (show p < (ord ls).length by omega)
 obtain ⟨n, q, n1, n2, hq, e2⟩ := ord_cls hp
 obtain ⟨s, s1, s2, s3, s4, s5⟩ := word_at m1 m2 hr
 obtain ⟨t, t1, t2, t3, t4, t5⟩ := word_at n1 n2 hq
 have hmn : m ≤ n := by
  rcases Nat.lt_or_ge n m with h | h
  ·exfalso
   have := off_mono ls (show n + 1 ≤ m from h)
   have := off_succ ls n1
   omega
  ·exact h
 refine ⟨s, t, by rw [e1]; exact s1, by rw [e2]; exact t1, s2, t2, by omega, by omega, by omega, by rw [s4]; exact s3, by rw [t4]; exact t3, ?_⟩
 rw [s4, t4, s5, t5]
 by_cases e : m = n
 ·subst e
  rw [Nat.sub_self]
  simp
  omega
 ·have h3 := off_mono ls (show m + 1 ≤ n by omega)
  have h4 := off_succ ls m1
  have hq0 : q = 0 := by omega
  have hrl : r + 1 = (cls ls m).length := by omega
  subst hq0
  have hz : ∀ k, m < k → k < n → cnt ls k = 0 := by
   intro k k1 k2
   have h5 := off_mono ls (show m + 1 ≤ k by omega)
   have h6 := off_mono ls (show k + 1 ≤ n by omega)
   have h7 := off_cnt ls k
   have h8 := cnt_nonneg ls k
   omega
  have hc : cnt ls m = (r : Int) + 1 := by unfold cnt; rw [if_neg (by omega)]; omega
  rw [base_far hmn hz (by omega), hc]
  simp [Int.add_assoc]
theorem first_word {ls : List Int} (hp : 0 < (ord ls).length) : ∃ t : Nat, (ord ls).getD 0 0 = (t : Int) ∧ t < ls.length ∧ 1 ≤ lenOf ls t ∧ lenOf ls t ≤ 15 ∧ ls.getD t 0 = (lenOf ls t : Int) ∧ wordOf ls t = 0 := by
 obtain ⟨n, q, n1, n2, hq, e2⟩ := ord_cls hp
 obtain ⟨t, t1, t2, t3, t4, t5⟩ := word_at n1 n2 hq
 refine ⟨t, by rw [e2]; exact t1, t2, by omega, by omega, by rw [t4]; exact t3, ?_⟩
 have hz : ∀ k, 0 < k → k < n → cnt ls k = 0 := by
  intro k k1 k2
  have h6 := off_mono ls (show k + 1 ≤ n by omega)
  have h7 := off_cnt ls k
  have h8 := cnt_nonneg ls k
  omega
 rw [t5, base_far (Nat.zero_le n) hz (by omega)]
 simp [base, cnt]
 omega
end Go.HuffP
namespace Go.HuffP
open Go.StS
abbrev key (ls : List Int) (x : Int) : Int := ls.getD x.toNat 0
theorem filt_map (l : List Nat) (q : Nat → Bool) (p : Int → Bool) : ((l.filter q).map (fun i : Nat => (i : Int))).filter p = (l.filter (fun i => q i && p (i : Int))).map (fun i : Nat => (i : Int)) := by
 rw [List.filter_map, List.filter_filter]
 congr 2
 funext i
 simp [Bool.and_comm]
theorem filt_cls (ls : List Int) (m : Nat) (c : Int) : (cls ls m).filter (fun x => decide (key ls x = c)) = if (m : Int) = c then cls ls m else [] := by
 by_cases h : (m : Int) = c
 ·rw [if_pos h, List.filter_eq_self]
  intro x hx
  have := (cls_mem.1 hx).2.2
  simpa [h] using this.trans h
 ·rw [if_neg h, List.filter_eq_nil_iff]
  intro x hx
  have := (cls_mem.1 hx).2.2
  simp only [decide_eq_true_eq]
  intro e
  exact h (this.symm.trans e)
theorem filt_ord (ls : List Int) (c : Int) : ∀ n : Nat, (ordN ls n).filter (fun x => decide (key ls x = c)) = if 1 ≤ c ∧ c ≤ (n : Int) then cls ls c.toNat else []
 | 0 => by rw [if_neg (by omega)]; rfl
 | n + 1 => by
  simp only [ordN]
  rw [List.filter_append, filt_ord ls c n, filt_cls]
  by_cases h : ((n + 1 : Nat) : Int) = c
  ·rw [if_neg (by omega), if_pos h, if_pos (by omega), List.nil_append, ← h]
   rfl
  ·rw [if_neg h, List.append_nil]
   by_cases h2 : 1 ≤ c ∧ c ≤ (n : Int)
   ·rw [if_pos h2, if_pos (by omega)]
   ·rw [if_neg h2, if_neg (by omega)]
theorem filt_posn {ls : List Int} (hv : ∀ x ∈ ls, 0 ≤ x ∧ x ≤ 15) (c : Int) : (posn ls).filter (fun x => decide (key ls x = c)) = if 1 ≤ c ∧ c ≤ 15 then cls ls c.toNat else [] := by
 unfold posn
 rw [filt_map]
 by_cases h : 1 ≤ c ∧ c ≤ 15
 ·rw [if_pos h]
  unfold cls
  congr 1
  apply List.filter_congr
  intro i hi
  simp only [key, Int.toNat_natCast]
  by_cases e : ls.getD i 0 = c
  ·have e2 : ls.getD i 0 = ((c.toNat : Nat) : Int) := by omega
   have e3 : 0 < ls.getD i 0 := by omega
   simp only [e, e2, decide_true, Bool.and_true, decide_eq_true_eq]
   simp; omega
  ·have e2 : ¬ ls.getD i 0 = ((c.toNat : Nat) : Int) := by omega
   rw [decide_eq_false e, decide_eq_false e2, Bool.and_false]
 ·rw [if_neg h]
  simp only [List.map_eq_nil_iff]
  rw [List.filter_eq_nil_iff]
  intro i hi hp
  have hi := List.mem_range.1 hi
  simp only [key, Int.toNat_natCast, Bool.and_eq_true, decide_eq_true_eq] at hp
  have := hv (ls.getD i 0) (by simp [List.getD_eq_getElem?_getD, hi])
  omega
theorem ord_sd (ls : List Int) : Sd (key ls) 0 (ord ls) 0 (ord ls).length := by
 have : ∀ n, Sd (key ls) 0 (ordN ls n) 0 (ordN ls n).length ∧ ∀ x ∈ ordN ls n, key ls x ≤ (n : Int) := by
  intro n
  induction n with
  | zero => exact ⟨Sd.small (by simp [ordN]), fun x hx => by simp [ordN] at hx⟩
  | succ n ih =>
   have hle : ∀ x ∈ ordN ls n, key ls x ≤ (n : Int) := ih.2
   have hcl : ∀ x ∈ cls ls (n + 1), key ls x = ((n + 1 : Nat) : Int) := fun x hx => (cls_mem.1 hx).2.2
   refine ⟨?_, ?_⟩
   ·simp only [ordN, List.length_append]
    refine Sd.join (m := (ordN ls n).length) ?_ ?_ ?_
    ·exact ih.1.congr (fun i _ h => getD_app1 h)
    ·intro i j i1 i2 i3
     rw [getD_app2 i1, getD_app2 (by omega), hcl _ (getD_mem (by omega)), hcl _ (getD_mem (by omega))]
     exact Int.le_refl _
    ·intro i j i1 i2 i3 i4
     rw [getD_app1 i2, getD_app2 i3, hcl _ (getD_mem (by omega))]
     have := hle _ (getD_mem (d := 0) i2)
     omega
   ·intro x hx
    simp only [ordN, List.mem_append] at hx
    rcases hx with hx | hx
    ·have := hle x hx; omega
    ·have := hcl x hx; omega
 exact (this 15).1
theorem sort_ord {ls l2 : List Int} (hv : ∀ x ∈ ls, 0 ≤ x ∧ x ≤ 15) (hR : Rl (key ls) 0 (posn ls) l2 0 (posn ls).length) (hS : Sd (key ls) 0 l2 0 (posn ls).length) : l2 = ord ls := by
 refine unique (d := 0) (by rw [hR.len]; exact hS) (ord_sd ls) (fun c => ?_)
 rw [hR.same c, filt_posn hv]
 unfold ord
 rw [filt_ord]
 rfl
theorem posn_mem {ls : List Int} {x : Int} : x ∈ posn ls ↔ 0 ≤ x ∧ x.toNat < ls.length ∧ 0 < ls.getD x.toNat 0 := by
 unfold posn
 simp only [List.mem_map, List.mem_filter, List.mem_range, decide_eq_true_eq]
 constructor
 ·rintro ⟨i, ⟨h1, h2⟩, rfl⟩
  exact ⟨by omega, by simpa using h1, by simpa using h2⟩
 ·rintro ⟨h1, h2, h3⟩
  exact ⟨x.toNat, ⟨h2, h3⟩, by omega⟩
theorem cast_nodup {l : List Nat} (h : l.Nodup) : (l.map (fun i : Nat => (i : Int))).Nodup := by
 rw [List.Nodup, List.pairwise_map]
 exact List.Pairwise.imp (fun {a b} hab he => hab (Int.ofNat.inj he)) h
theorem posn_nodup (ls : List Int) : (posn ls).Nodup := cast_nodup (List.Pairwise.filter _ List.nodup_range)
theorem ordN_nodup (ls : List Int) : ∀ n, (ordN ls n).Nodup
 | 0 => by simp [ordN]
 | n + 1 => by
  simp only [ordN]
  rw [List.nodup_append]
  refine ⟨ordN_nodup ls n, cls_nodup ls _, ?_⟩
  intro a ha b hb e
  subst e
  obtain ⟨m, m1, m2, m3⟩ := ordN_mem.1 ha
  have h1 := (cls_mem.1 m3).2.2
  have h2 := (cls_mem.1 hb).2.2
  omega
theorem posn_len {ls : List Int} (hv : Vl ls) : (posn ls).length = (ord ls).length :=
 ((List.perm_ext_iff_of_nodup (posn_nodup ls) (ordN_nodup ls 15)).2 (fun x => by rw [posn_mem]; exact (ord_mem hv).symm)).length_eq
def nxt (ls : List Int) : Nat → Int
 | 0 => 0
 | k + 1 => wordOf ls ((ord ls).getD k 0).toNat + 1
def pln (ls : List Int) : Nat → Int
 | 0 => 0
 | k + 1 => (lenOf ls ((ord ls).getD k 0).toNat : Int)
theorem base_nn (ls : List Int) : ∀ n, 0 ≤ base ls n
 | 0 => by simp [base]
 | n + 1 => by
  have := base_nn ls n
  have := cnt_nonneg ls n
  simp only [base]
  omega
theorem left_base {ls : List Int} : ∀ n : Nat, n ≤ 15 → left (cntL ls) n = 2 ^ n - (base ls n + cnt ls n)
 | 0, _ => by simp [left, base, cnt]
 | n + 1, h => by
  simp only [left, base]
  rw [left_base n (by omega), cntL_get (by omega), Int.pow_succ]
  omega
theorem whole_left {C : List Int} {all : Int} (h : wholeB C all = true) {n : Nat} (hn : n ≤ 15) : 0 ≤ left C n := by
 rcases Nat.eq_zero_or_pos n with e | e
 ·subst e; simp [left]
 ·by_cases hl : left C n < 0
  ·rw [whole_no e hn hl] at h
   cases h
  ·omega
theorem word_lt {ls : List Int} {all : Int} (hw : wholeB (cntL ls) all = true) {n r : Nat} (h1 : 1 ≤ n) (h2 : n ≤ 15) (h : r < (cls ls n).length) : base ls n + (r : Int) < 2 ^ n := by
 have h3 := whole_left hw h2
 rw [left_base n h2] at h3
 have : cnt ls n = ((cls ls n).length : Int) := by unfold cnt; rw [if_neg (by omega)]
 omega
theorem pow_15 {n : Nat} (h : n ≤ 15) : (2 : Int) ^ n ≤ 32768 := by
 have : (2 : Nat) ^ n ≤ 2 ^ 15 := Nat.pow_le_pow_right (by decide) h
 have e : ((2 : Int) ^ n) = ((2 ^ n : Nat) : Int) := by simp
 rw [e]
 omega
structure At (ls : List Int) (k : Nat) (s : Nat) : Prop where
 sym : (ord ls).getD k 0 = (s : Int)
 lt : s < ls.length
 one : 1 ≤ lenOf ls s
 top : lenOf ls s ≤ 15
 len : ls.getD s 0 = (lenOf ls s : Int)
 ge : pln ls k ≤ lenOf ls s
 nn : 0 ≤ pln ls k
 word : nxt ls k * 2 ^ (lenOf ls s - (pln ls k).toNat) = wordOf ls s
 w0 : 0 ≤ wordOf ls s
 w1 : wordOf ls s < 2 ^ lenOf ls s
theorem at_k {ls : List Int} {all : Int} (hw : wholeB (cntL ls) all = true) {k : Nat} (hk : k < (ord ls).length) : ∃ s, At ls k s := by
 obtain ⟨n, r, n1, n2, hr, e⟩ := ord_cls hk
 obtain ⟨t, t1, t2, t3, t4, t5⟩ := word_at n1 n2 hr
 have hlt := word_lt hw n1 n2 hr
 have hb := base_nn ls n
 cases k with
 | zero =>
  obtain ⟨s, s1, s2, s3, s4, s5, s6⟩ := first_word hk
  have hst : s = t := by rw [e] at s1; rw [t1] at s1; omega
  subst hst
  refine ⟨s, s1, s2, s3, s4, s5, by simp [pln], by simp [pln], by simp [nxt, s6], by omega, by rw [t4, t5]; exact hlt⟩
 | succ k =>
  obtain ⟨s, u, s1, u1, s2, u2, s3, s4, s5, s6, u6, u7⟩ := next_word hk
  have hut : u = t := by rw [e] at u1; rw [t1] at u1; omega
  subst hut
  refine ⟨u, u1, u2, by omega, s5, u6, by simp only [pln]; rw [s1]; simp; exact s4, by simp only [pln]; omega, ?_, by rw [t5]; omega, by rw [t4, t5]; exact hlt⟩
  simp only [nxt, pln]
  rw [s1, u7]
  simp
def wd (ls : List Int) (s : Nat) : Int × Int := if 0 < lenOf ls s then (wordOf ls s, (lenOf ls s : Int)) else (0, 0)
def wordsK (ls : List Int) (k : Nat) : List (Int × Int) := (List.range ls.length).map (fun s : Nat => if (s : Int) ∈ (ord ls).take k then wd ls s else (0, 0))
def words (ls : List Int) : List (Int × Int) := (List.range ls.length).map (wd ls)
theorem wordsK_len (ls : List Int) (k : Nat) : (wordsK ls k).length = ls.length := by simp [wordsK]
theorem wordsK_zero (ls : List Int) : wordsK ls 0 = List.replicate ls.length (0, 0) := by
 simp [wordsK, List.map_const']
theorem wordsK_all {ls : List Int} (hv : Vl ls) {k : Nat} (hk : (ord ls).length ≤ k) : wordsK ls k = words ls := by
 unfold wordsK words
 rw [List.take_of_length_le hk]
 apply List.map_congr_left
 intro s hs
 have hs := List.mem_range.1 hs
 by_cases h : (s : Int) ∈ ord ls
 ·rw [if_pos h]
 ·rw [if_neg h]
  unfold wd
  rw [if_neg]
  intro h2
  exact h ((ord_mem hv).2 ⟨by omega, by simpa using hs, by simpa [lenOf] using h2⟩)
theorem wordsK_next {ls : List Int} {k s : Nat} (hk : k < (ord ls).length) (ha : At ls k s) : wordsK ls (k + 1) = (wordsK ls k).set s (wordOf ls s, (lenOf ls s : Int)) := by
 have e1 : (ord ls).take (k + 1) = (ord ls).take k ++ [(s : Int)] := by
  rw [List.take_succ_eq_append_getElem hk]
  congr 2
  have := ha.sym
  simpa [List.getD_eq_getElem?_getD, hk] using this
 apply List.ext_getElem?
 intro i
 rw [List.getElem?_set]
 by_cases hi : i < ls.length
 ·by_cases e : s = i
  ·subst e
   rw [if_pos rfl, if_pos (by rw [wordsK_len]; exact hi)]
   simp only [wordsK, List.getElem?_map, List.getElem?_range hi, Option.map_some]
   rw [if_pos (by rw [e1]; simp)]
   unfold wd
   rw [if_pos (by have := ha.one; omega)]
  ·rw [if_neg e]
   simp only [wordsK, List.getElem?_map, List.getElem?_range hi, Option.map_some]
   by_cases hm : (i : Int) ∈ (ord ls).take k
   ·rw [if_pos hm, if_pos (by rw [e1]; exact List.mem_append_left _ hm)]
   ·rw [if_neg hm, if_neg]
    rw [e1]
    intro h
    rcases List.mem_append.1 h with h | h
    ·exact hm h
    ·have := List.mem_singleton.1 h
     omega
 ·rw [List.getElem?_eq_none (by rw [wordsK_len]; omega)]
  have hs := ha.lt
  rw [if_neg (by omega), List.getElem?_eq_none (by rw [wordsK_len]; omega)]
theorem words_get {ls : List Int} {s : Nat} (h : s < ls.length) : (words ls).getD s (0, 0) = wd ls s := by
 simp [words, List.getD_eq_getElem?_getD, h]
theorem most_snoc {ls : List Int} {k : Nat} (h : k < ls.length) : mostL (ls.take (k + 1)) = if mostL (ls.take k) < ls[k] then ls[k] else mostL (ls.take k) := by
 unfold mostL
 rw [List.take_succ_eq_append_getElem h, List.foldl_append]
 rfl
theorem most_nn (ls : List Int) : 0 ≤ mostL ls := by
 have : ∀ (l : List Int) (a : Int), 0 ≤ a → 0 ≤ l.foldl (fun a x => if a < x then x else a) a := by
  intro l
  induction l with
  | nil => intro a h; exact h
  | cons x l ih => intro a h; simp only [List.foldl_cons]; exact ih _ (by split <;> omega)
 exact this ls 0 (Int.le_refl _)
theorem ok_take {ls : List Int} {k : Nat} (h : ∀ i, i < k → 0 ≤ ls.getD i 0 ∧ ls.getD i 0 ≤ 15) (hk : ls.length ≤ k) : ∀ x ∈ ls, 0 ≤ x ∧ x ≤ 15 := by
 intro x hx
 obtain ⟨i, hi⟩ := List.getElem?_of_mem hx
 have hlt := (List.getElem?_eq_some_iff.1 hi).1
 have := h i (by omega)
 simpa [List.getD_eq_getElem?_getD, hi] using this
theorem cntL_bound {ls : List Int} (h : ls.length ≤ 320) : ∀ i, 0 ≤ (cntL ls).getD i 0 ∧ (cntL ls).getD i 0 ≤ 320 := by
 intro i
 rcases Nat.lt_or_ge i 16 with hi | hi
 ·rw [cntL_get hi]
  have := cnt_nonneg ls i
  have := cnt_le ls i
  omega
 ·rw [List.getD_eq_getElem?_getD, List.getElem?_eq_none (by rw [cntL_len]; exact hi)]
  simp
theorem posn_at (ls : List Int) : ∀ i, i < (posn ls).length → 0 ≤ (posn ls).getD i 0 ∧ (posn ls).getD i 0 < (ls.length : Int) := by
 intro i hi
 have := posn_mem.1 (getD_mem (d := 0) hi)
 omega
theorem ok_snoc {ls : List Int} {k : Nat} (hok : ∀ i, i < k → 0 ≤ ls.getD i 0 ∧ ls.getD i 0 ≤ 15) (h : 0 ≤ ls.getD k 0 ∧ ls.getD k 0 ≤ 15) : ∀ i, i < k + 1 → 0 ≤ ls.getD i 0 ∧ ls.getD i 0 ≤ 15 := by
 intro i hi
 by_cases e : i = k
 ·subst e; exact h
 ·exact hok i (by omega)
theorem step_zero {ls : List Int} {k : Nat} {x : Int} (h : k < ls.length) (hx : x = ls[k]) (h0 : x = 0) : cntL (ls.take (k + 1)) = cntL (ls.take k) ∧ posn (ls.take (k + 1)) = posn (ls.take k) ∧ mostL (ls.take (k + 1)) = mostL (ls.take k) := by
 have hz : ls[k] = 0 := by omega
 refine ⟨cntL_same h hz, ?_, ?_⟩
 ·rw [posn_snoc h, if_neg (by omega), List.append_nil]
 ·rw [most_snoc h, if_neg]
  have := most_nn (ls.take k)
  omega
theorem step_pos {ls : List Int} {k : Nat} {x : Int} (h : k < ls.length) (hx : x = ls[k]) (h0 : 0 < x) (h1 : x ≤ 15) : (cntL (ls.take k)).set x.toNat ((cntL (ls.take k)).getD x.toNat 0 + 1) = cntL (ls.take (k + 1)) ∧ posn (ls.take k) ++ [(k : Int)] = posn (ls.take (k + 1)) ∧ (posn (ls.take k)).length + 1 = (posn (ls.take (k + 1))).length ∧ (if mostL (ls.take k) < x then x else mostL (ls.take k)) = mostL (ls.take (k + 1)) := by
 subst hx
 refine ⟨(cntL_snoc h h0 h1).symm, ?_, ?_, (most_snoc h).symm⟩
 ·rw [posn_snoc h, if_pos h0]
 ·rw [posn_snoc h, if_pos h0]; simp
theorem posn_nil : posn [] = [] := rfl
theorem most_nil : mostL [] = 0 := rfl
theorem newE_long {ls : List Int} (h : 320 < ls.length) : newE ls = 1 := if_pos h
theorem newE_bad {ls : List Int} {k : Nat} (h : ¬ 320 < ls.length) (hk : k < ls.length) (hb : ls.getD k 0 < 0 ∨ 15 < ls.getD k 0) : newE ls = 1 := by
 unfold newE
 rw [if_neg h, if_neg]
 intro ho
 unfold okB at ho
 rw [List.all_eq_true] at ho
 have := ho (ls.getD k 0) (by simp [List.getD_eq_getElem?_getD, hk])
 simp only [decide_eq_true_eq] at this
 omega
theorem newE_ok {ls : List Int} (h : ¬ 320 < ls.length) (hv : ∀ x ∈ ls, 0 ≤ x ∧ x ≤ 15) : newE ls = if wholeB (cntL ls) ((posn ls).length : Int) = true then 0 else 4 := by
 unfold newE
 rw [if_neg h, if_pos]
 unfold okB
 rw [List.all_eq_true]
 intro x hx
 simpa using hv x hx
theorem newE_vl {ls : List Int} (h : newE ls = 0) : Vl ls ∧ wholeB (cntL ls) ((posn ls).length : Int) = true := by
 unfold newE at h
 split at h
 ·omega
 ·split at h
  ·rename_i ho
   split at h
   ·rename_i hw
    refine ⟨⟨by omega, ?_⟩, hw⟩
    unfold okB at ho
    rw [List.all_eq_true] at ho
    intro x hx
    simpa using ho x hx
   ·omega
  ·omega
def lkW (ls : List Int) (x : Int) : Int := if 0 ≤ x ∧ x < ls.length then (wd ls x.toNat).1 else 0
def lkN (ls : List Int) (x : Int) : Int := if 0 ≤ x ∧ x < ls.length then (wd ls x.toNat).2 else 0
def lkB (ls : List Int) (x : Int) : Bool := decide (0 ≤ x ∧ x < ls.length ∧ (wd ls x.toNat).2 ≠ 0)
theorem wd_zero {ls : List Int} {s : Nat} (h : (wd ls s).2 = 0) : (wd ls s).1 = 0 := by
 unfold wd at h ⊢
 split at h
 ·simp at h; omega
 ·rename_i h2; rw [if_neg h2]
theorem lk_none {ls : List Int} {x : Int} (h : x < 0 ∨ (ls.length : Int) ≤ x ∨ (wd ls x.toNat).2 = 0) : lkW ls x = 0 ∧ lkN ls x = 0 ∧ lkB ls x = false := by
 unfold lkW lkN lkB
 by_cases hx : 0 ≤ x ∧ x < ls.length
 ·have h3 : (wd ls x.toNat).2 = 0 := by omega
  rw [if_pos hx, if_pos hx, wd_zero h3, h3]
  exact ⟨rfl, rfl, by simp⟩
 ·rw [if_neg hx, if_neg hx]
  refine ⟨rfl, rfl, ?_⟩
  rw [decide_eq_false_iff_not]
  omega
theorem lk_some {ls : List Int} {x : Int} (h0 : 0 ≤ x) (h1 : x < ls.length) (h : (wd ls x.toNat).2 ≠ 0) : lkW ls x = (wd ls x.toNat).1 ∧ lkN ls x = (wd ls x.toNat).2 ∧ lkB ls x = true := by
 unfold lkW lkN lkB
 rw [if_pos ⟨h0, h1⟩, if_pos ⟨h0, h1⟩]
 exact ⟨rfl, rfl, by simp [h0, h1, h]⟩
end Go.HuffP
namespace Go.HuffP
def cntZ (ls : List Int) : List Int := (List.range 16).map (fun n => ((cls ls n).length : Int))
def sy (ls : List Int) (m i : Nat) : List Int := ordN ls m ++ cls (ls.take i) (m + 1)
end Go.HuffP
namespace Go.HuffP
theorem wd_none {ls : List Int} {s : Nat} (h : ls.getD s 0 = 0) : (wd ls s).2 = 0 := by
 unfold wd
 rw [if_neg (by unfold lenOf; omega)]
def bk (ls : List Int) (n : Nat) : Nat → Int
 | 0 => base ls n
 | k + 1 => bk ls n k + 1
structure Sy (ls : List Int) (x : Int) (L r : Nat) : Prop where
 one : 1 ≤ L
 top : L ≤ 15
 lt : r < (cls ls L).length
 get : (cls ls L).getD r 0 = x
 w : lkW ls x = base ls L + (r : Int)
 n : lkN ls x = (L : Int)
 b : lkB ls x = true
theorem sym_of {ls : List Int} (hV : Vl ls) {x : Int} (h0 : 0 ≤ x) (h1 : x < ls.length) (h : ls.getD x.toNat 0 ≠ 0) : ∃ L r, Sy ls x L r := by
 have hlt : x.toNat < ls.length := by omega
 have hb := hV.2 (ls.getD x.toNat 0) (by simp [List.getD_eq_getElem?_getD, hlt])
 have hlen : ls.getD x.toNat 0 = (lenOf ls x.toNat : Int) := by unfold lenOf; omega
 obtain ⟨t, ht⟩ := cls_take hlt hlen
 have hp : 0 < lenOf ls x.toNat := by omega
 have hw : wd ls x.toNat = (wordOf ls x.toNat, (lenOf ls x.toNat : Int)) := by unfold wd; rw [if_pos hp]
 obtain ⟨e1, e2, e3⟩ := lk_some h0 h1 (by rw [hw]; simp only; omega)
 refine ⟨lenOf ls x.toNat, (cls (ls.take x.toNat) (lenOf ls x.toNat)).length, by omega, by omega, ?_, ?_, ?_, ?_, e3⟩
 ·rw [ht]; simp
 ·rw [ht, List.getD_eq_getElem?_getD, List.getElem?_append_right (Nat.le_refl _), Nat.sub_self]
  simp
  omega
 ·rw [e1, hw]; rfl
 ·rw [e2, hw]
theorem cnt_cls (ls : List Int) (m : Nat) : cnt ls (m + 1) = ((cls ls (m + 1)).length : Int) := by unfold cnt; rw [if_neg (by omega)]
theorem off_le (ls : List Int) {m k : Nat} (hm : m < 15) (hk : k < (cls ls (m + 1)).length) : off ls (m + 1) + k < (ord ls).length := by
 have h1 := off_succ ls (n := m + 1) (by omega)
 have h2 := off_mono ls (show m + 1 + 1 ≤ 16 by omega)
 rw [ord_len]
 omega
theorem full_le {ls : List Int} {all : Int} (hw : wholeB (cntL ls) all = true) {n : Nat} (hn : n ≤ 15) : base ls n + cnt ls n ≤ 32768 := by
 have h3 := whole_left hw hn
 rw [left_base n hn] at h3
 have := pow_15 hn
 omega
end Go.HuffP
namespace Go.Sl
theorem shl_word {ls : List Int} {k s : Nat} (hs : HuffP.At ls k s) {x : Int} (hx : x = (HuffP.lenOf ls s : Int)) : IntKind.i64.wrap (HuffP.nxt ls k * 2 ^ (min (x - HuffP.pln ls k).toNat IntKind.i64.bits)) = HuffP.wordOf ls s := by
 have h1 := hs.top
 have h2 := hs.nn
 have h3 := hs.ge
 have h4 := hs.w0
 have h5 := hs.w1
 have h6 := HuffP.pow_15 hs.top
 have e : min (x - HuffP.pln ls k).toNat IntKind.i64.bits = HuffP.lenOf ls s - (HuffP.pln ls k).toNat := by
  have : IntKind.i64.bits = 64 := rfl
  omega
 rw [e, hs.word]
 exact wrapI (by omega) (by omega)
theorem shl_base {ls : List Int} {all : Int} (hw : HuffP.wholeB (HuffP.cntL ls) all = true) {m : Nat} (hm : m ≤ 15) : IntKind.i64.wrap ((HuffP.base ls m + HuffP.cnt ls m) * 2 ^ (min (1 : Int).toNat IntKind.i64.bits)) = HuffP.base ls (m + 1) := by
 have h1 := HuffP.full_le hw hm
 have h2 := HuffP.base_nn ls m
 have h3 := HuffP.cnt_nonneg ls m
 rw [show min (1 : Int).toNat IntKind.i64.bits = 1 from rfl]
 simp only [HuffP.base]
 rw [Int.mul_comm 2, Int.pow_one]
 exact wrapI (by omega) (by omega)
end Go.Sl
namespace Go.HuffP
theorem base_ge (ls : List Int) {m n : Nat} (h : m < n) : (base ls m + cnt ls m) * 2 ^ (n - m) ≤ base ls n := by
 induction n with
 | zero => omega
 | succ n ih =>
  have hc := cnt_nonneg ls n
  by_cases e : m = n
  ·subst e
   rw [show m + 1 - m = 1 by omega]
   simp only [base]
   omega
  ·have := ih (by omega)
   simp only [base]
   rw [show n + 1 - m = (n - m) + 1 by omega, Int.pow_succ, ← Int.mul_assoc]
   omega
theorem pf_ok {ls : List Int} (hV : Vl ls) {x : Int} (h0 : 0 ≤ x) (h1 : x < ls.length) : lkB ls x = decide (0 < ls.getD x.toNat 0) ∧ lkN ls x = ls.getD x.toNat 0 := by
 have hlt : x.toNat < ls.length := by omega
 have hb := hV.2 (ls.getD x.toNat 0) (by simp [List.getD_eq_getElem?_getD, hlt])
 by_cases h : 0 < ls.getD x.toNat 0
 ·obtain ⟨L, r, hs⟩ := sym_of hV h0 h1 (by omega)
  have hm := hs.get
  have hin : (cls ls L)[r]? = some x := by rw [← hm]; simp [List.getD_eq_getElem?_getD, hs.lt]
  have := (cls_mem.1 (List.mem_of_getElem? hin)).2.2
  exact ⟨by rw [hs.b, decide_eq_true h], by rw [hs.n, this]⟩
 ·have hz : ls.getD x.toNat 0 = 0 := by omega
  obtain ⟨_, e2, e3⟩ := lk_none (ls := ls) (x := x) (.inr (.inr (wd_none hz)))
  exact ⟨by rw [e3, decide_eq_false h], by rw [e2, hz]⟩
structure Pf (ls : List Int) (i k : Int) : Prop where
 n1 : 1 ≤ lkN ls i
 n2 : lkN ls i ≤ 15
 m1 : 1 ≤ lkN ls k
 m2 : lkN ls k ≤ 15
 a0 : 0 ≤ lkW ls i
 a1 : lkW ls i < 32768
 b0 : 0 ≤ lkW ls k
 b1 : lkW ls k < 32768
 ge : lkN ls k ≤ lkN ls i → lkW ls k < (lkW ls i).fdiv (2 ^ (lkN ls i - lkN ls k).toNat)
 lt : lkN ls i < lkN ls k → lkW ls i < (lkW ls k).fdiv (2 ^ (lkN ls k - lkN ls i).toNat)
def fullK (ls : List Int) : Nat → Int
 | 0 => 0
 | k + 1 => fullK ls k + (if 0 < ls.getD k 0 then 2 ^ (15 - lenOf ls k) else 0)
theorem full_yes {ls : List Int} {k : Nat} (h : 0 < ls.getD k 0) : fullK ls k + 2 ^ (15 - lenOf ls k) = fullK ls (k + 1) := by simp only [fullK]; rw [if_pos h]
theorem full_no {ls : List Int} {k : Nat} (h : ¬ 0 < ls.getD k 0) : fullK ls k = fullK ls (k + 1) := by simp only [fullK]; rw [if_neg h]; omega
theorem left_one {C D : List Int} {L : Nat} (h1 : 1 ≤ L) : ∀ n : Nat, (∀ j, 1 ≤ j → j ≤ n → D.getD j 0 = C.getD j 0 + (if j = L then 1 else 0)) → left D n = left C n - (if L ≤ n then 2 ^ (n - L) else 0)
 | 0, _ => by simp [left]; omega
 | n + 1, h => by
  have ih := left_one (C := C) (D := D) h1 n (fun j j1 j2 => h j j1 (by omega))
  have hh := h (n + 1) (by omega) (Nat.le_refl _)
  simp only [left]
  rw [ih, hh]
  by_cases e : n + 1 = L
  ·subst e
   rw [if_neg (by omega), if_pos rfl, if_pos (Nat.le_refl _), Nat.sub_self, Int.pow_zero]
   omega
  ·rw [if_neg e]
   by_cases e2 : L ≤ n
   ·rw [if_pos e2, if_pos (by omega), show n + 1 - L = (n - L) + 1 by omega, Int.pow_succ]
    omega
   ·rw [if_neg e2, if_neg (by omega)]
    omega
theorem full_left {ls : List Int} (hv : ∀ x ∈ ls, 0 ≤ x ∧ x ≤ 15) : ∀ k : Nat, k ≤ ls.length → left (cntL (ls.take k)) 15 = 32768 - fullK ls k
 | 0, _ => by rw [List.take_zero, cntL_nil]; rfl
 | k + 1, h => by
  have ih := full_left hv k (by omega)
  have hk : k < ls.length := by omega
  have hg : ls.getD k 0 = ls[k] := by simp [List.getD_eq_getElem?_getD, hk]
  have hb := hv ls[k] (List.getElem_mem hk)
  by_cases e : 0 < ls[k]
  ·rw [← full_yes (by omega)]
   have hl : lenOf ls k = ls[k].toNat := by unfold lenOf; rw [hg]
   rw [hl]
   have := left_one (C := cntL (ls.take k)) (D := cntL (ls.take (k + 1))) (L := ls[k].toNat) (by omega) 15 (by
    intro j j1 j2
    rw [cntL_get (by omega), cntL_get (by omega), cnt_snoc hk]
    by_cases ej : j = ls[k].toNat
    ·rw [if_pos ej, if_pos (by omega)]
    ·rw [if_neg ej, if_neg (by omega)])
   rw [this, if_pos (by omega), ih]
   omega
  ·rw [← full_no (by omega), cntL_same hk (by omega), ih]
end Go.HuffP
namespace Go.BitP
def Byt (B : List Int) : Prop := ∀ x ∈ B, 0 ≤ x ∧ x < 256
theorem Byt.get {B : List Int} (h : Byt B) (i : Nat) : 0 ≤ B.getD i 0 ∧ B.getD i 0 < 256 := by
 rcases Nat.lt_or_ge i B.length with hi | hi
 ·exact h _ (by simp [List.getD_eq_getElem?_getD, hi])
 ·simp [List.getD_eq_getElem?_getD, hi]
def bitL (B : List Int) (i : Nat) : Int := B.getD (i / 8) 0 / 2 ^ (i % 8) % 2
theorem bitL_01 (B : List Int) (i : Nat) : 0 ≤ bitL B i ∧ bitL B i ≤ 1 := by unfold bitL; omega
def numL (B : List Int) (at_ : Nat) : Nat → Int
 | 0 => 0
 | n + 1 => numL B at_ n + bitL B (at_ + n) * 2 ^ n
theorem numL_bound (B : List Int) (at_ : Nat) : ∀ n : Nat, 0 ≤ numL B at_ n ∧ numL B at_ n < 2 ^ n
 | 0 => by simp [numL]
 | n + 1 => by
  have h := numL_bound B at_ n
  have h2 := bitL_01 B (at_ + n)
  have hp : (0 : Int) < 2 ^ n := Int.pow_pos (by decide)
  simp only [numL]
  rw [Int.pow_succ]
  have h3 : bitL B (at_ + n) = 0 ∨ bitL B (at_ + n) = 1 := by omega
  rcases h3 with e | e <;> rw [e] <;> omega
theorem pow24 {n : Nat} (h : n ≤ 24) : (2 : Int) ^ n ≤ 16777216 := by
 have : (2 : Nat) ^ n ≤ 2 ^ 24 := Nat.pow_le_pow_right (by decide) h
 have e : ((2 : Int) ^ n) = ((2 ^ n : Nat) : Int) := by simp
 rw [e]
 omega
theorem ofInt_nat (k : Nat) (a : Nat) : (BitVec.ofInt k (a : Int)).toNat = a % 2 ^ k := by
 rw [BitVec.toNat_ofInt]
 have : ((a : Int) % ((2 ^ k : Nat) : Int)) = ((a % 2 ^ k : Nat) : Int) := by simp
 omega
theorem or64 {a b : Nat} (ha : a < 2 ^ 62) (hb : b < 2 ^ 62) : IntKind.i64.wrap ((BitVec.ofInt IntKind.i64.bits (a : Int) ||| BitVec.ofInt IntKind.i64.bits (b : Int)).toNat : Int) = ((a ||| b : Nat) : Int) := by
 have e : IntKind.i64.bits = 64 := rfl
 rw [e, BitVec.toNat_or, ofInt_nat, ofInt_nat, Nat.mod_eq_of_lt (by omega), Nat.mod_eq_of_lt (by omega)]
 have := Nat.or_lt_two_pow ha hb
 exact Sl.wrapI (by omega) (by omega)
theorem or_up {x b : Int} {n : Nat} (h0 : 0 ≤ x) (h1 : x < 2 ^ n) (hb : 0 ≤ b ∧ b ≤ 1) (hn : n ≤ 24) : IntKind.i64.wrap ((BitVec.ofInt IntKind.i64.bits x ||| BitVec.ofInt IntKind.i64.bits (b * 2 ^ n)).toNat : Int) = x + b * 2 ^ n := by
 obtain ⟨a, rfl⟩ : ∃ a : Nat, x = (a : Int) := ⟨x.toNat, by omega⟩
 obtain ⟨c, rfl⟩ : ∃ c : Nat, b = (c : Int) := ⟨b.toNat, by omega⟩
 have hp := pow24 hn
 have e1 : (c : Int) * 2 ^ n = ((2 ^ n * c : Nat) : Int) := by rw [Nat.mul_comm]; simp
 have ha : a < 2 ^ n := by
  have : ((a : Nat) : Int) < ((2 ^ n : Nat) : Int) := by simpa using h1
  omega
 have hpn : 2 ^ n ≤ 16777216 := by
  have : ((2 ^ n : Nat) : Int) ≤ 16777216 := by simpa using hp
  omega
 have hc : 2 ^ n * c ≤ 16777216 := by
  have : c = 0 ∨ c = 1 := by omega
  rcases this with rfl | rfl <;> omega
 rw [e1, or64 (by omega) (by omega), Nat.or_comm, ← Nat.two_pow_add_eq_or_of_lt ha]
 omega
theorem or_low {x b : Int} (h0 : 0 ≤ x) (h1 : x < 2 ^ 40) (hb : 0 ≤ b ∧ b ≤ 1) : IntKind.i64.wrap ((BitVec.ofInt IntKind.i64.bits (2 * x) ||| BitVec.ofInt IntKind.i64.bits b).toNat : Int) = 2 * x + b := by
 obtain ⟨a, rfl⟩ : ∃ a : Nat, x = (a : Int) := ⟨x.toNat, by omega⟩
 obtain ⟨c, rfl⟩ : ∃ c : Nat, b = (c : Int) := ⟨b.toNat, by omega⟩
 have e1 : 2 * (a : Int) = ((2 ^ 1 * a : Nat) : Int) := by omega
 rw [e1, or64 (by omega) (by omega), ← Nat.two_pow_add_eq_or_of_lt (by omega)]
 omega
theorem and_one8 {x : Int} (h0 : 0 ≤ x) (h1 : x < 256) : IntKind.u8.wrap ((BitVec.ofInt IntKind.u8.bits x &&& BitVec.ofInt IntKind.u8.bits 1).toNat : Int) = x % 2 := by
 obtain ⟨a, rfl⟩ : ∃ a : Nat, x = (a : Int) := ⟨x.toNat, by omega⟩
 have e : IntKind.u8.bits = 8 := rfl
 have e1 : BitVec.ofInt 8 1 = BitVec.ofInt 8 ((1 : Nat) : Int) := rfl
 rw [e, e1, BitVec.toNat_and, ofInt_nat, ofInt_nat, Nat.mod_eq_of_lt (by omega)]
 have : a &&& (1 % 2 ^ 8) = a % 2 := Nat.and_one_is_mod a
 rw [this]
 have e2 : IntKind.u8.wrap (((a % 2 : Nat)) : Int) = ((a % 2 : Nat) : Int) % 256 := by simp [IntKind.wrap, IntKind.bits, IntKind.signed]
 rw [e2]
 omega
theorem and_one64 {x : Int} (h0 : 0 ≤ x) (h1 : x < 2 ^ 62) : IntKind.i64.wrap ((BitVec.ofInt IntKind.i64.bits x &&& BitVec.ofInt IntKind.i64.bits 1).toNat : Int) = x % 2 := by
 obtain ⟨a, rfl⟩ : ∃ a : Nat, x = (a : Int) := ⟨x.toNat, by omega⟩
 have e : IntKind.i64.bits = 64 := rfl
 have e1 : BitVec.ofInt 64 1 = BitVec.ofInt 64 ((1 : Nat) : Int) := rfl
 rw [e, e1, BitVec.toNat_and, ofInt_nat, ofInt_nat, Nat.mod_eq_of_lt (by omega)]
 have : a &&& (1 % 2 ^ 64) = a % 2 := Nat.and_one_is_mod a
 rw [this]
 exact (Sl.wrapI (by omega) (by omega)).trans (by omega)
theorem shr8 {x : Int} {k : Nat} (h0 : 0 ≤ x) (hk : k < 8) {d : Int} (hd : d = (k : Int)) : x.fdiv (2 ^ (min d.toNat IntKind.u8.bits)) = x / 2 ^ k := by
 have e : min d.toNat IntKind.u8.bits = k := by
  have : IntKind.u8.bits = 8 := rfl
  omega
 rw [e, Int.fdiv_eq_ediv_of_nonneg _ (Int.le_of_lt (Int.pow_pos (by decide)))]
theorem shl24 {b : Int} {n : Nat} (hb : 0 ≤ b ∧ b ≤ 1) (hn : n ≤ 24) {d : Int} (hd : d = (n : Int)) : IntKind.i64.wrap (b * 2 ^ (min d.toNat IntKind.i64.bits)) = b * 2 ^ n := by
 have e : min d.toNat IntKind.i64.bits = n := by
  have : IntKind.i64.bits = 64 := rfl
  omega
 rw [e]
 have hp := pow24 hn
 have h0 : (0 : Int) < 2 ^ n := Int.pow_pos (by decide)
 have h3 : b = 0 ∨ b = 1 := by omega
 rcases h3 with e | e <;> rw [e] <;> exact Sl.wrapI (by omega) (by omega)
theorem shl1 {x : Int} (h0 : 0 ≤ x) (h1 : x < 2 ^ 40) : IntKind.i64.wrap (x * 2 ^ (min (1 : Int).toNat IntKind.i64.bits)) = 2 * x := by
 rw [show min (1 : Int).toNat IntKind.i64.bits = 1 from rfl, Int.pow_one]
 rw [Sl.wrapI (by omega) (by omega)]
 omega
theorem div_byte {x : Int} (h0 : 0 ≤ x) (h1 : x < 256) (k : Nat) : 0 ≤ x / 2 ^ k ∧ x / 2 ^ k < 256 := by
 have hp : (0 : Int) < 2 ^ k := Int.pow_pos (by decide)
 have h2 := Int.ediv_nonneg h0 (Int.le_of_lt hp)
 have h3 := Int.ediv_le_self (2 ^ k) h0
 omega
end Go.BitP
namespace Go.Sl
theorem wrap8 {n : Int} (h1 : 0 ≤ n) (h2 : n < 256) : IntKind.u8.wrap n = n := by
 have e : IntKind.u8.wrap n = n % 256 := by simp [IntKind.wrap, IntKind.bits, IntKind.signed]
 rw [e]; omega
end Go.Sl
namespace Go.BitP
def acc (B : List Int) (at_ : Nat) : Nat → Int
 | 0 => 0
 | n + 1 => 2 * acc B at_ n + bitL B (at_ + n)
theorem acc_bound (B : List Int) (at_ : Nat) : ∀ n : Nat, 0 ≤ acc B at_ n ∧ acc B at_ n < 2 ^ n
 | 0 => by simp [acc]
 | n + 1 => by
  have h := acc_bound B at_ n
  have h2 := bitL_01 B (at_ + n)
  simp only [acc]
  rw [Int.pow_succ]
  omega
theorem numL_one (B : List Int) (a : Nat) : numL B a 1 = bitL B a := by simp [numL]
end Go.BitP
namespace Go.HuffP
open Go.BitP
inductive TR where
 | hit (n : Nat) (s : Int)
 | short (n : Nat)
 | none_ (n : Nat)
def tkGo (ls B : List Int) (at_ : Nat) : Nat → Nat → TR
 | 0, n => .none_ n
 | r + 1, n => if at_ + n < 8 * B.length then (if acc B at_ (n + 1) - base ls (n + 1) < cnt ls (n + 1) then .hit (n + 1) ((ord ls).getD (off ls (n + 1) + (acc B at_ (n + 1) - base ls (n + 1)).toNat) 0) else tkGo ls B at_ r (n + 1)) else .short n
def mst (ls : List Int) : Nat := (mostL ls).toNat
def tk (ls B : List Int) (at_ : Nat) : TR := tkGo ls B at_ (mst ls) 0
structure Tk (ls B : List Int) (at_ n : Nat) : Prop where
 le : n ≤ mst ls
 eq : tk ls B at_ = tkGo ls B at_ (mst ls - n) n
 ge : base ls n + cnt ls n ≤ acc B at_ n
 room : at_ + n ≤ 8 * B.length
theorem tk_start {ls B : List Int} {at_ : Nat} (h : at_ ≤ 8 * B.length) : Tk ls B at_ 0 := ⟨Nat.zero_le _, rfl, by simp [base, cnt, acc], h⟩
section
variable {ls B : List Int} {at_ n : Nat}
theorem Tk.none (h : Tk ls B at_ n) (hm : mst ls ≤ n) : tk ls B at_ = .none_ n := by
 rw [h.eq, show mst ls - n = 0 by omega]; rfl
theorem Tk.short (h : Tk ls B at_ n) (hm : n < mst ls) (hx : 8 * B.length ≤ at_ + n) : tk ls B at_ = .short n := by
 rw [h.eq, show mst ls - n = (mst ls - (n + 1)) + 1 by omega]
 simp only [tkGo]
 rw [if_neg (by omega)]
theorem Tk.hit (h : Tk ls B at_ n) (hm : n < mst ls) (hx : at_ + n < 8 * B.length) (hl : acc B at_ (n + 1) - base ls (n + 1) < cnt ls (n + 1)) : tk ls B at_ = .hit (n + 1) ((ord ls).getD (off ls (n + 1) + (acc B at_ (n + 1) - base ls (n + 1)).toNat) 0) := by
 rw [h.eq, show mst ls - n = (mst ls - (n + 1)) + 1 by omega]
 simp only [tkGo]
 rw [if_pos hx, if_pos hl]
theorem Tk.miss (h : Tk ls B at_ n) (hm : n < mst ls) (hx : at_ + n < 8 * B.length) (hl : ¬ acc B at_ (n + 1) - base ls (n + 1) < cnt ls (n + 1)) : Tk ls B at_ (n + 1) := by
 refine ⟨hm, ?_, by omega, by omega⟩
 rw [h.eq, show mst ls - n = (mst ls - (n + 1)) + 1 by omega]
 simp only [tkGo]
 rw [if_pos hx, if_neg hl]
theorem Tk.nn (h : Tk ls B at_ n) : base ls (n + 1) ≤ acc B at_ (n + 1) := by
 have h1 := h.ge
 have h2 := bitL_01 B (at_ + n)
 simp only [base, acc]
 omega
end
theorem most_ge (ls : List Int) : ∀ x ∈ ls, x ≤ mostL ls := by
 have key : ∀ (l : List Int) (a : Int), a ≤ l.foldl (fun a x => if a < x then x else a) a ∧ ∀ x ∈ l, x ≤ l.foldl (fun a x => if a < x then x else a) a := by
  intro l
  induction l with
  | nil => intro a; exact ⟨Int.le_refl _, fun x hx => by cases hx⟩
  | cons y l ih =>
   intro a
   simp only [List.foldl_cons]
   obtain ⟨h1, h2⟩ := ih (if a < y then y else a)
   refine ⟨Int.le_trans (by split <;> omega) h1, fun x hx => ?_⟩
   rcases List.mem_cons.1 hx with rfl | hx
   ·exact Int.le_trans (by split <;> omega) h1
   ·exact h2 x hx
 exact (key ls 0).2
theorem most_in (ls : List Int) : mostL ls = 0 ∨ mostL ls ∈ ls := by
 have key : ∀ (l : List Int) (a : Int), l.foldl (fun a x => if a < x then x else a) a = a ∨ l.foldl (fun a x => if a < x then x else a) a ∈ l := by
  intro l
  induction l with
  | nil => intro a; exact .inl rfl
  | cons y l ih =>
   intro a
   simp only [List.foldl_cons]
   rcases ih (if a < y then y else a) with h | h
   ·rw [h]
    split
    ·exact .inr (List.mem_cons_self ..)
    ·exact .inl rfl
   ·exact .inr (List.mem_cons_of_mem _ h)
 exact key ls 0
theorem mst_le {ls : List Int} (hV : Vl ls) : mst ls ≤ 15 := by
 unfold mst
 rcases most_in ls with h | h
 ·omega
 ·have := hV.2 _ h; omega
theorem mst_eq (ls : List Int) : mostL ls = (mst ls : Int) := by
 have := most_nn ls
 unfold mst; omega
theorem off_16 {ls : List Int} (hV : Vl ls) {m : Nat} (hm : m ≤ 15) : off ls (m + 1) ≤ 320 := by
 have h1 := off_mono ls (show m + 1 ≤ 16 by omega)
 have h2 := posn_len hV
 have h3 := posn_le ls
 have h4 := hV.1
 rw [ord_len] at h2
 omega
theorem cntL_i {ls : List Int} {m : Nat} (hm : m < 15) : (cntL ls).getD ((m : Int) + 1).toNat 0 = cnt ls (m + 1) := by
 rw [show ((m : Int) + 1).toNat = m + 1 by omega, cntL_get (by omega)]
theorem hit_at {ls : List Int} {m : Nat} {a : Int} (hm : m < 15) (h0 : base ls (m + 1) ≤ a) (hl : a - base ls (m + 1) < cnt ls (m + 1)) : off ls (m + 1) + (a - base ls (m + 1)).toNat < (ord ls).length := by
 have := cnt_cls ls m
 exact off_le ls hm (by omega)
end Go.HuffP
namespace Go.BitP
structure Pk (bs out : List Int) (fr : Nat) : Prop where
 le : fr ≤ 8
 len : 8 * out.length = bs.length + fr
 byt : Byt out
 get : ∀ i, i < bs.length → bitL out i = bs.getD i 0
 zero : ∀ i, bs.length ≤ i → bitL out i = 0
theorem pk_nil : Pk [] [] 0 := ⟨by omega, rfl, (fun x hx => by cases hx), (fun i hi => by cases hi), (fun i _ => by simp [bitL])⟩
theorem pk_room {bs out : List Int} (h : Pk bs out 0) : Pk bs (out ++ [0]) 8 := by
 have hl := h.len
 refine ⟨by omega, by simp; omega, ?_, ?_, ?_⟩
 ·intro x hx
  rcases List.mem_append.1 hx with hx | hx
  ·exact h.byt x hx
  ·have := List.mem_singleton.1 hx; omega
 ·intro i hi
  rw [← h.get i hi]
  unfold bitL
  congr 2
  simp only [List.getD_eq_getElem?_getD]
  rw [List.getElem?_append_left (by omega)]
 ·intro i hi
  unfold bitL
  have : (out ++ [0]).getD (i / 8) 0 = 0 := by
   simp only [List.getD_eq_getElem?_getD]
   rw [List.getElem?_append_right (by omega)]
   cases hk : i / 8 - out.length with
   | zero => rfl
   | succ k => rfl
  rw [this]
  simp
theorem div_mod2 (x q : Nat) : x / 2 ^ q % 2 = (x.testBit q).toNat := by
 rw [Nat.testBit_eq_decide_div_mod_eq]
 rcases Nat.mod_two_eq_zero_or_one (x / 2 ^ q) with h | h <;> rw [h] <;> rfl
theorem lor_bit {x b p : Nat} (hb : b ≤ 1) (hz : x / 2 ^ p % 2 = 0) (q : Nat) : (x ||| b * 2 ^ p) / 2 ^ q % 2 = if q = p then b else x / 2 ^ q % 2 := by
 rw [div_mod2] at hz
 rw [div_mod2, div_mod2, Nat.testBit_or]
 have hb2 : (b * 2 ^ p).testBit q = (decide (q = p) && decide (b = 1)) := by
  have : b = 0 ∨ b = 1 := by omega
  rcases this with rfl | rfl
  ·simp
  ·rw [Nat.one_mul, Nat.testBit_two_pow]
   by_cases e : p = q
   ·subst e; simp
   ·simp [e, Ne.symm e]
 rw [hb2]
 by_cases e : q = p
 ·subst e
  rw [if_pos rfl]
  cases hx : x.testBit q with
  | true => rw [hx] at hz; cases hz
  | false =>
   have : b = 0 ∨ b = 1 := by omega
   rcases this with rfl | rfl <;> simp
 ·rw [if_neg e]
  simp [e]
theorem lor_lt {x b p : Nat} (hx : x < 256) (hb : b ≤ 1) (hp : p < 8) : x ||| b * 2 ^ p < 256 := by
 have h2 : b * 2 ^ p < 2 ^ 8 := by
  have h3 : 2 ^ p ≤ 2 ^ 7 := Nat.pow_le_pow_right (by decide) (by omega)
  have : b = 0 ∨ b = 1 := by omega
  rcases this with rfl | rfl <;> omega
 exact Nat.or_lt_two_pow (n := 8) hx h2
theorem or8 {a b : Nat} (ha : a < 256) (hb : b < 256) : IntKind.u8.wrap ((BitVec.ofInt IntKind.u8.bits (a : Int) ||| BitVec.ofInt IntKind.u8.bits (b : Int)).toNat : Int) = ((a ||| b : Nat) : Int) := by
 have e : IntKind.u8.bits = 8 := rfl
 rw [e, BitVec.toNat_or, ofInt_nat, ofInt_nat, Nat.mod_eq_of_lt (by omega), Nat.mod_eq_of_lt (by omega)]
 have := Nat.or_lt_two_pow (n := 8) ha hb
 have e2 : ∀ n : Nat, n < 256 → IntKind.u8.wrap (n : Int) = (n : Int) := fun n hn => Sl.wrap8 (by omega) (by omega)
 exact e2 _ this
def orB (x b : Int) (p : Nat) : Int := ((x.toNat ||| b.toNat * 2 ^ p : Nat) : Int)
theorem or_put {x b : Int} {p : Nat} (hx : 0 ≤ x ∧ x < 256) (hb : 0 ≤ b ∧ b ≤ 1) (hp : p < 8) : IntKind.u8.wrap ((BitVec.ofInt IntKind.u8.bits x ||| BitVec.ofInt IntKind.u8.bits (b * 2 ^ p)).toNat : Int) = orB x b p := by
 obtain ⟨a, rfl⟩ : ∃ a : Nat, x = (a : Int) := ⟨x.toNat, by omega⟩
 obtain ⟨c, rfl⟩ : ∃ c : Nat, b = (c : Int) := ⟨b.toNat, by omega⟩
 have e : (c : Int) * 2 ^ p = ((c * 2 ^ p : Nat) : Int) := by simp
 have h2 : c * 2 ^ p < 256 := by
  have h3 : 2 ^ p ≤ 2 ^ 7 := Nat.pow_le_pow_right (by decide) (by omega)
  have : c = 0 ∨ c = 1 := by omega
  rcases this with rfl | rfl <;> omega
 rw [e, or8 (by omega) h2]
 rfl
theorem shl8 {b : Int} {p : Nat} (hb : 0 ≤ b ∧ b ≤ 1) (hp : p < 8) {d : Int} (hd : d = (p : Int)) : IntKind.u8.wrap (b * 2 ^ (min d.toNat IntKind.u8.bits)) = b * 2 ^ p := by
 have e : min d.toNat IntKind.u8.bits = p := by
  have : IntKind.u8.bits = 8 := rfl
  omega
 rw [e]
 have hp2 : (2 : Nat) ^ p ≤ 2 ^ 7 := Nat.pow_le_pow_right (by decide) (by omega)
 have e2 : ((2 : Int) ^ p) = ((2 ^ p : Nat) : Int) := by simp
 have h0 : (0 : Int) < 2 ^ p := Int.pow_pos (by decide)
 have h3 : b = 0 ∨ b = 1 := by omega
 rcases h3 with e | e <;> rw [e] <;> exact Sl.wrap8 (by omega) (by omega)
theorem pk_put {bs out : List Int} {fr : Nat} {b : Int} (h : Pk bs out fr) (h1 : 1 ≤ fr) (hb : 0 ≤ b ∧ b ≤ 1) : Pk (bs ++ [b]) (out.set (out.length - 1) (orB (out.getD (out.length - 1) 0) b (8 - fr))) (fr - 1) := by
 have hle := h.le
 have hl := h.len
 have hx := h.byt.get (out.length - 1)
 have hz := h.zero bs.length (Nat.le_refl _)
 have e1 : bs.length / 8 = out.length - 1 := by omega
 have e2 : bs.length % 8 = 8 - fr := by omega
 unfold bitL at hz
 rw [e1, e2] at hz
 obtain ⟨x, hxe⟩ : ∃ x : Nat, out.getD (out.length - 1) 0 = (x : Int) := ⟨(out.getD (out.length - 1) 0).toNat, by omega⟩
 obtain ⟨c, rfl⟩ : ∃ c : Nat, b = (c : Int) := ⟨b.toNat, by omega⟩
 rw [hxe] at hz hx
 have ez : ∀ q : Nat, (x : Int) / 2 ^ q % 2 = ((x / 2 ^ q % 2 : Nat) : Int) := fun q => by simp
 rw [ez] at hz
 have hor : orB (out.getD (out.length - 1) 0) (c : Int) (8 - fr) = ((x ||| c * 2 ^ (8 - fr) : Nat) : Int) := by rw [hxe]; simp only [orB, Int.toNat_natCast]
 rw [hor]
 have hbit : ∀ i, bitL (out.set (out.length - 1) ((x ||| c * 2 ^ (8 - fr) : Nat) : Int)) i = if i = bs.length then (c : Int) else bitL out i := by
  intro i
  unfold bitL
  simp only [List.getD_eq_getElem?_getD, List.getElem?_set]
  by_cases hi : out.length - 1 = i / 8
  ·rw [if_pos hi, if_pos (by omega)]
   simp only [Option.getD_some]
   have e3 : ((x ||| c * 2 ^ (8 - fr) : Nat) : Int) / 2 ^ (i % 8) % 2 = (((x ||| c * 2 ^ (8 - fr)) / 2 ^ (i % 8) % 2 : Nat) : Int) := by simp
   rw [e3, lor_bit (by omega) (by omega)]
   by_cases hq : i % 8 = 8 - fr
   ·rw [if_pos hq, if_pos (by omega)]
   ·rw [if_neg hq, if_neg (by omega), ← hi]
    rw [List.getD_eq_getElem?_getD] at hxe
    rw [hxe, ez]
  ·rw [if_neg hi, if_neg (by omega)]
 refine ⟨by omega, by simp; omega, ?_, ?_, ?_⟩
 ·intro y hy
  rcases List.mem_or_eq_of_mem_set hy with hy | rfl
  ·exact h.byt y hy
  ·have := lor_lt (x := x) (b := c) (p := 8 - fr) (by omega) (by omega) (by omega)
   omega
 ·intro i hi
  rw [hbit]
  simp at hi
  by_cases e : i = bs.length
  ·subst e
   rw [if_pos rfl]
   simp [List.getD_eq_getElem?_getD]
  ·rw [if_neg e, h.get i (by omega)]
   simp only [List.getD_eq_getElem?_getD]
   rw [List.getElem?_append_left (by omega)]
 ·intro i hi
  rw [hbit]
  simp at hi
  rw [if_neg (by omega)]
  exact h.zero i (by omega)
end Go.BitP
namespace Go.HuffP
open Go.BitP
def wb (ls : List Int) (s : Int) : List Int := (List.range (lkN ls s).toNat).map (fun i => lkW ls s / 2 ^ ((lkN ls s).toNat - 1 - i) % 2)
theorem wb_len (ls : List Int) (s : Int) : (wb ls s).length = (lkN ls s).toNat := by simp [wb]
theorem wb_get {ls : List Int} {s : Int} {i : Nat} (h : i < (lkN ls s).toNat) : (wb ls s).getD i 0 = lkW ls s / 2 ^ ((lkN ls s).toNat - 1 - i) % 2 := by
 simp [wb, List.getD_eq_getElem?_getD, h]
theorem div_half {W : Int} {k : Nat} (h : 1 ≤ k) : W / 2 ^ (k - 1) = 2 * (W / 2 ^ k) + W / 2 ^ (k - 1) % 2 := by
 have : W / 2 ^ k = W / 2 ^ (k - 1) / 2 := by
  rw [Int.ediv_ediv_of_nonneg (Int.le_of_lt (Int.pow_pos (by decide)))]
  congr 1
  rw [← Int.pow_succ]
  congr 1
  omega
 rw [this]
 omega
theorem tk_word {ls B : List Int} {at_ : Nat} {s : Int} (hE : newE ls = 0) (h0 : 0 ≤ s) (h1 : s < ls.length) (hb : lkB ls s = true) (hg : ∀ i, i < (wb ls s).length → bitL B (at_ + i) = (wb ls s).getD i 0) (hr : at_ + (wb ls s).length ≤ 8 * B.length) : tk ls B at_ = .hit (wb ls s).length s := by
 obtain ⟨hV, hW⟩ := newE_vl hE
 have hp : 0 < ls.getD s.toNat 0 := by rw [(pf_ok hV h0 h1).1, decide_eq_true_eq] at hb; exact hb
 obtain ⟨L, r, hs⟩ := sym_of hV h0 h1 (by omega)
 have hn : (lkN ls s).toNat = L := by rw [hs.n]; omega
 have hwl := wb_len ls s
 rw [hn] at hwl
 rw [hwl] at hg hr ⊢
 have w1 := word_lt hW hs.one hs.top hs.lt
 have b1 := base_nn ls L
 have i1 := hs.one
 have i2 := hs.top
 have hL : L ≤ mst ls := by
  have h2 : ls.getD s.toNat 0 = (L : Int) := by rw [← (pf_ok hV h0 h1).2, hs.n]
  have h3 := most_ge ls (ls.getD s.toNat 0) (by
   have hlt : s.toNat < ls.length := by omega
   simp [List.getD_eq_getElem?_getD, hlt])
  have := mst_eq ls
  omega
 have hacc : ∀ m, m ≤ L → acc B at_ m = (base ls L + (r : Int)) / 2 ^ (L - m) := by
  intro m
  induction m with
  | zero =>
   intro _
   rw [Nat.sub_zero, Int.ediv_eq_zero_of_lt (by omega) w1]
   rfl
  | succ m ih =>
   intro hm
   simp only [acc]
   rw [ih (by omega), hg m (by omega), wb_get (by omega), hn, hs.w, show L - 1 - m = (L - m) - 1 by omega, show L - (m + 1) = (L - m) - 1 by omega]
   exact (div_half (by omega)).symm
 have htk : ∀ m, m < L → Tk ls B at_ m := by
  intro m
  induction m with
  | zero => exact fun _ => tk_start (by omega)
  | succ m ih =>
   intro hm
   refine (ih (by omega)).miss (by omega) (by omega) ?_
   rw [hacc (m + 1) (by omega)]
   have h4 := base_ge ls hm
   have hpp : (0 : Int) < 2 ^ (L - (m + 1)) := Int.pow_pos (by decide)
   have : base ls (m + 1) + cnt ls (m + 1) ≤ (base ls L + (r : Int)) / 2 ^ (L - (m + 1)) := by
    rw [Int.le_ediv_iff_mul_le hpp]
    omega
   omega
 have hT := htk (L - 1) (by omega)
 have e1 : L - 1 + 1 = L := by omega
 have hc : cnt ls L = ((cls ls L).length : Int) := by unfold cnt; rw [if_neg (by omega)]
 have hlt := hs.lt
 have hL2 := hacc L (Nat.le_refl _)
 rw [Nat.sub_self, Int.pow_zero, Int.ediv_one] at hL2
 have := hT.hit (by omega) (by omega) (by rw [e1, hL2]; omega)
 rw [e1, hL2, show (base ls L + (r : Int) - base ls L).toNat = r by omega, ord_get i1 i2 hlt, hs.get] at this
 exact this
def ins (ls syms : List Int) : List Int := (syms.map (· % 330)).filter (fun s => decide (s < ls.length) && lkB ls s)
def bits (ls : List Int) (l : List Int) : List Int := l.flatMap (wb ls)
theorem bits_nil (ls : List Int) : bits ls [] = [] := rfl
theorem bits_snoc (ls l : List Int) (s : Int) : bits ls (l ++ [s]) = bits ls l ++ wb ls s := by simp [bits]
theorem wb_01 {ls : List Int} {s : Int} : ∀ b ∈ wb ls s, 0 ≤ b ∧ b ≤ 1 := by
 intro b hb
 unfold wb at hb
 obtain ⟨i, _, rfl⟩ := List.mem_map.1 hb
 omega
theorem wb_take {ls : List Int} {s : Int} {k : Nat} (h : k < (lkN ls s).toNat) : (wb ls s).take k ++ [lkW ls s / 2 ^ ((lkN ls s).toNat - 1 - k) % 2] = (wb ls s).take (k + 1) := by
 have hk : k < (wb ls s).length := by rw [wb_len]; exact h
 rw [List.take_succ_eq_append_getElem hk]
 congr 2
 have := wb_get h
 simpa [List.getD_eq_getElem?_getD, hk] using this.symm
theorem has_cases {ls : List Int} (hV : Vl ls) {s : Int} (h0 : 0 ≤ s) : ((ls.length : Int) ≤ s ∧ lkB ls s = false) ∨ (s < ls.length ∧ 0 < ls.getD s.toNat 0 ∧ lkB ls s = true) ∨ (s < ls.length ∧ ¬ 0 < ls.getD s.toNat 0 ∧ lkB ls s = false) := by
 by_cases h1 : s < ls.length
 ·have := (pf_ok hV h0 h1).1
  by_cases h2 : 0 < ls.getD s.toNat 0
  ·exact .inr (.inl ⟨h1, h2, by rw [this, decide_eq_true h2]⟩)
  ·exact .inr (.inr ⟨h1, h2, by rw [this, decide_eq_false h2]⟩)
 ·exact .inl ⟨by omega, (lk_none (.inr (.inl (by omega)))).2.2⟩
theorem word_small {ls : List Int} {all : Int} (hV : Vl ls) (hW : wholeB (cntL ls) all = true) {s : Int} (hb : lkB ls s = true) : 0 ≤ lkW ls s ∧ lkW ls s < 32768 ∧ 1 ≤ lkN ls s ∧ lkN ls s ≤ 15 := by
 by_cases h0 : 0 ≤ s ∧ s < ls.length
 ·have hp : 0 < ls.getD s.toNat 0 := by rw [(pf_ok hV h0.1 h0.2).1, decide_eq_true_eq] at hb; exact hb
  obtain ⟨L, r, hs⟩ := sym_of hV h0.1 h0.2 (by omega)
  have w1 := word_lt hW hs.one hs.top hs.lt
  have b1 := base_nn ls L
  have p1 := pow_15 hs.top
  have i1 := hs.one
  have i2 := hs.top
  rw [hs.w, hs.n]
  omega
 ·rw [(lk_none (x := s) (by omega)).2.2] at hb; cases hb
theorem lkN_le {ls : List Int} (hV : Vl ls) (s : Int) : 0 ≤ lkN ls s ∧ lkN ls s ≤ 15 := by
 by_cases h0 : 0 ≤ s ∧ s < ls.length
 ·rw [(pf_ok hV h0.1 h0.2).2]
  have hlt : s.toNat < ls.length := by omega
  exact hV.2 _ (by simp [List.getD_eq_getElem?_getD, hlt])
 ·rw [(lk_none (ls := ls) (x := s) (by omega)).2.1]; omega
theorem bits_len {ls : List Int} (hV : Vl ls) : ∀ l : List Int, (bits ls l).length ≤ 15 * l.length
 | [] => by simp [bits]
 | s :: l => by
  have := bits_len hV l
  have h2 := lkN_le hV s
  have h3 := wb_len ls s
  simp only [bits, List.flatMap_cons, List.length_append, List.length_cons] at this ⊢
  omega
end Go.HuffP
namespace Go.BitP
def lowB (x : Int) (n : Nat) : List Int := (List.range n).map (fun i => x / 2 ^ i % 2)
theorem lowB_zero (x : Int) : lowB x 0 = [] := rfl
theorem lowB_snoc (x : Int) (n : Nat) : lowB x n ++ [x / 2 ^ n % 2] = lowB x (n + 1) := by simp [lowB, List.range_succ]
theorem lowB_len (x : Int) (n : Nat) : (lowB x n).length = n := by simp [lowB]
theorem lowB_one (x : Int) : lowB x 1 = [x % 2] := by simp [lowB]
theorem shrI {x : Int} {k : Nat} (hk : k ≤ 60) {d : Int} (hd : d = (k : Int)) : x.fdiv (2 ^ (min d.toNat IntKind.i64.bits)) = x / 2 ^ k := by
 have e : min d.toNat IntKind.i64.bits = k := by
  have : IntKind.i64.bits = 64 := rfl
  omega
 rw [e, Int.fdiv_eq_ediv_of_nonneg _ (Int.le_of_lt (Int.pow_pos (by decide)))]
theorem div_nn {x : Int} (h0 : 0 ≤ x) (k : Nat) : 0 ≤ x / 2 ^ k ∧ x / 2 ^ k ≤ x := ⟨Int.ediv_nonneg h0 (Int.le_of_lt (Int.pow_pos (by decide))), Int.ediv_le_self _ h0⟩
end Go.BitP
namespace Go.InfP
open Go.BitP Go.HuffP
structure St where
 at_ : Nat
 out : List Int
 kind : Int
 left : Nat
 last : Bool
 lits : List Int
 dist : List Int
 copies : Nat
 far : Nat
 ended : Bool
def fixL : List Int := List.replicate 144 8 ++ List.replicate 112 9 ++ List.replicate 24 7 ++ List.replicate 8 8
def fixD : List Int := List.replicate 32 5
def sym (ls B : List Int) (a : Nat) : Except Int (Int × Nat) := match tk ls B a with
 | .hit n s => .ok (s, a + n)
 | .short _ => .error 2
 | .none_ _ => .error 4
def alg (a : Nat) : Nat := (a + 7) / 8 * 8
def ordr : List Int := [16, 17, 18, 0, 8, 7, 9, 6, 10, 5, 11, 4, 12, 3, 13, 2, 14, 1, 15]
def frs (B : List Int) (a : Nat) : Nat → List Int
 | 0 => List.replicate 19 0
 | i + 1 => (frs B a i).set (ordr.getD i 0).toNat (numL B (a + 3 * i) 3)
def rpB (s : Int) : Nat := if s = 16 then 2 else if s = 17 then 3 else 7
def rpL (s : Int) : Int := if s = 18 then 11 else 3
def rpW (s : Int) (l : List Int) : Int := if s = 16 then l.getD (l.length - 1) 0 else 0
def rep (B : List Int) (s : Int) (l : List Int) (a : Nat) : Except Int (Int × Int × Nat) :=
 if s < 16 then .ok (s, 1, a) else if 8 * B.length < a + rpB s then .error 2 else if s = 16 ∧ l = [] then .error 4 else .ok (rpW s l, rpL s + numL B a (rpB s), a + rpB s)
def lnStep (B c l : List Int) (a : Nat) : Except Int (List Int × Nat) := match sym c B a with
 | .error e => .error e
 | .ok (s, a) => match rep B s l a with
  | .error e => .error e
  | .ok (x, n, a) => .ok (l ++ List.replicate n.toNat x, a)
def lnGo (B c : List Int) (tot : Nat) : Nat → List Int → Nat → Except Int (List Int × Nat)
 | 0, l, a => .ok (l, a)
 | f + 1, l, a => if l.length < tot then (match lnStep B c l a with
  | .error e => .error e
  | .ok (l', a') => if l'.length ≤ tot then lnGo B c tot f l' a' else .error 4) else .ok (l, a)
def hL (B : List Int) (a : Nat) : Nat := 257 + (numL B a 5).toNat
def hD (B : List Int) (a : Nat) : Nat := 1 + (numL B (a + 5) 5).toNat
def hC (B : List Int) (a : Nat) : Nat := 4 + (numL B (a + 10) 4).toNat
def told (B : List Int) (a : Nat) : Except Int (Nat × List Int × List Int) :=
 if 8 * B.length < a + 14 then .error 2 else
 if ¬ (hL B a ≤ 286 ∧ hD B a ≤ 30) then .error 4 else
 if 8 * B.length < a + 14 + 3 * hC B a then .error 2 else
 if newE (frs B (a + 14) (hC B a)) ≠ 0 then .error 4 else
 match lnGo B (frs B (a + 14) (hC B a)) (hL B a + hD B a) (hL B a + hD B a) [] (a + 14 + 3 * hC B a) with
 | .error e => .error e
 | .ok (l, a') => if newE (l.take (hL B a)) ≠ 0 ∨ newE (l.drop (hL B a)) ≠ 0 ∨ l.getD 256 0 = 0 then .error 4 else .ok (a', l.take (hL B a), l.drop (hL B a))
def begin_ (B : List Int) (s : St) : Except Int St :=
 if 8 * B.length < s.at_ + 3 then .error 2 else
 if numL B (s.at_ + 1) 2 = 0 then
  (if 8 * B.length < alg (s.at_ + 3) + 32 then .error 2 else
   if numL B (alg (s.at_ + 3)) 16 = 65535 - numL B (alg (s.at_ + 3) + 16) 16 then .ok { s with at_ := alg (s.at_ + 3) + 32, kind := 0, left := (numL B (alg (s.at_ + 3)) 16).toNat, last := decide (numL B s.at_ 1 = 1) } else .error 4) else
 if numL B (s.at_ + 1) 2 = 1 then .ok { s with at_ := s.at_ + 3, kind := 1, last := decide (numL B s.at_ 1 = 1), lits := fixL, dist := fixD } else
 if numL B (s.at_ + 1) 2 = 2 then (match told B (s.at_ + 3) with
  | .error e => .error e
  | .ok (a, l, d) => .ok { s with at_ := a, kind := 2, last := decide (numL B s.at_ 1 = 1), lits := l, dist := d }) else .error 4
def lnB (s : Int) : Int := if s < 8 then 3 + s else if s = 28 then 258 else 3 + (4 + s % 4) * 2 ^ (s / 4 - 1).toNat
def lnM (s : Int) : Nat := if s < 8 ∨ s = 28 then 0 else (s / 4 - 1).toNat
def dsB (d : Int) : Int := if d < 4 then 1 + d else 1 + (2 + d % 2) * 2 ^ (d / 2 - 1).toNat
def dsM (d : Int) : Nat := if d < 4 then 0 else (d / 2 - 1).toNat
def put_ (most : Int) (s : St) (y : Int) : Except Int St := if (s.out.length : Int) < most then .ok { s with out := s.out ++ [y] } else .error 6
def coded (B : List Int) (most : Int) (s : St) : Except Int St := match sym s.lits B s.at_ with
 | .error e => .error e
 | .ok (y, a) =>
  if y < 256 then put_ most { s with at_ := a } y else
  if y = 256 then .ok { s with at_ := a, kind := -1, ended := s.last } else
  if 286 ≤ y then .error 4 else
  if 8 * B.length < a + lnM (y - 257) then .error 2 else
  match sym s.dist B (a + lnM (y - 257)) with
  | .error e => .error e
  | .ok (d, a3) => if 30 ≤ d then .error 4 else if 8 * B.length < a3 + dsM d then .error 2 else
   if dsB d + numL B a3 (dsM d) ≤ s.out.length then .ok { s with at_ := a3 + dsM d, copies := (lnB (y - 257) + numL B a (lnM (y - 257))).toNat, far := (dsB d + numL B a3 (dsM d)).toNat } else .error 4
def one (B : List Int) (most : Int) (s : St) : Except Int St :=
 if 0 < s.copies then put_ most { s with copies := s.copies - 1 } (s.out.getD (s.out.length - s.far) 0) else
 if s.kind = -1 then begin_ B s else
 if s.kind ≠ 0 then coded B most s else
 if s.left = 0 then .ok { s with kind := -1, ended := s.last } else
 if 8 * B.length < s.at_ + 8 then .error 2 else put_ most { s with at_ := s.at_ + 8, left := s.left - 1 } (numL B s.at_ 8)
def start : St := ⟨0, [], -1, 0, false, [], [], 0, 0, false⟩
abbrev Oc := Except Int (List Int × Nat)
inductive Runs (B : List Int) (most : Int) : St → Oc → Prop
 | done {s : St} : s.ended = true → Runs B most s (.ok (s.out, (s.at_ + 7) / 8))
 | step {s s' : St} {o : Oc} : s.ended = false → one B most s = .ok s' → Runs B most s' o → Runs B most s o
 | fail {s : St} {e : Int} : s.ended = false → one B most s = .error e → Runs B most s (.error e)
theorem Runs.det {B : List Int} {most : Int} {s : St} {o : Oc} (h : Runs B most s o) : ∀ {o' : Oc}, Runs B most s o' → o = o' := by
 induction h with
 | done h1 => intro o' h; cases h with
  | done _ => rfl
  | step h2 _ _ => rw [h1] at h2; cases h2
  | fail h2 _ => rw [h1] at h2; cases h2
 | step h1 h2 h3 ih => intro o' h; cases h with
  | done h4 => rw [h1] at h4; cases h4
  | step _ h5 h6 => rw [h2] at h5; cases h5; exact ih h6
  | fail _ h5 => rw [h2] at h5; cases h5
 | fail h1 h2 => intro o' h; cases h with
  | done h4 => rw [h1] at h4; cases h4
  | step _ h5 h6 => rw [h2] at h5; cases h5
  | fail _ h5 => rw [h2] at h5; cases h5; rfl
def Goes (B : List Int) (most : Int) (s s' : St) : Prop := ∀ o, Runs B most s' o → Runs B most s o
theorem Goes.refl (B : List Int) (most : Int) (s : St) : Goes B most s s := fun _ h => h
theorem Goes.trans {B : List Int} {most : Int} {s s' s'' : St} (h : Goes B most s s') (k : Goes B most s' s'') : Goes B most s s'' := fun o r => h o (k o r)
theorem Goes.one {B : List Int} {most : Int} {s s' : St} (h : s.ended = false) (k : one B most s = .ok s') : Goes B most s s' := fun o r => .step h k r
theorem Goes.next {B : List Int} {most : Int} {s s' s'' : St} (g : Goes B most s s') (h : s'.ended = false) (k : InfP.one B most s' = .ok s'') : Goes B most s s'' := g.trans (.one h k)
def codeE (ls : List Int) : Except Int Unit := if newE ls = 0 then .ok () else .error 4
section
variable {B l : List Int} {s : Int} {a : Nat}
theorem rep_lt (h : s < 16) : rep B s l a = .ok (s, 1, a) := if_pos h
theorem rep_short (h : ¬ s < 16) (hx : 8 * B.length < a + rpB s) : rep B s l a = .error 2 := by unfold rep; rw [if_neg h, if_pos hx]
theorem rep_form (h : s = 16) (hl : l = []) (hx : ¬ 8 * B.length < a + rpB s) : rep B s l a = .error 4 := by unfold rep; rw [if_neg (by omega), if_neg hx, if_pos ⟨h, hl⟩]
theorem rep_ok (h : ¬ s < 16) (hx : ¬ 8 * B.length < a + rpB s) (hl : ¬ (s = 16 ∧ l = [])) : rep B s l a = .ok (rpW s l, rpL s + numL B a (rpB s), a + rpB s) := by unfold rep; rw [if_neg h, if_neg hx, if_neg hl]
end
theorem frs_len (B : List Int) (a : Nat) : ∀ k, (frs B a k).length = 19
 | 0 => by simp [frs]
 | k + 1 => by simp [frs, frs_len B a k]
theorem fixL_ok : newE fixL = 0 := by decide +kernel
theorem fixD_ok : newE fixD = 0 := by decide +kernel
def fixT : List (Int × Int) := [(8, 144), (9, 112), (7, 24), (8, 8)]
def fixK : Nat → List Int
 | 0 => []
 | k + 1 => fixK k ++ List.replicate (fixT.getD k (0, 0)).2.toNat (fixT.getD k (0, 0)).1
theorem fixK_4 : fixK 4 = fixL := by decide +kernel
theorem fixK_le : ∀ k, k ≤ 4 → (fixK k).length ≤ 288 := by
 intro k hk
 have : k = 0 ∨ k = 1 ∨ k = 2 ∨ k = 3 ∨ k = 4 := by omega
 rcases this with rfl | rfl | rfl | rfl | rfl <;> decide +kernel
theorem ordr_at {k : Nat} (h : k < 19) : 0 ≤ ordr.getD k 0 ∧ ordr.getD k 0 < 19 := by
 have : ∀ k, k < 19 → 0 ≤ ordr.getD k 0 ∧ ordr.getD k 0 < 19 := by decide
 exact this k h
theorem hd_eqs (B : List Int) (a : Nat) : 257 + numL B a 5 = (hL B a : Int) ∧ 1 + numL B (a + 5) 5 = (hD B a : Int) ∧ 4 + numL B (a + 10) 4 = (hC B a : Int) ∧ hL B a ≤ 288 ∧ hD B a ≤ 32 ∧ hC B a ≤ 19 ∧ 4 ≤ hC B a ∧ 257 ≤ hL B a := by
 have h1 := numL_bound B a 5
 have h2 := numL_bound B (a + 5) 5
 have h3 := numL_bound B (a + 10) 4
 unfold hL hD hC
 omega
end Go.InfP
namespace Go.InfP
open Go.BitP Go.HuffP
theorem ex_or {α : Type} (E : Except Int α) : (∃ e, E = .error e) ∨ ∃ x, E = .ok x := by
 cases E with
 | error e => exact .inl ⟨e, rfl⟩
 | ok x => exact .inr ⟨x, rfl⟩
theorem tkGo_hit {ls B : List Int} {a : Nat} : ∀ {r n n' : Nat} {s : Int}, tkGo ls B a r n = .hit n' s → n < n' ∧ a + n' ≤ 8 * B.length ∧ (s ∈ ord ls ∨ s = 0) := by
 intro r
 induction r with
 | zero => intro n n' s h; simp [tkGo] at h
 | succ r ih =>
  intro n n' s h
  simp only [tkGo] at h
  split at h
  ·rename_i h1
   split at h
   ·cases h
    refine ⟨by omega, by omega, ?_⟩
    rw [List.getD_eq_getElem?_getD]
    cases hh : (ord ls)[off ls (n + 1) + (acc B a (n + 1) - base ls (n + 1)).toNat]? with
    | none => exact .inr rfl
    | some x => exact .inl (List.mem_of_getElem? hh)
   ·have := ih h; exact ⟨by omega, this.2.1, this.2.2⟩
  ·cases h
theorem sym_ok {ls B : List Int} {a a' : Nat} {s : Int} (hE : newE ls = 0) (h0 : 0 < ls.length) (h : sym ls B a = .ok (s, a')) : 0 ≤ s ∧ s < ls.length ∧ a < a' ∧ a' ≤ 8 * B.length := by
 unfold sym at h
 split at h
 ·rename_i n s' hs
  cases h
  obtain ⟨h1, h2, h3⟩ := tkGo_hit hs
  have : 0 ≤ s ∧ s < ls.length := by
   rcases h3 with h3 | rfl
   ·obtain ⟨k1, k2, _⟩ := (ord_mem (newE_vl hE).1).1 h3
    omega
   ·omega
  omega
 ·cases h
 ·cases h
theorem rep_good {B l : List Int} {s x n : Int} {a a' : Nat} (ha : a ≤ 8 * B.length) (h : rep B s l a = .ok (x, n, a')) : 1 ≤ n ∧ n < 200 ∧ a ≤ a' ∧ a' ≤ 8 * B.length := by
 unfold rep at h
 split at h
 ·cases h; omega
 split at h
 ·cases h
 split at h
 ·cases h
 cases h
 have hb := numL_bound B a (rpB s)
 have : rpL s + numL B a (rpB s) < 200 ∧ 1 ≤ rpL s := by
  unfold rpL
  unfold rpB at hb ⊢
  by_cases h1 : s = 16
  ·rw [if_pos h1] at hb ⊢; rw [if_neg (by omega)]; omega
  ·by_cases h2 : s = 17
   ·rw [if_neg h1, if_pos h2] at hb ⊢; rw [if_neg (by omega)]; omega
   ·rw [if_neg h1, if_neg h2] at hb ⊢; split <;> omega
 omega
section
variable {B c l l' : List Int} {tot f a a' : Nat} {e s x n : Int}
theorem lnGo_end (h : tot ≤ l.length) : lnGo B c tot f l a = .ok (l, a) := by
 cases f with
 | zero => rfl
 | succ f => simp only [lnGo]; rw [if_neg (by omega)]
theorem lnGo_err (h : l.length < tot) (hf : tot ≤ f + l.length) (k : lnStep B c l a = .error e) : lnGo B c tot f l a = .error e := by
 obtain ⟨f, rfl⟩ : ∃ g, f = g + 1 := ⟨f - 1, by omega⟩
 simp only [lnGo]; rw [if_pos h, k]
theorem lnGo_next (h : l.length < tot) (hf : tot ≤ f + l.length) (k : lnStep B c l a = .ok (l', a')) (hl : l'.length ≤ tot) : lnGo B c tot f l a = lnGo B c tot (f - 1) l' a' := by
 obtain ⟨f, rfl⟩ : ∃ g, f = g + 1 := ⟨f - 1, by omega⟩
 simp only [lnGo]; rw [if_pos h, k]; simp only; rw [if_pos hl]; rfl
theorem lnGo_big (h : l.length < tot) (hf : tot ≤ f + l.length) (k : lnStep B c l a = .ok (l', a')) (hl : ¬ l'.length ≤ tot) : lnGo B c tot f l a = .error 4 := by
 obtain ⟨f, rfl⟩ : ∃ g, f = g + 1 := ⟨f - 1, by omega⟩
 simp only [lnGo]; rw [if_pos h, k]; simp only; rw [if_neg hl]
theorem lnStep_1 (h : sym c B a = .error e) : lnStep B c l a = .error e := by unfold lnStep; rw [h]
theorem lnStep_2 (h : sym c B a = .ok (s, a')) (k : rep B s l a' = .error e) : lnStep B c l a = .error e := by unfold lnStep; rw [h]; simp only; rw [k]
theorem lnStep_3 {a'' : Nat} (h : sym c B a = .ok (s, a')) (k : rep B s l a' = .ok (x, n, a'')) : lnStep B c l a = .ok (l ++ List.replicate n.toNat x, a'') := by unfold lnStep; rw [h]; simp only; rw [k]
end
theorem ln_or (B c l : List Int) (a : Nat) : (∃ e, sym c B a = .error e) ∨ (∃ s a' e, sym c B a = .ok (s, a') ∧ rep B s l a' = .error e) ∨ (∃ s a' x n a'', sym c B a = .ok (s, a') ∧ rep B s l a' = .ok (x, n, a'')) := by
 rcases ex_or (sym c B a) with ⟨e, h⟩ | ⟨⟨s, a'⟩, h⟩
 ·exact .inl ⟨e, h⟩
 ·rcases ex_or (rep B s l a') with ⟨e, k⟩ | ⟨⟨x, n, a''⟩, k⟩
  ·exact .inr (.inl ⟨s, a', e, h, k⟩)
  ·exact .inr (.inr ⟨s, a', x, n, a'', h, k⟩)
def toldC (B : List Int) (a : Nat) : List Int := frs B (a + 14) (hC B a)
def toldN (B : List Int) (a : Nat) : Nat := hL B a + hD B a
def toldA (B : List Int) (a : Nat) : Nat := a + 14 + 3 * hC B a
section
variable {B l : List Int} {a a' : Nat} {e : Int}
theorem told_1 (h : 8 * B.length < a + 14) : told B a = .error 2 := if_pos h
theorem told_2 (h : a + 14 ≤ 8 * B.length) (k : ¬ (hL B a ≤ 286 ∧ hD B a ≤ 30)) : told B a = .error 4 := by
 unfold told; rw [if_neg (by omega), if_pos k]
theorem told_3 (h : a + 14 ≤ 8 * B.length) (k : hL B a ≤ 286 ∧ hD B a ≤ 30) (x : 8 * B.length < toldA B a) : told B a = .error 2 := by
 unfold told; rw [if_neg (by omega), if_neg (fun h => h k)]; exact if_pos x
theorem told_4 (h : a + 14 ≤ 8 * B.length) (k : hL B a ≤ 286 ∧ hD B a ≤ 30) (x : toldA B a ≤ 8 * B.length) (y : newE (toldC B a) ≠ 0) : told B a = .error 4 := by
 unfold told; rw [if_neg (by omega), if_neg (fun h => h k), if_neg (by unfold toldA at x; omega)]; exact if_pos y
theorem told_go (h : a + 14 ≤ 8 * B.length) (k : hL B a ≤ 286 ∧ hD B a ≤ 30) (x : toldA B a ≤ 8 * B.length) (y : newE (toldC B a) = 0) : told B a = (match lnGo B (toldC B a) (toldN B a) (toldN B a) [] (toldA B a) with
  | .error e => .error e
  | .ok (l, a') => if newE (l.take (hL B a)) ≠ 0 ∨ newE (l.drop (hL B a)) ≠ 0 ∨ l.getD 256 0 = 0 then .error 4 else .ok (a', l.take (hL B a), l.drop (hL B a))) := by
 unfold told; rw [if_neg (by omega), if_neg (fun h => h k), if_neg (by unfold toldA at x; omega)]; exact if_neg (fun h => h y)
theorem told_5 (h : a + 14 ≤ 8 * B.length) (k : hL B a ≤ 286 ∧ hD B a ≤ 30) (x : toldA B a ≤ 8 * B.length) (y : newE (toldC B a) = 0) (z : lnGo B (toldC B a) (toldN B a) (toldN B a) [] (toldA B a) = .error e) : told B a = .error e := by
 rw [told_go h k x y, z]
theorem told_6 (h : a + 14 ≤ 8 * B.length) (k : hL B a ≤ 286 ∧ hD B a ≤ 30) (x : toldA B a ≤ 8 * B.length) (y : newE (toldC B a) = 0) (z : lnGo B (toldC B a) (toldN B a) (toldN B a) [] (toldA B a) = .ok (l, a')) (q : newE (l.take (hL B a)) ≠ 0 ∨ newE (l.drop (hL B a)) ≠ 0 ∨ l.getD 256 0 = 0) : told B a = .error 4 := by
 rw [told_go h k x y, z]; exact if_pos q
theorem told_7 (h : a + 14 ≤ 8 * B.length) (k : hL B a ≤ 286 ∧ hD B a ≤ 30) (x : toldA B a ≤ 8 * B.length) (y : newE (toldC B a) = 0) (z : lnGo B (toldC B a) (toldN B a) (toldN B a) [] (toldA B a) = .ok (l, a')) (q1 : newE (l.take (hL B a)) = 0) (q2 : newE (l.drop (hL B a)) = 0) (q3 : l.getD 256 0 ≠ 0) : told B a = .ok (a', l.take (hL B a), l.drop (hL B a)) := by
 rw [told_go h k x y, z]; exact if_neg (fun h => by rcases h with h | h | h; exact h q1; exact h q2; exact q3 h)
end
theorem toldC_len (B : List Int) (a : Nat) : (toldC B a).length = 19 := frs_len _ _ _
theorem fixT_at {k : Nat} (h : k < 4) : (fixT.getD k (0, 0)).2 = ((fixT.getD k (0, 0)).2.toNat : Int) ∧ (fixT.getD k (0, 0)).2.toNat < 200 := by
 have : ∀ k, k < 4 → (fixT.getD k (0, 0)).2 = ((fixT.getD k (0, 0)).2.toNat : Int) ∧ (fixT.getD k (0, 0)).2.toNat < 200 := by decide
 exact this k h
theorem code_nn {ls : List Int} (hE : newE ls = 0) (i : Nat) : 0 ≤ ls.getD i 0 := by
 have hV := (newE_vl hE).1
 rw [List.getD_eq_getElem?_getD]
 cases h : ls[i]? with
 | none => exact Int.le_refl _
 | some x => exact (hV.2 x (List.mem_of_getElem? h)).1
theorem getD_take {l : List Int} {n i : Nat} (h : i < n) : (l.take n).getD i 0 = l.getD i 0 := by
 simp [List.getD_eq_getElem?_getD, List.getElem?_take, h]
end Go.InfP
namespace Go.InfP
open Go.BitP
theorem fixK_succ (k : Nat) : fixK (k + 1) = fixK k ++ List.replicate (fixT.getD k (0, 0)).2.toNat (fixT.getD k (0, 0)).1 := rfl
theorem fixT_g {k : Nat} (h : k < 4) : 0 ≤ (fixT.getD k (0, 0)).2 ∧ (fixT.getD k (0, 0)).2 < 200 := by have := fixT_at h; omega
theorem frs_zero (B : List Int) (a : Nat) : frs B a 0 = List.replicate 19 0 := rfl
theorem frs_succ (B : List Int) (a k : Nat) : frs B a (k + 1) = (frs B a k).set (ordr.getD k 0).toNat (numL B (a + 3 * k) 3) := rfl
theorem room3 (n a : Nat) : 8 * n < a + 5 ∨ (a + 5 ≤ 8 * n ∧ 8 * n < a + 10) ∨ (a + 10 ≤ 8 * n ∧ 8 * n < a + 14) ∨ a + 14 ≤ 8 * n := by omega
theorem or3 (p q : Prop) : (p ∧ q) ∨ (p ∧ ¬ q) ∨ ¬ p := by
 rcases Classical.em p with h | h
 ·rcases Classical.em q with k | k
  ·exact .inl ⟨h, k⟩
  ·exact .inr (.inl ⟨h, k⟩)
 ·exact .inr (.inr h)
theorem toldN_eq (B : List Int) (a : Nat) : toldN B a = hL B a + hD B a := rfl
theorem toldA_eq (B : List Int) (a : Nat) : toldA B a = a + 14 + 3 * hC B a := rfl
theorem toldC_eq (B : List Int) (a : Nat) : toldC B a = frs B (a + 14) (hC B a) := rfl
end Go.InfP
namespace Go.InfP
theorem or3b (p q r : Prop) : (p ∧ q ∧ r) ∨ (p ∧ q ∧ ¬ r) ∨ (p ∧ ¬ q) ∨ ¬ p := by
 rcases Classical.em p with h | h
 ·rcases Classical.em q with k | k
  ·rcases Classical.em r with m | m
   ·exact .inl ⟨h, k, m⟩
   ·exact .inr (.inl ⟨h, k, m⟩)
  ·exact .inr (.inr (.inl ⟨h, k⟩))
 ·exact .inr (.inr (.inr h))
end Go.InfP
namespace Go.InfP
open Go.BitP Go.HuffP
def lenE (B : List Int) (s : Int) (a : Nat) : Except Int (Int × Nat) := if 29 ≤ s then .error 4 else if 8 * B.length < a + lnM s then .error 2 else .ok (lnB s + numL B a (lnM s), a + lnM s)
def awayE (B ds : List Int) (a : Nat) : Except Int (Int × Nat) := match sym ds B a with
 | .error e => .error e
 | .ok (d, a3) => if 30 ≤ d then .error 4 else if 8 * B.length < a3 + dsM d then .error 2 else .ok (dsB d + numL B a3 (dsM d), a3 + dsM d)
theorem numL_zero (B : List Int) (a : Nat) : numL B a 0 = 0 := rfl
section
variable {B : List Int} {s : Int} {a : Nat}
theorem len_no (h : 29 ≤ s) : lenE B s a = .error 4 := if_pos h
def lnK (s : Int) : Nat := (s / 4 - 1).toNat
def dsK (s : Int) : Nat := (s / 2 - 1).toNat
theorem lnM_few (h : s < 8 ∨ s = 28) : lnM s = 0 := if_pos h
theorem lnM_k (h : 8 ≤ s) (h2 : s < 28) : lnM s = lnK s := if_neg (by omega)
theorem lnB_few (h : s < 8) : lnB s = 3 + s := if_pos h
theorem lnB_top (h : s = 28) : lnB s = 258 := by unfold lnB; rw [if_neg (by omega)]; exact if_pos h
theorem lnB_k (h : 8 ≤ s) (h2 : s < 28) : lnB s = 3 + (4 + s % 4) * 2 ^ lnK s := by unfold lnB; rw [if_neg (by omega), if_neg (by omega)]; rfl
theorem dsM_few (h : s < 4) : dsM s = 0 := if_pos h
theorem dsM_k (h : 4 ≤ s) : dsM s = dsK s := if_neg (by omega)
theorem dsB_few (h : s < 4) : dsB s = 1 + s := if_pos h
theorem dsB_k (h : 4 ≤ s) : dsB s = 1 + (2 + s % 2) * 2 ^ dsK s := if_neg (by omega)
theorem len_few (h0 : 0 ≤ s) (h : s < 8) (ha : a ≤ 8 * B.length) : lenE B s a = .ok (3 + s, a) := by
 unfold lenE
 rw [if_neg (by omega), lnM_few (.inl h), lnB_few h, numL_zero, Int.add_zero]; exact if_neg (by omega)
theorem len_top (h : s = 28) (ha : a ≤ 8 * B.length) : lenE B s a = .ok (258, a) := by
 unfold lenE
 rw [if_neg (by omega), lnM_few (.inr h), lnB_top h, numL_zero, Int.add_zero]; exact if_neg (by omega)
theorem len_short (h : 8 ≤ s) (h2 : s < 28) (hx : 8 * B.length < a + lnK s) : lenE B s a = .error 2 := by
 unfold lenE
 rw [if_neg (by omega), lnM_k h h2]; exact if_pos hx
theorem len_ok (h : 8 ≤ s) (h2 : s < 28) (hx : a + lnK s ≤ 8 * B.length) : lenE B s a = .ok (3 + (4 + s % 4) * 2 ^ lnK s + numL B a (lnK s), a + lnK s) := by
 unfold lenE
 rw [if_neg (by omega), lnM_k h h2, lnB_k h h2]; exact if_neg (by omega)
theorem lnK_le (h : 8 ≤ s) (h2 : s < 28) : s / 4 - 1 = (lnK s : Int) ∧ lnK s ≤ 5 ∧ 1 ≤ lnK s := by unfold lnK; omega
theorem dsK_le (h : 4 ≤ s) (h2 : s < 30) : s / 2 - 1 = (dsK s : Int) ∧ dsK s ≤ 13 ∧ 1 ≤ dsK s := by unfold dsK; omega
end
section
variable {B ds : List Int} {s e : Int} {a a3 : Nat}
theorem away_e (h : sym ds B a = .error e) : awayE B ds a = .error e := by unfold awayE; rw [h]
theorem away_no (h : sym ds B a = .ok (s, a3)) (k : 30 ≤ s) : awayE B ds a = .error 4 := by unfold awayE; rw [h]; exact if_pos k
theorem away_few (h : sym ds B a = .ok (s, a3)) (h0 : 0 ≤ s) (k : s < 4) (ha : a3 ≤ 8 * B.length) : awayE B ds a = .ok (1 + s, a3) := by
 unfold awayE; rw [h]; simp only; rw [if_neg (by omega), dsM_few k, dsB_few k, numL_zero, Int.add_zero]; exact if_neg (by omega)
theorem away_short (h : sym ds B a = .ok (s, a3)) (h1 : 4 ≤ s) (h2 : s < 30) (hx : 8 * B.length < a3 + dsK s) : awayE B ds a = .error 2 := by
 unfold awayE; rw [h]; simp only; rw [if_neg (by omega), dsM_k h1]; exact if_pos hx
theorem away_ok (h : sym ds B a = .ok (s, a3)) (h1 : 4 ≤ s) (h2 : s < 30) (hx : a3 + dsK s ≤ 8 * B.length) : awayE B ds a = .ok (1 + (2 + s % 2) * 2 ^ dsK s + numL B a3 (dsK s), a3 + dsK s) := by
 unfold awayE; rw [h]; simp only; rw [if_neg (by omega), dsM_k h1, dsB_k h1]; exact if_neg (by omega)
end
theorem shl_small {x : Int} {n : Nat} (h0 : 0 ≤ x) (h1 : x < 8) (hn : n ≤ 13) {d : Int} (hd : d = (n : Int)) : IntKind.i64.wrap (x * 2 ^ (min d.toNat IntKind.i64.bits)) = x * 2 ^ n ∧ 0 ≤ x * 2 ^ n ∧ x * 2 ^ n < 65536 := by
 have e : min d.toNat IntKind.i64.bits = n := by
  have : IntKind.i64.bits = 64 := rfl
  omega
 have hp : (2 : Int) ^ n ≤ 2 ^ 13 := by
  have := Nat.pow_le_pow_right (n := 2) (by decide) hn
  have e2 : ((2 : Int) ^ n) = ((2 ^ n : Nat) : Int) := by simp
  rw [e2]; exact_mod_cast this
 have h2 : (0 : Int) < 2 ^ n := Int.pow_pos (by decide)
 have h3 : 0 ≤ x * 2 ^ n := Int.mul_nonneg h0 (Int.le_of_lt h2)
 have h4 : x * 2 ^ n ≤ 7 * 2 ^ 13 := Int.le_trans (Int.mul_le_mul_of_nonneg_right (show x ≤ 7 by omega) (Int.le_of_lt h2)) (Int.mul_le_mul_of_nonneg_left hp (by decide))
 rw [e]
 exact ⟨Sl.wrapI (by omega) (by omega), h3, by omega⟩
theorem xor16 {x y : Int} (hx : 0 ≤ x ∧ x < 65536) (hy : 0 ≤ y ∧ y < 65536) : (IntKind.i64.wrap ((BitVec.ofInt IntKind.i64.bits x ^^^ BitVec.ofInt IntKind.i64.bits y).toNat : Int) = 65535) ↔ x = 65535 - y := by
 obtain ⟨a, rfl⟩ : ∃ a : Nat, x = (a : Int) := ⟨x.toNat, by omega⟩
 obtain ⟨b, rfl⟩ : ∃ b : Nat, y = (b : Int) := ⟨y.toNat, by omega⟩
 have e : IntKind.i64.bits = 64 := rfl
 have ha : a < 2 ^ 16 := by omega
 have hb : b < 2 ^ 16 := by omega
 have hlt : a ^^^ b < 2 ^ 16 := Nat.xor_lt_two_pow ha hb
 rw [e, BitVec.toNat_xor, ofInt_nat, ofInt_nat, Nat.mod_eq_of_lt (by omega), Nat.mod_eq_of_lt (by omega), Sl.wrapI (by omega) (by omega)]
 have hc : b ^^^ 65535 = 65535 - b := by
  have h1 : (BitVec.ofNat 16 b ^^^ BitVec.allOnes 16) = ~~~ (BitVec.ofNat 16 b) := BitVec.xor_allOnes
  have h2 := congrArg BitVec.toNat h1
  rw [BitVec.toNat_xor, BitVec.toNat_not, BitVec.toNat_ofNat, BitVec.toNat_allOnes, Nat.mod_eq_of_lt hb] at h2
  exact h2
 constructor
 ·intro h
  have h' : a ^^^ b = 65535 := by omega
  have : a = 65535 ^^^ b := by rw [← h', Nat.xor_assoc, Nat.xor_self, Nat.xor_zero]
  rw [Nat.xor_comm, hc] at this
  omega
 ·intro h
  have h' : a = 65535 - b := by omega
  rw [h', ← hc, Nat.xor_comm b, Nat.xor_assoc, Nat.xor_self, Nat.xor_zero]
  rfl
section
variable {B : List Int} {s : St} {e : Int}
theorem beg_1 (h : 8 * B.length < s.at_ + 3) : begin_ B s = .error 2 := if_pos h
theorem beg_0s (h : s.at_ + 3 ≤ 8 * B.length) (k : numL B (s.at_ + 1) 2 = 0) (hx : 8 * B.length < alg (s.at_ + 3) + 32) : begin_ B s = .error 2 := by
 unfold begin_; rw [if_neg (by omega), if_pos k]; exact if_pos hx
theorem beg_0n (h : s.at_ + 3 ≤ 8 * B.length) (k : numL B (s.at_ + 1) 2 = 0) (hx : alg (s.at_ + 3) + 32 ≤ 8 * B.length) (hm : numL B (alg (s.at_ + 3)) 16 ≠ 65535 - numL B (alg (s.at_ + 3) + 16) 16) : begin_ B s = .error 4 := by
 unfold begin_; rw [if_neg (by omega), if_pos k, if_neg (by omega)]; exact if_neg hm
theorem beg_0y (h : s.at_ + 3 ≤ 8 * B.length) (k : numL B (s.at_ + 1) 2 = 0) (hx : alg (s.at_ + 3) + 32 ≤ 8 * B.length) (hm : numL B (alg (s.at_ + 3)) 16 = 65535 - numL B (alg (s.at_ + 3) + 16) 16) : begin_ B s = .ok { s with at_ := alg (s.at_ + 3) + 32, kind := 0, left := (numL B (alg (s.at_ + 3)) 16).toNat, last := decide (numL B s.at_ 1 = 1) } := by
 unfold begin_; rw [if_neg (by omega), if_pos k, if_neg (by omega)]; exact if_pos hm
theorem beg_f (h : s.at_ + 3 ≤ 8 * B.length) (k : numL B (s.at_ + 1) 2 = 1) : begin_ B s = .ok { s with at_ := s.at_ + 3, kind := 1, last := decide (numL B s.at_ 1 = 1), lits := fixL, dist := fixD } := by
 unfold begin_; rw [if_neg (by omega), if_neg (by omega)]; exact if_pos k
theorem beg_dn (h : s.at_ + 3 ≤ 8 * B.length) (k : numL B (s.at_ + 1) 2 = 2) (t : told B (s.at_ + 3) = .error e) : begin_ B s = .error e := by
 unfold begin_; rw [if_neg (by omega), if_neg (by omega), if_neg (by omega), if_pos k, t]
theorem beg_dy {a : Nat} {l d : List Int} (h : s.at_ + 3 ≤ 8 * B.length) (k : numL B (s.at_ + 1) 2 = 2) (t : told B (s.at_ + 3) = .ok (a, l, d)) : begin_ B s = .ok { s with at_ := a, kind := 2, last := decide (numL B s.at_ 1 = 1), lits := l, dist := d } := by
 unfold begin_; rw [if_neg (by omega), if_neg (by omega), if_neg (by omega), if_pos k, t]
theorem beg_no (h : s.at_ + 3 ≤ 8 * B.length) (k : numL B (s.at_ + 1) 2 ≠ 0) (k1 : numL B (s.at_ + 1) 2 ≠ 1) (k2 : numL B (s.at_ + 1) 2 ≠ 2) : begin_ B s = .error 4 := by
 unfold begin_; rw [if_neg (by omega), if_neg k, if_neg k1]; exact if_neg k2
end
section
variable {B : List Int} {most : Int} {s : St} {y n f e : Int} {a a2 a3 : Nat}
theorem cod_e (h : sym s.lits B s.at_ = .error e) : coded B most s = .error e := by unfold coded; rw [h]
theorem cod_put (h : sym s.lits B s.at_ = .ok (y, a)) (k : y < 256) : coded B most s = put_ most { s with at_ := a } y := by unfold coded; rw [h]; exact if_pos k
theorem cod_end (h : sym s.lits B s.at_ = .ok (y, a)) (k : y = 256) : coded B most s = .ok { s with at_ := a, kind := -1, ended := s.last } := by unfold coded; rw [h]; simp only; rw [if_neg (by omega)]; exact if_pos k
theorem cod_go (h : sym s.lits B s.at_ = .ok (y, a)) (k : 256 < y) : coded B most s = (match lenE B (y - 257) a with
  | .error e => .error e
  | .ok (n, a2) => match awayE B s.dist a2 with
   | .error e => .error e
   | .ok (f, a3) => if f ≤ s.out.length then .ok { s with at_ := a3, copies := n.toNat, far := f.toNat } else .error 4) := by
 unfold coded lenE; rw [h]; simp only
 rw [if_neg (by omega), if_neg (by omega)]
 by_cases h1 : 286 ≤ y
 ·rw [if_pos h1, if_pos (show 29 ≤ y - 257 by omega)]
 ·rw [if_neg h1, if_neg (show ¬ 29 ≤ y - 257 by omega)]
  by_cases h2 : 8 * B.length < a + lnM (y - 257)
  ·rw [if_pos h2, if_pos h2]
  ·rw [if_neg h2, if_neg h2]
   unfold awayE
   simp only
   cases hs : sym s.dist B (a + lnM (y - 257)) with
   | error e => rfl
   | ok q =>
    obtain ⟨d, a3⟩ := q
    simp only
    by_cases h3 : 30 ≤ d
    ·rw [if_pos h3, if_pos h3]
    ·rw [if_neg h3, if_neg h3]
     by_cases h4 : 8 * B.length < a3 + dsM d
     ·rw [if_pos h4, if_pos h4]
     ·rw [if_neg h4, if_neg h4]
theorem cod_l (h : sym s.lits B s.at_ = .ok (y, a)) (k : 256 < y) (l : lenE B (y - 257) a = .error e) : coded B most s = .error e := by rw [cod_go h k, l]
theorem cod_a (h : sym s.lits B s.at_ = .ok (y, a)) (k : 256 < y) (l : lenE B (y - 257) a = .ok (n, a2)) (w : awayE B s.dist a2 = .error e) : coded B most s = .error e := by rw [cod_go h k, l]; simp only; rw [w]
theorem cod_n (h : sym s.lits B s.at_ = .ok (y, a)) (k : 256 < y) (l : lenE B (y - 257) a = .ok (n, a2)) (w : awayE B s.dist a2 = .ok (f, a3)) (q : ¬ f ≤ s.out.length) : coded B most s = .error 4 := by rw [cod_go h k, l]; simp only; rw [w]; exact if_neg q
theorem cod_y (h : sym s.lits B s.at_ = .ok (y, a)) (k : 256 < y) (l : lenE B (y - 257) a = .ok (n, a2)) (w : awayE B s.dist a2 = .ok (f, a3)) (q : f ≤ s.out.length) : coded B most s = .ok { s with at_ := a3, copies := n.toNat, far := f.toNat } := by rw [cod_go h k, l]; simp only; rw [w]; exact if_pos q
end
theorem lenE_good {B : List Int} {s n : Int} {a a2 : Nat} (h0 : 0 ≤ s) (ha : a ≤ 8 * B.length) (h : lenE B s a = .ok (n, a2)) : 3 ≤ n ∧ n < 400 ∧ a ≤ a2 ∧ a2 ≤ 8 * B.length := by
 by_cases h1 : s < 8
 ·rw [len_few h0 h1 ha] at h; cases h; omega
 by_cases h2 : 29 ≤ s
 ·rw [len_no h2] at h; cases h
 by_cases h3 : s = 28
 ·rw [len_top h3 ha] at h; cases h; omega
 by_cases h4 : a + lnK s ≤ 8 * B.length
 ·rw [len_ok (by omega) (by omega) h4] at h; cases h
  obtain ⟨k1, k2, k3⟩ := lnK_le (s := s) (by omega) (by omega)
  have hb := numL_bound B a (lnK s)
  have : lnK s = 1 ∨ lnK s = 2 ∨ lnK s = 3 ∨ lnK s = 4 ∨ lnK s = 5 := by omega
  rcases this with e | e | e | e | e <;> rw [e] at hb ⊢ <;> omega
 ·rw [len_short (by omega) (by omega) (by omega)] at h; cases h
theorem awayE_good {B ds : List Int} {n : Int} {a a3 : Nat} (hE : newE ds = 0) (hd : 0 < ds.length) (h : awayE B ds a = .ok (n, a3)) : 1 ≤ n ∧ n < 100000 ∧ a ≤ a3 ∧ a3 ≤ 8 * B.length := by
 cases hs : sym ds B a with
 | error e => rw [away_e hs] at h; cases h
 | ok q =>
  obtain ⟨s, b⟩ := q
  have hg := sym_ok hE hd hs
  by_cases h2 : 30 ≤ s
  ·rw [away_no hs h2] at h; cases h
  by_cases h1 : s < 4
  ·rw [away_few hs hg.1 h1 hg.2.2.2] at h; cases h; omega
  by_cases h4 : b + dsK s ≤ 8 * B.length
  ·rw [away_ok hs (by omega) (by omega) h4] at h; cases h
   obtain ⟨k1, k2, k3⟩ := dsK_le (s := s) (by omega) (by omega)
   have hb := numL_bound B b (dsK s)
   obtain ⟨_, m1, m2⟩ := shl_small (x := 2 + s % 2) (n := dsK s) (by omega) (by omega) (by omega) rfl
   have hp : (2 : Int) ^ dsK s ≤ 2 ^ 13 := by
    have := Nat.pow_le_pow_right (n := 2) (by decide) k2
    have e2 : ((2 : Int) ^ dsK s) = ((2 ^ dsK s : Nat) : Int) := by simp
    rw [e2]; exact_mod_cast this
   omega
  ·rw [away_short hs (by omega) (by omega) (by omega)] at h; cases h
end Go.InfP
namespace Go.InfP
open Go.BitP Go.HuffP
theorem len_or {B : List Int} {s : Int} {a : Nat} (h0 : 0 ≤ s) (ha : a ≤ 8 * B.length) : (∃ e, lenE B s a = .error e) ∨ ∃ n a2 : Nat, lenE B s a = .ok ((n : Int), a2) ∧ 3 ≤ n ∧ n < 400 ∧ a ≤ a2 ∧ a2 ≤ 8 * B.length := by
 rcases ex_or (lenE B s a) with h | ⟨⟨n, a2⟩, h⟩
 ·exact .inl h
 ·have hg := lenE_good h0 ha h
  refine .inr ⟨n.toNat, a2, ?_, by omega, by omega, hg.2.2.1, hg.2.2.2⟩
  rw [h, Int.toNat_of_nonneg (by omega)]
theorem away_or {B ds : List Int} {a : Nat} (hE : newE ds = 0) (hd : 0 < ds.length) : (∃ e, awayE B ds a = .error e) ∨ ∃ f a2 : Nat, awayE B ds a = .ok ((f : Int), a2) ∧ 1 ≤ f ∧ f < 100000 ∧ a ≤ a2 ∧ a2 ≤ 8 * B.length := by
 rcases ex_or (awayE B ds a) with h | ⟨⟨n, a2⟩, h⟩
 ·exact .inl h
 ·have hg := awayE_good hE hd h
  refine .inr ⟨n.toNat, a2, ?_, by omega, by omega, hg.2.2.1, hg.2.2.2⟩
  rw [h, Int.toNat_of_nonneg (by omega)]
theorem sym_or {B ls : List Int} {a : Nat} (hE : newE ls = 0) (hd : 0 < ls.length) : (∃ e, sym ls B a = .error e) ∨ ∃ (y : Int) (a2 : Nat), sym ls B a = .ok (y, a2) ∧ 0 ≤ y ∧ y < ls.length ∧ a < a2 ∧ a2 ≤ 8 * B.length := by
 rcases ex_or (sym ls B a) with h | ⟨⟨y, a2⟩, h⟩
 ·exact .inl h
 ·exact .inr ⟨y, a2, h, sym_ok hE hd h⟩
structure Ok (B : List Int) (mo : Int) (s : St) : Prop where
 at_ : s.at_ ≤ 8 * B.length
 room : (s.out.length : Int) ≤ mo
 byt : Byt s.out
 kind : s.kind = -1 ∨ s.kind = 0 ∨ s.kind = 1 ∨ s.kind = 2
 left : s.left < 65536
 codes : 0 < s.kind → newE s.lits = 0 ∧ newE s.dist = 0 ∧ 0 < s.lits.length ∧ 0 < s.dist.length
 copies : s.copies < 400
 far : 0 < s.copies → 1 ≤ s.far ∧ s.far ≤ s.out.length
theorem told_good {B l d : List Int} {a a' : Nat} (h : told B a = .ok (a', l, d)) : newE l = 0 ∧ newE d = 0 ∧ 0 < l.length ∧ 0 < d.length ∧ a < a' ∧ a' ≤ 8 * B.length := by
 by_cases h1 : 8 * B.length < a + 14
 ·rw [told_1 h1] at h; cases h
 by_cases h2' : ¬ (hL B a ≤ 286 ∧ hD B a ≤ 30)
 ·rw [told_2 (by omega) h2'] at h; cases h
 have h2 := Classical.not_not.1 h2'
 by_cases h3 : 8 * B.length < toldA B a
 ·rw [told_3 (by omega) h2 h3] at h; cases h
 by_cases h4' : newE (toldC B a) ≠ 0
 ·rw [told_4 (by omega) h2 (by omega) h4'] at h; cases h
 have h4 := Classical.not_not.1 h4'
 cases h5 : lnGo B (toldC B a) (toldN B a) (toldN B a) [] (toldA B a) with
 | error e => rw [told_5 (by omega) h2 (by omega) h4 h5] at h; cases h
 | ok q =>
  obtain ⟨ls, a2⟩ := q
  by_cases h6 : newE (ls.take (hL B a)) ≠ 0 ∨ newE (ls.drop (hL B a)) ≠ 0 ∨ ls.getD 256 0 = 0
  ·rw [told_6 (by omega) h2 (by omega) h4 h5 h6] at h; cases h
  ·have h7 : newE (ls.take (hL B a)) = 0 := by
    rcases Classical.em (newE (ls.take (hL B a)) = 0) with k | k
    ·exact k
    ·exact (h6 (.inl k)).elim
   have h8 : newE (ls.drop (hL B a)) = 0 := by
    rcases Classical.em (newE (ls.drop (hL B a)) = 0) with k | k
    ·exact k
    ·exact (h6 (.inr (.inl k))).elim
   have h9 : ls.getD 256 0 ≠ 0 := fun k => h6 (.inr (.inr k))
   rw [told_7 (by omega) h2 (by omega) h4 h5 h7 h8 h9] at h
   cases h
   have key : ∀ (f : Nat) (l : List Int) (x : Nat), toldN B a ≤ f + l.length → l.length ≤ toldN B a → x ≤ 8 * B.length → lnGo B (toldC B a) (toldN B a) f l x = .ok (ls, a') → ls.length = toldN B a ∧ x ≤ a' ∧ a' ≤ 8 * B.length := by
    intro f
    induction f with
    | zero => intro l x k1 k2 k3 k4; rw [lnGo_end (by omega)] at k4; cases k4; exact ⟨by omega, Nat.le_refl _, k3⟩
    | succ f ih =>
     intro l x k1 k2 k3 k4
     by_cases hl : toldN B a ≤ l.length
     ·rw [lnGo_end hl] at k4; cases k4; exact ⟨by omega, Nat.le_refl _, k3⟩
     ·rcases ln_or B (toldC B a) l x with ⟨e, hs⟩ | ⟨sy, x2, e, hs, hr⟩ | ⟨sy, x2, v, n, x3, hs, hr⟩
      ·rw [lnGo_err (by omega) k1 (lnStep_1 hs)] at k4; cases k4
      ·rw [lnGo_err (by omega) k1 (lnStep_2 hs hr)] at k4; cases k4
      ·have hsg := sym_ok h4 (by rw [toldC_len]; omega) hs
       have hrg := rep_good hsg.2.2.2 hr
       by_cases hb : (l ++ List.replicate n.toNat v).length ≤ toldN B a
       ·rw [lnGo_next (by omega) k1 (lnStep_3 hs hr) hb] at k4
        have := ih _ _ (by rw [List.length_append, List.length_replicate]; omega) hb hrg.2.2.2 k4
        exact ⟨this.1, by omega, this.2.2⟩
       ·rw [lnGo_big (by omega) k1 (lnStep_3 hs hr) hb] at k4; cases k4
   have hA := toldA_eq B a
   have := key _ [] _ (Nat.le_add_right _ _) (Nat.zero_le _) (show toldA B a ≤ 8 * B.length by omega) h5
   have hN := toldN_eq B a
   have hd := hd_eqs B a
   have hn2 := numL_bound B (a + 5) 5
   refine ⟨h7, h8, ?_, ?_, by omega, this.2.2⟩
   ·rw [List.length_take]; omega
   ·rw [List.length_drop]
    have : 1 ≤ hD B a := by omega
    omega
end Go.InfP
namespace Go.InfP
open Go.BitP Go.HuffP
theorem code_len {ls : List Int} (h : newE ls = 0) : ls.length ≤ 320 := (newE_vl h).1.1
theorem alg_eq (a : Nat) : alg a = (a + 7) / 8 * 8 := rfl
theorem room2 (n a : Nat) : 8 * n < a + 16 ∨ (a + 16 ≤ 8 * n ∧ 8 * n < a + 32) ∨ a + 32 ≤ 8 * n := by omega
end Go.InfP
namespace Go.InfP
open Go.BitP Go.HuffP
section
variable {B : List Int} {mo y e : Int} {s s2 : St} {at_ : Nat}
theorem put_ok (h : put_ mo s y = .ok s2) : (s.out.length : Int) < mo ∧ s2 = { s with out := s.out ++ [y] } := by
 unfold put_ at h
 split at h
 ·cases h; rename_i k; exact ⟨k, rfl⟩
 ·cases h
theorem put_yes (h : (s.out.length : Int) < mo) : put_ mo s y = .ok { s with out := s.out ++ [y] } := if_pos h
theorem put_no (h : ¬ (s.out.length : Int) < mo) : put_ mo s y = .error 6 := if_neg h
theorem put_er (h : put_ mo { s with at_ := at_ } y = .error e) : put_ mo s y = .error e := by
 by_cases k : (s.out.length : Int) < mo
 ·rw [put_yes (s := { s with at_ := at_ }) k] at h; cases h
 ·rw [put_no (s := { s with at_ := at_ }) k] at h; rw [put_no k]; exact h
theorem put_or (B : List Int) (a : Nat) (mo : Int) (s : St) (y : Int) : 8 * B.length < a + 8 ∨ (a + 8 ≤ 8 * B.length ∧ ∃ e, put_ mo s y = .error e) ∨ (a + 8 ≤ 8 * B.length ∧ ∃ s2, put_ mo s y = .ok s2) := by
 rcases Nat.lt_or_ge (8 * B.length) (a + 8) with h | h
 ·exact .inl h
 ·rcases ex_or (put_ mo s y) with k | k
  ·exact .inr (.inl ⟨h, k⟩)
  ·exact .inr (.inr ⟨h, k⟩)
theorem one_cy (h : 0 < s.copies) (k : (s.out.length : Int) < mo) : one B mo s = .ok { s with copies := s.copies - 1, out := s.out ++ [s.out.getD (s.out.length - s.far) 0] } := by
 unfold one; rw [if_pos h]; exact put_yes k
theorem one_ce (h : 0 < s.copies) (k : put_ mo s (s.out.getD (s.out.length - s.far) 0) = .error e) : one B mo s = .error e := by
 unfold one; rw [if_pos h]
 by_cases q : (s.out.length : Int) < mo
 ·rw [put_yes q] at k; cases k
 ·rw [put_no q] at k; rw [← k]; exact put_no q
theorem one_b (h : ¬ 0 < s.copies) (k : s.kind = -1) : one B mo s = begin_ B s := by unfold one; rw [if_neg h, if_pos k]
theorem one_c (h : ¬ 0 < s.copies) (k : ¬ s.kind = -1) (k0 : s.kind ≠ 0) : one B mo s = coded B mo s := by unfold one; rw [if_neg h, if_neg k, if_pos k0]
theorem one_l0 (h : ¬ 0 < s.copies) (k : ¬ s.kind = -1) (k0 : s.kind = 0) (l : s.left = 0) : one B mo s = .ok { s with kind := -1, ended := s.last } := by unfold one; rw [if_neg h, if_neg k, if_neg (by omega), if_pos l]
theorem one_ls (h : ¬ 0 < s.copies) (k : ¬ s.kind = -1) (k0 : s.kind = 0) (l : ¬ s.left = 0) (x : 8 * B.length < s.at_ + 8) : one B mo s = .error 2 := by unfold one; rw [if_neg h, if_neg k, if_neg (by omega), if_neg l, if_pos x]
theorem one_lp (h : ¬ 0 < s.copies) (k : ¬ s.kind = -1) (k0 : s.kind = 0) (l : ¬ s.left = 0) (x : s.at_ + 8 ≤ 8 * B.length) : one B mo s = put_ mo { s with at_ := s.at_ + 8, left := s.left - 1 } (numL B s.at_ 8) := by unfold one; rw [if_neg h, if_neg k, if_neg (by omega), if_neg l, if_neg (by omega)]
theorem one_le (h : ¬ 0 < s.copies) (k : ¬ s.kind = -1) (k0 : s.kind = 0) (l : ¬ s.left = 0) (x : s.at_ + 8 ≤ 8 * B.length) (p : put_ mo { s with at_ := s.at_ + 8 } (numL B s.at_ 8) = .error e) : one B mo s = .error e := by
 rw [one_lp h k k0 l x]
 by_cases q : (s.out.length : Int) < mo
 ·rw [put_yes (s := { s with at_ := s.at_ + 8 }) q] at p; cases p
 ·rw [put_no (s := { s with at_ := s.at_ + 8 }) q] at p; rw [← p]; exact put_no q
theorem one_ly (h : ¬ 0 < s.copies) (k : ¬ s.kind = -1) (k0 : s.kind = 0) (l : ¬ s.left = 0) (x : s.at_ + 8 ≤ 8 * B.length) (q : (s.out.length : Int) < mo) : one B mo s = .ok { s with at_ := s.at_ + 8, left := s.left - 1, out := s.out ++ [numL B s.at_ 8] } := by
 rw [one_lp h k k0 l x]; exact put_yes q
end
end Go.InfP
namespace Go.InfP
open Go.BitP Go.HuffP
theorem fixL_len : fixL.length = 288 := by decide +kernel
theorem fixD_len : fixD.length = 32 := by decide +kernel
def mu (B : List Int) (s : St) : Nat := (8 * B.length - s.at_) * 1000 + s.copies + (if s.kind = -1 then 0 else 1)
theorem mu_no {B : List Int} {s : St} (h : s.kind = -1) : mu B s = (8 * B.length - s.at_) * 1000 + s.copies := by unfold mu; rw [if_pos h, Nat.add_zero]
theorem mu_yes {B : List Int} {s : St} (h : ¬ s.kind = -1) : mu B s = (8 * B.length - s.at_) * 1000 + s.copies + 1 := by unfold mu; rw [if_neg h]
theorem mu_le (B : List Int) (s : St) : mu B s ≤ (8 * B.length - s.at_) * 1000 + s.copies + 1 := by unfold mu; split <;> omega
theorem byt_app {l : List Int} {y : Int} (h : Byt l) (hy : 0 ≤ y ∧ y < 256) : Byt (l ++ [y]) := by
 intro x hx
 rcases List.mem_append.1 hx with hx | hx
 ·exact h x hx
 ·rw [List.mem_singleton.1 hx]; exact hy
structure Good (B : List Int) (mo : Int) (s s2 : St) : Prop where
 ok : Ok B mo s2
 less : mu B s2 < mu B s
 le : s.out.length ≤ s2.out.length
 one : s2.out.length ≤ s.out.length + 1
theorem put_good {B : List Int} {mo : Int} {s s1 s2 : St} {y : Int} (hy : 0 ≤ y ∧ y < 256) (h : put_ mo s1 y = .ok s2) (ho : s1.out = s.out) (hok : Ok B mo s1) (hl : mu B s1 < mu B s) (hf : s1.copies = 0 ∨ True) : Good B mo s s2 := by
 obtain ⟨k, rfl⟩ := put_ok h
 refine ⟨⟨hok.at_, by simp; omega, byt_app hok.byt hy, hok.kind, hok.left, hok.codes, hok.copies, fun h => ?_⟩, hl, by simp [ho], by simp [ho]⟩
 have := hok.far h
 simp; omega
theorem one_good {B : List Int} {mo : Int} {s s2 : St} (hB : Byt B) (hok : Ok B mo s) (h : one B mo s = .ok s2) : Good B mo s s2 := by
 obtain ⟨q1, q2, q3, q4, q5, q6, q7, q8⟩ := hok
 by_cases hc : 0 < s.copies
 ·have he : put_ mo { s with copies := s.copies - 1 } (s.out.getD (s.out.length - s.far) 0) = .ok s2 := by unfold one at h; rw [if_pos hc] at h; exact h
  refine put_good (q3.get _) he rfl ⟨q1, q2, q3, q4, q5, q6, by show s.copies - 1 < 400; omega, fun _ => q8 hc⟩ ?_ (.inr trivial)
  show (8 * B.length - s.at_) * 1000 + (s.copies - 1) + (if s.kind = -1 then 0 else 1) < (8 * B.length - s.at_) * 1000 + s.copies + (if s.kind = -1 then 0 else 1)
  omega
 by_cases hk : s.kind = -1
 ·rw [one_b hc hk] at h
  by_cases h1 : 8 * B.length < s.at_ + 3
  ·rw [beg_1 h1] at h; cases h
  have hx1 : s.at_ + 3 ≤ 8 * B.length := by omega
  have hm := mu_no (B := B) hk
  by_cases k0 : numL B (s.at_ + 1) 2 = 0
  ·by_cases hx : 8 * B.length < alg (s.at_ + 3) + 32
   ·rw [beg_0s hx1 k0 hx] at h; cases h
   ·by_cases hn : numL B (alg (s.at_ + 3)) 16 = 65535 - numL B (alg (s.at_ + 3) + 16) 16
    ·rw [beg_0y hx1 k0 (by omega) hn] at h; cases h
     have hb := numL_bound B (alg (s.at_ + 3)) 16
     have ha := alg_eq (s.at_ + 3)
     refine ⟨⟨by show alg (s.at_ + 3) + 32 ≤ _; omega, q2, q3, .inr (.inl rfl), by show (numL B (alg (s.at_ + 3)) 16).toNat < 65536; omega, fun h => absurd h (by show ¬ (0 : Int) < 0; omega), q7, q8⟩, ?_, Nat.le_refl _, Nat.le_succ _⟩
     refine Nat.lt_of_le_of_lt (mu_le B _) ?_
     rw [hm]
     show (8 * B.length - (alg (s.at_ + 3) + 32)) * 1000 + s.copies + 1 < _
     omega
    ·rw [beg_0n hx1 k0 (by omega) hn] at h; cases h
  ·by_cases k1 : numL B (s.at_ + 1) 2 = 1
   ·rw [beg_f hx1 k1] at h; cases h
    refine ⟨⟨hx1, q2, q3, .inr (.inr (.inl rfl)), q5, fun _ => ⟨fixL_ok, fixD_ok, by show 0 < fixL.length; rw [fixL_len]; decide, by show 0 < fixD.length; rw [fixD_len]; decide⟩, q7, q8⟩, ?_, Nat.le_refl _, Nat.le_succ _⟩
    refine Nat.lt_of_le_of_lt (mu_le B _) ?_
    rw [hm]
    show (8 * B.length - (s.at_ + 3)) * 1000 + s.copies + 1 < _
    omega
   ·by_cases k2 : numL B (s.at_ + 1) 2 = 2
    ·rcases ex_or (told B (s.at_ + 3)) with ⟨e, ht⟩ | ⟨⟨a, l, d⟩, ht⟩
     ·rw [beg_dn hx1 k2 ht] at h; cases h
     ·rw [beg_dy hx1 k2 ht] at h; cases h
      obtain ⟨t1, t2, t3, t4, t5, t6⟩ := told_good ht
      refine ⟨⟨t6, q2, q3, .inr (.inr (.inr rfl)), q5, fun _ => ⟨t1, t2, t3, t4⟩, q7, q8⟩, ?_, Nat.le_refl _, Nat.le_succ _⟩
      refine Nat.lt_of_le_of_lt (mu_le B _) ?_
      rw [hm]
      show (8 * B.length - a) * 1000 + s.copies + 1 < _
      omega
    ·rw [beg_no hx1 k0 k1 k2] at h; cases h
 have hm := mu_yes (B := B) hk
 by_cases hk0 : s.kind = 0
 ·by_cases hl : s.left = 0
  ·rw [one_l0 hc hk hk0 hl] at h; cases h
   refine ⟨⟨q1, q2, q3, .inl rfl, q5, fun h => absurd h (by show ¬ (0 : Int) < -1; omega), q7, q8⟩, ?_, Nat.le_refl _, Nat.le_succ _⟩
   rw [hm, mu_no rfl]
   show (8 * B.length - s.at_) * 1000 + s.copies < _
   omega
  ·by_cases hx : 8 * B.length < s.at_ + 8
   ·rw [one_ls hc hk hk0 hl hx] at h; cases h
   ·rw [one_lp hc hk hk0 hl (by omega)] at h
    have hb := numL_bound B s.at_ 8
    refine put_good (by omega) h rfl ⟨by show s.at_ + 8 ≤ _; omega, q2, q3, q4, by show s.left - 1 < 65536; omega, q6, q7, q8⟩ ?_ (.inr trivial)
    refine Nat.lt_of_le_of_lt (mu_le B _) ?_
    rw [hm]
    show (8 * B.length - (s.at_ + 8)) * 1000 + s.copies + 1 < _
    omega
 ·rw [one_c hc hk hk0] at h
  have hkp : 0 < s.kind := by omega
  obtain ⟨e1, e2, z1, z2⟩ := q6 hkp
  rcases sym_or (B := B) (a := s.at_) e1 z1 with ⟨e, hs⟩ | ⟨y, a1, hs, y0, y1, a0, ha1⟩
  ·rw [cod_e hs] at h; cases h
  by_cases hy : y < 256
  ·rw [cod_put hs hy] at h
   refine put_good (by omega) h rfl ⟨ha1, q2, q3, q4, q5, q6, q7, q8⟩ ?_ (.inr trivial)
   refine Nat.lt_of_le_of_lt (mu_le B _) ?_
   rw [hm]
   show (8 * B.length - a1) * 1000 + s.copies + 1 < _
   omega
  by_cases hy2 : y = 256
  ·rw [cod_end hs hy2] at h; cases h
   refine ⟨⟨ha1, q2, q3, .inl rfl, q5, fun h => absurd h (by show ¬ (0 : Int) < -1; omega), q7, q8⟩, ?_, Nat.le_refl _, Nat.le_succ _⟩
   refine Nat.lt_of_le_of_lt (mu_le B _) ?_
   rw [hm]
   show (8 * B.length - a1) * 1000 + s.copies + 1 < _
   omega
  rcases len_or (B := B) (s := y - 257) (a := a1) (by omega) ha1 with ⟨e, hn⟩ | ⟨n, a2, hn, n0, n1, n2, n3⟩
  ·rw [cod_l hs (by omega) hn] at h; cases h
  rcases away_or (B := B) (a := a2) e2 z2 with ⟨e, hf⟩ | ⟨f, a3, hf, f0, f1, f2, f3⟩
  ·rw [cod_a hs (by omega) hn hf] at h; cases h
  by_cases hfo : f ≤ s.out.length
  ·rw [cod_y hs (by omega) hn hf (by omega)] at h; cases h
   refine ⟨⟨f3, q2, q3, q4, q5, q6, by show ((n : Int)).toNat < 400; omega, fun _ => by show 1 ≤ ((f : Int)).toNat ∧ ((f : Int)).toNat ≤ s.out.length; omega⟩, ?_, Nat.le_refl _, Nat.le_succ _⟩
   refine Nat.lt_of_le_of_lt (mu_le B _) ?_
   rw [hm]
   show (8 * B.length - a3) * 1000 + ((n : Int)).toNat + 1 < _
   omega
  ·rw [cod_n hs (by omega) hn hf (by omega)] at h; cases h
inductive Lp (B : List Int) (mo : Int) (w : Nat) (n : Int) : St → Except Int St → Prop
 | stop {s : St} : (s.ended = true ∨ n ≤ (s.out.length : Int) - w) → Lp B mo w n s (.ok s)
 | step {s s' : St} {o : Except Int St} : s.ended = false → (s.out.length : Int) - w < n → one B mo s = .ok s' → Lp B mo w n s' o → Lp B mo w n s o
 | fail {s : St} {e : Int} : s.ended = false → (s.out.length : Int) - w < n → one B mo s = .error e → Lp B mo w n s (.error e)
theorem lp_ex {B : List Int} {mo : Int} (hB : Byt B) (w : Nat) (n : Int) : ∀ (k : Nat) {s : St}, mu B s ≤ k → Ok B mo s → ∃ o, Lp B mo w n s o := by
 intro k
 induction k with
 | zero =>
  intro s hk hok
  by_cases h1 : s.ended = true
  ·exact ⟨_, .stop (.inl h1)⟩
  by_cases h2 : n ≤ (s.out.length : Int) - w
  ·exact ⟨_, .stop (.inr h2)⟩
  rcases ex_or (one B mo s) with ⟨e, h⟩ | ⟨s2, h⟩
  ·exact ⟨_, .fail (by simpa using h1) (by omega) h⟩
  ·have := (one_good hB hok h).less; omega
 | succ k ih =>
  intro s hk hok
  by_cases h1 : s.ended = true
  ·exact ⟨_, .stop (.inl h1)⟩
  by_cases h2 : n ≤ (s.out.length : Int) - w
  ·exact ⟨_, .stop (.inr h2)⟩
  rcases ex_or (one B mo s) with ⟨e, h⟩ | ⟨s2, h⟩
  ·exact ⟨_, .fail (by simpa using h1) (by omega) h⟩
  ·have hg := one_good hB hok h
   have := hg.less
   obtain ⟨o, ho⟩ := ih (show mu B s2 ≤ k by omega) hg.ok
   exact ⟨o, .step (by simpa using h1) (by omega) h ho⟩
theorem lp_good {B : List Int} {mo : Int} {w : Nat} {n : Int} {s : St} {o : Except Int St} (hB : Byt B) (h : Lp B mo w n s o) : Ok B mo s → (∀ s2, o = .ok s2 → Ok B mo s2 ∧ mu B s2 ≤ mu B s ∧ Goes B mo s s2 ∧ (s2.ended = true ∨ n ≤ (s2.out.length : Int) - w) ∧ (s.ended = false → (s.out.length : Int) - w < n → mu B s2 < mu B s) ∧ s.out.length ≤ s2.out.length) ∧ (∀ e, o = .error e → Runs B mo s (.error e)) := by
 induction h with
 | stop h => intro hok; exact ⟨fun s2 e => by cases e; exact ⟨hok, Nat.le_refl _, .refl _ _ _, h, fun h1 h2 => by rcases h with h | h; (rw [h1] at h; cases h); omega, Nat.le_refl _⟩, fun e h => by cases h⟩
 | step h1 h2 h3 h4 ih =>
  intro hok
  have hg := one_good hB hok h3
  have hl := hg.less
  have hle := hg.le
  obtain ⟨k1, k2⟩ := ih hg.ok
  refine ⟨fun s2 e => ?_, fun e h => .step h1 h3 (k2 e h)⟩
  obtain ⟨m1, m2, m3, m4, m5, m6⟩ := k1 s2 e
  exact ⟨m1, by omega, (Goes.one h1 h3).trans m3, m4, fun _ _ => by omega, by omega⟩
 | fail h1 h2 h3 => intro hok; exact ⟨fun s2 e => (by cases e), fun e h => by cases h; exact .fail h1 h3⟩
abbrev Jt := Except Int St
def endJ : Jt → Bool
 | .ok s => s.ended
 | .error _ => true
def outJ : Jt → List Int
 | .ok s => if s.ended = true then s.out else []
 | .error _ => []
def errJ : Jt → Int
 | .ok _ => 0
 | .error e => e
def usedJ : Jt → Int
 | .ok s => if s.ended = true then ((s.at_ + 7) / 8 : Nat) else 0
 | .error _ => 0
def OkJ (B : List Int) (mo : Int) : Jt → Prop
 | .ok s => Ok B mo s
 | .error e => e ≠ 0
def StepJ (B : List Int) (mo n : Int) (r r' : Jt) : Prop := ((n < 1 ∨ endJ r = true) ∧ r' = r) ∨ (1 ≤ n ∧ ∃ s, r = .ok s ∧ s.ended = false ∧ Lp B mo s.out.length n s r')
def AtJ (B : List Int) (mo : Int) (s0 : St) : Jt → Prop
 | .ok s => Goes B mo s0 s
 | .error e => Runs B mo s0 (.error e)
def Ou : Oc → List Int × Int × Int
 | .ok (x, n) => (x, (n : Int), 0)
 | .error e => ([], 0, e)
theorem start_ok {B : List Int} {mo : Int} (h : 0 ≤ mo) : Ok B mo start := ⟨Nat.zero_le _, by show ((0 : Nat) : Int) ≤ mo; omega, fun x hx => (by cases hx), .inl rfl, by decide, fun h => absurd h (by decide), by decide, fun h => absurd h (by decide)⟩
end Go.InfP
namespace Go.InfP
section
variable {B : List Int} {mo n e : Int} {w : Nat} {s s2 : St} {o : Except Int St}
theorem lp_at (h : Lp B mo w n s o) (k : s.ended = true ∨ n ≤ (s.out.length : Int) - w) : o = .ok s := by
 cases h with
 | stop _ => rfl
 | step h1 h2 => exfalso; rcases k with k | k; (rw [h1] at k; cases k); omega
 | fail h1 h2 => exfalso; rcases k with k | k; (rw [h1] at k; cases k); omega
theorem lp_go (h : Lp B mo w n s o) (k1 : s.ended = false) (k2 : (s.out.length : Int) - w < n) (p : one B mo s = .ok s2) : Lp B mo w n s2 o := by
 cases h with
 | stop h => exfalso; rcases h with k | k; (rw [k1] at k; cases k); omega
 | step _ _ h3 h4 => rw [h3] at p; cases p; exact h4
 | fail _ _ h3 => rw [h3] at p; cases p
theorem lp_er (h : Lp B mo w n s o) (k1 : s.ended = false) (k2 : (s.out.length : Int) - w < n) (p : one B mo s = .error e) : o = .error e := by
 cases h with
 | stop h => exfalso; rcases h with k | k; (rw [k1] at k; cases k); omega
 | step _ _ h3 h4 => rw [h3] at p; cases p
 | fail _ _ h3 => rw [h3] at p; cases p; rfl
end
end Go.InfP
namespace Go.InfP
open Go.BitP Go.HuffP
section
variable {B : List Int} {mo e : Int}
theorem sym_nz {ls : List Int} {a : Nat} (h : sym ls B a = .error e) : e ≠ 0 := by
 unfold sym at h; split at h <;> cases h <;> decide
theorem rep_nz {l : List Int} {s : Int} {a : Nat} (h : rep B s l a = .error e) : e ≠ 0 := by
 unfold rep at h
 split at h
 ·cases h
 split at h
 ·cases h; decide
 split at h
 ·cases h; decide
 ·cases h
theorem lnGo_nz {c : List Int} {tot : Nat} : ∀ {f : Nat} {l : List Int} {a : Nat}, lnGo B c tot f l a = .error e → e ≠ 0 := by
 intro f
 induction f with
 | zero => intro l a h; cases h
 | succ f ih =>
  intro l a h
  simp only [lnGo] at h
  split at h
  ·rcases ln_or B c l a with ⟨e2, hs⟩ | ⟨sy, x2, e2, hs, hr⟩ | ⟨sy, x2, v, n, x3, hs, hr⟩
   ·rw [lnStep_1 hs] at h; cases h; exact sym_nz hs
   ·rw [lnStep_2 hs hr] at h; cases h; exact rep_nz hr
   ·rw [lnStep_3 hs hr] at h
    simp only at h
    split at h
    ·exact ih h
    ·cases h; decide
  ·cases h
theorem told_nz {a : Nat} (h : told B a = .error e) : e ≠ 0 := by
 unfold told at h
 split at h
 ·cases h; decide
 split at h
 ·cases h; decide
 split at h
 ·cases h; decide
 split at h
 ·cases h; decide
 split at h
 ·rename_i e2 h2; cases h; exact lnGo_nz h2
 ·split at h
  ·cases h; decide
  ·cases h
theorem put_nz {s : St} {y : Int} (h : put_ mo s y = .error e) : e ≠ 0 := by
 unfold put_ at h; split at h <;> cases h; decide
theorem len_nz {s : Int} {a : Nat} (h : lenE B s a = .error e) : e ≠ 0 := by
 unfold lenE at h
 split at h
 ·cases h; decide
 split at h
 ·cases h; decide
 ·cases h
theorem away_nz {ds : List Int} {a : Nat} (h : awayE B ds a = .error e) : e ≠ 0 := by
 unfold awayE at h
 split at h
 ·rename_i e2 h2; cases h; exact sym_nz h2
 ·split at h
  ·cases h; decide
  split at h
  ·cases h; decide
  ·cases h
theorem begin_nz {s : St} (h : begin_ B s = .error e) : e ≠ 0 := by
 unfold begin_ at h
 split at h
 ·cases h; decide
 split at h
 ·split at h
  ·cases h; decide
  split at h
  ·cases h
  ·cases h; decide
 split at h
 ·cases h
 split at h
 ·split at h
  ·rename_i e2 h2; cases h; exact told_nz h2
  ·cases h
 ·cases h; decide
theorem coded_nz {s : St} (h : coded B mo s = .error e) : e ≠ 0 := by
 rcases ex_or (sym s.lits B s.at_) with ⟨e2, hs⟩ | ⟨⟨y, a⟩, hs⟩
 ·rw [cod_e hs] at h; cases h; exact sym_nz hs
 by_cases h1 : y < 256
 ·rw [cod_put hs h1] at h; exact put_nz h
 by_cases h2 : y = 256
 ·rw [cod_end hs h2] at h; cases h
 rcases ex_or (lenE B (y - 257) a) with ⟨e2, hn⟩ | ⟨⟨n, a2⟩, hn⟩
 ·rw [cod_l hs (by omega) hn] at h; cases h; exact len_nz hn
 rcases ex_or (awayE B s.dist a2) with ⟨e2, hf⟩ | ⟨⟨f, a3⟩, hf⟩
 ·rw [cod_a hs (by omega) hn hf] at h; cases h; exact away_nz hf
 by_cases h3 : f ≤ s.out.length
 ·rw [cod_y hs (by omega) hn hf h3] at h; cases h
 ·rw [cod_n hs (by omega) hn hf h3] at h; cases h; decide
theorem one_nz {s : St} (h : one B mo s = .error e) : e ≠ 0 := by
 unfold one at h
 split at h
 ·exact put_nz h
 split at h
 ·exact begin_nz h
 split at h
 ·exact coded_nz h
 split at h
 ·cases h
 split at h
 ·cases h; decide
 ·exact put_nz h
theorem lp_nz {s : St} {w : Nat} {n : Int} {o : Jt} (h : Lp B mo w n s o) : o = .error e → e ≠ 0 := by
 induction h with
 | stop _ => intro h; cases h
 | step _ _ _ _ ih => exact ih
 | fail _ _ h => intro q; cases q; exact one_nz h
end
def muJ (B : List Int) : Jt → Nat
 | .ok s => mu B s + 1
 | .error _ => 0
def lenJ : Jt → Nat
 | .ok s => s.out.length
 | .error _ => 0
theorem stepJ_ex {B : List Int} {mo : Int} {r : Jt} (hB : Byt B) (hok : OkJ B mo r) (n : Int) : ∃ r', StepJ B mo n r r' := by
 by_cases hn : n < 1
 ·exact ⟨r, .inl ⟨.inl hn, rfl⟩⟩
 cases r with
 | error e => exact ⟨_, .inl ⟨.inr rfl, rfl⟩⟩
 | ok s =>
  cases he : s.ended with
  | true => exact ⟨_, .inl ⟨.inr he, rfl⟩⟩
  | false =>
   obtain ⟨o, ho⟩ := lp_ex hB s.out.length n _ (Nat.le_refl _) hok
   exact ⟨o, .inr ⟨by omega, s, rfl, he, ho⟩⟩
structure GoodJ (B : List Int) (mo : Int) (s0 : St) (n : Int) (r r' : Jt) : Prop where
 ok : OkJ B mo r'
 at_ : AtJ B mo s0 r'
 le : muJ B r' ≤ muJ B r
 less : endJ r = false → 1 ≤ n → muJ B r' < muJ B r
 out : endJ r = false → 1 ≤ n → endJ r' = true ∨ lenJ r + 1 ≤ lenJ r'
 stay : (n < 1 ∨ endJ r = true) → r' = r
theorem stepJ_good {B : List Int} {mo n : Int} {s0 : St} {r r' : Jt} (hB : Byt B) (hok : OkJ B mo r) (hat : AtJ B mo s0 r) (h : StepJ B mo n r r') : GoodJ B mo s0 n r r' := by
 rcases h with ⟨hx, rfl⟩ | ⟨hn, s, rfl, he, hl⟩
 ·refine ⟨hok, hat, Nat.le_refl _, fun h1 h2 => ?_, fun h1 h2 => ?_, fun _ => rfl⟩ <;> (exfalso; rcases hx with hx | hx; omega; rw [h1] at hx; cases hx)
 ·obtain ⟨k1, k2⟩ := lp_good hB hl hok
  cases r' with
  | ok s2 =>
   obtain ⟨m1, m2, m3, m4, m5, m6⟩ := k1 s2 rfl
   have := m5 he (by omega)
   refine ⟨m1, hat.trans m3, by show mu B s2 + 1 ≤ mu B s + 1; omega, fun _ _ => by show mu B s2 + 1 < mu B s + 1; omega, fun _ _ => ?_, fun hx => ?_⟩
   ·rcases m4 with m4 | m4
    ·exact .inl m4
    ·right; show s.out.length + 1 ≤ s2.out.length; omega
   ·exfalso; rcases hx with hx | hx
    ·omega
    ·rw [show endJ (.ok s) = s.ended from rfl, he] at hx; cases hx
  | error e =>
   refine ⟨lp_nz hl rfl, hat _ (k2 e rfl), Nat.zero_le _, fun _ _ => Nat.succ_pos _, fun _ _ => .inl rfl, fun hx => ?_⟩
   exfalso; rcases hx with hx | hx
   ·omega
   ·rw [show endJ (.ok s) = s.ended from rfl, he] at hx; cases hx
def Res (B : List Int) (mo : Int) (q : List Int × Int × Int) : Prop := (mo < 0 ∧ q = ([], 0, 1)) ∨ (0 ≤ mo ∧ ∃ o, Runs B mo start o ∧ q = Ou o)
theorem Res.det {B : List Int} {mo : Int} {q q' : List Int × Int × Int} (h : Res B mo q) (h' : Res B mo q') : q = q' := by
 rcases h with ⟨a, rfl⟩ | ⟨a, o, r, rfl⟩ <;> rcases h' with ⟨a', rfl⟩ | ⟨a', o', r', rfl⟩
 ·rfl
 ·omega
 ·omega
 ·rw [r.det r']
theorem atJ_end {B : List Int} {mo : Int} {r : Jt} (hm : 0 ≤ mo) (h : AtJ B mo start r) (he : endJ r = true) : Res B mo (outJ r, usedJ r, errJ r) := by
 refine .inr ⟨hm, ?_⟩
 cases r with
 | ok s => exact ⟨.ok (s.out, (s.at_ + 7) / 8), h _ (.done he), by simp only [outJ, usedJ, errJ, Ou]; rw [if_pos (show s.ended = true from he), if_pos (show s.ended = true from he)]⟩
 | error e => exact ⟨.error e, h, rfl⟩
theorem runs_room {B : List Int} {mo : Int} (hB : Byt B) {s : St} {o : Oc} (h : Runs B mo s o) : Ok B mo s → ∀ x n, o = .ok (x, n) → (x.length : Int) ≤ mo ∧ n ≤ B.length ∧ Byt x := by
 induction h with
 | done h => intro hok x n e; cases e; exact ⟨hok.room, by have := hok.at_; omega, hok.byt⟩
 | step h1 h2 h3 ih => intro hok; exact ih (one_good hB hok h2).ok
 | fail _ _ => intro _ x n e; cases e
end Go.InfP
namespace Go.InfP
open Go.BitP Go.HuffP
def newJ (mo : Int) : Jt := if mo < 0 then .error 1 else .ok start
structure Way (B : List Int) (mo : Int) (r : Jt) : Prop where
 ok : OkJ B mo r
 at_ : (0 ≤ mo ∧ AtJ B mo start r) ∨ (mo < 0 ∧ r = .error 1)
structure WayS (B : List Int) (mo n : Int) (r r' : Jt) : Prop where
 way : Way B mo r'
 out : endJ r = false → 1 ≤ n → endJ r' = true ∨ lenJ r + 1 ≤ lenJ r'
 stay : (n < 1 ∨ endJ r = true) → r' = r
end Go.InfP
namespace Go.InfP
open Go.BitP Go.HuffP
end Go.InfP

/- Steps of the proof: the walks of the functions that the statement reaches; printed by a program of ours. -/
import Derived.Test.YtmclopghpnndnaaSl19
import Derived.Test.YtmclopghpnndnaaSl20
/-
  A stable sort in place: what each step leaves. 'Rl': a row became another one within a range: nothing outside it has turned, what stands inside stood inside, and those of one key stand as they stood.
-/
namespace Go.StS
set_option linter.unusedVariables false
set_option linter.unusedSimpArgs false
variable {α : Type}

structure Rl (key : α → Int) (d : α) (l l' : List α) (a b : Nat) : Prop where
  len : l'.length = l.length
  out : ∀ i, i < a ∨ b ≤ i → l'.getD i d = l.getD i d
  mem : ∀ i, a ≤ i → i < b → ∃ j, a ≤ j ∧ j < b ∧ l'.getD i d = l.getD j d
  same : ∀ c, l'.filter (fun x => decide (key x = c)) = l.filter (fun x => decide (key x = c))
def Sd (key : α → Int) (d : α) (l : List α) (a b : Nat) : Prop := ∀ i j, a ≤ i → i ≤ j → j < b → key (l.getD i d) ≤ key (l.getD j d)

variable {key : α → Int} {d : α}
theorem Rl.refl (l : List α) (a b : Nat) : Rl key d l l a b := ⟨rfl, fun _ _ => rfl, fun i h1 h2 => ⟨i, h1, h2, rfl⟩, fun _ => rfl⟩
theorem Rl.trans {l1 l2 l3 : List α} {a b : Nat} (h : Rl key d l1 l2 a b) (k : Rl key d l2 l3 a b) : Rl key d l1 l3 a b :=
  ⟨k.len.trans h.len, fun i hi => (k.out i hi).trans (h.out i hi), fun i h1 h2 => by
    obtain ⟨j, j1, j2, j3⟩ := k.mem i h1 h2
    obtain ⟨m, m1, m2, m3⟩ := h.mem j j1 j2
    exact ⟨m, m1, m2, j3.trans m3⟩, fun c => (k.same c).trans (h.same c)⟩
theorem Rl.wide {l l' : List α} {a b a' b' : Nat} (h : Rl key d l l' a b) (h1 : a' ≤ a) (h2 : b ≤ b') : Rl key d l l' a' b' :=
  ⟨h.len, fun i hi => h.out i (by omega), fun i i1 i2 => by
    by_cases hi : a ≤ i ∧ i < b
    · obtain ⟨j, j1, j2, j3⟩ := h.mem i hi.1 hi.2
      exact ⟨j, by omega, by omega, j3⟩
    · exact ⟨i, i1, i2, h.out i (by omega)⟩, h.same⟩
theorem Sd.congr {l l' : List α} {a b : Nat} (h : Sd key d l a b) (e : ∀ i, a ≤ i → i < b → l'.getD i d = l.getD i d) : Sd key d l' a b := fun i j h1 h2 h3 => by
  rw [e i h1 (by omega), e j (by omega) h3]; exact h i j h1 h2 h3
theorem Sd.small {l : List α} {a b : Nat} (h : b ≤ a + 1) : Sd key d l a b := fun i j h1 h2 h3 => by
  obtain rfl : i = j := by omega
  exact Int.le_refl _
theorem Sd.sub {l : List α} {a b a' b' : Nat} (h : Sd key d l a b) (h1 : a ≤ a') (h2 : b' ≤ b) : Sd key d l a' b' := fun i j h3 h4 h5 => h i j (by omega) h4 (by omega)
/-- Two sorted ranges side by side. -/
theorem Sd.join {l : List α} {a m b : Nat} (h1 : Sd key d l a m) (h2 : Sd key d l m b) (h : ∀ i j, a ≤ i → i < m → m ≤ j → j < b → key (l.getD i d) ≤ key (l.getD j d)) : Sd key d l a b := fun i j i1 i2 i3 => by
  by_cases hj : j < m
  · exact h1 i j i1 i2 hj
  · by_cases hi : i < m
    · exact h i j i1 hi (by omega) i3
    · exact h2 i j (by omega) i2 i3

theorem split2 (l : List α) (i : Nat) (h : i + 1 < l.length) : l = l.take i ++ (l.getD i d :: l.getD (i + 1) d :: l.drop (i + 2)) := by
  conv => lhs; rw [← List.take_append_drop i l]
  congr 1
  rw [List.drop_eq_getElem_cons (by omega), List.drop_eq_getElem_cons h]
  simp [List.getD_eq_getElem?_getD, show i < l.length by omega, h]
theorem swap_list (l : List α) (i : Nat) (h : i + 1 < l.length) : (l.set i (l.getD (i + 1) d)).set (i + 1) (l.getD i d) = l.take i ++ (l.getD (i + 1) d :: l.getD i d :: l.drop (i + 2)) := by
  apply List.ext_getElem?
  intro j
  have hl : (l.take i).length = i := by simp; omega
  by_cases h1 : j < i
  · rw [List.getElem?_append_left (by omega), List.getElem?_set_ne (by omega), List.getElem?_set_ne (by omega)]
    simp [List.getElem?_take, h1]
  · rw [List.getElem?_append_right (by omega), hl]
    by_cases h2 : j = i
    · subst h2
      simp [List.getElem?_set, show j < l.length by omega]
    · by_cases h3 : j = i + 1
      · subst h3
        simp [List.getElem?_set, h]
      · rw [List.getElem?_set_ne (by omega), List.getElem?_set_ne (by omega)]
        obtain ⟨k, rfl⟩ : ∃ k, j = i + 2 + k := ⟨j - (i + 2), by omega⟩
        rw [show i + 2 + k - i = k + 2 by omega]
        simp [List.getElem?_drop]
theorem swap_comm (l : List α) (i : Nat) (x y : α) : (l.set (i + 1) x).set i y = (l.set i y).set (i + 1) x := by
  rw [List.set_comm]; omega
/-- Neighbours of unlike keys change places. -/
theorem Rl.swap {l : List α} {a b i : Nat} (h1 : a ≤ i) (h2 : i + 1 < b) (hl : i + 1 < l.length) (hk : key (l.getD i d) ≠ key (l.getD (i + 1) d)) : Rl key d l ((l.set i (l.getD (i + 1) d)).set (i + 1) (l.getD i d)) a b := by
  refine ⟨by simp, fun j hj => ?_, fun j j1 j2 => ?_, fun c => ?_⟩
  · simp only [List.getD_eq_getElem?_getD]
    rw [List.getElem?_set_ne (by omega), List.getElem?_set_ne (by omega)]
  · by_cases e1 : j = i
    · subst e1
      refine ⟨j + 1, by omega, h2, ?_⟩
      simp only [List.getD_eq_getElem?_getD]
      rw [List.getElem?_set_ne (by omega)]
      simp [List.getElem?_set, show j < l.length by omega]
    · by_cases e2 : j = i + 1
      · subst e2
        refine ⟨i, h1, by omega, ?_⟩
        simp only [List.getD_eq_getElem?_getD]
        simp [List.getElem?_set, hl]
      · refine ⟨j, j1, j2, ?_⟩
        simp only [List.getD_eq_getElem?_getD]
        rw [List.getElem?_set_ne (by omega), List.getElem?_set_ne (by omega)]
  · rw [swap_list l i hl]
    conv => rhs; rw [split2 (d := d) l i hl]
    simp only [List.filter_append, List.filter_cons]
    congr 1
    generalize l.getD i d = x at hk
    generalize l.getD (i + 1) d = y at hk
    by_cases k1 : key x = c
    · have k2 : ¬ key y = c := fun e => hk (k1.trans e.symm)
      simp [k1, k2]
    · simp [k1]

/-! ### Blocks -/
theorem getD_app1 {x y : List α} {i : Nat} (h : i < x.length) : (x ++ y).getD i d = x.getD i d := by
  simp only [List.getD_eq_getElem?_getD, List.getElem?_append_left h]
theorem getD_app2 {x y : List α} {i : Nat} (h : x.length ≤ i) : (x ++ y).getD i d = y.getD (i - x.length) d := by
  simp only [List.getD_eq_getElem?_getD, List.getElem?_append_right h]
theorem getD_mem {x : List α} {i : Nat} (h : i < x.length) : x.getD i d ∈ x := by
  simp [List.getD_eq_getElem?_getD, h]
/-- Two blocks change places, no key of one being one of the other. -/
theorem Rl.rotate {P X Y S : List α} {a b : Nat} (ha : a ≤ P.length) (hb : P.length + X.length + Y.length ≤ b) (hk : ∀ x ∈ X, ∀ y ∈ Y, key x ≠ key y) : Rl key d (P ++ X ++ Y ++ S) (P ++ Y ++ X ++ S) a b := by
  have hin : ∀ i, P.length ≤ i → i < P.length + X.length + Y.length → ∃ j, P.length ≤ j ∧ j < P.length + X.length + Y.length ∧ (P ++ Y ++ X ++ S).getD i d = (P ++ X ++ Y ++ S).getD j d := by
    intro i i1 i2
    by_cases h1 : i < P.length + Y.length
    · refine ⟨i + X.length, by omega, by omega, ?_⟩
      rw [getD_app1 (by simp; omega), getD_app1 (by simp; omega), getD_app2 i1, getD_app1 (by simp; omega), getD_app2 (by simp; omega)]
      congr 1
      simp; omega
    · refine ⟨i - Y.length, by omega, by omega, ?_⟩
      rw [getD_app1 (by simp; omega), getD_app2 (by simp; omega), getD_app1 (by simp; omega), getD_app1 (by simp; omega), getD_app2 (by omega)]
      congr 1
      simp; omega
  have hout : ∀ i, i < P.length ∨ P.length + X.length + Y.length ≤ i → (P ++ Y ++ X ++ S).getD i d = (P ++ X ++ Y ++ S).getD i d := by
    intro i hi
    rcases hi with hi | hi
    · rw [getD_app1 (by simp; omega), getD_app1 (by simp; omega), getD_app1 hi, getD_app1 (by simp; omega), getD_app1 (by simp; omega), getD_app1 hi]
    · rw [getD_app2 (by simp; omega), getD_app2 (by simp; omega)]
      congr 1
      simp; omega
  refine ⟨by simp; omega, fun i hi => hout i (by omega), fun i i1 i2 => ?_, fun c => ?_⟩
  · by_cases hi : P.length ≤ i ∧ i < P.length + X.length + Y.length
    · obtain ⟨j, j1, j2, j3⟩ := hin i hi.1 hi.2
      exact ⟨j, by omega, by omega, j3⟩
    · exact ⟨i, i1, i2, hout i (by omega)⟩
  · simp only [List.filter_append]
    have : Y.filter (fun x => decide (key x = c)) ++ X.filter (fun x => decide (key x = c)) = X.filter (fun x => decide (key x = c)) ++ Y.filter (fun x => decide (key x = c)) := by
      by_cases hx : ∃ x ∈ X, key x = c
      · obtain ⟨x, x1, x2⟩ := hx
        have : Y.filter (fun x => decide (key x = c)) = [] := by
          rw [List.filter_eq_nil_iff]
          intro y hy
          simp
          intro e
          exact hk x x1 y hy (x2.trans e.symm)
        rw [this]; simp
      · have : X.filter (fun x => decide (key x = c)) = [] := by
          rw [List.filter_eq_nil_iff]
          intro y hy
          simp
          intro e
          exact hx ⟨y, hy, e⟩
        rw [this]; simp
    rw [List.append_assoc (P.filter _), this]
    simp [List.append_assoc]
/-- The blocks of a row. -/
theorem blocks (l : List α) (a m b : Nat) (h1 : a ≤ m) (h2 : m ≤ b) (h3 : b ≤ l.length) : ∃ P X Y S, l = P ++ X ++ Y ++ S ∧ P.length = a ∧ X.length = m - a ∧ Y.length = b - m ∧
    (∀ x ∈ X, ∃ i, a ≤ i ∧ i < m ∧ x = l.getD i d) ∧ (∀ y ∈ Y, ∃ i, m ≤ i ∧ i < b ∧ y = l.getD i d) := by
  refine ⟨l.take a, (l.drop a).take (m - a), (l.drop m).take (b - m), l.drop b, ?_, by simp; omega, by simp; omega, by simp; omega, ?_, ?_⟩
  · have e1 : l.take a ++ (l.drop a).take (m - a) = l.take m := by
      have := List.take_add (l := l) (i := a) (j := m - a)
      rw [show a + (m - a) = m by omega] at this
      exact this.symm
    have e2 : l.take m ++ (l.drop m).take (b - m) = l.take b := by
      have := List.take_add (l := l) (i := m) (j := b - m)
      rw [show m + (b - m) = b by omega] at this
      exact this.symm
    rw [e1, e2, List.take_append_drop]
  · intro x hx
    obtain ⟨i, hi⟩ := List.getElem?_of_mem hx
    have hlt := (List.getElem?_eq_some_iff.1 hi).1
    simp at hlt
    rw [List.getElem?_take_of_lt (by omega), List.getElem?_drop] at hi
    exact ⟨a + i, by omega, by omega, by simp [List.getD_eq_getElem?_getD, hi]⟩
  · intro x hx
    obtain ⟨i, hi⟩ := List.getElem?_of_mem hx
    have hlt := (List.getElem?_eq_some_iff.1 hi).1
    simp at hlt
    rw [List.getElem?_take_of_lt (by omega), List.getElem?_drop] at hi
    exact ⟨m + i, by omega, by omega, by simp [List.getD_eq_getElem?_getD, hi]⟩
/-- What stands where behind a rotation. -/
theorem rot_get {P X Y S : List α} {i : Nat} : (P ++ Y ++ X ++ S).getD i d = (P ++ X ++ Y ++ S).getD (if i < P.length then i else if i < P.length + Y.length then i + X.length else if i < P.length + X.length + Y.length then i - Y.length else i) d := by
  split
  · rename_i hi
    rw [getD_app1 (by simp; omega), getD_app1 (by simp; omega), getD_app1 hi, getD_app1 (by simp; omega), getD_app1 (by simp; omega), getD_app1 hi]
  · split
    · rw [getD_app1 (by simp; omega), getD_app1 (by simp; omega), getD_app2 (by omega), getD_app1 (by simp; omega), getD_app2 (by simp; omega)]
      congr 1
      simp; omega
    · split
      · rw [getD_app1 (by simp; omega), getD_app2 (by simp; omega), getD_app1 (by simp; omega), getD_app1 (by simp; omega), getD_app2 (by omega)]
        congr 1
        simp; omega
      · rw [getD_app2 (by simp; omega), getD_app2 (by simp; omega)]
        congr 1
        simp; omega
/-- One step of two blocks that change places. -/
theorem swap_blocks {P A B C S : List α} {k : Nat} (hA : k < A.length) (hC : C.length = A.length) :
    ((P ++ (C.take k ++ A.drop k) ++ B ++ (A.take k ++ C.drop k) ++ S).set (P.length + k) ((P ++ (C.take k ++ A.drop k) ++ B ++ (A.take k ++ C.drop k) ++ S).getD (P.length + A.length + B.length + k) d)).set (P.length + A.length + B.length + k) ((P ++ (C.take k ++ A.drop k) ++ B ++ (A.take k ++ C.drop k) ++ S).getD (P.length + k) d)
      = P ++ (C.take (k + 1) ++ A.drop (k + 1)) ++ B ++ (A.take (k + 1) ++ C.drop (k + 1)) ++ S := by
  have e1 : (P ++ (C.take k ++ A.drop k) ++ B ++ (A.take k ++ C.drop k) ++ S).getD (P.length + A.length + B.length + k) d = C[k] := by
    rw [getD_app1 (by simp; omega), getD_app2 (by simp; omega), getD_app2 (by simp; omega)]
    simp only [List.getD_eq_getElem?_getD, List.getElem?_drop]
    have : k + (P.length + A.length + B.length + k - (P ++ (C.take k ++ A.drop k) ++ B).length - (A.take k).length) = k := by simp; omega
    rw [this, List.getElem?_eq_getElem (by omega)]; rfl
  have e2 : (P ++ (C.take k ++ A.drop k) ++ B ++ (A.take k ++ C.drop k) ++ S).getD (P.length + k) d = A[k] := by
    rw [getD_app1 (by simp; omega), getD_app1 (by simp; omega), getD_app1 (by simp; omega), getD_app2 (by omega), getD_app2 (by simp; omega)]
    simp only [List.getD_eq_getElem?_getD, List.getElem?_drop]
    have : k + (P.length + k - P.length - (C.take k).length) = k := by simp; omega
    rw [this, List.getElem?_eq_getElem hA]; rfl
  rw [e1, e2]
  rw [show A.drop k = A[k] :: A.drop (k + 1) from List.drop_eq_getElem_cons hA, show C.drop k = C[k] :: C.drop (k + 1) from List.drop_eq_getElem_cons (by omega)]
  rw [List.take_succ_eq_append_getElem hA, List.take_succ_eq_append_getElem (show k < C.length by omega)]
  have f1 : ∀ (V : List α) (x : α), (P ++ (C.take k ++ A[k] :: A.drop (k + 1)) ++ V).set (P.length + k) x = P ++ (C.take k ++ x :: A.drop (k + 1)) ++ V := by
    intro V x
    rw [List.set_append_left _ _ (by simp; omega), List.set_append_right _ _ (by omega), List.set_append_right _ _ (by simp; omega)]
    congr 3
    have : P.length + k - P.length - (C.take k).length = 0 := by simp; omega
    rw [this]; rfl
  have f2 : ∀ (U : List α) (x : α), U.length = A.length → (P ++ U ++ B ++ (A.take k ++ C[k] :: C.drop (k + 1)) ++ S).set (P.length + A.length + B.length + k) x = P ++ U ++ B ++ (A.take k ++ x :: C.drop (k + 1)) ++ S := by
    intro U x hU
    rw [List.set_append_left _ _ (by simp; omega), List.set_append_right _ _ (by simp; omega), List.set_append_right _ _ (by simp; omega)]
    congr 3
    have : P.length + A.length + B.length + k - (P ++ U ++ B).length - (A.take k).length = 0 := by simp; omega
    rw [this]; rfl
  have g := f1 (B ++ (A.take k ++ C[k] :: C.drop (k + 1)) ++ S) C[k]
  simp only [List.append_assoc] at g f2 ⊢
  rw [g]
  have h := f2 (C.take k ++ C[k] :: A.drop (k + 1)) A[k] (by simp; omega)
  simp only [List.append_assoc] at h
  rw [h]
  simp
/-- **The symmetric merge**: where it parts the two ranges. -/
theorem sym_part {l : List α} {a m b mid s : Nat} (hml : b ≤ l.length) (ham : a < m) (hmb : m < b) (hmid : mid = (a + b) / 2) (h1 : Sd key d l a m) (h2 : Sd key d l m b)
    (hs0 : (if mid < m then mid + m - b else a) ≤ s) (hs1 : s ≤ (if mid < m then mid else m))
    (hy : (if mid < m then mid + m - b else a) < s → key (l.getD (s - 1) d) ≤ key (l.getD (mid + m - 1 - (s - 1)) d))
    (hn : s < (if mid < m then mid else m) → key (l.getD (mid + m - 1 - s) d) < key (l.getD s d)) :
    a ≤ s ∧ s ≤ mid ∧ s ≤ m ∧ m ≤ mid + m - s ∧ mid ≤ mid + m - s ∧ mid + m - s ≤ b ∧
    (s < m → m < mid + m - s → ∀ i j, s ≤ i → i < m → m ≤ j → j < mid + m - s → key (l.getD j d) < key (l.getD i d)) ∧
    (∀ i j, a ≤ i → i < s → mid + m - s ≤ j → j < b → key (l.getD i d) ≤ key (l.getD j d)) := by
  refine ⟨by split at hs0 <;> omega, by split at hs1 <;> omega, by split at hs1 <;> omega, by split at hs1 <;> omega, by split at hs1 <;> omega, by split at hs0 <;> omega, ?_, ?_⟩
  · intro h3 h4 i j i1 i2 j1 j2
    have hlt : s < (if mid < m then mid else m) := by split <;> omega
    have h5 := hn hlt
    have h6 := h1 s i (by split at hs0 <;> omega) i1 i2
    have h7 := h2 j (mid + m - 1 - s) j1 (by omega) (by split at hs0 <;> omega)
    omega
  · intro i j i1 i2 j1 j2
    have hlt : (if mid < m then mid + m - b else a) < s := by
      rcases Nat.lt_or_ge (if mid < m then mid + m - b else a) s with h | h
      · exact h
      · exfalso; split at h <;> omega
    have h5 := hy hlt
    have h6 := h1 i (s - 1) i1 (by omega) (by split at hs1 <;> omega)
    have h7 := h2 (mid + m - 1 - (s - 1)) j (by split at hs1 <;> omega) (by omega) j2
    omega
/-- A row in order whose keys stand as they stood is the one that a stable sort leaves. -/
theorem unique {l1 l2 : List α} (h1 : Sd key d l1 0 l1.length) (h2 : Sd key d l2 0 l2.length) (h : ∀ c, l1.filter (fun x => decide (key x = c)) = l2.filter (fun x => decide (key x = c))) : l1 = l2 := by
  induction l1 generalizing l2 with
  | nil =>
    cases l2 with
    | nil => rfl
    | cons y l2 => have := h (key y); simp at this
  | cons x l1 ih =>
    cases l2 with
    | nil => have := h (key x); simp at this
    | cons y l2 =>
      have hx : key y ≤ key x := by
        have hm : x ∈ (y :: l2) := by
          have hf : x ∈ (x :: l1).filter (fun z => decide (key z = key x)) := by simp
          rw [h (key x)] at hf
          exact (List.mem_filter.1 hf).1
        obtain ⟨j, hj⟩ := List.getElem?_of_mem hm
        have hlt := (List.getElem?_eq_some_iff.1 hj).1
        have := h2 0 j (Nat.le_refl _) (Nat.zero_le _) hlt
        simpa [List.getD_eq_getElem?_getD, hj] using this
      have hy : key x ≤ key y := by
        have hm : y ∈ (x :: l1) := by
          have hf : y ∈ (y :: l2).filter (fun z => decide (key z = key y)) := by simp
          rw [← h (key y)] at hf
          exact (List.mem_filter.1 hf).1
        obtain ⟨j, hj⟩ := List.getElem?_of_mem hm
        have hlt := (List.getElem?_eq_some_iff.1 hj).1
        have := h1 0 j (Nat.le_refl _) (Nat.zero_le _) hlt
        simpa [List.getD_eq_getElem?_getD, hj] using this
      have hk : key x = key y := by omega
      have hxy : x = y := by
        have := h (key x)
        simp [hk] at this
        exact this.1
      subst hxy
      congr 1
      refine ih (fun i j i1 i2 i3 => ?_) (fun i j i1 i2 i3 => ?_) (fun c => ?_)
      · have := h1 (i + 1) (j + 1) (by omega) (by omega) (by simp; omega)
        simpa [List.getD_eq_getElem?_getD] using this
      · have := h2 (i + 1) (j + 1) (by omega) (by omega) (by simp; omega)
        simpa [List.getD_eq_getElem?_getD] using this
      · have := h c
        simp only [List.filter_cons] at this
        split at this
        · simpa using this
        · exact this
end Go.StS
namespace Go.StS
set_option linter.unusedVariables false
variable {α : Type} {key : α → Int} {d : α}
theorem Rl.pd {Pd : α → Prop} {l l' : List α} {a b n : Nat} (h : Rl key d l l' a b) (hb : b ≤ n) (hp : ∀ i, i < n → Pd (l.getD i d)) : ∀ i, i < n → Pd (l'.getD i d) := fun i hi => by
  by_cases h1 : a ≤ i ∧ i < b
  · obtain ⟨j, j1, j2, j3⟩ := h.mem i h1.1 h1.2
    rw [j3]; exact hp j (by omega)
  · rw [h.out i (by omega)]; exact hp i hi
/-- All stand in order but for the one that is being laid in. -/
def Ins (key : α → Int) (d : α) (l : List α) (a j i : Nat) : Prop := ∀ x y, a ≤ x → x ≤ y → y ≤ i → y ≠ j → key (l.getD x d) ≤ key (l.getD y d)
theorem Ins.start {l : List α} {a i : Nat} (h : Sd key d l a i) : Ins key d l a i i := fun x y h1 h2 h3 h4 => h x y h1 h2 (by omega)
theorem swap_get {l : List α} {j k : Nat} (hj : 0 < j) (hl : j < l.length) : ((l.set j (l.getD (j - 1) d)).set (j - 1) (l.getD j d)).getD k d = if k = j then l.getD (j - 1) d else if k = j - 1 then l.getD j d else l.getD k d := by
  by_cases e1 : k = j
  · subst e1
    rw [if_pos rfl]
    simp only [List.getD_eq_getElem?_getD]
    rw [List.getElem?_set_ne (by omega)]
    simp [hl]
  · rw [if_neg e1]
    by_cases e2 : k = j - 1
    · subst e2
      rw [if_pos rfl]
      simp only [List.getD_eq_getElem?_getD]
      simp [show j - 1 < l.length by omega]
    · rw [if_neg e2]
      simp only [List.getD_eq_getElem?_getD]
      rw [List.getElem?_set_ne (by omega), List.getElem?_set_ne (by omega)]
theorem Ins.step {l : List α} {a j i : Nat} (h : Ins key d l a j i) (h1 : a < j) (h2 : j ≤ i) (hl : j < l.length) (hk : key (l.getD j d) < key (l.getD (j - 1) d)) : Ins key d ((l.set j (l.getD (j - 1) d)).set (j - 1) (l.getD j d)) a (j - 1) i := fun x y x1 x2 x3 x4 => by
  rw [swap_get (by omega) hl, swap_get (by omega) hl, if_neg x4]
  by_cases ey : y = j
  · rw [if_pos ey]
    by_cases ex : x = j
    · rw [if_pos ex]; exact Int.le_refl _
    · rw [if_neg ex]
      by_cases ex2 : x = j - 1
      · rw [if_pos ex2]; omega
      · rw [if_neg ex2]; exact h x (j - 1) x1 (by omega) (by omega) (by omega)
  · rw [if_neg ey]
    by_cases ex : x = j
    · rw [if_pos ex]; exact h (j - 1) y (by omega) (by omega) x3 ey
    · rw [if_neg ex]
      by_cases ex2 : x = j - 1
      · rw [if_pos ex2]; exact h j y (by omega) (by omega) x3 ey
      · rw [if_neg ex2]; exact h x y x1 x2 x3 ey
theorem Rl.swapD {l : List α} {a b j : Nat} (h1 : a < j) (h2 : j < b) (hl : j < l.length) (hk : key (l.getD j d) < key (l.getD (j - 1) d)) : Rl key d l ((l.set j (l.getD (j - 1) d)).set (j - 1) (l.getD j d)) a b := by
  obtain ⟨i, rfl⟩ : ∃ i, j = i + 1 := ⟨j - 1, by omega⟩
  rw [show i + 1 - 1 = i by omega] at hk ⊢
  rw [swap_comm]
  exact Rl.swap (by omega) h2 hl (by omega)
theorem Rl.swapU {l : List α} {a b j : Nat} (h1 : a ≤ j) (h2 : j + 1 < b) (hl : j + 1 < l.length) (hk : key (l.getD (j + 1) d) ≠ key (l.getD j d)) : Rl key d l ((l.set j (l.getD (j + 1) d)).set (j + 1) (l.getD j d)) a b :=
  Rl.swap h1 h2 hl (fun e => hk e.symm)
theorem Ins.fin {l : List α} {a j i : Nat} (h : Ins key d l a j i) (hj : a ≤ j) (he : j = a ∨ key (l.getD (j - 1) d) ≤ key (l.getD j d)) : Sd key d l a (i + 1) := fun x y h1 h2 h3 => by
  by_cases ey : y = j
  · subst ey
    by_cases ex : x = y
    · subst ex; exact Int.le_refl _
    · rcases he with he | he
      · omega
      · exact Int.le_trans (h x (y - 1) h1 (by omega) (by omega) (by omega)) he
  · exact h x y h1 h2 (by omega) ey
end Go.StS
namespace Go.StS
set_option linter.unusedVariables false
variable {α : Type} {key : α → Int} {d : α}
theorem bs_lt {l : List α} {m b h : Nat} {k : Int} (hs : Sd key d l m b) (h1 : m ≤ h) (h2 : h < b) (hk : key (l.getD h d) < k) : ∀ x, m ≤ x → x < h + 1 → key (l.getD x d) < k := fun x x1 x2 => by
  have := hs x h x1 (by omega) h2; omega
theorem bs_ge {l : List α} {m b h : Nat} {k : Int} (hs : Sd key d l m b) (h1 : m ≤ h) (h2 : h < b) (hk : k ≤ key (l.getD h d)) : ∀ x, h ≤ x → x < b → k ≤ key (l.getD x d) := fun x x1 x2 => by
  have := hs h x h1 x1 x2; omega
theorem bs_le {l : List α} {m b h : Nat} {k : Int} (hs : Sd key d l m b) (h1 : m ≤ h) (h2 : h < b) (hk : key (l.getD h d) ≤ k) : ∀ x, m ≤ x → x < h + 1 → key (l.getD x d) ≤ k := fun x x1 x2 => by
  have := hs x h x1 (by omega) h2; omega
theorem bs_gt {l : List α} {m b h : Nat} {k : Int} (hs : Sd key d l m b) (h1 : m ≤ h) (h2 : h < b) (hk : k < key (l.getD h d)) : ∀ x, h ≤ x → x < b → k < key (l.getD x d) := fun x x1 x2 => by
  have := hs h x h1 x1 x2; omega
/-- The first one went up to k. -/
structure Mv (key : α → Int) (d : α) (l l2 : List α) (a b k : Nat) : Prop where
  rl : Rl key d l l2 a b
  at_ : l2.getD k d = l.getD a d
  lo : ∀ x, a ≤ x → x < k → l2.getD x d = l.getD (x + 1) d
  hi : ∀ x, k < x → l2.getD x d = l.getD x d
theorem Mv.start (l : List α) (a b : Nat) : Mv key d l l a b a := ⟨Rl.refl _ _ _, rfl, fun x h1 h2 => by omega, fun _ _ => rfl⟩
theorem swapU_get {l : List α} {j k : Nat} (hl : j + 1 < l.length) : ((l.set j (l.getD (j + 1) d)).set (j + 1) (l.getD j d)).getD k d = if k = j then l.getD (j + 1) d else if k = j + 1 then l.getD j d else l.getD k d := by
  have := swap_get (d := d) (l := l) (j := j + 1) (k := k) (by omega) hl
  rw [show j + 1 - 1 = j by omega] at this
  rw [swap_comm] at this
  rw [this]
  by_cases e1 : k = j
  · rw [if_neg (by omega), if_pos e1, if_pos e1]
  · by_cases e2 : k = j + 1
    · rw [if_pos e2, if_neg e1, if_pos e2]
    · rw [if_neg e2, if_neg e1, if_neg e1, if_neg e2]
theorem Mv.step {l l2 : List α} {a b k : Nat} (h : Mv key d l l2 a b k) (h1 : a ≤ k) (h2 : k + 1 < b) (hl : b ≤ l.length) (hk : key (l.getD (k + 1) d) < key (l.getD a d)) : Mv key d l ((l2.set k (l2.getD (k + 1) d)).set (k + 1) (l2.getD k d)) a b (k + 1) := by
  have hlen := h.rl.len
  refine ⟨h.rl.trans (Rl.swapU h1 h2 (by omega) (by rw [h.at_, h.hi _ (by omega)]; omega)), ?_, fun x x1 x2 => ?_, fun x x1 => ?_⟩
  · rw [swapU_get (by omega), if_neg (by omega), if_pos rfl, h.at_]
  · rw [swapU_get (by omega)]
    by_cases e : x = k
    · subst e; rw [if_pos rfl, h.hi _ (by omega)]
    · rw [if_neg e, if_neg (by omega), h.lo x x1 (by omega)]
  · rw [swapU_get (by omega), if_neg (by omega), if_neg (by omega), h.hi x (by omega)]
theorem Mv.fin {l l2 : List α} {a b i : Nat} (h : Mv key d l l2 a b (i - 1)) (ha : a + 1 ≤ i) (hi : i ≤ b) (hs : Sd key d l (a + 1) b) (hlo : ∀ x, a + 1 ≤ x → x < i → key (l.getD x d) < key (l.getD a d)) (hhi : ∀ x, i ≤ x → x < b → key (l.getD a d) ≤ key (l.getD x d)) : Sd key d l2 a b := by
  have get : ∀ x, a ≤ x → l2.getD x d = if x < i - 1 then l.getD (x + 1) d else if x = i - 1 then l.getD a d else l.getD x d := by
    intro x hx
    by_cases e1 : x < i - 1
    · rw [if_pos e1, h.lo x hx e1]
    · rw [if_neg e1]
      by_cases e2 : x = i - 1
      · rw [if_pos e2, e2, h.at_]
      · rw [if_neg e2, h.hi x (by omega)]
  intro x y x1 x2 x3
  rw [get x x1, get y (by omega)]
  by_cases e1 : x < i - 1
  · rw [if_pos e1]
    by_cases f1 : y < i - 1
    · rw [if_pos f1]; exact hs _ _ (by omega) (by omega) (by omega)
    · rw [if_neg f1]
      by_cases f2 : y = i - 1
      · rw [if_pos f2]; have := hlo (x + 1) (by omega) (by omega); omega
      · rw [if_neg f2]; exact hs _ _ (by omega) (by omega) (by omega)
  · rw [if_neg e1]
    by_cases e2 : x = i - 1
    · rw [if_pos e2, if_neg (by omega)]
      by_cases f2 : y = i - 1
      · rw [if_pos f2]; exact Int.le_refl _
      · rw [if_neg f2]; exact hhi y (by omega) x3
    · rw [if_neg e2, if_neg (by omega), if_neg (by omega)]; exact hs _ _ (by omega) x2 x3
/-- The last one went down to k. -/
structure Mw (key : α → Int) (d : α) (l l2 : List α) (a b m k : Nat) : Prop where
  rl : Rl key d l l2 a b
  at_ : l2.getD k d = l.getD m d
  hi : ∀ x, k < x → x ≤ m → l2.getD x d = l.getD (x - 1) d
  lo : ∀ x, x < k → l2.getD x d = l.getD x d
  up : ∀ x, m < x → l2.getD x d = l.getD x d
theorem Mw.start (l : List α) (a b m : Nat) : Mw key d l l a b m m := ⟨Rl.refl _ _ _, rfl, fun x h1 h2 => by omega, fun _ _ => rfl, fun _ _ => rfl⟩
theorem Mw.step {l l2 : List α} {a b m k : Nat} (h : Mw key d l l2 a b m k) (h0 : a < k) (h1 : k ≤ m) (h2 : m < b) (hl : b ≤ l.length) (hk : key (l.getD m d) < key (l.getD (k - 1) d)) : Mw key d l ((l2.set k (l2.getD (k - 1) d)).set (k - 1) (l2.getD k d)) a b m (k - 1) := by
  have hlen := h.rl.len
  refine ⟨h.rl.trans (Rl.swapD h0 (by omega) (by omega) (by rw [h.at_, h.lo _ (by omega)]; exact hk)), ?_, fun x x1 x2 => ?_, fun x x1 => ?_, fun x x1 => ?_⟩
  · rw [swap_get (by omega) (by omega), if_neg (by omega), if_pos rfl, h.at_]
  · rw [swap_get (by omega) (by omega)]
    by_cases e : x = k
    · subst e; rw [if_pos rfl, h.lo _ (by omega)]
    · rw [if_neg e, if_neg (by omega), h.hi x (by omega) x2]
  · rw [swap_get (by omega) (by omega), if_neg (by omega), if_neg (by omega), h.lo x (by omega)]
  · rw [swap_get (by omega) (by omega), if_neg (by omega), if_neg (by omega), h.up x x1]
theorem Mw.fin {l l2 : List α} {a b i : Nat} {m : Nat} (h : Mw key d l l2 a b m i) (ha : a ≤ i) (hi : i ≤ m) (hb : b = m + 1) (hs : Sd key d l a m) (hlo : ∀ x, a ≤ x → x < i → key (l.getD x d) ≤ key (l.getD m d)) (hhi : ∀ x, i ≤ x → x < m → key (l.getD m d) < key (l.getD x d)) : Sd key d l2 a b := by
  have get : ∀ x, x ≤ m → l2.getD x d = if x < i then l.getD x d else if x = i then l.getD m d else l.getD (x - 1) d := by
    intro x hx
    by_cases e1 : x < i
    · rw [if_pos e1, h.lo x e1]
    · rw [if_neg e1]
      by_cases e2 : x = i
      · rw [if_pos e2, e2, h.at_]
      · rw [if_neg e2, h.hi x (by omega) hx]
  intro x y x1 x2 x3
  rw [get x (by omega), get y (by omega)]
  by_cases e1 : x < i
  · rw [if_pos e1]
    by_cases f1 : y < i
    · rw [if_pos f1]; exact hs _ _ x1 x2 (by omega)
    · rw [if_neg f1]
      by_cases f2 : y = i
      · rw [if_pos f2]; exact hlo x x1 e1
      · rw [if_neg f2]; exact hs _ _ x1 (by omega) (by omega)
  · rw [if_neg e1]
    by_cases e2 : x = i
    · rw [if_pos e2, if_neg (show ¬ y < i by omega)]
      by_cases f2 : y = i
      · rw [if_pos f2]; exact Int.le_refl _
      · rw [if_neg f2]; have := hhi (y - 1) (by omega) (by omega); omega
    · rw [if_neg e2, if_neg (show ¬ y < i by omega), if_neg (show ¬ y = i by omega)]; exact hs _ _ (by omega) (by omega) (by omega)
/-- How the symmetric merge parts a range. -/
structure Parts (key : α → Int) (d : α) (l l1 : List α) (a s mid e b : Nat) : Prop where
  rl : Rl key d l l1 a b
  s1 : Sd key d l1 a s
  s2 : Sd key d l1 s mid
  s3 : Sd key d l1 mid e
  s4 : Sd key d l1 e b
  cr : ∀ i j, a ≤ i → i < mid → mid ≤ j → j < b → key (l1.getD i d) ≤ key (l1.getD j d)
theorem Parts.stay {l : List α} {a m b mid s : Nat} (h1 : Sd key d l a m) (h2 : Sd key d l m b) (hs : a ≤ s ∧ s ≤ mid ∧ s ≤ m ∧ m ≤ mid + m - s ∧ mid ≤ mid + m - s ∧ mid + m - s ≤ b)
    (hc : ∀ i j, a ≤ i → i < s → mid + m - s ≤ j → j < b → key (l.getD i d) ≤ key (l.getD j d)) (hn : ¬ (s < m ∧ m < mid + m - s)) : Parts key d l l a s mid (mid + m - s) b := by
  obtain ⟨e1, e2, e3, e4, e5, e6⟩ := hs
  by_cases hm : s = m
  · subst hm
    have he : mid + s - s = mid := by omega
    rw [he] at hc ⊢
    refine ⟨Rl.refl _ _ _, h1, h2.sub (Nat.le_refl _) (by omega), Sd.small (by omega), h2.sub e2 (Nat.le_refl _), fun i j i1 i2 j1 j2 => ?_⟩
    by_cases hi : i < s
    · exact hc i j i1 hi j1 j2
    · exact h2 i j (by omega) (by omega) j2
  · have hs2 : s = mid := by omega
    subst hs2
    have he : s + m - s = m := by omega
    rw [he] at hc ⊢
    refine ⟨Rl.refl _ _ _, h1.sub (Nat.le_refl _) (by omega), Sd.small (by omega), h1.sub e1 (Nat.le_refl _), h2, fun i j i1 i2 j1 j2 => ?_⟩
    by_cases hj : j < m
    · exact h1 i j i1 (by omega) hj
    · exact hc i j i1 i2 (by omega) j2
theorem Parts.rot {P X Y Z : List α} {a m b mid s : Nat} (hP : P.length = s) (hX : X.length = m - s) (hY : Y.length = mid + m - s - m) (h1 : Sd key d (P ++ X ++ Y ++ Z) a m) (h2 : Sd key d (P ++ X ++ Y ++ Z) m b) (hs : a ≤ s ∧ s ≤ mid ∧ s ≤ m ∧ m ≤ mid + m - s ∧ mid ≤ mid + m - s ∧ mid + m - s ≤ b)
    (hlt : ∀ i j, s ≤ i → i < m → m ≤ j → j < mid + m - s → key ((P ++ X ++ Y ++ Z).getD j d) < key ((P ++ X ++ Y ++ Z).getD i d))
    (hc : ∀ i j, a ≤ i → i < s → mid + m - s ≤ j → j < b → key ((P ++ X ++ Y ++ Z).getD i d) ≤ key ((P ++ X ++ Y ++ Z).getD j d))
    (hXm : ∀ x ∈ X, ∃ i, s ≤ i ∧ i < m ∧ x = (P ++ X ++ Y ++ Z).getD i d) (hYm : ∀ y ∈ Y, ∃ i, m ≤ i ∧ i < mid + m - s ∧ y = (P ++ X ++ Y ++ Z).getD i d) :
    Parts key d (P ++ X ++ Y ++ Z) (P ++ Y ++ X ++ Z) a s mid (mid + m - s) b := by
  obtain ⟨e1, e2, e3, e4, e5, e6⟩ := hs
  have hr : Rl key d (P ++ X ++ Y ++ Z) (P ++ Y ++ X ++ Z) a b := Rl.rotate (by omega) (by omega) (fun x hx y hy => by
    obtain ⟨i, i1, i2, rfl⟩ := hXm x hx
    obtain ⟨j, j1, j2, rfl⟩ := hYm y hy
    have := hlt i j i1 i2 j1 j2
    omega)
  have g1 : ∀ i, i < s → (P ++ Y ++ X ++ Z).getD i d = (P ++ X ++ Y ++ Z).getD i d := fun i hi => by rw [rot_get, if_pos (by omega)]
  have g2 : ∀ i, s ≤ i → i < mid → (P ++ Y ++ X ++ Z).getD i d = (P ++ X ++ Y ++ Z).getD (i + (m - s)) d := fun i i1 i2 => by rw [rot_get, if_neg (by omega), if_pos (by omega), hX]
  have g3 : ∀ i, mid ≤ i → i < mid + m - s → (P ++ Y ++ X ++ Z).getD i d = (P ++ X ++ Y ++ Z).getD (i - (mid + m - s - m)) d := fun i i1 i2 => by rw [rot_get, if_neg (by omega), if_neg (by omega), if_pos (by omega), hY]
  have g4 : ∀ i, mid + m - s ≤ i → (P ++ Y ++ X ++ Z).getD i d = (P ++ X ++ Y ++ Z).getD i d := fun i hi => by rw [rot_get, if_neg (by omega), if_neg (by omega), if_neg (by omega)]
  refine ⟨hr, fun i j i1 i2 i3 => ?_, fun i j i1 i2 i3 => ?_, fun i j i1 i2 i3 => ?_, fun i j i1 i2 i3 => ?_, fun i j i1 i2 j1 j2 => ?_⟩
  · rw [g1 i (by omega), g1 j (by omega)]; exact h1 i j i1 i2 (by omega)
  · rw [g2 i i1 (by omega), g2 j (by omega) i3]; exact h2 _ _ (by omega) (by omega) (by omega)
  · rw [g3 i i1 (by omega), g3 j (by omega) i3]; exact h1 _ _ (by omega) (by omega) (by omega)
  · rw [g4 i i1, g4 j (by omega)]; exact h2 _ _ (by omega) i2 i3
  · by_cases hi : i < s
    · rw [g1 i hi]
      by_cases hj : j < mid + m - s
      · rw [g3 j j1 hj]; exact h1 _ _ i1 (by omega) (by omega)
      · rw [g4 j (by omega)]; exact hc i j i1 hi (by omega) j2
    · rw [g2 i (by omega) i2]
      by_cases hj : j < mid + m - s
      · rw [g3 j j1 hj]
        have := hlt (j - (mid + m - s - m)) (i + (m - s)) (by omega) (by omega) (by omega) (by omega)
        omega
      · rw [g4 j (by omega)]; exact h2 _ _ (by omega) (by omega) j2
theorem cross_left {l1 l2 : List α} {a mid b : Nat} (h : ∀ i j, a ≤ i → i < mid → mid ≤ j → j < b → key (l1.getD i d) ≤ key (l1.getD j d)) (hr : Rl key d l1 l2 a mid) : ∀ i j, a ≤ i → i < mid → mid ≤ j → j < b → key (l2.getD i d) ≤ key (l2.getD j d) := fun i j i1 i2 j1 j2 => by
  obtain ⟨k, k1, k2, e⟩ := hr.mem i i1 i2
  rw [e, hr.out j (by omega)]
  exact h k j k1 k2 j1 j2
theorem cross_right {l1 l2 : List α} {a mid b : Nat} (h : ∀ i j, a ≤ i → i < mid → mid ≤ j → j < b → key (l1.getD i d) ≤ key (l1.getD j d)) (hr : Rl key d l1 l2 mid b) : ∀ i j, a ≤ i → i < mid → mid ≤ j → j < b → key (l2.getD i d) ≤ key (l2.getD j d) := fun i j i1 i2 j1 j2 => by
  obtain ⟨k, k1, k2, e⟩ := hr.mem j j1 j2
  rw [e, hr.out i (by omega)]
  exact h i k i1 i2 k1 k2
/-- The search of the symmetric merge. -/
theorem sym_lo {l : List α} {a m b mid h st0 r0 : Nat} (ham : a < m) (hmb : m < b) (hmid : mid = (a + b) / 2) (h1 : Sd key d l a m) (h2 : Sd key d l m b) (e0 : st0 = if mid < m then mid + m - b else a) (e1 : r0 = if mid < m then mid else m) (i1 : st0 ≤ h) (i2 : h < r0)
    (hk : key (l.getD h d) ≤ key (l.getD (mid + m - 1 - h) d)) : ∀ x, st0 ≤ x → x < h + 1 → key (l.getD x d) ≤ key (l.getD (mid + m - 1 - x) d) := fun x x1 x2 => by
  have f1 := h1 x h (by split at e0 <;> omega) (by omega) (by split at e1 <;> omega)
  have f2 := h2 (mid + m - 1 - h) (mid + m - 1 - x) (by split at e1 <;> omega) (by omega) (by split at e0 <;> omega)
  omega
theorem sym_hi {l : List α} {a m b mid h st0 r0 : Nat} (ham : a < m) (hmb : m < b) (hmid : mid = (a + b) / 2) (h1 : Sd key d l a m) (h2 : Sd key d l m b) (e0 : st0 = if mid < m then mid + m - b else a) (e1 : r0 = if mid < m then mid else m) (i1 : st0 ≤ h) (i2 : h < r0)
    (hk : key (l.getD (mid + m - 1 - h) d) < key (l.getD h d)) : ∀ x, h ≤ x → x < r0 → key (l.getD (mid + m - 1 - x) d) < key (l.getD x d) := fun x x1 x2 => by
  have f1 := h1 h x (by split at e0 <;> omega) (by omega) (by split at e1 <;> omega)
  have f2 := h2 (mid + m - 1 - x) (mid + m - 1 - h) (by split at e1 <;> omega) (by omega) (by split at e0 <;> omega)
  omega
end Go.StS
namespace Go.StS
set_option linter.unusedVariables false
variable {α : Type} {key : α → Int} {d : α}
theorem dvd_gap {b x A : Nat} (h1 : b ∣ x) (h2 : b ∣ A) (h : x ≤ A) : x = A ∨ x + b ≤ A := by
  obtain ⟨u, rfl⟩ := h1
  obtain ⟨v, rfl⟩ := h2
  rcases Nat.eq_zero_or_pos b with hb | hb
  · subst hb; left; simp
  · have huv : u ≤ v := Nat.le_of_mul_le_mul_left h hb
    rcases Nat.lt_or_ge u v with h3 | h3
    · right
      have := Nat.mul_le_mul_left b h3
      rw [Nat.mul_succ] at this
      exact this
    · left; congr 1; omega
/-- All blocks of a size are in order. -/
def Bk (key : α → Int) (d : α) (l : List α) (s n : Nat) : Prop := ∀ x, s ∣ x → Sd key d l x (min (x + s) n)
/-- Blocks ahead of A are in order. -/
def Bd (key : α → Int) (d : α) (l : List α) (s A : Nat) : Prop := ∀ x, s ∣ x → x + s ≤ A → Sd key d l x (x + s)
theorem Bd.zero (l : List α) (s : Nat) (hs : 0 < s) : Bd key d l s 0 := fun x _ h => by omega
theorem Bd.step {l l2 : List α} {s A : Nat} (h : Bd key d l s A) (hA : s ∣ A) (hr : Rl key d l l2 A (s + A)) (h2 : Sd key d l2 A (s + A)) : Bd key d l2 s (s + A) := fun x hx hle => by
  rcases dvd_gap hx hA (by omega) with e | e
  · subst e; exact h2.sub (Nat.le_refl _) (by omega)
  · exact (h x hx e).congr (fun i i1 i2 => hr.out i (by omega))
theorem Bd.fin {l l2 : List α} {s A n : Nat} (h : Bd key d l s A) (hA : s ∣ A) (hAn : A ≤ n) (hn : n < s + A) (hr : Rl key d l l2 A n) (h2 : Sd key d l2 A n) : Bk key d l2 s n := fun x hx => by
  rcases Nat.lt_or_ge A x with h3 | h3
  · rcases dvd_gap hA hx (Nat.le_of_lt h3) with e | e
    · omega
    · exact Sd.small (by omega)
  · rcases dvd_gap hx hA h3 with e | e
    · subst e; exact h2.sub (Nat.le_refl _) (by omega)
    · rw [Nat.min_eq_left (by omega)]
      exact (h x hx e).congr (fun i i1 i2 => hr.out i (by omega))
/-- Blocks from A on. -/
def Br (key : α → Int) (d : α) (l : List α) (s n A : Nat) : Prop := ∀ x, s ∣ x → A ≤ x → Sd key d l x (min (x + s) n)
theorem Bk.br {l : List α} {s n : Nat} (h : Bk key d l s n) : Br key d l s n 0 := fun x hx _ => h x hx
theorem Br.step {l l2 : List α} {s n A B : Nat} (h : Br key d l s n A) (hAB : A ≤ B) (hr : Rl key d l l2 A B) : Br key d l2 s n B := fun x hx hle => (h x hx (by omega)).congr (fun i i1 i2 => hr.out i (by omega))
theorem dvd_dbl {s A : Nat} (h : 2 * s ∣ A) : s ∣ A := Nat.dvd_trans ⟨2, by rw [Nat.mul_comm]⟩ h
theorem Br.two {l : List α} {s n A : Nat} (h : Br key d l s n A) (hA : 2 * s ∣ A) (hn : 2 * s + A ≤ n) : Sd key d l A (A + s) ∧ Sd key d l (A + s) (2 * s + A) := by
  have h1 := h A (dvd_dbl hA) (Nat.le_refl _)
  have h2 := h (A + s) (Nat.dvd_add (dvd_dbl hA) (Nat.dvd_refl _)) (by omega)
  rw [Nat.min_eq_left (by omega)] at h1
  rw [Nat.min_eq_left (by omega)] at h2
  exact ⟨h1, h2.sub (Nat.le_refl _) (by omega)⟩
theorem Br.last {l : List α} {s n A : Nat} (h : Br key d l s n A) (hA : 2 * s ∣ A) (hn : n < 2 * s + A) (hm : A + s < n) : Sd key d l A (A + s) ∧ Sd key d l (A + s) n := by
  have h1 := h A (dvd_dbl hA) (Nat.le_refl _)
  have h2 := h (A + s) (Nat.dvd_add (dvd_dbl hA) (Nat.dvd_refl _)) (by omega)
  rw [Nat.min_eq_left (by omega)] at h1
  rw [Nat.min_eq_right (by omega)] at h2
  exact ⟨h1, h2⟩
theorem Br.one {l : List α} {s n A : Nat} (h : Br key d l s n A) (hA : 2 * s ∣ A) (hm : n ≤ A + s) : Sd key d l A n := by
  have h1 := h A (dvd_dbl hA) (Nat.le_refl _)
  rwa [Nat.min_eq_right (by omega)] at h1
theorem Bk.all {l : List α} {s n : Nat} (h : Bk key d l s n) (hn : n ≤ s) : Sd key d l 0 n := by
  have := h 0 (Nat.dvd_zero _)
  rwa [Nat.min_eq_right (by omega)] at this
end Go.StS

/-
  Package merge, plainly: what is taken, level by level; how often each leaf is.
-/
namespace Go.PkM
set_option linter.unusedVariables false
set_option linter.unusedSimpArgs false
/-- A pack: its weight, its symbols. -/
abbrev Pk := Int × List Int
def prd : List Pk → List Pk
  | a :: b :: l => (a.1 + b.1, a.2 ++ b.2) :: prd l
  | _ => []
theorem prd_len : ∀ l : List Pk, (prd l).length = l.length / 2
  | [] => rfl
  | [_] => by simp [prd]
  | a :: b :: l => by simp only [prd, List.length_cons]; rw [prd_len l]; omega
/-- The symbols of the first ones. -/
def sy (l : List Pk) (m : Nat) : List Int := (l.take m).flatMap (·.2)
theorem prd_sy : ∀ (l : List Pk) (p : Nat), 2 * p ≤ l.length → sy (prd l) p = sy l (2 * p)
  | l, 0, _ => by simp [sy]
  | [], p + 1, h => by simp at h
  | [_], p + 1, h => by simp at h; omega
  | a :: b :: l, p + 1, h => by
    have ih := prd_sy l p (by simp at h; omega)
    unfold sy at ih ⊢
    rw [show 2 * (p + 1) = 2 * p + 1 + 1 by omega]
    simp only [prd, List.take_succ_cons, List.flatMap_cons, ih, List.append_assoc]
/-- Two rising rows laid into one; of what weighs alike the first row's go ahead. -/
def mrg : List Pk → List Pk → List Pk
  | [], P => P
  | A, [] => A
  | a :: A, b :: P => if a.1 ≤ b.1 then a :: mrg A (b :: P) else b :: mrg (a :: A) P
termination_by A P => A.length + P.length
theorem mrg_nil (A : List Pk) : mrg A [] = A := by cases A <;> simp [mrg]
theorem mrg_nil1 (P : List Pk) : mrg [] P = P := by simp [mrg]
theorem mrg_cons (a b : Pk) (A P : List Pk) : mrg (a :: A) (b :: P) = if a.1 ≤ b.1 then a :: mrg A (b :: P) else b :: mrg (a :: A) P := by simp [mrg]
abbrev Srt (l : List Pk) : Prop := l.Pairwise (fun x y => x.1 ≤ y.1)
theorem mrg_len : ∀ (n : Nat) (A P : List Pk), A.length + P.length = n → (mrg A P).length = n := by
  intro n
  induction n with
  | zero => intro A P h; have h1 : A = [] := List.length_eq_zero_iff.1 (by omega); have h2 : P = [] := List.length_eq_zero_iff.1 (by omega); subst h1; subst h2; simp [mrg]
  | succ n ih =>
    intro A P h
    cases A with
    | nil => rw [mrg_nil1]; simpa using h
    | cons a A =>
      cases P with
      | nil => rw [mrg_nil]; simpa using h
      | cons b P =>
        rw [mrg_cons]
        simp only [List.length_cons] at h
        split
        · rw [List.length_cons, ih A (b :: P) (by simp; omega)]
        · rw [List.length_cons, ih (a :: A) P (by simp; omega)]
theorem mrg_take : ∀ (m : Nat) (A P : List Pk), Srt A → m ≤ A.length + P.length → ∃ q p, q + p = m ∧ q ≤ A.length ∧ p ≤ P.length ∧ ((mrg A P).take m).Perm (A.take q ++ P.take p) ∧ ∀ i, i < A.length → 0 < p → (A.getD i (0, [])).1 ≤ (P.getD (p - 1) (0, [])).1 → i < q := by
  intro m
  induction m with
  | zero => intro A P _ _; exact ⟨0, 0, rfl, Nat.zero_le _, Nat.zero_le _, by simp, fun i _ h => by omega⟩
  | succ m ih =>
    intro A P hA hm
    cases A with
    | nil => exact ⟨0, m + 1, by omega, Nat.zero_le _, by simpa using hm, by rw [mrg_nil1]; simp, fun i h => by simp at h⟩
    | cons a A =>
      cases P with
      | nil => exact ⟨m + 1, 0, by omega, by simpa using hm, Nat.zero_le _, by rw [mrg_nil]; simp, fun i _ h => by omega⟩
      | cons b P =>
        have hA2 := List.pairwise_cons.1 hA
        rw [mrg_cons]
        by_cases hab : a.1 ≤ b.1
        · rw [if_pos hab]
          obtain ⟨q, p, h1, h2, h3, h4, h5⟩ := ih A (b :: P) hA2.2 (by simp at hm ⊢; omega)
          refine ⟨q + 1, p, by omega, by simp; omega, h3, ?_, fun i hi hp hw => ?_⟩
          · simp only [List.take_succ_cons, List.cons_append]
            exact h4.cons a
          · cases i with
            | zero => omega
            | succ i =>
              have := h5 i (by simpa using hi) hp (by simpa using hw)
              omega
        · rw [if_neg hab]
          obtain ⟨q, p, h1, h2, h3, h4, h5⟩ := ih (a :: A) P hA (by simp at hm ⊢; omega)
          refine ⟨q, p + 1, by omega, h2, by simp; omega, ?_, fun i hi hp hw => ?_⟩
          · simp only [List.take_succ_cons]
            exact (h4.cons b).trans List.perm_middle.symm
          · rw [Nat.add_sub_cancel] at hw
            cases p with
            | zero =>
              exfalso
              have hw2 : ((a :: A).getD i (0, [])).1 ≤ b.1 := by simpa using hw
              cases i with
              | zero => simp at hw2; omega
              | succ i =>
                have hi2 : i < A.length := by simpa using hi
                have hmem : A[i] ∈ A := List.getElem_mem hi2
                have hle := hA2.1 _ hmem
                have : ((a :: A).getD (i + 1) (0, [])) = A[i] := by simp [List.getD_eq_getElem?_getD, hi2]
                rw [this] at hw2
                omega
            | succ p => exact h5 i hi (by omega) (by simpa using hw)
theorem mrg_mem {x : Pk} : ∀ (n : Nat) (A P : List Pk), A.length + P.length = n → x ∈ mrg A P → x ∈ A ∨ x ∈ P := by
  intro n
  induction n with
  | zero => intro A P h hx; have h1 : A = [] := List.length_eq_zero_iff.1 (by omega); have h2 : P = [] := List.length_eq_zero_iff.1 (by omega); subst h1; subst h2; simp [mrg] at hx
  | succ n ih =>
    intro A P h hx
    cases A with
    | nil => rw [mrg_nil1] at hx; exact .inr hx
    | cons a A =>
      cases P with
      | nil => rw [mrg_nil] at hx; exact .inl hx
      | cons b P =>
        rw [mrg_cons] at hx
        simp only [List.length_cons] at h
        split at hx
        · rcases List.mem_cons.1 hx with rfl | hx
          · exact .inl (List.mem_cons_self ..)
          · rcases ih A (b :: P) (by simp; omega) hx with h1 | h1
            · exact .inl (List.mem_cons_of_mem _ h1)
            · exact .inr h1
        · rcases List.mem_cons.1 hx with rfl | hx
          · exact .inr (List.mem_cons_self ..)
          · rcases ih (a :: A) P (by simp; omega) hx with h1 | h1
            · exact .inl h1
            · exact .inr (List.mem_cons_of_mem _ h1)
theorem mrg_srt : ∀ (n : Nat) (A P : List Pk), A.length + P.length = n → Srt A → Srt P → Srt (mrg A P) := by
  intro n
  induction n with
  | zero => intro A P h _ _; have h1 : A = [] := List.length_eq_zero_iff.1 (by omega); have h2 : P = [] := List.length_eq_zero_iff.1 (by omega); subst h1; subst h2; simp [mrg]
  | succ n ih =>
    intro A P h hA hP
    cases A with
    | nil => rw [mrg_nil1]; exact hP
    | cons a A =>
      cases P with
      | nil => rw [mrg_nil]; exact hA
      | cons b P =>
        have hA2 := List.pairwise_cons.1 hA
        have hP2 := List.pairwise_cons.1 hP
        simp only [List.length_cons] at h
        rw [mrg_cons]
        split
        · rename_i hab
          refine List.pairwise_cons.2 ⟨fun x hx => ?_, ih A (b :: P) (by simp; omega) hA2.2 hP⟩
          rcases mrg_mem _ A (b :: P) rfl hx with h1 | h1
          · exact hA2.1 x h1
          · rcases List.mem_cons.1 h1 with rfl | h1
            · exact hab
            · exact Int.le_trans hab (hP2.1 x h1)
        · rename_i hab
          refine List.pairwise_cons.2 ⟨fun x hx => ?_, ih (a :: A) P (by simp; omega) hA hP2.2⟩
          rcases mrg_mem _ (a :: A) P rfl hx with h1 | h1
          · rcases List.mem_cons.1 h1 with rfl | h1
            · omega
            · exact Int.le_trans (by omega) (hA2.1 x h1)
          · exact hP2.1 x h1
theorem mrg_filter (c : Int) : ∀ (n : Nat) (A P : List Pk), A.length + P.length = n → Srt A → (mrg A P).filter (fun x => decide (x.1 = c)) = A.filter (fun x => decide (x.1 = c)) ++ P.filter (fun x => decide (x.1 = c)) := by
  intro n
  induction n with
  | zero => intro A P h _; have h1 : A = [] := List.length_eq_zero_iff.1 (by omega); have h2 : P = [] := List.length_eq_zero_iff.1 (by omega); subst h1; subst h2; simp [mrg]
  | succ n ih =>
    intro A P h hA
    cases A with
    | nil => rw [mrg_nil1]; simp
    | cons a A =>
      cases P with
      | nil => rw [mrg_nil]; simp
      | cons b P =>
        have hA2 := List.pairwise_cons.1 hA
        simp only [List.length_cons] at h
        rw [mrg_cons]
        split
        · have := ih A (b :: P) (by simp; omega) hA2.2
          rw [List.filter_cons, this, List.filter_cons (xs := A)]
          split <;> simp
        · rename_i hab
          have := ih (a :: A) P (by simp; omega) hA
          rw [List.filter_cons, this]
          by_cases hb : b.1 = c
          · have hz : (a :: A).filter (fun x => decide (x.1 = c)) = [] := by
              rw [List.filter_eq_nil_iff]
              intro x hx
              simp only [decide_eq_true_eq]
              rcases List.mem_cons.1 hx with rfl | hx
              · omega
              · have := hA2.1 x hx; omega
            rw [hz]
            simp [List.filter_cons, hb]
          · simp [List.filter_cons, hb]
/-- A stable sort's outcome. -/
structure SS (l l' : List Pk) : Prop where
  srt : Srt l'
  filt : ∀ c, l'.filter (fun x => decide (x.1 = c)) = l.filter (fun x => decide (x.1 = c))
theorem srt_sd {l : List Pk} (h : Srt l) : StS.Sd (fun x : Pk => x.1) (0, []) l 0 l.length := fun i j h1 h2 h3 => by
  rcases Nat.lt_or_ge i j with hij | hij
  · have := List.pairwise_iff_getElem.1 h i j (by omega) h3 hij
    simpa [List.getD_eq_getElem?_getD, h3, show i < l.length by omega] using this
  · obtain rfl : i = j := by omega
    exact Int.le_refl _
theorem SS.eq {A P l' : List Pk} (h : SS (A ++ P) l') (hA : Srt A) (hP : Srt P) : l' = mrg A P :=
  StS.unique (key := fun x : Pk => x.1) (d := (0, [])) (srt_sd h.srt) (srt_sd (mrg_srt _ A P rfl hA hP)) fun c => by
    rw [h.filt c, mrg_filter c _ A P rfl hA, List.filter_append]
end Go.PkM

/-
  Package merge, plainly: how often each leaf is taken; the sum of its code.
-/
namespace Go.PkM
set_option linter.unusedVariables false
set_option linter.unusedSimpArgs false
/-- The levels. -/
def lv (A : List Pk) : Nat → List Pk
  | 0 => []
  | j + 1 => mrg A (prd (lv A j))
theorem prd_ge {c : Int} : ∀ (l : List Pk), (∀ x ∈ l, c ≤ x.1) → ∀ x ∈ prd l, 2 * c ≤ x.1
  | [], _, x, hx => by simp [prd] at hx
  | [_], _, x, hx => by simp [prd] at hx
  | a :: b :: l, h, x, hx => by
    simp only [prd, List.mem_cons] at hx
    rcases hx with rfl | hx
    · have h1 := h a (by simp)
      have h2 := h b (by simp)
      show 2 * c ≤ a.1 + b.1
      omega
    · exact prd_ge l (fun y hy => h y (by simp [hy])) x hx
theorem prd_srt : ∀ (l : List Pk), Srt l → Srt (prd l)
  | [], _ => by simp [prd]
  | [_], _ => by simp [prd]
  | a :: b :: l, h => by
    have h1 := List.pairwise_cons.1 h
    have h2 := List.pairwise_cons.1 h1.2
    simp only [prd]
    refine List.pairwise_cons.2 ⟨fun x hx => ?_, prd_srt l h2.2⟩
    have h3 := prd_ge (c := b.1) l (fun y hy => h2.1 y hy) x hx
    have h4 := h1.1 b (by simp)
    show a.1 + b.1 ≤ x.1
    omega
theorem lv_srt {A : List Pk} (hA : Srt A) : ∀ j, Srt (lv A j)
  | 0 => List.Pairwise.nil
  | j + 1 => mrg_srt _ A _ rfl hA (prd_srt _ (lv_srt hA j))
theorem lv_len_succ (A : List Pk) (j : Nat) : (lv A (j + 1)).length = A.length + (lv A j).length / 2 := by
  rw [lv, mrg_len _ A _ rfl, prd_len]
theorem lv_len {A : List Pk} {most : Nat} (hn : A.length ≤ 2 ^ most) : ∀ j, j + 1 ≤ most → 2 * A.length ≤ (lv A (j + 1)).length + 2 ^ (most - j) := by
  intro j
  induction j with
  | zero =>
    intro h
    rw [lv_len_succ]
    simp [lv]
    omega
  | succ j ih =>
    intro h
    have h1 := ih (by omega)
    rw [lv_len_succ A (j + 1)]
    have e : 2 ^ (most - j) = 2 * 2 ^ (most - (j + 1)) := by rw [show most - j = (most - (j + 1)) + 1 by omega, Nat.pow_succ]; omega
    omega
theorem lv_enough {A : List Pk} {most : Nat} (hm : 1 ≤ most) (hn : A.length ≤ 2 ^ most) : 2 * A.length - 2 ≤ (lv A most).length := by
  have h := lv_len hn (most - 1) (by omega)
  rw [show most - 1 + 1 = most by omega, show most - (most - 1) = 1 by omega] at h
  omega
theorem prd_at : ∀ (k : Nat) (l : List Pk), 2 * k + 1 < l.length → (prd l).take (k + 1) = (prd l).take k ++ [((l.getD (2 * k) (0, [])).1 + (l.getD (2 * k + 1) (0, [])).1, (l.getD (2 * k) (0, [])).2 ++ (l.getD (2 * k + 1) (0, [])).2)]
  | 0, [], h => by simp at h
  | 0, [_], h => by simp at h
  | 0, a :: b :: l, _ => by simp [prd]
  | k + 1, [], h => by simp at h
  | k + 1, [_], h => by simp at h
  | k + 1, a :: b :: l, h => by
    have ih := prd_at k l (by simp at h; omega)
    simp only [prd, List.take_succ_cons, ih]
    rw [show 2 * (k + 1) = 2 * k + 1 + 1 by omega]
    simp only [List.getD_cons_succ, List.cons_append]
/-- The symbol of a leaf. -/
def sm (A : List Pk) (i : Nat) : Int := (A.getD i (0, [])).2.headD 0
/-- Leaves: each of one symbol, all other, each of some weight, rising. -/
structure Lf (A : List Pk) : Prop where
  srt : Srt A
  one : ∀ i, i < A.length → (A.getD i (0, [])).2 = [sm A i]
  inj : ∀ i j, i < A.length → j < A.length → sm A i = sm A j → i = j
  pos : ∀ x ∈ A, 0 < x.1
/-- What holds a leaf's symbol weighs no less. -/
def Hv (A : List Pk) (e : Pk) : Prop := 0 ≤ e.1 ∧ ∀ i, i < A.length → sm A i ∈ e.2 → (A.getD i (0, [])).1 ≤ e.1
theorem hv_leaf {A : List Pk} (h : Lf A) {e : Pk} (he : e ∈ A) : Hv A e := by
  refine ⟨Int.le_of_lt (h.pos e he), fun i hi hs => ?_⟩
  obtain ⟨k, hk, rfl⟩ := List.getElem_of_mem he
  have h1 := h.one k hk
  have e1 : A.getD k (0, []) = A[k] := by simp [hk]
  rw [e1] at h1
  rw [h1] at hs
  have := h.inj i k hi hk (by simpa using hs)
  subst this
  rw [e1]
  exact Int.le_refl _
theorem hv_prd {A : List Pk} : ∀ (l : List Pk), (∀ e ∈ l, Hv A e) → ∀ e ∈ prd l, Hv A e
  | [], _, e, he => by simp [prd] at he
  | [_], _, e, he => by simp [prd] at he
  | a :: b :: l, h, e, he => by
    simp only [prd, List.mem_cons] at he
    rcases he with rfl | he
    · have h1 := h a (by simp)
      have h2 := h b (by simp)
      refine ⟨Int.add_nonneg h1.1 h2.1, fun i hi hs => ?_⟩
      show (A.getD i (0, [])).1 ≤ a.1 + b.1
      rcases List.mem_append.1 hs with hs | hs
      · have := h1.2 i hi hs; have := h2.1; omega
      · have := h2.2 i hi hs; have := h1.1; omega
    · exact hv_prd l (fun y hy => h y (by simp [hy])) e he
theorem hv_lv {A : List Pk} (h : Lf A) : ∀ j, ∀ e ∈ lv A j, Hv A e
  | 0, e, he => by simp [lv] at he
  | j + 1, e, he => by
    rcases mrg_mem _ A _ rfl he with h1 | h1
    · exact hv_leaf h h1
    · exact hv_prd _ (hv_lv h j) e h1
/-- How often a leaf's symbol is in the first ones of a level. -/
def ct (A : List Pk) (j m i : Nat) : Nat := (sy (lv A j) m).count (sm A i)
theorem count_take {A : List Pk} (h : Lf A) {i : Nat} (hi : i < A.length) : ∀ q, q ≤ A.length → ((A.take q).flatMap (·.2)).count (sm A i) = if i < q then 1 else 0
  | 0, _ => by simp
  | q + 1, hq => by
    have ih := count_take h hi q (by omega)
    have hq2 : q < A.length := by omega
    have h1 := h.one q hq2
    have e1 : A.getD q (0, []) = A[q] := by simp [hq2]
    rw [e1] at h1
    rw [List.take_add_one, List.getElem?_eq_getElem hq2, List.flatMap_append, List.count_append, ih]
    simp only [Option.toList_some, List.flatMap_cons, List.flatMap_nil, List.append_nil, h1]
    rw [List.count_singleton]
    by_cases e : i = q
    · subst e; simp
    · have hne : ¬ sm A q = sm A i := fun hh => e (h.inj q i hq2 hi hh).symm
      simp only [beq_iff_eq, hne, if_false]
      split <;> split <;> omega
theorem ct_zero {A : List Pk} {j i : Nat} : ct A j 0 i = 0 := by simp [ct, sy]
theorem ct_step {A : List Pk} (h : Lf A) {j m : Nat} (hm : m ≤ (lv A (j + 1)).length) : ∃ q p, q + p = m ∧ q ≤ A.length ∧ 2 * p ≤ (lv A j).length ∧ (∀ i, i < A.length → ct A (j + 1) m i = (if i < q then 1 else 0) + ct A j (2 * p) i) ∧ ∀ i, i < A.length → q ≤ i → ct A j (2 * p) i = 0 := by
  rw [lv, mrg_len _ A _ rfl] at hm
  obtain ⟨q, p, h1, h2, h3, h4, h5⟩ := mrg_take m A (prd (lv A j)) h.srt hm
  have h6 : 2 * p ≤ (lv A j).length := by rw [prd_len] at h3; omega
  refine ⟨q, p, h1, h2, h6, fun i hi => ?_, fun i hi hq => ?_⟩
  · have hp := (List.Perm.flatMap_right (fun x : Pk => x.2) h4).count_eq (sm A i)
    rw [List.flatMap_append, List.count_append, count_take h hi q h2] at hp
    have := prd_sy (lv A j) p h6
    unfold ct
    rw [← this]
    exact hp
  · have hz : ¬ 0 < ct A j (2 * p) i := fun hpos => by
      unfold ct at hpos
      rw [← prd_sy (lv A j) p h6] at hpos
      obtain ⟨e, he, hs⟩ := List.mem_flatMap.1 (List.count_pos_iff.1 hpos)
      have hp0 : 0 < p := by
        rcases Nat.eq_zero_or_pos p with h0 | h0
        · subst h0; simp at he
        · exact h0
      have hep : e ∈ prd (lv A j) := List.mem_of_mem_take he
      have hv := (hv_prd _ (hv_lv h j) e hep).2 i hi hs
      have hsr := prd_srt _ (lv_srt h.srt j)
      obtain ⟨k, hk, hke⟩ := List.getElem_of_mem he
      rw [List.length_take] at hk
      rw [List.getElem_take] at hke
      have hle : e.1 ≤ ((prd (lv A j)).getD (p - 1) (0, [])).1 := by
        have e1 : (prd (lv A j)).getD (p - 1) (0, []) = (prd (lv A j))[p - 1]'(by omega) := by simp [show p - 1 < (prd (lv A j)).length by omega]
        rw [e1, ← hke]
        rcases Nat.lt_or_ge k (p - 1) with hlt | hge
        · exact List.pairwise_iff_getElem.1 hsr k (p - 1) (by omega) (by omega) hlt
        · have hkk : k = p - 1 := by omega
          subst hkk
          exact Int.le_refl _
      have := h5 i hi hp0 (Int.le_trans hv hle)
      omega
    omega
/-- A sum. -/
def sm2 (f : Nat → Nat) : Nat → Nat
  | 0 => 0
  | n + 1 => sm2 f n + f n
theorem sm2_congr {f g : Nat → Nat} : ∀ n, (∀ i, i < n → f i = g i) → sm2 f n = sm2 g n
  | 0, _ => rfl
  | n + 1, h => by rw [sm2, sm2, sm2_congr n (fun i hi => h i (by omega)), h n (by omega)]
theorem sm2_add (f g : Nat → Nat) : ∀ n, sm2 (fun i => f i + g i) n = sm2 f n + sm2 g n
  | 0 => rfl
  | n + 1 => by simp only [sm2]; rw [sm2_add f g n]; omega
theorem sm2_ite (c : Nat) {q : Nat} : ∀ n, sm2 (fun i => if i < q then c else 0) n = min q n * c
  | 0 => by simp [sm2]
  | n + 1 => by
    simp only [sm2]
    rw [sm2_ite c n]
    split
    · rw [show min q (n + 1) = min q n + 1 by omega, Nat.add_mul, Nat.one_mul]
    · rw [show min q (n + 1) = min q n by omega, Nat.add_zero]
theorem sm2_const (c : Nat) : ∀ n, sm2 (fun _ => c) n = n * c
  | 0 => by simp [sm2]
  | n + 1 => by simp only [sm2]; rw [sm2_const c n, Nat.add_mul, Nat.one_mul]
theorem sm2_one {f : Nat → Nat} {k : Nat} : ∀ n, k < n → (∀ i, i < n → 1 ≤ f i) → f k + (n - 1) ≤ sm2 f n
  | 0, h, _ => by omega
  | n + 1, h, hf => by
    simp only [sm2]
    have hn := hf n (by omega)
    by_cases e : k = n
    · have hm : ∀ m, m ≤ n → m ≤ sm2 f m := by
        intro m
        induction m with
        | zero => intro _; exact Nat.zero_le _
        | succ m ih => intro hm; have h1 := ih (by omega); have h2 := hf m (by omega); simp only [sm2]; omega
      have h3 := hm n (Nat.le_refl _)
      rw [e]
      omega
    · have := sm2_one (f := f) (k := k) n (by omega) (fun i hi => hf i (by omega))
      omega
theorem taken {A : List Pk} (h : Lf A) : ∀ j m, m ≤ (lv A j).length → (∀ i, i < A.length → ct A j m i ≤ j) ∧ 2 * sm2 (fun i => 2 ^ j - 2 ^ (j - ct A j m i)) A.length = m * 2 ^ j := by
  intro j
  induction j with
  | zero =>
    intro m hm
    obtain rfl : m = 0 := by simpa [lv] using hm
    refine ⟨fun i hi => by rw [ct_zero]; exact Nat.le_refl _, ?_⟩
    rw [sm2_congr (g := fun _ => 0) A.length (fun i _ => by rw [ct_zero]), sm2_const]
    simp
  | succ j ih =>
    intro m hm
    obtain ⟨q, p, h1, h2, h3, h4, h5⟩ := ct_step h hm
    obtain ⟨i1, i2⟩ := ih (2 * p) h3
    refine ⟨fun i hi => ?_, ?_⟩
    · rw [h4 i hi]
      have := i1 i hi
      split <;> omega
    · have e : sm2 (fun i => 2 ^ (j + 1) - 2 ^ (j + 1 - ct A (j + 1) m i)) A.length = sm2 (fun i => (if i < q then 2 ^ j else 0) + (2 ^ j - 2 ^ (j - ct A j (2 * p) i))) A.length := by
        refine sm2_congr _ (fun i hi => ?_)
        rw [h4 i hi]
        have hc := i1 i hi
        have hp2 : 2 ^ (j + 1) = 2 * 2 ^ j := by rw [Nat.pow_succ]; omega
        by_cases hiq : i < q
        · rw [if_pos hiq, if_pos hiq, show j + 1 - (1 + ct A j (2 * p) i) = j - ct A j (2 * p) i by omega]
          have : 2 ^ (j - ct A j (2 * p) i) ≤ 2 ^ j := Nat.pow_le_pow_right (by decide) (by omega)
          omega
        · rw [if_neg hiq, if_neg hiq, h5 i hi (by omega)]
          simp
      rw [e, sm2_add, sm2_ite, Nat.min_eq_left h2, Nat.mul_add, i2, Nat.pow_succ, ← h1, Nat.add_mul]
      have e2 : 2 * (q * 2 ^ j) = q * (2 ^ j * 2) := by rw [Nat.mul_comm 2, Nat.mul_assoc]
      have e3 : 2 * p * 2 ^ j = p * (2 ^ j * 2) := by rw [Nat.mul_comm 2 p, Nat.mul_assoc, Nat.mul_comm 2]
      omega
/-- The lengths that come of it: each within the limit, all of them a whole code. -/
theorem whole {A : List Pk} (h : Lf A) {most : Nat} (hm : 1 ≤ most) (hn : A.length ≤ 2 ^ most) (h2 : 2 ≤ A.length) : (∀ i, i < A.length → 1 ≤ ct A most (2 * A.length - 2) i ∧ ct A most (2 * A.length - 2) i ≤ most) ∧ sm2 (fun i => 2 ^ (most - ct A most (2 * A.length - 2) i)) A.length = 2 ^ most := by
  obtain ⟨i1, i2⟩ := taken h most (2 * A.length - 2) (lv_enough hm hn)
  have hs : sm2 (fun i => (2 ^ most - 2 ^ (most - ct A most (2 * A.length - 2) i)) + 2 ^ (most - ct A most (2 * A.length - 2) i)) A.length = A.length * 2 ^ most := by
    rw [← sm2_const (2 ^ most) A.length]
    refine sm2_congr _ (fun i hi => ?_)
    have : 2 ^ (most - ct A most (2 * A.length - 2) i) ≤ 2 ^ most := Nat.pow_le_pow_right (by decide) (by omega)
    omega
  rw [sm2_add] at hs
  have hw : sm2 (fun i => 2 ^ (most - ct A most (2 * A.length - 2) i)) A.length = 2 ^ most := by
    obtain ⟨n, hn2⟩ : ∃ n, A.length = n + 2 := ⟨A.length - 2, by omega⟩
    rw [hn2] at i2 hs ⊢
    rw [show 2 * (n + 2) - 2 = 2 * (n + 1) by omega] at i2 hs ⊢
    rw [Nat.mul_assoc] at i2
    have e4 : (n + 2) * 2 ^ most = (n + 1) * 2 ^ most + 2 ^ most := by rw [show n + 2 = (n + 1) + 1 by omega, Nat.add_mul (n + 1), Nat.one_mul]
    omega
  refine ⟨fun i hi => ⟨?_, i1 i hi⟩, hw⟩
  rcases Nat.eq_zero_or_pos (ct A most (2 * A.length - 2) i) with h0 | h0
  · have := sm2_one (f := fun i => 2 ^ (most - ct A most (2 * A.length - 2) i)) A.length hi (fun k _ => Nat.one_le_two_pow)
    simp only [h0, Nat.sub_zero] at this
    omega
  · exact h0
end Go.PkM

/-
  Canonical codes, plainly: the symbols by their words, each word.
-/
namespace Go.HuffP
set_option linter.unusedVariables false
set_option linter.unusedSimpArgs false
/-- Symbols of a length, rising. -/
def cls (ls : List Int) (n : Nat) : List Int := ((List.range ls.length).filter (fun i => decide (ls.getD i 0 = (n : Int)))).map (fun i : Nat => (i : Int))
def ordN (ls : List Int) : Nat → List Int
  | 0 => []
  | n + 1 => ordN ls n ++ cls ls (n + 1)
def ord (ls : List Int) : List Int := ordN ls 15
def off (ls : List Int) : Nat → Nat
  | 0 => 0
  | n + 1 => (ordN ls n).length
/-- How many words of each length. -/
def cnt (ls : List Int) (n : Nat) : Int := if n = 0 then 0 else ((cls ls n).length : Int)
def cntL (ls : List Int) : List Int := (List.range 16).map (cnt ls)
def base (ls : List Int) : Nat → Int
  | 0 => 0
  | n + 1 => 2 * (base ls n + cnt ls n)
def lenOf (ls : List Int) (s : Nat) : Nat := (ls.getD s 0).toNat
def wordOf (ls : List Int) (s : Nat) : Int := base ls (lenOf ls s) + ((cls (ls.take s) (lenOf ls s)).length : Int)
def Vl (ls : List Int) : Prop := ls.length ≤ 320 ∧ ∀ x ∈ ls, 0 ≤ x ∧ x ≤ 15

theorem cntL_len (ls : List Int) : (cntL ls).length = 16 := by simp [cntL]
theorem cntL_get {ls : List Int} {n : Nat} (h : n < 16) : (cntL ls).getD n 0 = cnt ls n := by simp [cntL, List.getD_eq_getElem?_getD, h]
theorem cls_len_le (ls : List Int) (n : Nat) : (cls ls n).length ≤ ls.length := by
  unfold cls
  have := List.length_filter_le (fun i => decide (ls.getD i 0 = (n : Int))) (List.range ls.length)
  simpa using this
theorem cnt_nonneg (ls : List Int) (n : Nat) : 0 ≤ cnt ls n := by unfold cnt; split <;> omega
theorem cnt_le (ls : List Int) (n : Nat) : cnt ls n ≤ ls.length := by
  have := cls_len_le ls n
  unfold cnt; split <;> omega
theorem getD_take {ls : List Int} {i k : Nat} (h : i < k) : (ls.take k).getD i 0 = ls.getD i 0 := by
  simp [List.getD_eq_getElem?_getD, List.getElem?_take, h]
theorem cls_snoc {ls : List Int} {k n : Nat} (h : k < ls.length) : cls (ls.take (k + 1)) n = cls (ls.take k) n ++ (if ls[k] = (n : Int) then [(k : Int)] else []) := by
  unfold cls
  have e1 : (ls.take (k + 1)).length = k + 1 := by simp; omega
  have e2 : (ls.take k).length = k := by simp; omega
  rw [e1, e2, List.range_succ, List.filter_append, List.map_append]
  congr 1
  · congr 1
    apply List.filter_congr
    intro i hi
    have hi := List.mem_range.1 hi
    rw [getD_take (by omega), getD_take hi]
  · have : (ls.take (k + 1)).getD k 0 = ls[k] := by rw [getD_take (by omega)]; simp [List.getD_eq_getElem?_getD, h]
    by_cases he : ls[k] = (n : Int)
    · simp only [List.filter_cons, List.filter_nil, this, he, decide_true, decide_false, if_true, if_false, List.map_cons, List.map_nil]; try rfl
    · simp only [List.filter_cons, List.filter_nil, this, he, decide_true, decide_false, if_true, if_false, List.map_cons, List.map_nil]; try rfl
theorem cls_zero (n : Nat) : cls [] n = [] := by simp [cls]
theorem cnt_snoc {ls : List Int} {k n : Nat} (h : k < ls.length) : cnt (ls.take (k + 1)) n = cnt (ls.take k) n + (if n ≠ 0 ∧ ls[k] = (n : Int) then 1 else 0) := by
  unfold cnt
  by_cases h0 : n = 0
  · simp [h0]
  · rw [if_neg h0, if_neg h0, cls_snoc h]
    by_cases he : ls[k] = (n : Int)
    · simp [he, h0]
    · simp [he]
theorem cntL_snoc {ls : List Int} {k : Nat} (h : k < ls.length) (h1 : 0 < ls[k]) (h2 : ls[k] ≤ 15) : cntL (ls.take (k + 1)) = (cntL (ls.take k)).set ls[k].toNat ((cntL (ls.take k)).getD ls[k].toNat 0 + 1) := by
  apply List.ext_getElem?
  intro i
  by_cases hi : i < 16
  · rw [List.getElem?_set]
    by_cases he : ls[k].toNat = i
    · rw [if_pos he, if_pos (by rw [cntL_len]; omega), he, cntL_get hi]
      simp only [cntL, List.getElem?_map, List.getElem?_range hi, Option.map_some]
      rw [cnt_snoc h, if_pos ⟨by omega, by omega⟩]
    · rw [if_neg he]
      simp only [cntL, List.getElem?_map, List.getElem?_range hi, Option.map_some]
      rw [cnt_snoc h, if_neg (fun hh => he (by omega))]
      simp
  · rw [List.getElem?_eq_none (by rw [cntL_len]; omega), List.getElem?_eq_none (by rw [List.length_set, cntL_len]; omega)]
theorem cntL_same {ls : List Int} {k : Nat} (h : k < ls.length) (h1 : ls[k] = 0) : cntL (ls.take (k + 1)) = cntL (ls.take k) := by
  unfold cntL
  apply List.map_congr_left
  intro i _
  rw [cnt_snoc h, if_neg (fun hh => hh.1 (by omega))]
  simp
theorem cntL_nil : cntL [] = List.replicate 16 0 := by
  have : cnt [] = fun _ => 0 := by funext n; simp [cnt, cls_zero]
  unfold cntL
  rw [this]
  rfl
/-- Symbols that have a word, rising. -/
def posn (ls : List Int) : List Int := ((List.range ls.length).filter (fun i => decide (0 < ls.getD i 0))).map (fun i : Nat => (i : Int))
theorem posn_snoc {ls : List Int} {k : Nat} (h : k < ls.length) : posn (ls.take (k + 1)) = posn (ls.take k) ++ (if 0 < ls[k] then [(k : Int)] else []) := by
  unfold posn
  have e1 : (ls.take (k + 1)).length = k + 1 := by simp; omega
  have e2 : (ls.take k).length = k := by simp; omega
  rw [e1, e2, List.range_succ, List.filter_append, List.map_append]
  congr 1
  · congr 1
    apply List.filter_congr
    intro i hi
    have hi := List.mem_range.1 hi
    rw [getD_take (by omega), getD_take hi]
  · have : (ls.take (k + 1)).getD k 0 = ls[k] := by rw [getD_take (by omega)]; simp [List.getD_eq_getElem?_getD, h]
    by_cases he : 0 < ls[k]
    · simp only [List.filter_cons, List.filter_nil, this, he, decide_true, decide_false, if_true, if_false, List.map_cons, List.map_nil]; try rfl
    · simp only [List.filter_cons, List.filter_nil, this, he, decide_true, decide_false, if_true, if_false, List.map_cons, List.map_nil]; try rfl
theorem posn_le (ls : List Int) : (posn ls).length ≤ ls.length := by
  unfold posn
  have := List.length_filter_le (fun i => decide (0 < ls.getD i 0)) (List.range ls.length)
  simpa using this
/-- What is left of the tree behind n levels. -/
def left (C : List Int) : Nat → Int
  | 0 => 1
  | n + 1 => 2 * left C n - C.getD (n + 1) 0
def wholeB (C : List Int) (all : Int) : Bool := (List.range 15).all (fun n => decide (0 ≤ left C (n + 1))) && (decide (left C 15 = 0) || decide (all = 0) || (decide (all = 1) && decide (C.getD 1 0 = 1)))
theorem left_le {C : List Int} (hC : ∀ i, 0 ≤ C.getD i 0) : ∀ n, left C n ≤ 2 ^ n
  | 0 => by simp [left]
  | n + 1 => by
    have h := left_le hC n
    have := hC (n + 1)
    simp only [left]
    rw [Int.pow_succ]
    omega
theorem left_bound {C : List Int} (hC : ∀ i, 0 ≤ C.getD i 0) {n : Nat} (hn : n ≤ 15) : left C n ≤ 32768 := by
  refine Int.le_trans (left_le hC n) ?_
  have : (2 : Nat) ^ n ≤ 2 ^ 15 := Nat.pow_le_pow_right (by decide) hn
  have e : ((2 : Int) ^ n) = ((2 ^ n : Nat) : Int) := by simp
  rw [e]
  omega
theorem whole_no {C : List Int} {all : Int} {n : Nat} (h1 : 1 ≤ n) (h2 : n ≤ 15) (h : left C n < 0) : wholeB C all = false := by
  unfold wholeB
  have : (List.range 15).all (fun n => decide (0 ≤ left C (n + 1))) = false := by
    rw [List.all_eq_false]
    exact ⟨n - 1, List.mem_range.2 (by omega), by rw [show n - 1 + 1 = n by omega]; simpa using h⟩
  rw [this]; rfl
theorem whole_yes {C : List Int} {all : Int} (h : ∀ n, 1 ≤ n → n ≤ 15 → 0 ≤ left C n) : wholeB C all = (decide (left C 15 = 0) || decide (all = 0) || (decide (all = 1) && decide (C.getD 1 0 = 1))) := by
  unfold wholeB
  have : (List.range 15).all (fun n => decide (0 ≤ left C (n + 1))) = true := by
    rw [List.all_eq_true]
    intro x hx
    have := List.mem_range.1 hx
    simpa using h (x + 1) (by omega) (by omega)
  rw [this]; rfl
theorem left_nn {C : List Int} {k : Nat} (hno : ∀ m, 1 ≤ m → m ≤ k → 0 ≤ left C m) : 0 ≤ left C k := by
  rcases Nat.eq_zero_or_pos k with e | e
  · subst e; simp [left]
  · exact hno k e (Nat.le_refl _)
theorem left_next {C : List Int} {k : Nat} : 2 * left C k - C.getD ((k : Int) + 1).toNat 0 = left C (k + 1) := by
  rw [show ((k : Int) + 1).toNat = k + 1 by omega]; rfl
theorem left_more {C : List Int} {k : Nat} (hno : ∀ m, 1 ≤ m → m ≤ k → 0 ≤ left C m) (h : ¬ 2 * left C k - C.getD ((k : Int) + 1).toNat 0 < 0) : ∀ m, 1 ≤ m → m ≤ k + 1 → 0 ≤ left C m := by
  intro m h1 h2
  rcases Nat.lt_or_ge m (k + 1) with h3 | h3
  · exact hno m h1 (by omega)
  · obtain rfl : m = k + 1 := by omega
    rw [left_next] at h
    omega
theorem whole_end {C : List Int} {all : Int} {k : Nat} (hk : k ≤ 15) (h8 : ¬ ((k : Int) + 1 ≤ 15)) (hno : ∀ m, 1 ≤ m → m ≤ k → 0 ≤ left C m) : wholeB C all = (decide (left C k = 0) || decide (all = 0) || (decide (all = 1) && decide (C.getD (Int.toNat 1) 0 = 1))) := by
  obtain rfl : k = 15 := by omega
  exact whole_yes hno
/-- Are lengths as they may be? -/
def okB (ls : List Int) : Bool := ls.all (fun x => decide (0 ≤ x ∧ x ≤ 15))
def newE (ls : List Int) : Int := if 320 < ls.length then 1 else if okB ls = true then (if wholeB (cntL ls) ((posn ls).length : Int) = true then 0 else 4) else 1
def mostL (ls : List Int) : Int := ls.foldl (fun a x => if a < x then x else a) 0

/-! ### The order -/
theorem cls_mem {ls : List Int} {n : Nat} {x : Int} : x ∈ cls ls n ↔ 0 ≤ x ∧ x.toNat < ls.length ∧ ls.getD x.toNat 0 = (n : Int) := by
  unfold cls
  simp only [List.mem_map, List.mem_filter, List.mem_range, decide_eq_true_eq]
  constructor
  · rintro ⟨i, ⟨h1, h2⟩, rfl⟩
    exact ⟨by omega, by simpa using h1, by simpa using h2⟩
  · rintro ⟨h1, h2, h3⟩
    exact ⟨x.toNat, ⟨h2, h3⟩, by omega⟩
theorem ordN_mem {ls : List Int} {x : Int} : ∀ {n : Nat}, x ∈ ordN ls n ↔ ∃ m, 1 ≤ m ∧ m ≤ n ∧ x ∈ cls ls m
  | 0 => by simp [ordN]; omega
  | n + 1 => by
    simp only [ordN, List.mem_append, ordN_mem (n := n)]
    constructor
    · rintro (⟨m, h1, h2, h3⟩ | h)
      · exact ⟨m, h1, by omega, h3⟩
      · exact ⟨n + 1, by omega, Nat.le_refl _, h⟩
    · rintro ⟨m, h1, h2, h3⟩
      by_cases e : m = n + 1
      · subst e; exact .inr h3
      · exact .inl ⟨m, h1, by omega, h3⟩
theorem ord_mem {ls : List Int} (hv : Vl ls) {x : Int} : x ∈ ord ls ↔ 0 ≤ x ∧ x.toNat < ls.length ∧ 0 < ls.getD x.toNat 0 := by
  unfold ord
  rw [ordN_mem]
  constructor
  · rintro ⟨m, h1, h2, h3⟩
    obtain ⟨a, b, c⟩ := cls_mem.1 h3
    exact ⟨a, b, by omega⟩
  · rintro ⟨h1, h2, h3⟩
    have h4 := hv.2 (ls.getD x.toNat 0) (by simp [List.getD_eq_getElem?_getD, h2])
    refine ⟨(ls.getD x.toNat 0).toNat, by omega, by omega, cls_mem.2 ⟨h1, h2, by omega⟩⟩
theorem off_succ (ls : List Int) {n : Nat} (h : 1 ≤ n) : off ls (n + 1) = off ls n + (cls ls n).length := by
  obtain ⟨m, rfl⟩ : ∃ m, n = m + 1 := ⟨n - 1, by omega⟩
  simp [off, ordN]
theorem off_cnt (ls : List Int) (n : Nat) : (off ls (n + 1) : Int) = off ls n + cnt ls n := by
  rcases Nat.eq_zero_or_pos n with h | h
  · subst h; simp [off, ordN, cnt]
  · rw [off_succ ls h]
    unfold cnt
    rw [if_neg (by omega)]
    omega
theorem ordN_pre (ls : List Int) {m n : Nat} (h : m ≤ n) : ∃ t, ordN ls n = ordN ls m ++ t := by
  induction n with
  | zero =>
    obtain rfl : m = 0 := by omega
    exact ⟨[], by simp⟩
  | succ n ih =>
    by_cases e : m = n + 1
    · subst e; exact ⟨[], by simp⟩
    · obtain ⟨t, ht⟩ := ih (by omega)
      exact ⟨t ++ cls ls (n + 1), by simp [ordN, ht]⟩
theorem off_mono (ls : List Int) {m n : Nat} (h : m ≤ n) : off ls m ≤ off ls n := by
  induction n with
  | zero =>
    obtain rfl : m = 0 := by omega
    exact Nat.le_refl _
  | succ n ih =>
    by_cases e : m = n + 1
    · subst e; exact Nat.le_refl _
    · have := ih (by omega)
      have h2 := off_cnt ls n
      have h3 := cnt_nonneg ls n
      omega
theorem ord_len (ls : List Int) : (ord ls).length = off ls 16 := rfl
/-- Where a symbol stands. -/
theorem ord_get {ls : List Int} {n r : Nat} (h1 : 1 ≤ n) (h2 : n ≤ 15) (h : r < (cls ls n).length) : (ord ls).getD (off ls n + r) 0 = (cls ls n).getD r 0 := by
  obtain ⟨t, ht⟩ := ordN_pre ls (show n ≤ 15 from h2)
  obtain ⟨m, rfl⟩ : ∃ m, n = m + 1 := ⟨n - 1, by omega⟩
  have e : ord ls = ordN ls m ++ cls ls (m + 1) ++ t := by unfold ord; rw [ht]; rfl
  rw [e, List.append_assoc]
  simp only [List.getD_eq_getElem?_getD, off]
  rw [List.getElem?_append_right (by omega), List.getElem?_append_left (by omega)]
  congr 2
  omega
theorem ord_cls {ls : List Int} {p : Nat} (h : p < (ord ls).length) : ∃ n r, 1 ≤ n ∧ n ≤ 15 ∧ r < (cls ls n).length ∧ p = off ls n + r := by
  have key : ∀ n, p < off ls (n + 1) → ∃ m r, 1 ≤ m ∧ m ≤ n ∧ r < (cls ls m).length ∧ p = off ls m + r := by
    intro n
    induction n with
    | zero => intro h; simp [off, ordN] at h
    | succ n ih =>
      intro h
      by_cases h2 : p < off ls (n + 1)
      · obtain ⟨m, r, a, b, c, d⟩ := ih h2
        exact ⟨m, r, a, by omega, c, d⟩
      · have := off_succ ls (n := n + 1) (by omega)
        exact ⟨n + 1, p - off ls (n + 1), by omega, Nat.le_refl _, by omega, by omega⟩
  exact key 15 h
theorem cls_take {ls : List Int} {s n : Nat} (h : s < ls.length) (hn : ls.getD s 0 = (n : Int)) : ∃ t, cls ls n = cls (ls.take s) n ++ ((s : Int) :: t) := by
  have e : ls = ls.take (s + 1) ++ ls.drop (s + 1) := (List.take_append_drop _ _).symm
  have key : ∀ k, s + 1 + k ≤ ls.length → ∃ t, cls (ls.take (s + 1 + k)) n = cls (ls.take s) n ++ ((s : Int) :: t) := by
    intro k
    induction k with
    | zero =>
      intro _
      refine ⟨[], ?_⟩
      rw [Nat.add_zero, cls_snoc h, if_pos (by rw [← hn]; simp [List.getD_eq_getElem?_getD, h])]
    | succ k ih =>
      intro hk
      obtain ⟨t, ht⟩ := ih (by omega)
      refine ⟨t ++ (if ls[s + 1 + k] = (n : Int) then [((s + 1 + k : Nat) : Int)] else []), ?_⟩
      rw [show s + 1 + (k + 1) = (s + 1 + k) + 1 by omega, cls_snoc (show s + 1 + k < ls.length by omega), ht]
      simp
  obtain ⟨t, ht⟩ := key (ls.length - (s + 1)) (by omega)
  rw [show s + 1 + (ls.length - (s + 1)) = ls.length by omega, List.take_length] at ht
  exact ⟨t, ht⟩
theorem cls_nodup (ls : List Int) (n : Nat) : (cls ls n).Nodup := by
  unfold cls
  have h : ((List.range ls.length).filter (fun i => decide (ls.getD i 0 = (n : Int)))).Nodup := List.Pairwise.filter _ List.nodup_range
  rw [List.Nodup, List.pairwise_map]
  exact List.Pairwise.imp (fun {a b} hab he => hab (Int.ofNat.inj he)) h
/-- The word of the symbol that stands at p. -/
theorem word_at {ls : List Int} {n r : Nat} (h1 : 1 ≤ n) (h2 : n ≤ 15) (h : r < (cls ls n).length) :
    ∃ s : Nat, (ord ls).getD (off ls n + r) 0 = (s : Int) ∧ s < ls.length ∧ ls.getD s 0 = (n : Int) ∧ lenOf ls s = n ∧ wordOf ls s = base ls n + r := by
  have hr0 : (cls ls n)[r]? = some ((cls ls n).getD r 0) := by simp [List.getD_eq_getElem?_getD, h]
  have hm : (cls ls n).getD r 0 ∈ cls ls n := List.mem_of_getElem? hr0
  obtain ⟨a, b, c⟩ := cls_mem.1 hm
  obtain ⟨s, hs⟩ : ∃ s : Nat, (cls ls n).getD r 0 = (s : Int) := ⟨((cls ls n).getD r 0).toNat, by omega⟩
  rw [hs] at hr0 b c
  simp only [Int.toNat_natCast] at b c
  have hl : lenOf ls s = n := by unfold lenOf; rw [c]; omega
  refine ⟨s, by rw [ord_get h1 h2 h, hs], b, c, hl, ?_⟩
  unfold wordOf
  rw [hl]
  congr 1
  obtain ⟨t, ht⟩ := cls_take b c
  have hidx : (cls ls n)[(cls (ls.take s) n).length]? = some (s : Int) := by
    rw [ht, List.getElem?_append_right (Nat.le_refl _), Nat.sub_self]
    rfl
  have := (List.getElem?_inj (List.getElem?_eq_some_iff.1 hr0).1 (cls_nodup ls n)).1 (hr0.trans hidx.symm)
  omega
theorem base_far {ls : List Int} {m n : Nat} (h : m ≤ n) (hz : ∀ k, m < k → k < n → cnt ls k = 0) (hmn : m < n) : base ls n = (base ls m + cnt ls m) * 2 ^ (n - m) := by
  induction n with
  | zero => omega
  | succ n ih =>
    by_cases e : m = n
    · subst e
      rw [show m + 1 - m = 1 by omega]
      simp only [base]
      omega
    · have := ih (by omega) (fun k k1 k2 => hz k k1 (by omega)) (by omega)
      simp only [base]
      rw [this, hz n (by omega) (by omega), show n + 1 - m = (n - m) + 1 by omega, Int.pow_succ]
      rw [Int.add_zero, Int.mul_comm 2, Int.mul_assoc]
/-- The next word: behind the one ahead, moved up by what it is longer. -/
theorem next_word {ls : List Int} {p : Nat} (hp : p + 1 < (ord ls).length) : ∃ s t : Nat, (ord ls).getD p 0 = (s : Int) ∧ (ord ls).getD (p + 1) 0 = (t : Int) ∧ s < ls.length ∧ t < ls.length ∧ 1 ≤ lenOf ls s ∧ lenOf ls s ≤ lenOf ls t ∧ lenOf ls t ≤ 15 ∧ ls.getD s 0 = (lenOf ls s : Int) ∧ ls.getD t 0 = (lenOf ls t : Int) ∧ wordOf ls t = (wordOf ls s + 1) * 2 ^ (lenOf ls t - lenOf ls s) := by
  obtain ⟨m, r, m1, m2, hr, e1⟩ := ord_cls (show p < (ord ls).length by omega)
  obtain ⟨n, q, n1, n2, hq, e2⟩ := ord_cls hp
  obtain ⟨s, s1, s2, s3, s4, s5⟩ := word_at m1 m2 hr
  obtain ⟨t, t1, t2, t3, t4, t5⟩ := word_at n1 n2 hq
  have hmn : m ≤ n := by
    rcases Nat.lt_or_ge n m with h | h
    · exfalso
      have := off_mono ls (show n + 1 ≤ m from h)
      have := off_succ ls n1
      omega
    · exact h
  refine ⟨s, t, by rw [e1]; exact s1, by rw [e2]; exact t1, s2, t2, by omega, by omega, by omega, by rw [s4]; exact s3, by rw [t4]; exact t3, ?_⟩
  rw [s4, t4, s5, t5]
  by_cases e : m = n
  · subst e
    rw [Nat.sub_self]
    simp
    omega
  · have h3 := off_mono ls (show m + 1 ≤ n by omega)
    have h4 := off_succ ls m1
    have hq0 : q = 0 := by omega
    have hrl : r + 1 = (cls ls m).length := by omega
    subst hq0
    have hz : ∀ k, m < k → k < n → cnt ls k = 0 := by
      intro k k1 k2
      have h5 := off_mono ls (show m + 1 ≤ k by omega)
      have h6 := off_mono ls (show k + 1 ≤ n by omega)
      have h7 := off_cnt ls k
      have h8 := cnt_nonneg ls k
      omega
    have hc : cnt ls m = (r : Int) + 1 := by unfold cnt; rw [if_neg (by omega)]; omega
    rw [base_far hmn hz (by omega), hc]
    simp [Int.add_assoc]
theorem first_word {ls : List Int} (hp : 0 < (ord ls).length) : ∃ t : Nat, (ord ls).getD 0 0 = (t : Int) ∧ t < ls.length ∧ 1 ≤ lenOf ls t ∧ lenOf ls t ≤ 15 ∧ ls.getD t 0 = (lenOf ls t : Int) ∧ wordOf ls t = 0 := by
  obtain ⟨n, q, n1, n2, hq, e2⟩ := ord_cls hp
  obtain ⟨t, t1, t2, t3, t4, t5⟩ := word_at n1 n2 hq
  refine ⟨t, by rw [e2]; exact t1, t2, by omega, by omega, by rw [t4]; exact t3, ?_⟩
  have hz : ∀ k, 0 < k → k < n → cnt ls k = 0 := by
    intro k k1 k2
    have h6 := off_mono ls (show k + 1 ≤ n by omega)
    have h7 := off_cnt ls k
    have h8 := cnt_nonneg ls k
    omega
  rw [t5, base_far (Nat.zero_le n) hz (by omega)]
  simp [base, cnt]
  omega
end Go.HuffP

/-
  Canonical codes, plainly: the sort leaves the order; the words one after the other.
-/
namespace Go.HuffP
set_option linter.unusedVariables false
set_option linter.unusedSimpArgs false
open Go.StS
abbrev key (ls : List Int) (x : Int) : Int := ls.getD x.toNat 0
theorem filt_map (l : List Nat) (q : Nat → Bool) (p : Int → Bool) : ((l.filter q).map (fun i : Nat => (i : Int))).filter p = (l.filter (fun i => q i && p (i : Int))).map (fun i : Nat => (i : Int)) := by
  rw [List.filter_map, List.filter_filter]
  congr 2
  funext i
  simp [Bool.and_comm]
theorem filt_cls (ls : List Int) (m : Nat) (c : Int) : (cls ls m).filter (fun x => decide (key ls x = c)) = if (m : Int) = c then cls ls m else [] := by
  by_cases h : (m : Int) = c
  · rw [if_pos h, List.filter_eq_self]
    intro x hx
    have := (cls_mem.1 hx).2.2
    simpa [h] using this.trans h
  · rw [if_neg h, List.filter_eq_nil_iff]
    intro x hx
    have := (cls_mem.1 hx).2.2
    simp only [decide_eq_true_eq]
    intro e
    exact h (this.symm.trans e)
theorem filt_ord (ls : List Int) (c : Int) : ∀ n : Nat, (ordN ls n).filter (fun x => decide (key ls x = c)) = if 1 ≤ c ∧ c ≤ (n : Int) then cls ls c.toNat else []
  | 0 => by rw [if_neg (by omega)]; rfl
  | n + 1 => by
    simp only [ordN]
    rw [List.filter_append, filt_ord ls c n, filt_cls]
    by_cases h : ((n + 1 : Nat) : Int) = c
    · rw [if_neg (by omega), if_pos h, if_pos (by omega), List.nil_append, ← h]
      rfl
    · rw [if_neg h, List.append_nil]
      by_cases h2 : 1 ≤ c ∧ c ≤ (n : Int)
      · rw [if_pos h2, if_pos (by omega)]
      · rw [if_neg h2, if_neg (by omega)]
theorem filt_posn {ls : List Int} (hv : ∀ x ∈ ls, 0 ≤ x ∧ x ≤ 15) (c : Int) : (posn ls).filter (fun x => decide (key ls x = c)) = if 1 ≤ c ∧ c ≤ 15 then cls ls c.toNat else [] := by
  unfold posn
  rw [filt_map]
  by_cases h : 1 ≤ c ∧ c ≤ 15
  · rw [if_pos h]
    unfold cls
    congr 1
    apply List.filter_congr
    intro i hi
    simp only [key, Int.toNat_natCast]
    by_cases e : ls.getD i 0 = c
    · have e2 : ls.getD i 0 = ((c.toNat : Nat) : Int) := by omega
      have e3 : 0 < ls.getD i 0 := by omega
      simp only [e, e2, decide_true, Bool.and_true, decide_eq_true_eq]
      simp; omega
    · have e2 : ¬ ls.getD i 0 = ((c.toNat : Nat) : Int) := by omega
      rw [decide_eq_false e, decide_eq_false e2, Bool.and_false]
  · rw [if_neg h]
    simp only [List.map_eq_nil_iff]
    rw [List.filter_eq_nil_iff]
    intro i hi hp
    have hi := List.mem_range.1 hi
    simp only [key, Int.toNat_natCast, Bool.and_eq_true, decide_eq_true_eq] at hp
    have := hv (ls.getD i 0) (by simp [List.getD_eq_getElem?_getD, hi])
    omega
theorem ord_sd (ls : List Int) : Sd (key ls) 0 (ord ls) 0 (ord ls).length := by
  have : ∀ n, Sd (key ls) 0 (ordN ls n) 0 (ordN ls n).length ∧ ∀ x ∈ ordN ls n, key ls x ≤ (n : Int) := by
    intro n
    induction n with
    | zero => exact ⟨Sd.small (by simp [ordN]), fun x hx => by simp [ordN] at hx⟩
    | succ n ih =>
      have hle : ∀ x ∈ ordN ls n, key ls x ≤ (n : Int) := ih.2
      have hcl : ∀ x ∈ cls ls (n + 1), key ls x = ((n + 1 : Nat) : Int) := fun x hx => (cls_mem.1 hx).2.2
      refine ⟨?_, ?_⟩
      · simp only [ordN, List.length_append]
        refine Sd.join (m := (ordN ls n).length) ?_ ?_ ?_
        · exact ih.1.congr (fun i _ h => getD_app1 h)
        · intro i j i1 i2 i3
          rw [getD_app2 i1, getD_app2 (by omega), hcl _ (getD_mem (by omega)), hcl _ (getD_mem (by omega))]
          exact Int.le_refl _
        · intro i j i1 i2 i3 i4
          rw [getD_app1 i2, getD_app2 i3, hcl _ (getD_mem (by omega))]
          have := hle _ (getD_mem (d := 0) i2)
          omega
      · intro x hx
        simp only [ordN, List.mem_append] at hx
        rcases hx with hx | hx
        · have := hle x hx; omega
        · have := hcl x hx; omega
  exact (this 15).1
theorem sort_ord {ls l2 : List Int} (hv : ∀ x ∈ ls, 0 ≤ x ∧ x ≤ 15) (hR : Rl (key ls) 0 (posn ls) l2 0 (posn ls).length) (hS : Sd (key ls) 0 l2 0 (posn ls).length) : l2 = ord ls := by
  refine unique (d := 0) (by rw [hR.len]; exact hS) (ord_sd ls) (fun c => ?_)
  rw [hR.same c, filt_posn hv]
  unfold ord
  rw [filt_ord]
  rfl
theorem posn_mem {ls : List Int} {x : Int} : x ∈ posn ls ↔ 0 ≤ x ∧ x.toNat < ls.length ∧ 0 < ls.getD x.toNat 0 := by
  unfold posn
  simp only [List.mem_map, List.mem_filter, List.mem_range, decide_eq_true_eq]
  constructor
  · rintro ⟨i, ⟨h1, h2⟩, rfl⟩
    exact ⟨by omega, by simpa using h1, by simpa using h2⟩
  · rintro ⟨h1, h2, h3⟩
    exact ⟨x.toNat, ⟨h2, h3⟩, by omega⟩
theorem cast_nodup {l : List Nat} (h : l.Nodup) : (l.map (fun i : Nat => (i : Int))).Nodup := by
  rw [List.Nodup, List.pairwise_map]
  exact List.Pairwise.imp (fun {a b} hab he => hab (Int.ofNat.inj he)) h
theorem posn_nodup (ls : List Int) : (posn ls).Nodup := cast_nodup (List.Pairwise.filter _ List.nodup_range)
theorem ordN_nodup (ls : List Int) : ∀ n, (ordN ls n).Nodup
  | 0 => by simp [ordN]
  | n + 1 => by
    simp only [ordN]
    rw [List.nodup_append]
    refine ⟨ordN_nodup ls n, cls_nodup ls _, ?_⟩
    intro a ha b hb e
    subst e
    obtain ⟨m, m1, m2, m3⟩ := ordN_mem.1 ha
    have h1 := (cls_mem.1 m3).2.2
    have h2 := (cls_mem.1 hb).2.2
    omega
theorem posn_len {ls : List Int} (hv : Vl ls) : (posn ls).length = (ord ls).length :=
  ((List.perm_ext_iff_of_nodup (posn_nodup ls) (ordN_nodup ls 15)).2 (fun x => by rw [posn_mem]; exact (ord_mem hv).symm)).length_eq
/-! ### The words one after the other -/
def nxt (ls : List Int) : Nat → Int
  | 0 => 0
  | k + 1 => wordOf ls ((ord ls).getD k 0).toNat + 1
def pln (ls : List Int) : Nat → Int
  | 0 => 0
  | k + 1 => (lenOf ls ((ord ls).getD k 0).toNat : Int)
theorem base_nn (ls : List Int) : ∀ n, 0 ≤ base ls n
  | 0 => by simp [base]
  | n + 1 => by
    have := base_nn ls n
    have := cnt_nonneg ls n
    simp only [base]
    omega
theorem left_base {ls : List Int} : ∀ n : Nat, n ≤ 15 → left (cntL ls) n = 2 ^ n - (base ls n + cnt ls n)
  | 0, _ => by simp [left, base, cnt]
  | n + 1, h => by
    simp only [left, base]
    rw [left_base n (by omega), cntL_get (by omega), Int.pow_succ]
    omega
theorem whole_left {C : List Int} {all : Int} (h : wholeB C all = true) {n : Nat} (hn : n ≤ 15) : 0 ≤ left C n := by
  rcases Nat.eq_zero_or_pos n with e | e
  · subst e; simp [left]
  · by_cases hl : left C n < 0
    · rw [whole_no e hn hl] at h
      cases h
    · omega
theorem word_lt {ls : List Int} {all : Int} (hw : wholeB (cntL ls) all = true) {n r : Nat} (h1 : 1 ≤ n) (h2 : n ≤ 15) (h : r < (cls ls n).length) : base ls n + (r : Int) < 2 ^ n := by
  have h3 := whole_left hw h2
  rw [left_base n h2] at h3
  have : cnt ls n = ((cls ls n).length : Int) := by unfold cnt; rw [if_neg (by omega)]
  omega
theorem pow_15 {n : Nat} (h : n ≤ 15) : (2 : Int) ^ n ≤ 32768 := by
  have : (2 : Nat) ^ n ≤ 2 ^ 15 := Nat.pow_le_pow_right (by decide) h
  have e : ((2 : Int) ^ n) = ((2 ^ n : Nat) : Int) := by simp
  rw [e]
  omega
/-- What is known of the symbol at k. -/
structure At (ls : List Int) (k : Nat) (s : Nat) : Prop where
  sym : (ord ls).getD k 0 = (s : Int)
  lt : s < ls.length
  one : 1 ≤ lenOf ls s
  top : lenOf ls s ≤ 15
  len : ls.getD s 0 = (lenOf ls s : Int)
  ge : pln ls k ≤ lenOf ls s
  nn : 0 ≤ pln ls k
  word : nxt ls k * 2 ^ (lenOf ls s - (pln ls k).toNat) = wordOf ls s
  w0 : 0 ≤ wordOf ls s
  w1 : wordOf ls s < 2 ^ lenOf ls s
theorem at_k {ls : List Int} {all : Int} (hw : wholeB (cntL ls) all = true) {k : Nat} (hk : k < (ord ls).length) : ∃ s, At ls k s := by
  obtain ⟨n, r, n1, n2, hr, e⟩ := ord_cls hk
  obtain ⟨t, t1, t2, t3, t4, t5⟩ := word_at n1 n2 hr
  have hlt := word_lt hw n1 n2 hr
  have hb := base_nn ls n
  cases k with
  | zero =>
    obtain ⟨s, s1, s2, s3, s4, s5, s6⟩ := first_word hk
    have hst : s = t := by rw [e] at s1; rw [t1] at s1; omega
    subst hst
    refine ⟨s, s1, s2, s3, s4, s5, by simp [pln], by simp [pln], by simp [nxt, s6], by omega, by rw [t4, t5]; exact hlt⟩
  | succ k =>
    obtain ⟨s, u, s1, u1, s2, u2, s3, s4, s5, s6, u6, u7⟩ := next_word hk
    have hut : u = t := by rw [e] at u1; rw [t1] at u1; omega
    subst hut
    refine ⟨u, u1, u2, by omega, s5, u6, by simp only [pln]; rw [s1]; simp; exact s4, by simp only [pln]; omega, ?_, by rw [t5]; omega, by rw [t4, t5]; exact hlt⟩
    simp only [nxt, pln]
    rw [s1, u7]
    simp
/-- The table of words. -/
def wd (ls : List Int) (s : Nat) : Int × Int := if 0 < lenOf ls s then (wordOf ls s, (lenOf ls s : Int)) else (0, 0)
def wordsK (ls : List Int) (k : Nat) : List (Int × Int) := (List.range ls.length).map (fun s : Nat => if (s : Int) ∈ (ord ls).take k then wd ls s else (0, 0))
def words (ls : List Int) : List (Int × Int) := (List.range ls.length).map (wd ls)
theorem wordsK_len (ls : List Int) (k : Nat) : (wordsK ls k).length = ls.length := by simp [wordsK]
theorem wordsK_zero (ls : List Int) : wordsK ls 0 = List.replicate ls.length (0, 0) := by
  simp [wordsK, List.map_const']
theorem wordsK_all {ls : List Int} (hv : Vl ls) {k : Nat} (hk : (ord ls).length ≤ k) : wordsK ls k = words ls := by
  unfold wordsK words
  rw [List.take_of_length_le hk]
  apply List.map_congr_left
  intro s hs
  have hs := List.mem_range.1 hs
  by_cases h : (s : Int) ∈ ord ls
  · rw [if_pos h]
  · rw [if_neg h]
    unfold wd
    rw [if_neg]
    intro h2
    exact h ((ord_mem hv).2 ⟨by omega, by simpa using hs, by simpa [lenOf] using h2⟩)
theorem wordsK_next {ls : List Int} {k s : Nat} (hk : k < (ord ls).length) (ha : At ls k s) : wordsK ls (k + 1) = (wordsK ls k).set s (wordOf ls s, (lenOf ls s : Int)) := by
  have e1 : (ord ls).take (k + 1) = (ord ls).take k ++ [(s : Int)] := by
    rw [List.take_succ_eq_append_getElem hk]
    congr 2
    have := ha.sym
    simpa [List.getD_eq_getElem?_getD, hk] using this
  apply List.ext_getElem?
  intro i
  rw [List.getElem?_set]
  by_cases hi : i < ls.length
  · by_cases e : s = i
    · subst e
      rw [if_pos rfl, if_pos (by rw [wordsK_len]; exact hi)]
      simp only [wordsK, List.getElem?_map, List.getElem?_range hi, Option.map_some]
      rw [if_pos (by rw [e1]; simp)]
      unfold wd
      rw [if_pos (by have := ha.one; omega)]
    · rw [if_neg e]
      simp only [wordsK, List.getElem?_map, List.getElem?_range hi, Option.map_some]
      by_cases hm : (i : Int) ∈ (ord ls).take k
      · rw [if_pos hm, if_pos (by rw [e1]; exact List.mem_append_left _ hm)]
      · rw [if_neg hm, if_neg]
        rw [e1]
        intro h
        rcases List.mem_append.1 h with h | h
        · exact hm h
        · have := List.mem_singleton.1 h
          omega
  · rw [List.getElem?_eq_none (by rw [wordsK_len]; omega)]
    have hs := ha.lt
    rw [if_neg (by omega), List.getElem?_eq_none (by rw [wordsK_len]; omega)]
theorem words_get {ls : List Int} {s : Nat} (h : s < ls.length) : (words ls).getD s (0, 0) = wd ls s := by
  simp [words, List.getD_eq_getElem?_getD, h]
/-! ### The lengths, one after the other -/
theorem most_snoc {ls : List Int} {k : Nat} (h : k < ls.length) : mostL (ls.take (k + 1)) = if mostL (ls.take k) < ls[k] then ls[k] else mostL (ls.take k) := by
  unfold mostL
  rw [List.take_succ_eq_append_getElem h, List.foldl_append]
  rfl
theorem most_nn (ls : List Int) : 0 ≤ mostL ls := by
  have : ∀ (l : List Int) (a : Int), 0 ≤ a → 0 ≤ l.foldl (fun a x => if a < x then x else a) a := by
    intro l
    induction l with
    | nil => intro a h; exact h
    | cons x l ih => intro a h; simp only [List.foldl_cons]; exact ih _ (by split <;> omega)
  exact this ls 0 (Int.le_refl _)
theorem ok_take {ls : List Int} {k : Nat} (h : ∀ i, i < k → 0 ≤ ls.getD i 0 ∧ ls.getD i 0 ≤ 15) (hk : ls.length ≤ k) : ∀ x ∈ ls, 0 ≤ x ∧ x ≤ 15 := by
  intro x hx
  obtain ⟨i, hi⟩ := List.getElem?_of_mem hx
  have hlt := (List.getElem?_eq_some_iff.1 hi).1
  have := h i (by omega)
  simpa [List.getD_eq_getElem?_getD, hi] using this
theorem cntL_bound {ls : List Int} (h : ls.length ≤ 320) : ∀ i, 0 ≤ (cntL ls).getD i 0 ∧ (cntL ls).getD i 0 ≤ 320 := by
  intro i
  rcases Nat.lt_or_ge i 16 with hi | hi
  · rw [cntL_get hi]
    have := cnt_nonneg ls i
    have := cnt_le ls i
    omega
  · rw [List.getD_eq_getElem?_getD, List.getElem?_eq_none (by rw [cntL_len]; exact hi)]
    simp
theorem posn_at (ls : List Int) : ∀ i, i < (posn ls).length → 0 ≤ (posn ls).getD i 0 ∧ (posn ls).getD i 0 < (ls.length : Int) := by
  intro i hi
  have := posn_mem.1 (getD_mem (d := 0) hi)
  omega
theorem ok_snoc {ls : List Int} {k : Nat} (hok : ∀ i, i < k → 0 ≤ ls.getD i 0 ∧ ls.getD i 0 ≤ 15) (h : 0 ≤ ls.getD k 0 ∧ ls.getD k 0 ≤ 15) : ∀ i, i < k + 1 → 0 ≤ ls.getD i 0 ∧ ls.getD i 0 ≤ 15 := by
  intro i hi
  by_cases e : i = k
  · subst e; exact h
  · exact hok i (by omega)
theorem step_zero {ls : List Int} {k : Nat} {x : Int} (h : k < ls.length) (hx : x = ls[k]) (h0 : x = 0) : cntL (ls.take (k + 1)) = cntL (ls.take k) ∧ posn (ls.take (k + 1)) = posn (ls.take k) ∧ mostL (ls.take (k + 1)) = mostL (ls.take k) := by
  have hz : ls[k] = 0 := by omega
  refine ⟨cntL_same h hz, ?_, ?_⟩
  · rw [posn_snoc h, if_neg (by omega), List.append_nil]
  · rw [most_snoc h, if_neg]
    have := most_nn (ls.take k)
    omega
theorem step_pos {ls : List Int} {k : Nat} {x : Int} (h : k < ls.length) (hx : x = ls[k]) (h0 : 0 < x) (h1 : x ≤ 15) : (cntL (ls.take k)).set x.toNat ((cntL (ls.take k)).getD x.toNat 0 + 1) = cntL (ls.take (k + 1)) ∧ posn (ls.take k) ++ [(k : Int)] = posn (ls.take (k + 1)) ∧ (posn (ls.take k)).length + 1 = (posn (ls.take (k + 1))).length ∧ (if mostL (ls.take k) < x then x else mostL (ls.take k)) = mostL (ls.take (k + 1)) := by
  subst hx
  refine ⟨(cntL_snoc h h0 h1).symm, ?_, ?_, (most_snoc h).symm⟩
  · rw [posn_snoc h, if_pos h0]
  · rw [posn_snoc h, if_pos h0]; simp
theorem posn_nil : posn [] = [] := rfl
theorem most_nil : mostL [] = 0 := rfl
theorem newE_long {ls : List Int} (h : 320 < ls.length) : newE ls = 1 := if_pos h
theorem newE_bad {ls : List Int} {k : Nat} (h : ¬ 320 < ls.length) (hk : k < ls.length) (hb : ls.getD k 0 < 0 ∨ 15 < ls.getD k 0) : newE ls = 1 := by
  unfold newE
  rw [if_neg h, if_neg]
  intro ho
  unfold okB at ho
  rw [List.all_eq_true] at ho
  have := ho (ls.getD k 0) (by simp [List.getD_eq_getElem?_getD, hk])
  simp only [decide_eq_true_eq] at this
  omega
theorem newE_ok {ls : List Int} (h : ¬ 320 < ls.length) (hv : ∀ x ∈ ls, 0 ≤ x ∧ x ≤ 15) : newE ls = if wholeB (cntL ls) ((posn ls).length : Int) = true then 0 else 4 := by
  unfold newE
  rw [if_neg h, if_pos]
  unfold okB
  rw [List.all_eq_true]
  intro x hx
  simpa using hv x hx
theorem newE_vl {ls : List Int} (h : newE ls = 0) : Vl ls ∧ wholeB (cntL ls) ((posn ls).length : Int) = true := by
  unfold newE at h
  split at h
  · omega
  · split at h
    · rename_i ho
      split at h
      · rename_i hw
        refine ⟨⟨by omega, ?_⟩, hw⟩
        unfold okB at ho
        rw [List.all_eq_true] at ho
        intro x hx
        simpa using ho x hx
      · omega
    · omega
/-! ### A symbol's word, asked -/
def lkW (ls : List Int) (x : Int) : Int := if 0 ≤ x ∧ x < ls.length then (wd ls x.toNat).1 else 0
def lkN (ls : List Int) (x : Int) : Int := if 0 ≤ x ∧ x < ls.length then (wd ls x.toNat).2 else 0
def lkB (ls : List Int) (x : Int) : Bool := decide (0 ≤ x ∧ x < ls.length ∧ (wd ls x.toNat).2 ≠ 0)
theorem wd_zero {ls : List Int} {s : Nat} (h : (wd ls s).2 = 0) : (wd ls s).1 = 0 := by
  unfold wd at h ⊢
  split at h
  · simp at h; omega
  · rename_i h2; rw [if_neg h2]
theorem lk_none {ls : List Int} {x : Int} (h : x < 0 ∨ (ls.length : Int) ≤ x ∨ (wd ls x.toNat).2 = 0) : lkW ls x = 0 ∧ lkN ls x = 0 ∧ lkB ls x = false := by
  unfold lkW lkN lkB
  by_cases hx : 0 ≤ x ∧ x < ls.length
  · have h3 : (wd ls x.toNat).2 = 0 := by omega
    rw [if_pos hx, if_pos hx, wd_zero h3, h3]
    exact ⟨rfl, rfl, by simp⟩
  · rw [if_neg hx, if_neg hx]
    refine ⟨rfl, rfl, ?_⟩
    rw [decide_eq_false_iff_not]
    omega
theorem lk_some {ls : List Int} {x : Int} (h0 : 0 ≤ x) (h1 : x < ls.length) (h : (wd ls x.toNat).2 ≠ 0) : lkW ls x = (wd ls x.toNat).1 ∧ lkN ls x = (wd ls x.toNat).2 ∧ lkB ls x = true := by
  unfold lkW lkN lkB
  rw [if_pos ⟨h0, h1⟩, if_pos ⟨h0, h1⟩]
  exact ⟨rfl, rfl, by simp [h0, h1, h]⟩
end Go.HuffP

/-
  Canonical codes, plainly: counts, the document's search of a word, shifts.
-/
namespace Go.HuffP
set_option linter.unusedVariables false
set_option linter.unusedSimpArgs false
def cntZ (ls : List Int) : List Int := (List.range 16).map (fun n => ((cls ls n).length : Int))
def sy (ls : List Int) (m i : Nat) : List Int := ordN ls m ++ cls (ls.take i) (m + 1)
end Go.HuffP
namespace Go.HuffP
set_option linter.unusedVariables false
set_option linter.unusedSimpArgs false
def bk (ls : List Int) (n : Nat) : Nat → Int
  | 0 => base ls n
  | k + 1 => bk ls n k + 1
/-- What is known of a symbol that has a word. -/
structure Sy (ls : List Int) (x : Int) (L r : Nat) : Prop where
  one : 1 ≤ L
  top : L ≤ 15
  lt : r < (cls ls L).length
  get : (cls ls L).getD r 0 = x
  w : lkW ls x = base ls L + (r : Int)
  n : lkN ls x = (L : Int)
  b : lkB ls x = true
theorem cnt_cls (ls : List Int) (m : Nat) : cnt ls (m + 1) = ((cls ls (m + 1)).length : Int) := by unfold cnt; rw [if_neg (by omega)]
theorem off_le (ls : List Int) {m k : Nat} (hm : m < 15) (hk : k < (cls ls (m + 1)).length) : off ls (m + 1) + k < (ord ls).length := by
  have h1 := off_succ ls (n := m + 1) (by omega)
  have h2 := off_mono ls (show m + 1 + 1 ≤ 16 by omega)
  rw [ord_len]
  omega
theorem full_le {ls : List Int} {all : Int} (hw : wholeB (cntL ls) all = true) {n : Nat} (hn : n ≤ 15) : base ls n + cnt ls n ≤ 32768 := by
  have h3 := whole_left hw hn
  rw [left_base n hn] at h3
  have := pow_15 hn
  omega
end Go.HuffP
namespace Go.Sl
theorem shl_word {ls : List Int} {k s : Nat} (hs : HuffP.At ls k s) {x : Int} (hx : x = (HuffP.lenOf ls s : Int)) : IntKind.i64.wrap (HuffP.nxt ls k * 2 ^ (min (x - HuffP.pln ls k).toNat IntKind.i64.bits)) = HuffP.wordOf ls s := by
  have h1 := hs.top
  have h2 := hs.nn
  have h3 := hs.ge
  have h4 := hs.w0
  have h5 := hs.w1
  have h6 := HuffP.pow_15 hs.top
  have e : min (x - HuffP.pln ls k).toNat IntKind.i64.bits = HuffP.lenOf ls s - (HuffP.pln ls k).toNat := by
    have : IntKind.i64.bits = 64 := rfl
    omega
  rw [e, hs.word]
  exact wrapI (by omega) (by omega)
theorem shl_base {ls : List Int} {all : Int} (hw : HuffP.wholeB (HuffP.cntL ls) all = true) {m : Nat} (hm : m ≤ 15) : IntKind.i64.wrap ((HuffP.base ls m + HuffP.cnt ls m) * 2 ^ (min (1 : Int).toNat IntKind.i64.bits)) = HuffP.base ls (m + 1) := by
  have h1 := HuffP.full_le hw hm
  have h2 := HuffP.base_nn ls m
  have h3 := HuffP.cnt_nonneg ls m
  rw [show min (1 : Int).toNat IntKind.i64.bits = 1 from rfl]
  simp only [HuffP.base]
  rw [Int.mul_comm 2, Int.pow_one]
  exact wrapI (by omega) (by omega)
end Go.Sl

/-
  No word is the beginning of another one; the words fill the tree.
-/
namespace Go.HuffP
set_option linter.unusedVariables false
set_option linter.unusedSimpArgs false
/-- What is known of two words. -/
structure Pf (ls : List Int) (i k : Int) : Prop where
  n1 : 1 ≤ lkN ls i
  n2 : lkN ls i ≤ 15
  m1 : 1 ≤ lkN ls k
  m2 : lkN ls k ≤ 15
  a0 : 0 ≤ lkW ls i
  a1 : lkW ls i < 32768
  b0 : 0 ≤ lkW ls k
  b1 : lkW ls k < 32768
  ge : lkN ls k ≤ lkN ls i → lkW ls k < (lkW ls i).fdiv (2 ^ (lkN ls i - lkN ls k).toNat)
  lt : lkN ls i < lkN ls k → lkW ls i < (lkW ls k).fdiv (2 ^ (lkN ls k - lkN ls i).toNat)
/-! ### The tree -/
def fullK (ls : List Int) : Nat → Int
  | 0 => 0
  | k + 1 => fullK ls k + (if 0 < ls.getD k 0 then 2 ^ (15 - lenOf ls k) else 0)
theorem full_yes {ls : List Int} {k : Nat} (h : 0 < ls.getD k 0) : fullK ls k + 2 ^ (15 - lenOf ls k) = fullK ls (k + 1) := by simp only [fullK]; rw [if_pos h]
theorem full_no {ls : List Int} {k : Nat} (h : ¬ 0 < ls.getD k 0) : fullK ls k = fullK ls (k + 1) := by simp only [fullK]; rw [if_neg h]; omega
theorem left_one {C D : List Int} {L : Nat} (h1 : 1 ≤ L) : ∀ n : Nat, (∀ j, 1 ≤ j → j ≤ n → D.getD j 0 = C.getD j 0 + (if j = L then 1 else 0)) → left D n = left C n - (if L ≤ n then 2 ^ (n - L) else 0)
  | 0, _ => by simp [left]; omega
  | n + 1, h => by
    have ih := left_one (C := C) (D := D) h1 n (fun j j1 j2 => h j j1 (by omega))
    have hh := h (n + 1) (by omega) (Nat.le_refl _)
    simp only [left]
    rw [ih, hh]
    by_cases e : n + 1 = L
    · subst e
      rw [if_neg (by omega), if_pos rfl, if_pos (Nat.le_refl _), Nat.sub_self, Int.pow_zero]
      omega
    · rw [if_neg e]
      by_cases e2 : L ≤ n
      · rw [if_pos e2, if_pos (by omega), show n + 1 - L = (n - L) + 1 by omega, Int.pow_succ]
        omega
      · rw [if_neg e2, if_neg (by omega)]
        omega
theorem full_left {ls : List Int} (hv : ∀ x ∈ ls, 0 ≤ x ∧ x ≤ 15) : ∀ k : Nat, k ≤ ls.length → left (cntL (ls.take k)) 15 = 32768 - fullK ls k
  | 0, _ => by rw [List.take_zero, cntL_nil]; rfl
  | k + 1, h => by
    have ih := full_left hv k (by omega)
    have hk : k < ls.length := by omega
    have hg : ls.getD k 0 = ls[k] := by simp [List.getD_eq_getElem?_getD, hk]
    have hb := hv ls[k] (List.getElem_mem hk)
    by_cases e : 0 < ls[k]
    · rw [← full_yes (by omega)]
      have hl : lenOf ls k = ls[k].toNat := by unfold lenOf; rw [hg]
      rw [hl]
      have := left_one (C := cntL (ls.take k)) (D := cntL (ls.take (k + 1))) (L := ls[k].toNat) (by omega) 15 (by
        intro j j1 j2
        rw [cntL_get (by omega), cntL_get (by omega), cnt_snoc hk]
        by_cases ej : j = ls[k].toNat
        · rw [if_pos ej, if_pos (by omega)]
        · rw [if_neg ej, if_neg (by omega)])
      rw [this, if_pos (by omega), ih]
      omega
    · rw [← full_no (by omega), cntL_same hk (by omega), ih]
theorem full_end {ls : List Int} (hE : newE ls = 0) : fullK ls ls.length = 32768 ∨ (posn ls).length = 0 ∨ ((posn ls).length = 1 ∧ fullK ls ls.length = 16384) := by
  obtain ⟨hV, hW⟩ := newE_vl hE
  have hf := full_left hV.2 ls.length (Nat.le_refl _)
  rw [List.take_length] at hf
  have hlb := left_base (ls := ls) 15 (by omega)
  rw [whole_yes (fun n _ h2 => whole_left hW h2)] at hW
  simp only [Bool.or_eq_true, Bool.and_eq_true, decide_eq_true_eq] at hW
  rcases hW with (h | h) | ⟨h1, h2⟩
  · left; omega
  · right; left; omega
  · right; right
    refine ⟨by omega, ?_⟩
    rw [cntL_get (by omega)] at h2
    have hl := posn_len hV
    rw [ord_len] at hl
    have hz : ∀ k, 1 < k → k < 16 → cnt ls k = 0 := by
      intro k k1 k2
      have h5 := off_mono ls (show 2 ≤ k by omega)
      have h6 := off_mono ls (show k + 1 ≤ 16 by omega)
      have h7 := off_cnt ls k
      have h8 := cnt_nonneg ls k
      have h9 : (off ls 2 : Int) = off ls 1 + cnt ls 1 := off_cnt ls 1
      have h10 : off ls 1 = 0 := rfl
      omega
    have hbf := base_far (ls := ls) (m := 1) (n := 15) (by omega) (fun k a b => hz k a (by omega)) (by omega)
    rw [h2, show base ls 1 = 0 from by simp [base, cnt]] at hbf
    have := hz 15 (by omega) (by omega)
    rw [hbf, this] at hlb
    simp at hlb
    omega
end Go.HuffP

/-
  The lengths that package merge gives, laid at their symbols: a whole code, the rarer the longer.
-/
namespace Go.PkM
open Go.HuffP
set_option linter.unusedVariables false
set_option linter.unusedSimpArgs false
/-- Values laid at symbols. -/
def putK (s : Nat → Int) (v : Nat → Int) (base : List Int) : Nat → List Int
  | 0 => base
  | k + 1 => (putK s v base k).set (s k).toNat (v k)
theorem putK_len (s v : Nat → Int) (base : List Int) : ∀ k, (putK s v base k).length = base.length
  | 0 => rfl
  | k + 1 => by rw [putK, List.length_set, putK_len s v base k]
theorem putK_out {s v : Nat → Int} {base : List Int} {x : Nat} : ∀ k, (∀ i, i < k → (s i).toNat ≠ x) → (putK s v base k).getD x 0 = base.getD x 0
  | 0, _ => rfl
  | k + 1, h => by
    rw [putK, List.getD_eq_getElem?_getD, List.getElem?_set_ne (h k (by omega)), ← List.getD_eq_getElem?_getD, putK_out k (fun i hi => h i (by omega))]
theorem putK_at {s v : Nat → Int} {base : List Int} : ∀ k i, i < k → (∀ i j, i < k → j < k → (s i).toNat = (s j).toNat → i = j) → (∀ i, i < k → (s i).toNat < base.length) → (putK s v base k).getD (s i).toNat 0 = v i
  | 0, i, h, _, _ => by omega
  | k + 1, i, h, hinj, hlt => by
    rw [putK, List.getD_eq_getElem?_getD]
    by_cases e : i = k
    · subst e
      rw [List.getElem?_set_self (by rw [putK_len]; exact hlt i (by omega))]
      rfl
    · rw [List.getElem?_set_ne (fun hh => e (hinj k i (by omega) h hh).symm), ← List.getD_eq_getElem?_getD]
      exact putK_at k i (by omega) (fun a b ha hb => hinj a b (by omega) (by omega)) (fun a ha => hlt a (by omega))
theorem putK_base {s v : Nat → Int} {b1 b2 : List Int} {n : Nat} (hl : b1.length = b2.length) (hinj : ∀ i j, i < n → j < n → (s i).toNat = (s j).toNat → i = j) (hlt : ∀ i, i < n → (s i).toNat < b1.length) (h : ∀ x, (∀ i, i < n → (s i).toNat ≠ x) → b1.getD x 0 = b2.getD x 0) : putK s v b1 n = putK s v b2 n := by
  refine List.ext_getElem (by rw [putK_len, putK_len, hl]) (fun x h1 h2 => ?_)
  have e : ∀ (l : List Int) (hx : x < l.length), l[x] = l.getD x 0 := fun l hx => by simp [hx]
  rw [e _ h1, e _ h2]
  by_cases hx : ∃ i, i < n ∧ (s i).toNat = x
  · obtain ⟨i, hi, rfl⟩ := hx
    rw [putK_at n i hi hinj hlt, putK_at n i hi hinj (fun i hi => by rw [← hl]; exact hlt i hi)]
  · have hx2 : ∀ i, i < n → (s i).toNat ≠ x := fun i hi he => hx ⟨i, hi, he⟩
    rw [putK_out n hx2, putK_out n hx2, h x hx2]
theorem full_set {l : List Int} {s : Nat} {v : Int} (hs : s < l.length) (h0 : l.getD s 0 = 0) (hv : 0 < v) : ∀ k, fullK (l.set s v) k = fullK l k + (if s < k then 2 ^ (15 - v.toNat) else 0)
  | 0 => by simp [fullK]
  | k + 1 => by
    simp only [fullK]
    rw [full_set hs h0 hv k]
    unfold lenOf
    by_cases e : s = k
    · subst e
      have e1 : (l.set s v).getD s 0 = v := by rw [List.getD_eq_getElem?_getD, List.getElem?_set_self hs]; rfl
      rw [e1, h0, if_pos hv, if_neg (by omega), if_neg (by omega), if_pos (by omega)]
    · have e1 : (l.set s v).getD k 0 = l.getD k 0 := by rw [List.getD_eq_getElem?_getD, List.getElem?_set_ne e, ← List.getD_eq_getElem?_getD]
      rw [e1]
      by_cases hk : s < k
      · rw [if_pos hk, if_pos (show s < k + 1 by omega)]; exact Int.add_right_comm _ _ _
      · rw [if_neg hk, if_neg (show ¬ s < k + 1 by omega), Int.add_zero, Int.add_zero]
theorem rep_zero (L x : Nat) : (List.replicate L (0 : Int)).getD x 0 = 0 := by
  rw [List.getD_eq_getElem?_getD, List.getElem?_replicate]; split <;> rfl
theorem full_putK {s v : Nat → Int} {L : Nat} : ∀ k, (∀ i j, i < k → j < k → (s i).toNat = (s j).toNat → i = j) → (∀ i, i < k → (s i).toNat < L) → (∀ i, i < k → 0 < v i) → fullK (putK s v (List.replicate L 0) k) L = (sm2 (fun i => 2 ^ (15 - (v i).toNat)) k : Int)
  | 0, _, _, _ => by
    have : ∀ k, fullK (List.replicate L 0) k = 0 := by
      intro k
      induction k with
      | zero => rfl
      | succ k ih => simp only [fullK]; rw [ih, rep_zero, if_neg (by omega)]; rfl
    rw [putK, this]; rfl
  | k + 1, hinj, hlt, hv => by
    have ih := full_putK k (fun a b ha hb => hinj a b (by omega) (by omega)) (fun a ha => hlt a (by omega)) (fun a ha => hv a (by omega))
    rw [putK, full_set (by rw [putK_len, List.length_replicate]; exact hlt k (by omega)) (by rw [putK_out k (fun i hi he => by have := hinj i k (by omega) (by omega) he; omega), rep_zero]) (hv k (by omega)), ih, if_pos (hlt k (by omega))]
    simp only [sm2]
    simp
/-! ### Sums of rows -/
theorem sm2_sum (f : Nat → Nat) : ∀ n, sm2 f n = ((List.range n).map f).sum
  | 0 => rfl
  | n + 1 => by rw [sm2, sm2_sum f n, List.range_succ, List.map_append, List.sum_append]; simp
theorem sm2_row (g : Int → Nat) (l : List Int) : sm2 (fun i => g (l.getD i 0)) l.length = (l.map g).sum := by
  rw [sm2_sum]
  congr 1
  refine List.ext_getElem (by simp) (fun i h1 h2 => ?_)
  have hi : i < l.length := by simpa using h2
  simp [hi]
theorem sum_perm {l1 l2 : List Int} (g : Int → Nat) (h : l1.Perm l2) : (l1.map g).sum = (l2.map g).sum := (h.map g).sum_nat
/-- How often each leaf is taken. -/
def cs (A : List Pk) (most : Nat) : List Int := (List.range A.length).map (fun i => (ct A most (2 * A.length - 2) i : Int))
theorem cs_len (A : List Pk) (most : Nat) : (cs A most).length = A.length := by simp [cs]
theorem cs_get {A : List Pk} {most i : Nat} (h : i < A.length) : (cs A most).getD i 0 = (ct A most (2 * A.length - 2) i : Int) := by simp [cs, h]
/-- The lengths, the lightest leaf's first. -/
structure Ln (A : List Pk) (most : Nat) (vs : List Int) : Prop where
  perm : vs.Perm (cs A most)
  down : vs.Pairwise (fun x y => y ≤ x)
/-- The lengths at their symbols. -/
def out (A : List Pk) (vs : List Int) (L : Nat) : List Int := putK (sm A) (fun i => vs.getD i 0) (List.replicate L 0) A.length
structure Good (A : List Pk) (most L : Nat) (o : List Int) : Prop where
  len : o.length = L
  leaf : ∀ i, i < A.length → 1 ≤ o.getD (sm A i).toNat 0 ∧ o.getD (sm A i).toNat 0 ≤ most
  rest : ∀ x, (∀ i, i < A.length → (sm A i).toNat ≠ x) → o.getD x 0 = 0
  down : ∀ i j, i ≤ j → j < A.length → o.getD (sm A j).toNat 0 ≤ o.getD (sm A i).toNat 0
  code : newE o = 0
theorem newE_full {ls : List Int} (hl : ls.length ≤ 320) (hv : ∀ x ∈ ls, 0 ≤ x ∧ x ≤ 15) (hf : fullK ls ls.length = 32768) : newE ls = 0 := by
  have h0 := full_left hv ls.length (Nat.le_refl _)
  rw [List.take_length] at h0
  have h15 : left (cntL ls) 15 = 0 := by omega
  have hC := cntL_bound hl
  have hnn : ∀ n, n ≤ 15 → 0 ≤ left (cntL ls) (15 - n) := by
    intro n
    induction n with
    | zero => intro _; rw [Nat.sub_zero]; omega
    | succ n ih =>
      intro hn
      have h1 := ih (by omega)
      rw [show 15 - n = (15 - (n + 1)) + 1 by omega] at h1
      simp only [left] at h1
      have := (hC (15 - (n + 1) + 1)).1
      omega
  rw [newE_ok (by omega) hv, whole_yes (fun n _ h2 => by have := hnn (15 - n) (by omega); rw [show 15 - (15 - n) = n by omega] at this; exact this), h15]
  rfl
theorem good {A : List Pk} (h : Lf A) {most L : Nat} (hm : 1 ≤ most) (hm2 : most ≤ 15) (hn : A.length ≤ 2 ^ most) (h2 : 2 ≤ A.length) (hL : L ≤ 320) (hs : ∀ i, i < A.length → 0 ≤ sm A i ∧ sm A i < L) {vs : List Int} (hvs : Ln A most vs) : Good A most L (out A vs L) := by
  obtain ⟨hc, hw⟩ := whole h hm hn h2
  have hvl : vs.length = A.length := by rw [hvs.perm.length_eq, cs_len]
  have hvb : ∀ i, i < A.length → 1 ≤ vs.getD i 0 ∧ vs.getD i 0 ≤ most := by
    intro i hi
    have hmem : vs[i]'(by omega) ∈ cs A most := hvs.perm.mem_iff.1 (List.getElem_mem _)
    obtain ⟨k, hk, e⟩ := List.getElem_of_mem hmem
    rw [cs_len] at hk
    have e1 : vs.getD i 0 = vs[i]'(by omega) := by simp [show i < vs.length by omega]
    have e2 := cs_get (A := A) (most := most) hk
    have e3 : (cs A most).getD k 0 = (cs A most)[k]'(by rw [cs_len]; exact hk) := by simp [show k < (cs A most).length by rw [cs_len]; exact hk]
    have := hc k hk
    rw [e1, ← e, ← e3, e2]
    omega
  have hinj : ∀ i j, i < A.length → j < A.length → (sm A i).toNat = (sm A j).toNat → i = j := fun i j hi hj he => h.inj i j hi hj (by have := (hs i hi).1; have := (hs j hj).1; omega)
  have hlt : ∀ i, i < A.length → (sm A i).toNat < (List.replicate L (0 : Int)).length := fun i hi => by rw [List.length_replicate]; have := hs i hi; omega
  have hat : ∀ i, i < A.length → (out A vs L).getD (sm A i).toNat 0 = vs.getD i 0 := fun i hi => putK_at _ i hi hinj hlt
  have hrest : ∀ x, (∀ i, i < A.length → (sm A i).toNat ≠ x) → (out A vs L).getD x 0 = 0 := fun x hx => by
    unfold out
    rw [putK_out _ hx, rep_zero]
  have hlen : (out A vs L).length = L := by unfold out; rw [putK_len, List.length_replicate]
  refine ⟨hlen, fun i hi => by rw [hat i hi]; exact hvb i hi, hrest, fun i j hij hj => ?_, ?_⟩
  · rw [hat i (by omega), hat j hj]
    have e1 : vs.getD i 0 = vs[i]'(by omega) := by simp [show i < vs.length by omega]
    have e2 : vs.getD j 0 = vs[j]'(by omega) := by simp [show j < vs.length by omega]
    rw [e1, e2]
    rcases Nat.lt_or_ge i j with hlt2 | hge
    · exact List.pairwise_iff_getElem.1 hvs.down i j (by omega) (by omega) hlt2
    · obtain rfl : i = j := by omega
      exact Int.le_refl _
  · refine newE_full (by omega) (fun x hx => ?_) ?_
    · obtain ⟨k, hk, rfl⟩ := List.getElem_of_mem hx
      have e1 : (out A vs L)[k] = (out A vs L).getD k 0 := by simp [hk]
      rw [e1]
      by_cases hx2 : ∃ i, i < A.length ∧ (sm A i).toNat = k
      · obtain ⟨i, hi, rfl⟩ := hx2
        rw [hat i hi]
        have := hvb i hi
        omega
      · rw [hrest k (fun i hi he => hx2 ⟨i, hi, he⟩)]
        omega
    · rw [hlen]
      unfold out
      rw [full_putK A.length hinj (fun i hi => by have := hs i hi; omega) (fun i hi => by have := hvb i hi; omega)]
      have e1 : sm2 (fun i => 2 ^ (15 - (vs.getD i 0).toNat)) A.length = sm2 (fun i => 2 ^ (15 - most) * 2 ^ (most - ct A most (2 * A.length - 2) i)) A.length := by
        have q1 := sm2_row (fun x => 2 ^ (15 - x.toNat)) vs
        have q2 := sm2_row (fun x => 2 ^ (15 - x.toNat)) (cs A most)
        rw [hvl] at q1
        rw [cs_len] at q2
        rw [q1, sum_perm _ hvs.perm, ← q2]
        refine sm2_congr _ (fun i hi => ?_)
        rw [cs_get hi, ← Nat.pow_add]
        have := hc i hi
        congr 1
        omega
      have e2 : ∀ (c : Nat) (f : Nat → Nat) n, sm2 (fun i => c * f i) n = c * sm2 f n := by
        intro c f n
        induction n with
        | zero => rfl
        | succ n ih => simp only [sm2]; rw [ih, Nat.mul_add]
      rw [e1, e2, hw, ← Nat.pow_add, show 15 - most + most = 15 by omega]
      rfl
end Go.PkM

/-
  From frequencies to leaves; what is counted; what the lengths are good for.
-/
namespace Go.PkM
open Go.HuffP
set_option linter.unusedVariables false
set_option linter.unusedSimpArgs false
/-- The leaves of the first symbols. -/
def lvs (fr : List Int) (k : Nat) : List Pk := ((List.range k).filter (fun i => decide (0 < fr.getD i 0))).map (fun i : Nat => (fr.getD i 0, [(i : Int)]))
theorem lvs_yes {fr : List Int} {k : Nat} (h : 0 < fr.getD k 0) : lvs fr (k + 1) = lvs fr k ++ [(fr.getD k 0, [(k : Int)])] := by
  unfold lvs
  rw [List.range_succ, List.filter_append, List.map_append, List.filter_cons, if_pos (by simpa using h)]
  rfl
theorem lvs_no {fr : List Int} {k : Nat} (h : ¬ 0 < fr.getD k 0) : lvs fr (k + 1) = lvs fr k := by
  unfold lvs
  rw [List.range_succ, List.filter_append, List.map_append, List.filter_cons, if_neg (by simpa using h)]
  simp
theorem lvs_len (fr : List Int) (k : Nat) : (lvs fr k).length ≤ k := by
  unfold lvs
  rw [List.length_map]
  have := List.length_filter_le (fun i => decide (0 < fr.getD i 0)) (List.range k)
  simpa using this
theorem lvs_mem {fr : List Int} {k : Nat} {x : Pk} : x ∈ lvs fr k ↔ ∃ i : Nat, i < k ∧ 0 < fr.getD i 0 ∧ x = (fr.getD i 0, [(i : Int)]) := by
  unfold lvs
  simp only [List.mem_map, List.mem_filter, List.mem_range, decide_eq_true_eq]
  constructor
  · rintro ⟨i, ⟨h1, h2⟩, rfl⟩; exact ⟨i, h1, h2, rfl⟩
  · rintro ⟨i, h1, h2, rfl⟩; exact ⟨i, ⟨h1, h2⟩, rfl⟩
theorem lvs_nodup (fr : List Int) (k : Nat) : (lvs fr k).Nodup := by
  unfold lvs
  have h : ((List.range k).filter (fun i => decide (0 < fr.getD i 0))).Nodup := List.Pairwise.filter _ List.nodup_range
  refine List.pairwise_map.2 (List.Pairwise.imp ?_ h)
  intro a b hab hh
  have : [(a : Int)] = [(b : Int)] := congrArg Prod.snd hh
  have h3 : (a : Int) = (b : Int) := (List.cons.inj this).1
  exact hab (by omega)
theorem ss_perm {l l' : List Pk} (h : SS l l') : l'.Perm l := by
  refine List.perm_iff_count.2 (fun a => ?_)
  have h1 := h.filt a.1
  have e : ∀ l : List Pk, l.count a = (l.filter (fun x => decide (x.1 = a.1))).count a := fun l => (List.count_filter (by simp)).symm
  rw [e l', e l, h1]
theorem lf_of {fr : List Int} {k : Nat} {A : List Pk} (h : SS (lvs fr k) A) : Lf A ∧ (∀ i, i < A.length → 0 ≤ sm A i ∧ sm A i < k ∧ (A.getD i (0, [])) = (fr.getD (sm A i).toNat 0, [sm A i]) ∧ 0 < fr.getD (sm A i).toNat 0) ∧ A.length = (lvs fr k).length := by
  have hp := ss_perm h
  have hnd : A.Nodup := hp.nodup_iff.2 (lvs_nodup fr k)
  have hget : ∀ i (hi : i < A.length), A.getD i (0, []) = A[i] := fun i hi => by simp [hi]
  have hmem : ∀ i, i < A.length → ∃ j : Nat, j < k ∧ 0 < fr.getD j 0 ∧ A.getD i (0, []) = (fr.getD j 0, [(j : Int)]) := fun i hi => by
    rw [hget i hi]
    exact lvs_mem.1 (hp.mem_iff.1 (List.getElem_mem hi))
  have hall : ∀ i, i < A.length → 0 ≤ sm A i ∧ sm A i < k ∧ (A.getD i (0, [])) = (fr.getD (sm A i).toNat 0, [sm A i]) ∧ 0 < fr.getD (sm A i).toNat 0 := fun i hi => by
    obtain ⟨j, j1, j2, j3⟩ := hmem i hi
    have e : sm A i = (j : Int) := by unfold sm; rw [j3]; rfl
    rw [e]
    exact ⟨by omega, by omega, by rw [j3, Int.toNat_natCast], by rw [Int.toNat_natCast]; exact j2⟩
  refine ⟨⟨h.srt, fun i hi => by rw [(hall i hi).2.2.1], fun i j hi hj he => ?_, fun x hx => ?_⟩, hall, hp.length_eq⟩
  · have h1 := (hall i hi).2.2.1
    have h2 := (hall j hj).2.2.1
    rw [hget i hi] at h1
    rw [hget j hj, ← he] at h2
    exact (List.getElem_inj hnd).1 (h1.trans h2.symm)
  · obtain ⟨j, j1, j2, rfl⟩ := lvs_mem.1 (hp.mem_iff.1 hx)
    exact j2
/-! ### What is counted -/
def cO (L : Nat) (X : List Int) : List Int := (List.range L).map (fun k : Nat => (X.count (k : Int) : Int))
theorem cO_len (L : Nat) (X : List Int) : (cO L X).length = L := by simp [cO]
theorem cO_nil (L : Nat) : cO L [] = List.replicate L 0 := by
  refine List.ext_getElem (by simp [cO]) (fun i h1 h2 => by simp [cO])
theorem cO_get {L : Nat} {X : List Int} {x : Int} (h0 : 0 ≤ x) (h1 : x < L) : (cO L X).getD x.toNat 0 = (X.count x : Int) := by
  have : x.toNat < L := by omega
  simp [cO, this, Int.max_eq_left h0]
theorem cO_step {L : Nat} {X : List Int} {x : Int} (h0 : 0 ≤ x) (h1 : x < L) : (cO L X).set x.toNat ((cO L X).getD x.toNat 0 + 1) = cO L (X ++ [x]) := by
  rw [cO_get h0 h1]
  refine List.ext_getElem (by simp [cO]) (fun i h2 h3 => ?_)
  rw [cO_len] at h3
  rw [List.getElem_set]
  simp only [cO, List.getElem_map, List.getElem_range, List.count_append, List.count_singleton]
  by_cases e : x.toNat = i
  · have e2 : x = (i : Int) := by omega
    rw [if_pos e, e2]
    simp
  · have e2 : ¬ x = (i : Int) := fun hh => e (by omega)
    rw [if_neg e]
    simp [e2]
theorem cO_bound {L : Nat} {X : List Int} (i : Nat) : 0 ≤ (cO L X).getD i 0 ∧ (cO L X).getD i 0 ≤ X.length := by
  rcases Nat.lt_or_ge i L with h | h
  · have := cO_get (L := L) (X := X) (x := (i : Int)) (by omega) (by omega)
    rw [Int.toNat_natCast] at this
    rw [this]
    have := List.count_le_length (a := (i : Int)) (l := X)
    omega
  · have : (cO L X).getD i 0 = 0 := by simp [cO, show ¬ i < L by omega]
    rw [this]
    omega
/-- Every symbol is a leaf's. -/
theorem sy_leaf {A : List Pk} (h : Lf A) : ∀ j, ∀ e ∈ lv A j, ∀ s ∈ e.2, ∃ i, i < A.length ∧ s = sm A i
  | 0, e, he, s, hs => by simp [lv] at he
  | j + 1, e, he, s, hs => by
    have hprd : ∀ (l : List Pk), (∀ e ∈ l, ∀ s ∈ e.2, ∃ i, i < A.length ∧ s = sm A i) → ∀ e ∈ prd l, ∀ s ∈ e.2, ∃ i, i < A.length ∧ s = sm A i := by
      intro l
      induction l using prd.induct with
      | case1 a b l ih =>
        intro hl e he s hs
        simp only [prd, List.mem_cons] at he
        rcases he with rfl | he
        · rcases List.mem_append.1 hs with hs | hs
          · exact hl a (by simp) s hs
          · exact hl b (by simp) s hs
        · exact ih (fun y hy => hl y (by simp [hy])) e he s hs
      | case2 l hl2 =>
        intro hl e he s hs
        rw [prd] at he
        · simp at he
        · exact hl2
    rcases mrg_mem _ A _ rfl he with h1 | h1
    · obtain ⟨k, hk, rfl⟩ := List.getElem_of_mem h1
      have h2 := h.one k hk
      have e1 : A.getD k (0, []) = A[k] := by simp [hk]
      rw [e1] at h2
      rw [h2] at hs
      exact ⟨k, hk, by simpa using hs⟩
    · exact hprd _ (sy_leaf h j) e h1 s hs
/-- The sizes of what is packed. -/
theorem lv_bd {A : List Pk} (hA : ∀ x ∈ A, 0 ≤ x.1 ∧ x.1 ≤ 1048576 ∧ x.2.length = 1) : ∀ j, ∀ x ∈ lv A (j + 1), 0 ≤ x.1 ∧ x.1 ≤ 1048576 * 2 ^ j ∧ x.2.length ≤ 2 ^ j
  | j, x, hx => by
    have hprd : ∀ (M : Int) (N : Nat) (l : List Pk), (∀ e ∈ l, 0 ≤ e.1 ∧ e.1 ≤ M ∧ e.2.length ≤ N) → ∀ e ∈ prd l, 0 ≤ e.1 ∧ e.1 ≤ 2 * M ∧ e.2.length ≤ 2 * N := by
      intro M N l
      induction l using prd.induct with
      | case1 a b l ih =>
        intro hl e he
        simp only [prd, List.mem_cons] at he
        rcases he with rfl | he
        · have h1 := hl a (by simp)
          have h2 := hl b (by simp)
          refine ⟨?_, ?_, ?_⟩
          · show 0 ≤ a.1 + b.1; omega
          · show a.1 + b.1 ≤ _; omega
          · show (a.2 ++ b.2).length ≤ _; rw [List.length_append]; omega
        · exact ih (fun y hy => hl y (by simp [hy])) e he
      | case2 l hl2 =>
        intro hl e he
        rw [prd] at he
        · simp at he
        · exact hl2
    have hp : ∀ j : Nat, (1 : Int) ≤ 2 ^ j ∧ 1 ≤ 2 ^ j := fun j => by
      have h1 : (1 : Nat) ≤ 2 ^ j := Nat.one_le_two_pow
      have h2 : ((2 : Int) ^ j) = ((2 ^ j : Nat) : Int) := by simp
      exact ⟨by rw [h2]; omega, h1⟩
    have hleaf : ∀ j, ∀ x ∈ A, 0 ≤ x.1 ∧ x.1 ≤ 1048576 * 2 ^ j ∧ x.2.length ≤ 2 ^ j := fun j x hx => by
      have h1 := hA x hx
      have h2 := hp j
      refine ⟨h1.1, ?_, by omega⟩
      have h3 : (1048576 : Int) * 1 ≤ 1048576 * 2 ^ j := Int.mul_le_mul_of_nonneg_left h2.1 (by decide)
      omega
    rcases mrg_mem _ A _ rfl hx with h1 | h1
    · exact hleaf j x h1
    · cases j with
      | zero => rw [lv] at h1; simp [prd] at h1
      | succ j =>
        have := hprd (1048576 * 2 ^ j) (2 ^ j) _ (fun e he => lv_bd hA j e he) x h1
        rw [Int.pow_succ, Nat.pow_succ]
        refine ⟨this.1, ?_, by omega⟩
        have e : (1048576 : Int) * (2 ^ j * 2) = 2 * (1048576 * 2 ^ j) := by rw [Int.mul_comm (2 ^ j) 2, ← Int.mul_assoc, Int.mul_comm 1048576 2, Int.mul_assoc]
        omega
theorem lv_max (A : List Pk) : ∀ j, (lv A j).length ≤ 2 * A.length
  | 0 => by simp [lv]
  | j + 1 => by rw [lv_len_succ]; have := lv_max A j; omega
theorem lv_one {A : List Pk} : lv A 1 = A := by rw [lv, lv, prd]; exact mrg_nil A; intro a b l h; cases h
theorem sy_succ {l : List Pk} {k : Nat} (h : k < l.length) : sy l k ++ (l.getD k (0, [])).2 = sy l (k + 1) := by
  unfold sy
  rw [List.take_add_one, List.getElem?_eq_getElem h, List.flatMap_append]
  simp [h]
theorem sy_len {l : List Pk} {N : Nat} (h : ∀ x ∈ l, x.2.length ≤ N) : ∀ k, (sy l k).length ≤ k * N
  | 0 => by simp [sy]
  | k + 1 => by
    have ih := sy_len h k
    rcases Nat.lt_or_ge k l.length with hk | hk
    · rw [← sy_succ hk, List.length_append]
      have e1 : l.getD k (0, []) = l[k] := by simp [hk]
      have := h l[k] (List.getElem_mem hk)
      rw [e1, Nat.add_mul]
      omega
    · have e : sy l (k + 1) = sy l k := by unfold sy; rw [List.take_of_length_le (by omega), List.take_of_length_le hk]
      rw [e, Nat.add_mul]
      omega
theorem cs_take {A : List Pk} {most k : Nat} (h : k < A.length) : (cs A most).take k ++ [(ct A most (2 * A.length - 2) k : Int)] = (cs A most).take (k + 1) := by
  rw [List.take_add_one, List.getElem?_eq_getElem (by rw [cs_len]; exact h)]
  simp [cs]
theorem putK_congr {s v w : Nat → Int} {base : List Int} : ∀ k, (∀ i, i < k → v i = w i) → putK s v base k = putK s w base k
  | 0, _ => rfl
  | k + 1, h => by rw [putK, putK, putK_congr k (fun i hi => h i (by omega)), h k (by omega)]
theorem ln_sort (A : List Pk) (most : Nat) : Ln A most ((cs A most).mergeSort fun x y => decide (x ≤ y)).reverse := by
  refine ⟨(List.reverse_perm _).trans (List.mergeSort_perm _ _), ?_⟩
  rw [List.pairwise_reverse]
  refine List.Pairwise.imp ?_ (List.pairwise_mergeSort (le := fun x y : Int => decide (x ≤ y)) (fun a b c h1 h2 => by simp at *; omega) (fun a b => by simp; omega) _)
  intro a b h
  simpa using h
/-- What the program lays is what is meant. -/
theorem out_eq {A : List Pk} (h : Lf A) {most L : Nat} (hs : ∀ i, i < A.length → 0 ≤ sm A i ∧ sm A i < L) : putK (sm A) (fun i => ((cs A most).mergeSort fun x y => decide (x ≤ y)).getD (A.length - 1 - i) 0) (cO L (sy (lv A most) (2 * A.length - 2))) A.length = out A ((cs A most).mergeSort fun x y => decide (x ≤ y)).reverse L := by
  have hsl : ((cs A most).mergeSort fun x y => decide (x ≤ y)).length = A.length := by rw [List.length_mergeSort, cs_len]
  unfold out
  rw [putK_congr (w := fun i => (((cs A most).mergeSort fun x y => decide (x ≤ y)).reverse).getD i 0) A.length (fun i hi => by
    rw [List.getD_eq_getElem?_getD, List.getD_eq_getElem?_getD, List.getElem?_reverse (by rw [hsl]; exact hi), hsl])]
  refine putK_base (by rw [cO_len, List.length_replicate]) (fun i j hi hj he => h.inj i j hi hj (by have := (hs i hi).1; have := (hs j hj).1; omega)) (fun i hi => by rw [cO_len]; have := hs i hi; omega) (fun x hx => ?_)
  rw [rep_zero]
  rcases Nat.lt_or_ge x L with hxL | hxL
  · have := cO_get (L := L) (X := sy (lv A most) (2 * A.length - 2)) (x := (x : Int)) (by omega) (by omega)
    rw [Int.toNat_natCast] at this
    rw [this]
    have : (sy (lv A most) (2 * A.length - 2)).count (x : Int) = 0 := by
      rw [List.count_eq_zero]
      intro hm
      obtain ⟨e, he, hse⟩ := List.mem_flatMap.1 hm
      obtain ⟨i, hi, hse2⟩ := sy_leaf h most e (List.mem_of_mem_take he) _ hse
      exact hx i hi (by rw [← hse2]; omega)
    rw [this]; rfl
  · simp [cO, show ¬ x < L by omega]
/-! ### What a law wants of them -/
structure GoodL (fr : List Int) (most : Nat) (o : List Int) : Prop where
  len : o.length = fr.length
  code : newE o = 0
  pos : ∀ i, i < fr.length → 0 < fr.getD i 0 → 1 ≤ o.getD i 0 ∧ o.getD i 0 ≤ most
  zero : ∀ i, i < fr.length → ¬ 0 < fr.getD i 0 → o.getD i 0 = 0
  one : (lvs fr fr.length).length = 1 → ∀ i, o.getD i 0 ≤ 1
  down : ∀ i k, i < fr.length → k < fr.length → fr.getD k 0 < fr.getD i 0 → 0 < fr.getD k 0 → o.getD i 0 ≤ o.getD k 0
theorem goodL {fr : List Int} {A : List Pk} (h : SS (lvs fr fr.length) A) {most : Nat} (hm : 1 ≤ most) (hm2 : most ≤ 15) (hL : fr.length ≤ 320) (h2 : 2 ≤ A.length) (hn : A.length ≤ 2 ^ most) : GoodL fr most (out A ((cs A most).mergeSort fun x y => decide (x ≤ y)).reverse fr.length) := by
  obtain ⟨hLf, hall, hlen⟩ := lf_of h
  have hg := good hLf hm hm2 hn h2 hL (fun i hi => ⟨(hall i hi).1, (hall i hi).2.1⟩) (ln_sort A most)
  have hof : ∀ x, x < fr.length → 0 < fr.getD x 0 → ∃ i, i < A.length ∧ sm A i = (x : Int) := fun x hx hp => by
    have hm3 : (fr.getD x 0, [(x : Int)]) ∈ A := (ss_perm h).mem_iff.2 (lvs_mem.2 ⟨x, hx, hp, rfl⟩)
    obtain ⟨i, hi, he⟩ := List.getElem_of_mem hm3
    refine ⟨i, hi, ?_⟩
    have e1 : A.getD i (0, []) = A[i] := by simp [hi]
    unfold sm
    rw [e1, he]; rfl
  refine ⟨hg.len, hg.code, fun x hx hp => ?_, fun x hx hp => ?_, fun h1 => by omega, fun x y hx hy hlt hpos => ?_⟩
  · obtain ⟨i, hi, e⟩ := hof x hx hp
    have := hg.leaf i hi
    rw [e, Int.toNat_natCast] at this
    exact this
  · refine hg.rest x (fun i hi he => hp ?_)
    have := (hall i hi).2.2.2
    rw [he] at this
    exact this
  · obtain ⟨i, hi, ei⟩ := hof x hx (by omega)
    obtain ⟨k, hk, ek⟩ := hof y hy hpos
    have hki : k ≤ i := by
      rcases Nat.lt_or_ge i k with hik | hik
      · exfalso
        have hs := List.pairwise_iff_getElem.1 h.srt i k hi hk hik
        have e1 : A.getD i (0, []) = A[i] := by simp [hi]
        have e2 : A.getD k (0, []) = A[k] := by simp [hk]
        rw [← e1, ← e2, (hall i hi).2.2.1, (hall k hk).2.2.1, ei, ek] at hs
        simp only [Int.toNat_natCast] at hs
        omega
      · exact hik
    have := hg.down k i hki hi
    rw [ei, ek, Int.toNat_natCast, Int.toNat_natCast] at this
    exact this
theorem newE_less {ls : List Int} (hl : ls.length ≤ 320) (hv : ∀ x ∈ ls, 0 ≤ x ∧ x ≤ 15) (hf : fullK ls ls.length ≤ 32768) (hp : (posn ls).length = 0 ∨ ((posn ls).length = 1 ∧ (cntL ls).getD 1 0 = 1)) : newE ls = 0 := by
  have h0 := full_left hv ls.length (Nat.le_refl _)
  rw [List.take_length] at h0
  have hC := cntL_bound hl
  have hnn : ∀ n, n ≤ 15 → 0 ≤ left (cntL ls) (15 - n) := by
    intro n
    induction n with
    | zero => intro _; rw [Nat.sub_zero]; omega
    | succ n ih =>
      intro hn
      have h1 := ih (by omega)
      rw [show 15 - n = (15 - (n + 1)) + 1 by omega] at h1
      simp only [left] at h1
      have := (hC (15 - (n + 1) + 1)).1
      omega
  rw [newE_ok (by omega) hv, whole_yes (fun n _ h2 => by have := hnn (15 - n) (by omega); rw [show 15 - (15 - n) = n by omega] at this; exact this)]
  rcases hp with h | ⟨h3, h4⟩
  · rw [h]; simp
  · rw [h3, h4]; simp
theorem filt_eq {L s : Nat} (h : s < L) {q : Nat → Bool} (hq : ∀ i, i < L → (q i = true ↔ i = s)) : ((List.range L).filter q).length = 1 := by
  have e : (List.range L).filter q = (List.range L).filter (fun i => i == s) := by
    refine List.filter_congr (fun i hi => ?_)
    have := hq i (List.mem_range.1 hi)
    by_cases e : i = s
    · rw [this.2 e]; simp [e]
    · have : q i = false := by
        cases hqi : q i with
        | false => rfl
        | true => exact absurd (this.1 hqi) e
      rw [this]; simp [e]
  have h2 : (List.range L).count s = 1 := by
    rw [List.nodup_range.count, if_pos (List.mem_range.2 h)]
  rw [e, ← List.count_eq_length_filter]
  exact h2
theorem good0 {fr : List Int} {most : Nat} (hL : fr.length ≤ 320) (h0 : (lvs fr fr.length).length = 0) : GoodL fr most (List.replicate fr.length 0) := by
  have hno : ∀ i, i < fr.length → ¬ 0 < fr.getD i 0 := fun i hi hp => by
    have : (fr.getD i 0, [(i : Int)]) ∈ lvs fr fr.length := lvs_mem.2 ⟨i, hi, hp, rfl⟩
    have := List.length_pos_of_mem this
    omega
  have hfk : ∀ k, fullK (List.replicate fr.length 0) k = 0 := by
    intro k
    induction k with
    | zero => rfl
    | succ k ih => simp only [fullK]; rw [ih, rep_zero, if_neg (by omega)]; rfl
  refine ⟨by simp, newE_less (by simpa using hL) (fun x hx => by rw [List.eq_of_mem_replicate hx]; omega) (by rw [hfk]; omega) (.inl ?_), fun i hi hp => absurd hp (hno i hi), fun i _ _ => rep_zero _ _, fun h1 => by omega, fun i k hi hk h1 h2 => absurd h2 (hno k hk)⟩
  unfold posn
  rw [List.length_map, List.length_eq_zero_iff, List.filter_eq_nil_iff]
  intro i _
  rw [rep_zero]; simp
theorem good1 {fr : List Int} {most : Nat} (hm : 1 ≤ most) (hL : fr.length ≤ 320) {s : Nat} {w : Int} (h1 : lvs fr fr.length = [(w, [(s : Int)])]) : s < fr.length ∧ GoodL fr most ((List.replicate fr.length 0).set s 1) := by
  obtain ⟨i, hi, hp, he⟩ := lvs_mem.1 (show (w, [(s : Int)]) ∈ lvs fr fr.length by rw [h1]; simp)
  have hsi : s = i := by have h5 : (s : Int) = (i : Int) := (List.cons.inj (congrArg Prod.snd he)).1; omega
  subst hsi
  have honly : ∀ i, i < fr.length → 0 < fr.getD i 0 → i = s := fun i hi hp => by
    have : (fr.getD i 0, [(i : Int)]) ∈ lvs fr fr.length := lvs_mem.2 ⟨i, hi, hp, rfl⟩
    rw [h1, List.mem_singleton] at this
    have h5 : (i : Int) = (s : Int) := (List.cons.inj (congrArg Prod.snd this)).1
    omega
  have hs : s < (List.replicate fr.length (0 : Int)).length := by simpa using hi
  have hself : ((List.replicate fr.length (0 : Int)).set s 1).getD s 0 = 1 := by rw [List.getD_eq_getElem?_getD, List.getElem?_set_self hs]; rfl
  have hne : ∀ x, x ≠ s → ((List.replicate fr.length (0 : Int)).set s 1).getD x 0 = 0 := fun x hx => by rw [List.getD_eq_getElem?_getD, List.getElem?_set_ne (Ne.symm hx), ← List.getD_eq_getElem?_getD, rep_zero]
  have hlen : ((List.replicate fr.length (0 : Int)).set s 1).length = fr.length := by simp
  have hv : ∀ x ∈ (List.replicate fr.length (0 : Int)).set s 1, 0 ≤ x ∧ x ≤ 15 := fun x hx => by
    rcases List.mem_or_eq_of_mem_set hx with h | h
    · rw [List.eq_of_mem_replicate h]; omega
    · rw [h]; omega
  have hfk : ∀ k, fullK (List.replicate fr.length 0) k = 0 := by
    intro k
    induction k with
    | zero => rfl
    | succ k ih => simp only [fullK]; rw [ih, rep_zero, if_neg (by omega)]; rfl
  have hiff : ∀ i, ((List.replicate fr.length (0 : Int)).set s 1).getD i 0 = (if i = s then 1 else 0) := fun i => by
    split
    · rename_i e; rw [e, hself]
    · rename_i e; exact hne i e
  refine ⟨hi, hlen, newE_less (by omega) hv ?_ (.inr ⟨?_, ?_⟩), fun x hx hp2 => ?_, fun x hx hp2 => hne x (fun e => hp2 (by rw [e]; exact hp)), fun _ x => ?_, fun x y hx hy hlt hpos => ?_⟩
  · rw [hlen, full_set hs (rep_zero _ _) (by omega), hfk]
    split <;> decide
  · unfold posn
    rw [List.length_map, hlen]
    refine filt_eq hi (fun i _ => ?_)
    rw [hiff]
    by_cases e : i = s <;> simp [e]
  · rw [cntL_get (by omega)]
    unfold cnt
    rw [if_neg (by omega)]
    unfold cls
    rw [List.length_map, hlen, filt_eq hi (fun i _ => by rw [hiff]; by_cases e : i = s <;> simp [e])]
    rfl
  · rw [honly x hx hp2, hself]; omega
  · rw [hiff]; split <;> omega
  · have e1 := honly y hy hpos
    have e2 := honly x hx (by omega)
    rw [e1, e2]; omega
end Go.PkM

/-
  Bits of bytes, plainly.
-/
namespace Go.BitP
set_option linter.unusedVariables false
set_option linter.unusedSimpArgs false
/-- Bytes. -/
def Byt (B : List Int) : Prop := ∀ x ∈ B, 0 ≤ x ∧ x < 256
theorem Byt.get {B : List Int} (h : Byt B) (i : Nat) : 0 ≤ B.getD i 0 ∧ B.getD i 0 < 256 := by
  rcases Nat.lt_or_ge i B.length with hi | hi
  · exact h _ (by simp [List.getD_eq_getElem?_getD, hi])
  · simp [List.getD_eq_getElem?_getD, hi]
/-- The bit at a place, from each byte's lowest on. -/
def bitL (B : List Int) (i : Nat) : Int := B.getD (i / 8) 0 / 2 ^ (i % 8) % 2
theorem bitL_01 (B : List Int) (i : Nat) : 0 ≤ bitL B i ∧ bitL B i ≤ 1 := by unfold bitL; omega
/-- A number of bits, its lowest first. -/
def numL (B : List Int) (at_ : Nat) : Nat → Int
  | 0 => 0
  | n + 1 => numL B at_ n + bitL B (at_ + n) * 2 ^ n
theorem numL_bound (B : List Int) (at_ : Nat) : ∀ n : Nat, 0 ≤ numL B at_ n ∧ numL B at_ n < 2 ^ n
  | 0 => by simp [numL]
  | n + 1 => by
    have h := numL_bound B at_ n
    have h2 := bitL_01 B (at_ + n)
    have hp : (0 : Int) < 2 ^ n := Int.pow_pos (by decide)
    simp only [numL]
    rw [Int.pow_succ]
    have h3 : bitL B (at_ + n) = 0 ∨ bitL B (at_ + n) = 1 := by omega
    rcases h3 with e | e <;> rw [e] <;> omega
theorem pow24 {n : Nat} (h : n ≤ 24) : (2 : Int) ^ n ≤ 16777216 := by
  have : (2 : Nat) ^ n ≤ 2 ^ 24 := Nat.pow_le_pow_right (by decide) h
  have e : ((2 : Int) ^ n) = ((2 ^ n : Nat) : Int) := by simp
  rw [e]
  omega
theorem ofInt_nat (k : Nat) (a : Nat) : (BitVec.ofInt k (a : Int)).toNat = a % 2 ^ k := by
  rw [BitVec.toNat_ofInt]
  have : ((a : Int) % ((2 ^ k : Nat) : Int)) = ((a % 2 ^ k : Nat) : Int) := by simp
  omega
theorem or64 {a b : Nat} (ha : a < 2 ^ 62) (hb : b < 2 ^ 62) : IntKind.i64.wrap ((BitVec.ofInt IntKind.i64.bits (a : Int) ||| BitVec.ofInt IntKind.i64.bits (b : Int)).toNat : Int) = ((a ||| b : Nat) : Int) := by
  have e : IntKind.i64.bits = 64 := rfl
  rw [e, BitVec.toNat_or, ofInt_nat, ofInt_nat, Nat.mod_eq_of_lt (by omega), Nat.mod_eq_of_lt (by omega)]
  have := Nat.or_lt_two_pow ha hb
  exact Sl.wrapI (by omega) (by omega)
/-- A bit is laid above. -/
theorem or_up {x b : Int} {n : Nat} (h0 : 0 ≤ x) (h1 : x < 2 ^ n) (hb : 0 ≤ b ∧ b ≤ 1) (hn : n ≤ 24) : IntKind.i64.wrap ((BitVec.ofInt IntKind.i64.bits x ||| BitVec.ofInt IntKind.i64.bits (b * 2 ^ n)).toNat : Int) = x + b * 2 ^ n := by
  obtain ⟨a, rfl⟩ : ∃ a : Nat, x = (a : Int) := ⟨x.toNat, by omega⟩
  obtain ⟨c, rfl⟩ : ∃ c : Nat, b = (c : Int) := ⟨b.toNat, by omega⟩
  have hp := pow24 hn
  have e1 : (c : Int) * 2 ^ n = ((2 ^ n * c : Nat) : Int) := by rw [Nat.mul_comm]; simp
  have ha : a < 2 ^ n := by
    have : ((a : Nat) : Int) < ((2 ^ n : Nat) : Int) := by simpa using h1
    omega
  have hpn : 2 ^ n ≤ 16777216 := by
    have : ((2 ^ n : Nat) : Int) ≤ 16777216 := by simpa using hp
    omega
  have hc : 2 ^ n * c ≤ 16777216 := by
    have : c = 0 ∨ c = 1 := by omega
    rcases this with rfl | rfl <;> omega
  rw [e1, or64 (by omega) (by omega), Nat.or_comm, ← Nat.two_pow_add_eq_or_of_lt ha]
  omega
/-- A bit is laid below. -/
theorem or_low {x b : Int} (h0 : 0 ≤ x) (h1 : x < 2 ^ 40) (hb : 0 ≤ b ∧ b ≤ 1) : IntKind.i64.wrap ((BitVec.ofInt IntKind.i64.bits (2 * x) ||| BitVec.ofInt IntKind.i64.bits b).toNat : Int) = 2 * x + b := by
  obtain ⟨a, rfl⟩ : ∃ a : Nat, x = (a : Int) := ⟨x.toNat, by omega⟩
  obtain ⟨c, rfl⟩ : ∃ c : Nat, b = (c : Int) := ⟨b.toNat, by omega⟩
  have e1 : 2 * (a : Int) = ((2 ^ 1 * a : Nat) : Int) := by omega
  rw [e1, or64 (by omega) (by omega), ← Nat.two_pow_add_eq_or_of_lt (by omega)]
  omega
theorem and_one8 {x : Int} (h0 : 0 ≤ x) (h1 : x < 256) : IntKind.u8.wrap ((BitVec.ofInt IntKind.u8.bits x &&& BitVec.ofInt IntKind.u8.bits 1).toNat : Int) = x % 2 := by
  obtain ⟨a, rfl⟩ : ∃ a : Nat, x = (a : Int) := ⟨x.toNat, by omega⟩
  have e : IntKind.u8.bits = 8 := rfl
  have e1 : BitVec.ofInt 8 1 = BitVec.ofInt 8 ((1 : Nat) : Int) := rfl
  rw [e, e1, BitVec.toNat_and, ofInt_nat, ofInt_nat, Nat.mod_eq_of_lt (by omega)]
  have : a &&& (1 % 2 ^ 8) = a % 2 := Nat.and_one_is_mod a
  rw [this]
  have e2 : IntKind.u8.wrap (((a % 2 : Nat)) : Int) = ((a % 2 : Nat) : Int) % 256 := by simp [IntKind.wrap, IntKind.bits, IntKind.signed]
  rw [e2]
  omega
theorem shr8 {x : Int} {k : Nat} (h0 : 0 ≤ x) (hk : k < 8) {d : Int} (hd : d = (k : Int)) : x.fdiv (2 ^ (min d.toNat IntKind.u8.bits)) = x / 2 ^ k := by
  have e : min d.toNat IntKind.u8.bits = k := by
    have : IntKind.u8.bits = 8 := rfl
    omega
  rw [e, Int.fdiv_eq_ediv_of_nonneg _ (Int.le_of_lt (Int.pow_pos (by decide)))]
theorem shl24 {b : Int} {n : Nat} (hb : 0 ≤ b ∧ b ≤ 1) (hn : n ≤ 24) {d : Int} (hd : d = (n : Int)) : IntKind.i64.wrap (b * 2 ^ (min d.toNat IntKind.i64.bits)) = b * 2 ^ n := by
  have e : min d.toNat IntKind.i64.bits = n := by
    have : IntKind.i64.bits = 64 := rfl
    omega
  rw [e]
  have hp := pow24 hn
  have h0 : (0 : Int) < 2 ^ n := Int.pow_pos (by decide)
  have h3 : b = 0 ∨ b = 1 := by omega
  rcases h3 with e | e <;> rw [e] <;> exact Sl.wrapI (by omega) (by omega)
theorem shl1 {x : Int} (h0 : 0 ≤ x) (h1 : x < 2 ^ 40) : IntKind.i64.wrap (x * 2 ^ (min (1 : Int).toNat IntKind.i64.bits)) = 2 * x := by
  rw [show min (1 : Int).toNat IntKind.i64.bits = 1 from rfl, Int.pow_one]
  rw [Sl.wrapI (by omega) (by omega)]
  omega
theorem div_byte {x : Int} (h0 : 0 ≤ x) (h1 : x < 256) (k : Nat) : 0 ≤ x / 2 ^ k ∧ x / 2 ^ k < 256 := by
  have hp : (0 : Int) < 2 ^ k := Int.pow_pos (by decide)
  have h2 := Int.ediv_nonneg h0 (Int.le_of_lt hp)
  have h3 := Int.ediv_le_self (2 ^ k) h0
  omega
end Go.BitP
namespace Go.Sl
end Go.Sl

/-
  A symbol is taken, bit by bit.
-/
namespace Go.BitP
/-- A number of bits, its highest first. -/
def acc (B : List Int) (at_ : Nat) : Nat → Int
  | 0 => 0
  | n + 1 => 2 * acc B at_ n + bitL B (at_ + n)
theorem acc_bound (B : List Int) (at_ : Nat) : ∀ n : Nat, 0 ≤ acc B at_ n ∧ acc B at_ n < 2 ^ n
  | 0 => by simp [acc]
  | n + 1 => by
    have h := acc_bound B at_ n
    have h2 := bitL_01 B (at_ + n)
    simp only [acc]
    rw [Int.pow_succ]
    omega
theorem numL_one (B : List Int) (a : Nat) : numL B a 1 = bitL B a := by simp [numL]
end Go.BitP
namespace Go.HuffP
open Go.BitP
set_option linter.unusedVariables false
set_option linter.unusedSimpArgs false
/-- What comes of taking a symbol: how many bits were taken, and which symbol; or that bits end, or that there is no word. -/
inductive TR where
  | hit (n : Nat) (s : Int)
  | short (n : Nat)
  | none_ (n : Nat)
def tkGo (ls B : List Int) (at_ : Nat) : Nat → Nat → TR
  | 0, n => .none_ n
  | r + 1, n => if at_ + n < 8 * B.length then (if acc B at_ (n + 1) - base ls (n + 1) < cnt ls (n + 1) then .hit (n + 1) ((ord ls).getD (off ls (n + 1) + (acc B at_ (n + 1) - base ls (n + 1)).toNat) 0) else tkGo ls B at_ r (n + 1)) else .short n
def mst (ls : List Int) : Nat := (mostL ls).toNat
def tk (ls B : List Int) (at_ : Nat) : TR := tkGo ls B at_ (mst ls) 0
/-- How far it has come: n levels are behind. -/
structure Tk (ls B : List Int) (at_ n : Nat) : Prop where
  le : n ≤ mst ls
  eq : tk ls B at_ = tkGo ls B at_ (mst ls - n) n
  ge : base ls n + cnt ls n ≤ acc B at_ n
  room : at_ + n ≤ 8 * B.length
theorem tk_start {ls B : List Int} {at_ : Nat} (h : at_ ≤ 8 * B.length) : Tk ls B at_ 0 := ⟨Nat.zero_le _, rfl, by simp [base, cnt, acc], h⟩
section
variable {ls B : List Int} {at_ n : Nat}
theorem Tk.none (h : Tk ls B at_ n) (hm : mst ls ≤ n) : tk ls B at_ = .none_ n := by
  rw [h.eq, show mst ls - n = 0 by omega]; rfl
theorem Tk.short (h : Tk ls B at_ n) (hm : n < mst ls) (hx : 8 * B.length ≤ at_ + n) : tk ls B at_ = .short n := by
  rw [h.eq, show mst ls - n = (mst ls - (n + 1)) + 1 by omega]
  simp only [tkGo]
  rw [if_neg (by omega)]
theorem Tk.hit (h : Tk ls B at_ n) (hm : n < mst ls) (hx : at_ + n < 8 * B.length) (hl : acc B at_ (n + 1) - base ls (n + 1) < cnt ls (n + 1)) : tk ls B at_ = .hit (n + 1) ((ord ls).getD (off ls (n + 1) + (acc B at_ (n + 1) - base ls (n + 1)).toNat) 0) := by
  rw [h.eq, show mst ls - n = (mst ls - (n + 1)) + 1 by omega]
  simp only [tkGo]
  rw [if_pos hx, if_pos hl]
theorem Tk.miss (h : Tk ls B at_ n) (hm : n < mst ls) (hx : at_ + n < 8 * B.length) (hl : ¬ acc B at_ (n + 1) - base ls (n + 1) < cnt ls (n + 1)) : Tk ls B at_ (n + 1) := by
  refine ⟨hm, ?_, by omega, by omega⟩
  rw [h.eq, show mst ls - n = (mst ls - (n + 1)) + 1 by omega]
  simp only [tkGo]
  rw [if_pos hx, if_neg hl]
theorem Tk.nn (h : Tk ls B at_ n) : base ls (n + 1) ≤ acc B at_ (n + 1) := by
  have h1 := h.ge
  have h2 := bitL_01 B (at_ + n)
  simp only [base, acc]
  omega
end
/-! ### The longest word -/
theorem most_in (ls : List Int) : mostL ls = 0 ∨ mostL ls ∈ ls := by
  have key : ∀ (l : List Int) (a : Int), l.foldl (fun a x => if a < x then x else a) a = a ∨ l.foldl (fun a x => if a < x then x else a) a ∈ l := by
    intro l
    induction l with
    | nil => intro a; exact .inl rfl
    | cons y l ih =>
      intro a
      simp only [List.foldl_cons]
      rcases ih (if a < y then y else a) with h | h
      · rw [h]
        split
        · exact .inr (List.mem_cons_self ..)
        · exact .inl rfl
      · exact .inr (List.mem_cons_of_mem _ h)
  exact key ls 0
theorem mst_le {ls : List Int} (hV : Vl ls) : mst ls ≤ 15 := by
  unfold mst
  rcases most_in ls with h | h
  · omega
  · have := hV.2 _ h; omega
theorem mst_eq (ls : List Int) : mostL ls = (mst ls : Int) := by
  have := most_nn ls
  unfold mst; omega
theorem off_16 {ls : List Int} (hV : Vl ls) {m : Nat} (hm : m ≤ 15) : off ls (m + 1) ≤ 320 := by
  have h1 := off_mono ls (show m + 1 ≤ 16 by omega)
  have h2 := posn_len hV
  have h3 := posn_le ls
  have h4 := hV.1
  rw [ord_len] at h2
  omega
theorem cntL_i {ls : List Int} {m : Nat} (hm : m < 15) : (cntL ls).getD ((m : Int) + 1).toNat 0 = cnt ls (m + 1) := by
  rw [show ((m : Int) + 1).toNat = m + 1 by omega, cntL_get (by omega)]
/-- The place of a symbol that is hit. -/
theorem hit_at {ls : List Int} {m : Nat} {a : Int} (hm : m < 15) (h0 : base ls (m + 1) ≤ a) (hl : a - base ls (m + 1) < cnt ls (m + 1)) : off ls (m + 1) + (a - base ls (m + 1)).toNat < (ord ls).length := by
  have := cnt_cls ls m
  exact off_le ls hm (by omega)
end Go.HuffP

/-
  Bits that are written; words that are written are taken as they were.
-/
namespace Go.BitP
set_option linter.unusedVariables false
set_option linter.unusedSimpArgs false
/-- Bits that were written, in bytes; so many bits of the last byte are free. -/
structure Pk (bs out : List Int) (fr : Nat) : Prop where
  le : fr ≤ 8
  len : 8 * out.length = bs.length + fr
  byt : Byt out
  get : ∀ i, i < bs.length → bitL out i = bs.getD i 0
  zero : ∀ i, bs.length ≤ i → bitL out i = 0
/-- The byte behind a bit that is put. -/
def orB (x b : Int) (p : Nat) : Int := ((x.toNat ||| b.toNat * 2 ^ p : Nat) : Int)
end Go.BitP
namespace Go.HuffP
open Go.BitP
set_option linter.unusedVariables false
set_option linter.unusedSimpArgs false
/-- A word's bits, the highest first. -/
def wb (ls : List Int) (s : Int) : List Int := (List.range (lkN ls s).toNat).map (fun i => lkW ls s / 2 ^ ((lkN ls s).toNat - 1 - i) % 2)
/-- The symbols that are put. -/
def ins (ls syms : List Int) : List Int := (syms.map (· % 330)).filter (fun s => decide (s < ls.length) && lkB ls s)
/-- All bits that are put. -/
def bits (ls : List Int) (l : List Int) : List Int := l.flatMap (wb ls)
end Go.HuffP
namespace Go.BitP
/-- The lowest bits of a number, the lowest first. -/
def lowB (x : Int) (n : Nat) : List Int := (List.range n).map (fun i => x / 2 ^ i % 2)
end Go.BitP

/-
  A stable sort in place: what each step leaves. 'Rl': a row became another one within a range: nothing outside it has turned, what stands inside stood inside, and those of one key stand as they stood.
-/
namespace Go.StS
set_option linter.unusedVariables false
set_option linter.unusedSimpArgs false
variable {α : Type}

structure Rl (key : α → Int) (d : α) (l l' : List α) (a b : Nat) : Prop where
  len : l'.length = l.length
  out : ∀ i, i < a ∨ b ≤ i → l'.getD i d = l.getD i d
  mem : ∀ i, a ≤ i → i < b → ∃ j, a ≤ j ∧ j < b ∧ l'.getD i d = l.getD j d
  same : ∀ c, l'.filter (fun x => decide (key x = c)) = l.filter (fun x => decide (key x = c))
def Sd (key : α → Int) (d : α) (l : List α) (a b : Nat) : Prop := ∀ i j, a ≤ i → i ≤ j → j < b → key (l.getD i d) ≤ key (l.getD j d)

variable {key : α → Int} {d : α}
theorem Rl.refl (l : List α) (a b : Nat) : Rl key d l l a b := ⟨rfl, fun _ _ => rfl, fun i h1 h2 => ⟨i, h1, h2, rfl⟩, fun _ => rfl⟩
theorem Rl.trans {l1 l2 l3 : List α} {a b : Nat} (h : Rl key d l1 l2 a b) (k : Rl key d l2 l3 a b) : Rl key d l1 l3 a b :=
  ⟨k.len.trans h.len, fun i hi => (k.out i hi).trans (h.out i hi), fun i h1 h2 => by
    obtain ⟨j, j1, j2, j3⟩ := k.mem i h1 h2
    obtain ⟨m, m1, m2, m3⟩ := h.mem j j1 j2
    exact ⟨m, m1, m2, j3.trans m3⟩, fun c => (k.same c).trans (h.same c)⟩
theorem Rl.wide {l l' : List α} {a b a' b' : Nat} (h : Rl key d l l' a b) (h1 : a' ≤ a) (h2 : b ≤ b') : Rl key d l l' a' b' :=
  ⟨h.len, fun i hi => h.out i (by omega), fun i i1 i2 => by
    by_cases hi : a ≤ i ∧ i < b
    · obtain ⟨j, j1, j2, j3⟩ := h.mem i hi.1 hi.2
      exact ⟨j, by omega, by omega, j3⟩
    · exact ⟨i, i1, i2, h.out i (by omega)⟩, h.same⟩
theorem Sd.congr {l l' : List α} {a b : Nat} (h : Sd key d l a b) (e : ∀ i, a ≤ i → i < b → l'.getD i d = l.getD i d) : Sd key d l' a b := fun i j h1 h2 h3 => by
  rw [e i h1 (by omega), e j (by omega) h3]; exact h i j h1 h2 h3
theorem Sd.small {l : List α} {a b : Nat} (h : b ≤ a + 1) : Sd key d l a b := fun i j h1 h2 h3 => by
  obtain rfl : i = j := by omega
  exact Int.le_refl _
theorem Sd.sub {l : List α} {a b a' b' : Nat} (h : Sd key d l a b) (h1 : a ≤ a') (h2 : b' ≤ b) : Sd key d l a' b' := fun i j h3 h4 h5 => h i j (by omega) h4 (by omega)
/-- Two sorted ranges side by side. -/
theorem Sd.join {l : List α} {a m b : Nat} (h1 : Sd key d l a m) (h2 : Sd key d l m b) (h : ∀ i j, a ≤ i → i < m → m ≤ j → j < b → key (l.getD i d) ≤ key (l.getD j d)) : Sd key d l a b := fun i j i1 i2 i3 => by
  by_cases hj : j < m
  · exact h1 i j i1 i2 hj
  · by_cases hi : i < m
    · exact h i j i1 hi (by omega) i3
    · exact h2 i j (by omega) i2 i3

theorem split2 (l : List α) (i : Nat) (h : i + 1 < l.length) : l = l.take i ++ (l.getD i d :: l.getD (i + 1) d :: l.drop (i + 2)) := by
  conv => lhs; rw [← List.take_append_drop i l]
  congr 1
  rw [List.drop_eq_getElem_cons (by omega), List.drop_eq_getElem_cons h]
  simp [List.getD_eq_getElem?_getD, show i < l.length by omega, h]
theorem swap_list (l : List α) (i : Nat) (h : i + 1 < l.length) : (l.set i (l.getD (i + 1) d)).set (i + 1) (l.getD i d) = l.take i ++ (l.getD (i + 1) d :: l.getD i d :: l.drop (i + 2)) := by
  apply List.ext_getElem?
  intro j
  have hl : (l.take i).length = i := by simp; omega
  by_cases h1 : j < i
  · rw [List.getElem?_append_left (by omega), List.getElem?_set_ne (by omega), List.getElem?_set_ne (by omega)]
    simp [List.getElem?_take, h1]
  · rw [List.getElem?_append_right (by omega), hl]
    by_cases h2 : j = i
    · subst h2
      simp [List.getElem?_set, show j < l.length by omega]
    · by_cases h3 : j = i + 1
      · subst h3
        simp [List.getElem?_set, h]
      · rw [List.getElem?_set_ne (by omega), List.getElem?_set_ne (by omega)]
        obtain ⟨k, rfl⟩ : ∃ k, j = i + 2 + k := ⟨j - (i + 2), by omega⟩
        rw [show i + 2 + k - i = k + 2 by omega]
        simp [List.getElem?_drop]
theorem swap_comm (l : List α) (i : Nat) (x y : α) : (l.set (i + 1) x).set i y = (l.set i y).set (i + 1) x := by
  rw [List.set_comm]; omega
/-- Neighbours of unlike keys change places. -/
theorem Rl.swap {l : List α} {a b i : Nat} (h1 : a ≤ i) (h2 : i + 1 < b) (hl : i + 1 < l.length) (hk : key (l.getD i d) ≠ key (l.getD (i + 1) d)) : Rl key d l ((l.set i (l.getD (i + 1) d)).set (i + 1) (l.getD i d)) a b := by
  refine ⟨by simp, fun j hj => ?_, fun j j1 j2 => ?_, fun c => ?_⟩
  · simp only [List.getD_eq_getElem?_getD]
    rw [List.getElem?_set_ne (by omega), List.getElem?_set_ne (by omega)]
  · by_cases e1 : j = i
    · subst e1
      refine ⟨j + 1, by omega, h2, ?_⟩
      simp only [List.getD_eq_getElem?_getD]
      rw [List.getElem?_set_ne (by omega)]
      simp [List.getElem?_set, show j < l.length by omega]
    · by_cases e2 : j = i + 1
      · subst e2
        refine ⟨i, h1, by omega, ?_⟩
        simp only [List.getD_eq_getElem?_getD]
        simp [List.getElem?_set, hl]
      · refine ⟨j, j1, j2, ?_⟩
        simp only [List.getD_eq_getElem?_getD]
        rw [List.getElem?_set_ne (by omega), List.getElem?_set_ne (by omega)]
  · rw [swap_list l i hl]
    conv => rhs; rw [split2 (d := d) l i hl]
    simp only [List.filter_append, List.filter_cons]
    congr 1
    generalize l.getD i d = x at hk
    generalize l.getD (i + 1) d = y at hk
    by_cases k1 : key x = c
    · have k2 : ¬ key y = c := fun e => hk (k1.trans e.symm)
      simp [k1, k2]
    · simp [k1]

/-! ### Blocks -/
theorem getD_app1 {x y : List α} {i : Nat} (h : i < x.length) : (x ++ y).getD i d = x.getD i d := by
  simp only [List.getD_eq_getElem?_getD, List.getElem?_append_left h]
theorem getD_app2 {x y : List α} {i : Nat} (h : x.length ≤ i) : (x ++ y).getD i d = y.getD (i - x.length) d := by
  simp only [List.getD_eq_getElem?_getD, List.getElem?_append_right h]
theorem getD_mem {x : List α} {i : Nat} (h : i < x.length) : x.getD i d ∈ x := by
  simp [List.getD_eq_getElem?_getD, h]
/-- Two blocks change places, no key of one being one of the other. -/
theorem Rl.rotate {P X Y S : List α} {a b : Nat} (ha : a ≤ P.length) (hb : P.length + X.length + Y.length ≤ b) (hk : ∀ x ∈ X, ∀ y ∈ Y, key x ≠ key y) : Rl key d (P ++ X ++ Y ++ S) (P ++ Y ++ X ++ S) a b := by
  have hin : ∀ i, P.length ≤ i → i < P.length + X.length + Y.length → ∃ j, P.length ≤ j ∧ j < P.length + X.length + Y.length ∧ (P ++ Y ++ X ++ S).getD i d = (P ++ X ++ Y ++ S).getD j d := by
    intro i i1 i2
    by_cases h1 : i < P.length + Y.length
    · refine ⟨i + X.length, by omega, by omega, ?_⟩
      rw [getD_app1 (by simp; omega), getD_app1 (by simp; omega), getD_app2 i1, getD_app1 (by simp; omega), getD_app2 (by simp; omega)]
      congr 1
      simp; omega
    · refine ⟨i - Y.length, by omega, by omega, ?_⟩
      rw [getD_app1 (by simp; omega), getD_app2 (by simp; omega), getD_app1 (by simp; omega), getD_app1 (by simp; omega), getD_app2 (by omega)]
      congr 1
      simp; omega
  have hout : ∀ i, i < P.length ∨ P.length + X.length + Y.length ≤ i → (P ++ Y ++ X ++ S).getD i d = (P ++ X ++ Y ++ S).getD i d := by
    intro i hi
    rcases hi with hi | hi
    · rw [getD_app1 (by simp; omega), getD_app1 (by simp; omega), getD_app1 hi, getD_app1 (by simp; omega), getD_app1 (by simp; omega), getD_app1 hi]
    · rw [getD_app2 (by simp; omega), getD_app2 (by simp; omega)]
      congr 1
      simp; omega
  refine ⟨by simp; omega, fun i hi => hout i (by omega), fun i i1 i2 => ?_, fun c => ?_⟩
  · by_cases hi : P.length ≤ i ∧ i < P.length + X.length + Y.length
    · obtain ⟨j, j1, j2, j3⟩ := hin i hi.1 hi.2
      exact ⟨j, by omega, by omega, j3⟩
    · exact ⟨i, i1, i2, hout i (by omega)⟩
  · simp only [List.filter_append]
    have : Y.filter (fun x => decide (key x = c)) ++ X.filter (fun x => decide (key x = c)) = X.filter (fun x => decide (key x = c)) ++ Y.filter (fun x => decide (key x = c)) := by
      by_cases hx : ∃ x ∈ X, key x = c
      · obtain ⟨x, x1, x2⟩ := hx
        have : Y.filter (fun x => decide (key x = c)) = [] := by
          rw [List.filter_eq_nil_iff]
          intro y hy
          simp
          intro e
          exact hk x x1 y hy (x2.trans e.symm)
        rw [this]; simp
      · have : X.filter (fun x => decide (key x = c)) = [] := by
          rw [List.filter_eq_nil_iff]
          intro y hy
          simp
          intro e
          exact hx ⟨y, hy, e⟩
        rw [this]; simp
    rw [List.append_assoc (P.filter _), this]
    simp [List.append_assoc]
/-- The blocks of a row. -/
theorem blocks (l : List α) (a m b : Nat) (h1 : a ≤ m) (h2 : m ≤ b) (h3 : b ≤ l.length) : ∃ P X Y S, l = P ++ X ++ Y ++ S ∧ P.length = a ∧ X.length = m - a ∧ Y.length = b - m ∧
    (∀ x ∈ X, ∃ i, a ≤ i ∧ i < m ∧ x = l.getD i d) ∧ (∀ y ∈ Y, ∃ i, m ≤ i ∧ i < b ∧ y = l.getD i d) := by
  refine ⟨l.take a, (l.drop a).take (m - a), (l.drop m).take (b - m), l.drop b, ?_, by simp; omega, by simp; omega, by simp; omega, ?_, ?_⟩
  · have e1 : l.take a ++ (l.drop a).take (m - a) = l.take m := by
      have := List.take_add (l := l) (i := a) (j := m - a)
      rw [show a + (m - a) = m by omega] at this
      exact this.symm
    have e2 : l.take m ++ (l.drop m).take (b - m) = l.take b := by
      have := List.take_add (l := l) (i := m) (j := b - m)
      rw [show m + (b - m) = b by omega] at this
      exact this.symm
    rw [e1, e2, List.take_append_drop]
  · intro x hx
    obtain ⟨i, hi⟩ := List.getElem?_of_mem hx
    have hlt := (List.getElem?_eq_some_iff.1 hi).1
    simp at hlt
    rw [List.getElem?_take_of_lt (by omega), List.getElem?_drop] at hi
    exact ⟨a + i, by omega, by omega, by simp [List.getD_eq_getElem?_getD, hi]⟩
  · intro x hx
    obtain ⟨i, hi⟩ := List.getElem?_of_mem hx
    have hlt := (List.getElem?_eq_some_iff.1 hi).1
    simp at hlt
    rw [List.getElem?_take_of_lt (by omega), List.getElem?_drop] at hi
    exact ⟨m + i, by omega, by omega, by simp [List.getD_eq_getElem?_getD, hi]⟩
/-- What stands where behind a rotation. -/
theorem rot_get {P X Y S : List α} {i : Nat} : (P ++ Y ++ X ++ S).getD i d = (P ++ X ++ Y ++ S).getD (if i < P.length then i else if i < P.length + Y.length then i + X.length else if i < P.length + X.length + Y.length then i - Y.length else i) d := by
  split
  · rename_i hi
    rw [getD_app1 (by simp; omega), getD_app1 (by simp; omega), getD_app1 hi, getD_app1 (by simp; omega), getD_app1 (by simp; omega), getD_app1 hi]
  · split
    · rw [getD_app1 (by simp; omega), getD_app1 (by simp; omega), getD_app2 (by omega), getD_app1 (by simp; omega), getD_app2 (by simp; omega)]
      congr 1
      simp; omega
    · split
      · rw [getD_app1 (by simp; omega), getD_app2 (by simp; omega), getD_app1 (by simp; omega), getD_app1 (by simp; omega), getD_app2 (by omega)]
        congr 1
        simp; omega
      · rw [getD_app2 (by simp; omega), getD_app2 (by simp; omega)]
        congr 1
        simp; omega
/-- One step of two blocks that change places. -/
theorem swap_blocks {P A B C S : List α} {k : Nat} (hA : k < A.length) (hC : C.length = A.length) :
    ((P ++ (C.take k ++ A.drop k) ++ B ++ (A.take k ++ C.drop k) ++ S).set (P.length + k) ((P ++ (C.take k ++ A.drop k) ++ B ++ (A.take k ++ C.drop k) ++ S).getD (P.length + A.length + B.length + k) d)).set (P.length + A.length + B.length + k) ((P ++ (C.take k ++ A.drop k) ++ B ++ (A.take k ++ C.drop k) ++ S).getD (P.length + k) d)
      = P ++ (C.take (k + 1) ++ A.drop (k + 1)) ++ B ++ (A.take (k + 1) ++ C.drop (k + 1)) ++ S := by
  have e1 : (P ++ (C.take k ++ A.drop k) ++ B ++ (A.take k ++ C.drop k) ++ S).getD (P.length + A.length + B.length + k) d = C[k] := by
    rw [getD_app1 (by simp; omega), getD_app2 (by simp; omega), getD_app2 (by simp; omega)]
    simp only [List.getD_eq_getElem?_getD, List.getElem?_drop]
    have : k + (P.length + A.length + B.length + k - (P ++ (C.take k ++ A.drop k) ++ B).length - (A.take k).length) = k := by simp; omega
    rw [this, List.getElem?_eq_getElem (by omega)]; rfl
  have e2 : (P ++ (C.take k ++ A.drop k) ++ B ++ (A.take k ++ C.drop k) ++ S).getD (P.length + k) d = A[k] := by
    rw [getD_app1 (by simp; omega), getD_app1 (by simp; omega), getD_app1 (by simp; omega), getD_app2 (by omega), getD_app2 (by simp; omega)]
    simp only [List.getD_eq_getElem?_getD, List.getElem?_drop]
    have : k + (P.length + k - P.length - (C.take k).length) = k := by simp; omega
    rw [this, List.getElem?_eq_getElem hA]; rfl
  rw [e1, e2]
  rw [show A.drop k = A[k] :: A.drop (k + 1) from List.drop_eq_getElem_cons hA, show C.drop k = C[k] :: C.drop (k + 1) from List.drop_eq_getElem_cons (by omega)]
  rw [List.take_succ_eq_append_getElem hA, List.take_succ_eq_append_getElem (show k < C.length by omega)]
  have f1 : ∀ (V : List α) (x : α), (P ++ (C.take k ++ A[k] :: A.drop (k + 1)) ++ V).set (P.length + k) x = P ++ (C.take k ++ x :: A.drop (k + 1)) ++ V := by
    intro V x
    rw [List.set_append_left _ _ (by simp; omega), List.set_append_right _ _ (by omega), List.set_append_right _ _ (by simp; omega)]
    congr 3
    have : P.length + k - P.length - (C.take k).length = 0 := by simp; omega
    rw [this]; rfl
  have f2 : ∀ (U : List α) (x : α), U.length = A.length → (P ++ U ++ B ++ (A.take k ++ C[k] :: C.drop (k + 1)) ++ S).set (P.length + A.length + B.length + k) x = P ++ U ++ B ++ (A.take k ++ x :: C.drop (k + 1)) ++ S := by
    intro U x hU
    rw [List.set_append_left _ _ (by simp; omega), List.set_append_right _ _ (by simp; omega), List.set_append_right _ _ (by simp; omega)]
    congr 3
    have : P.length + A.length + B.length + k - (P ++ U ++ B).length - (A.take k).length = 0 := by simp; omega
    rw [this]; rfl
  have g := f1 (B ++ (A.take k ++ C[k] :: C.drop (k + 1)) ++ S) C[k]
  simp only [List.append_assoc] at g f2 ⊢
  rw [g]
  have h := f2 (C.take k ++ C[k] :: A.drop (k + 1)) A[k] (by simp; omega)
  simp only [List.append_assoc] at h
  rw [h]
  simp
/-- **The symmetric merge**: where it parts the two ranges. -/
theorem sym_part {l : List α} {a m b mid s : Nat} (hml : b ≤ l.length) (ham : a < m) (hmb : m < b) (hmid : mid = (a + b) / 2) (h1 : Sd key d l a m) (h2 : Sd key d l m b)
    (hs0 : (if mid < m then mid + m - b else a) ≤ s) (hs1 : s ≤ (if mid < m then mid else m))
    (hy : (if mid < m then mid + m - b else a) < s → key (l.getD (s - 1) d) ≤ key (l.getD (mid + m - 1 - (s - 1)) d))
    (hn : s < (if mid < m then mid else m) → key (l.getD (mid + m - 1 - s) d) < key (l.getD s d)) :
    a ≤ s ∧ s ≤ mid ∧ s ≤ m ∧ m ≤ mid + m - s ∧ mid ≤ mid + m - s ∧ mid + m - s ≤ b ∧
    (s < m → m < mid + m - s → ∀ i j, s ≤ i → i < m → m ≤ j → j < mid + m - s → key (l.getD j d) < key (l.getD i d)) ∧
    (∀ i j, a ≤ i → i < s → mid + m - s ≤ j → j < b → key (l.getD i d) ≤ key (l.getD j d)) := by
  refine ⟨by split at hs0 <;> omega, by split at hs1 <;> omega, by split at hs1 <;> omega, by split at hs1 <;> omega, by split at hs1 <;> omega, by split at hs0 <;> omega, ?_, ?_⟩
  · intro h3 h4 i j i1 i2 j1 j2
    have hlt : s < (if mid < m then mid else m) := by split <;> omega
    have h5 := hn hlt
    have h6 := h1 s i (by split at hs0 <;> omega) i1 i2
    have h7 := h2 j (mid + m - 1 - s) j1 (by omega) (by split at hs0 <;> omega)
    omega
  · intro i j i1 i2 j1 j2
    have hlt : (if mid < m then mid + m - b else a) < s := by
      rcases Nat.lt_or_ge (if mid < m then mid + m - b else a) s with h | h
      · exact h
      · exfalso; split at h <;> omega
    have h5 := hy hlt
    have h6 := h1 i (s - 1) i1 (by omega) (by split at hs1 <;> omega)
    have h7 := h2 (mid + m - 1 - (s - 1)) j (by split at hs1 <;> omega) (by omega) j2
    omega
/-- A row in order whose keys stand as they stood is the one that a stable sort leaves. -/
theorem unique {l1 l2 : List α} (h1 : Sd key d l1 0 l1.length) (h2 : Sd key d l2 0 l2.length) (h : ∀ c, l1.filter (fun x => decide (key x = c)) = l2.filter (fun x => decide (key x = c))) : l1 = l2 := by
  induction l1 generalizing l2 with
  | nil =>
    cases l2 with
    | nil => rfl
    | cons y l2 => have := h (key y); simp at this
  | cons x l1 ih =>
    cases l2 with
    | nil => have := h (key x); simp at this
    | cons y l2 =>
      have hx : key y ≤ key x := by
        have hm : x ∈ (y :: l2) := by
          have hf : x ∈ (x :: l1).filter (fun z => decide (key z = key x)) := by simp
          rw [h (key x)] at hf
          exact (List.mem_filter.1 hf).1
        obtain ⟨j, hj⟩ := List.getElem?_of_mem hm
        have hlt := (List.getElem?_eq_some_iff.1 hj).1
        have := h2 0 j (Nat.le_refl _) (Nat.zero_le _) hlt
        simpa [List.getD_eq_getElem?_getD, hj] using this
      have hy : key x ≤ key y := by
        have hm : y ∈ (x :: l1) := by
          have hf : y ∈ (y :: l2).filter (fun z => decide (key z = key y)) := by simp
          rw [← h (key y)] at hf
          exact (List.mem_filter.1 hf).1
        obtain ⟨j, hj⟩ := List.getElem?_of_mem hm
        have hlt := (List.getElem?_eq_some_iff.1 hj).1
        have := h1 0 j (Nat.le_refl _) (Nat.zero_le _) hlt
        simpa [List.getD_eq_getElem?_getD, hj] using this
      have hk : key x = key y := by omega
      have hxy : x = y := by
        have := h (key x)
        simp [hk] at this
        exact this.1
      subst hxy
      congr 1
      refine ih (fun i j i1 i2 i3 => ?_) (fun i j i1 i2 i3 => ?_) (fun c => ?_)
      · have := h1 (i + 1) (j + 1) (by omega) (by omega) (by simp; omega)
        simpa [List.getD_eq_getElem?_getD] using this
      · have := h2 (i + 1) (j + 1) (by omega) (by omega) (by simp; omega)
        simpa [List.getD_eq_getElem?_getD] using this
      · have := h c
        simp only [List.filter_cons] at this
        split at this
        · simpa using this
        · exact this
end Go.StS
namespace Go.StS
set_option linter.unusedVariables false
variable {α : Type} {key : α → Int} {d : α}
theorem Rl.pd {Pd : α → Prop} {l l' : List α} {a b n : Nat} (h : Rl key d l l' a b) (hb : b ≤ n) (hp : ∀ i, i < n → Pd (l.getD i d)) : ∀ i, i < n → Pd (l'.getD i d) := fun i hi => by
  by_cases h1 : a ≤ i ∧ i < b
  · obtain ⟨j, j1, j2, j3⟩ := h.mem i h1.1 h1.2
    rw [j3]; exact hp j (by omega)
  · rw [h.out i (by omega)]; exact hp i hi
/-- All stand in order but for the one that is being laid in. -/
def Ins (key : α → Int) (d : α) (l : List α) (a j i : Nat) : Prop := ∀ x y, a ≤ x → x ≤ y → y ≤ i → y ≠ j → key (l.getD x d) ≤ key (l.getD y d)
theorem Ins.start {l : List α} {a i : Nat} (h : Sd key d l a i) : Ins key d l a i i := fun x y h1 h2 h3 h4 => h x y h1 h2 (by omega)
theorem swap_get {l : List α} {j k : Nat} (hj : 0 < j) (hl : j < l.length) : ((l.set j (l.getD (j - 1) d)).set (j - 1) (l.getD j d)).getD k d = if k = j then l.getD (j - 1) d else if k = j - 1 then l.getD j d else l.getD k d := by
  by_cases e1 : k = j
  · subst e1
    rw [if_pos rfl]
    simp only [List.getD_eq_getElem?_getD]
    rw [List.getElem?_set_ne (by omega)]
    simp [hl]
  · rw [if_neg e1]
    by_cases e2 : k = j - 1
    · subst e2
      rw [if_pos rfl]
      simp only [List.getD_eq_getElem?_getD]
      simp [show j - 1 < l.length by omega]
    · rw [if_neg e2]
      simp only [List.getD_eq_getElem?_getD]
      rw [List.getElem?_set_ne (by omega), List.getElem?_set_ne (by omega)]
theorem Ins.step {l : List α} {a j i : Nat} (h : Ins key d l a j i) (h1 : a < j) (h2 : j ≤ i) (hl : j < l.length) (hk : key (l.getD j d) < key (l.getD (j - 1) d)) : Ins key d ((l.set j (l.getD (j - 1) d)).set (j - 1) (l.getD j d)) a (j - 1) i := fun x y x1 x2 x3 x4 => by
  rw [swap_get (by omega) hl, swap_get (by omega) hl, if_neg x4]
  by_cases ey : y = j
  · rw [if_pos ey]
    by_cases ex : x = j
    · rw [if_pos ex]; exact Int.le_refl _
    · rw [if_neg ex]
      by_cases ex2 : x = j - 1
      · rw [if_pos ex2]; omega
      · rw [if_neg ex2]; exact h x (j - 1) x1 (by omega) (by omega) (by omega)
  · rw [if_neg ey]
    by_cases ex : x = j
    · rw [if_pos ex]; exact h (j - 1) y (by omega) (by omega) x3 ey
    · rw [if_neg ex]
      by_cases ex2 : x = j - 1
      · rw [if_pos ex2]; exact h j y (by omega) (by omega) x3 ey
      · rw [if_neg ex2]; exact h x y x1 x2 x3 ey
theorem Rl.swapD {l : List α} {a b j : Nat} (h1 : a < j) (h2 : j < b) (hl : j < l.length) (hk : key (l.getD j d) < key (l.getD (j - 1) d)) : Rl key d l ((l.set j (l.getD (j - 1) d)).set (j - 1) (l.getD j d)) a b := by
  obtain ⟨i, rfl⟩ : ∃ i, j = i + 1 := ⟨j - 1, by omega⟩
  rw [show i + 1 - 1 = i by omega] at hk ⊢
  rw [swap_comm]
  exact Rl.swap (by omega) h2 hl (by omega)
theorem Rl.swapU {l : List α} {a b j : Nat} (h1 : a ≤ j) (h2 : j + 1 < b) (hl : j + 1 < l.length) (hk : key (l.getD (j + 1) d) ≠ key (l.getD j d)) : Rl key d l ((l.set j (l.getD (j + 1) d)).set (j + 1) (l.getD j d)) a b :=
  Rl.swap h1 h2 hl (fun e => hk e.symm)
theorem Ins.fin {l : List α} {a j i : Nat} (h : Ins key d l a j i) (hj : a ≤ j) (he : j = a ∨ key (l.getD (j - 1) d) ≤ key (l.getD j d)) : Sd key d l a (i + 1) := fun x y h1 h2 h3 => by
  by_cases ey : y = j
  · subst ey
    by_cases ex : x = y
    · subst ex; exact Int.le_refl _
    · rcases he with he | he
      · omega
      · exact Int.le_trans (h x (y - 1) h1 (by omega) (by omega) (by omega)) he
  · exact h x y h1 h2 (by omega) ey
end Go.StS
namespace Go.StS
set_option linter.unusedVariables false
variable {α : Type} {key : α → Int} {d : α}
theorem bs_lt {l : List α} {m b h : Nat} {k : Int} (hs : Sd key d l m b) (h1 : m ≤ h) (h2 : h < b) (hk : key (l.getD h d) < k) : ∀ x, m ≤ x → x < h + 1 → key (l.getD x d) < k := fun x x1 x2 => by
  have := hs x h x1 (by omega) h2; omega
theorem bs_ge {l : List α} {m b h : Nat} {k : Int} (hs : Sd key d l m b) (h1 : m ≤ h) (h2 : h < b) (hk : k ≤ key (l.getD h d)) : ∀ x, h ≤ x → x < b → k ≤ key (l.getD x d) := fun x x1 x2 => by
  have := hs h x h1 x1 x2; omega
theorem bs_le {l : List α} {m b h : Nat} {k : Int} (hs : Sd key d l m b) (h1 : m ≤ h) (h2 : h < b) (hk : key (l.getD h d) ≤ k) : ∀ x, m ≤ x → x < h + 1 → key (l.getD x d) ≤ k := fun x x1 x2 => by
  have := hs x h x1 (by omega) h2; omega
theorem bs_gt {l : List α} {m b h : Nat} {k : Int} (hs : Sd key d l m b) (h1 : m ≤ h) (h2 : h < b) (hk : k < key (l.getD h d)) : ∀ x, h ≤ x → x < b → k < key (l.getD x d) := fun x x1 x2 => by
  have := hs h x h1 x1 x2; omega
/-- The first one went up to k. -/
structure Mv (key : α → Int) (d : α) (l l2 : List α) (a b k : Nat) : Prop where
  rl : Rl key d l l2 a b
  at_ : l2.getD k d = l.getD a d
  lo : ∀ x, a ≤ x → x < k → l2.getD x d = l.getD (x + 1) d
  hi : ∀ x, k < x → l2.getD x d = l.getD x d
theorem Mv.start (l : List α) (a b : Nat) : Mv key d l l a b a := ⟨Rl.refl _ _ _, rfl, fun x h1 h2 => by omega, fun _ _ => rfl⟩
theorem swapU_get {l : List α} {j k : Nat} (hl : j + 1 < l.length) : ((l.set j (l.getD (j + 1) d)).set (j + 1) (l.getD j d)).getD k d = if k = j then l.getD (j + 1) d else if k = j + 1 then l.getD j d else l.getD k d := by
  have := swap_get (d := d) (l := l) (j := j + 1) (k := k) (by omega) hl
  rw [show j + 1 - 1 = j by omega] at this
  rw [swap_comm] at this
  rw [this]
  by_cases e1 : k = j
  · rw [if_neg (by omega), if_pos e1, if_pos e1]
  · by_cases e2 : k = j + 1
    · rw [if_pos e2, if_neg e1, if_pos e2]
    · rw [if_neg e2, if_neg e1, if_neg e1, if_neg e2]
theorem Mv.step {l l2 : List α} {a b k : Nat} (h : Mv key d l l2 a b k) (h1 : a ≤ k) (h2 : k + 1 < b) (hl : b ≤ l.length) (hk : key (l.getD (k + 1) d) < key (l.getD a d)) : Mv key d l ((l2.set k (l2.getD (k + 1) d)).set (k + 1) (l2.getD k d)) a b (k + 1) := by
  have hlen := h.rl.len
  refine ⟨h.rl.trans (Rl.swapU h1 h2 (by omega) (by rw [h.at_, h.hi _ (by omega)]; omega)), ?_, fun x x1 x2 => ?_, fun x x1 => ?_⟩
  · rw [swapU_get (by omega), if_neg (by omega), if_pos rfl, h.at_]
  · rw [swapU_get (by omega)]
    by_cases e : x = k
    · subst e; rw [if_pos rfl, h.hi _ (by omega)]
    · rw [if_neg e, if_neg (by omega), h.lo x x1 (by omega)]
  · rw [swapU_get (by omega), if_neg (by omega), if_neg (by omega), h.hi x (by omega)]
theorem Mv.fin {l l2 : List α} {a b i : Nat} (h : Mv key d l l2 a b (i - 1)) (ha : a + 1 ≤ i) (hi : i ≤ b) (hs : Sd key d l (a + 1) b) (hlo : ∀ x, a + 1 ≤ x → x < i → key (l.getD x d) < key (l.getD a d)) (hhi : ∀ x, i ≤ x → x < b → key (l.getD a d) ≤ key (l.getD x d)) : Sd key d l2 a b := by
  have get : ∀ x, a ≤ x → l2.getD x d = if x < i - 1 then l.getD (x + 1) d else if x = i - 1 then l.getD a d else l.getD x d := by
    intro x hx
    by_cases e1 : x < i - 1
    · rw [if_pos e1, h.lo x hx e1]
    · rw [if_neg e1]
      by_cases e2 : x = i - 1
      · rw [if_pos e2, e2, h.at_]
      · rw [if_neg e2, h.hi x (by omega)]
  intro x y x1 x2 x3
  rw [get x x1, get y (by omega)]
  by_cases e1 : x < i - 1
  · rw [if_pos e1]
    by_cases f1 : y < i - 1
    · rw [if_pos f1]; exact hs _ _ (by omega) (by omega) (by omega)
    · rw [if_neg f1]
      by_cases f2 : y = i - 1
      · rw [if_pos f2]; have := hlo (x + 1) (by omega) (by omega); omega
      · rw [if_neg f2]; exact hs _ _ (by omega) (by omega) (by omega)
  · rw [if_neg e1]
    by_cases e2 : x = i - 1
    · rw [if_pos e2, if_neg (by omega)]
      by_cases f2 : y = i - 1
      · rw [if_pos f2]; exact Int.le_refl _
      · rw [if_neg f2]; exact hhi y (by omega) x3
    · rw [if_neg e2, if_neg (by omega), if_neg (by omega)]; exact hs _ _ (by omega) x2 x3
/-- The last one went down to k. -/
structure Mw (key : α → Int) (d : α) (l l2 : List α) (a b m k : Nat) : Prop where
  rl : Rl key d l l2 a b
  at_ : l2.getD k d = l.getD m d
  hi : ∀ x, k < x → x ≤ m → l2.getD x d = l.getD (x - 1) d
  lo : ∀ x, x < k → l2.getD x d = l.getD x d
  up : ∀ x, m < x → l2.getD x d = l.getD x d
theorem Mw.start (l : List α) (a b m : Nat) : Mw key d l l a b m m := ⟨Rl.refl _ _ _, rfl, fun x h1 h2 => by omega, fun _ _ => rfl, fun _ _ => rfl⟩
theorem Mw.step {l l2 : List α} {a b m k : Nat} (h : Mw key d l l2 a b m k) (h0 : a < k) (h1 : k ≤ m) (h2 : m < b) (hl : b ≤ l.length) (hk : key (l.getD m d) < key (l.getD (k - 1) d)) : Mw key d l ((l2.set k (l2.getD (k - 1) d)).set (k - 1) (l2.getD k d)) a b m (k - 1) := by
  have hlen := h.rl.len
  refine ⟨h.rl.trans (Rl.swapD h0 (by omega) (by omega) (by rw [h.at_, h.lo _ (by omega)]; exact hk)), ?_, fun x x1 x2 => ?_, fun x x1 => ?_, fun x x1 => ?_⟩
  · rw [swap_get (by omega) (by omega), if_neg (by omega), if_pos rfl, h.at_]
  · rw [swap_get (by omega) (by omega)]
    by_cases e : x = k
    · subst e; rw [if_pos rfl, h.lo _ (by omega)]
    · rw [if_neg e, if_neg (by omega), h.hi x (by omega) x2]
  · rw [swap_get (by omega) (by omega), if_neg (by omega), if_neg (by omega), h.lo x (by omega)]
  · rw [swap_get (by omega) (by omega), if_neg (by omega), if_neg (by omega), h.up x x1]
theorem Mw.fin {l l2 : List α} {a b i : Nat} {m : Nat} (h : Mw key d l l2 a b m i) (ha : a ≤ i) (hi : i ≤ m) (hb : b = m + 1) (hs : Sd key d l a m) (hlo : ∀ x, a ≤ x → x < i → key (l.getD x d) ≤ key (l.getD m d)) (hhi : ∀ x, i ≤ x → x < m → key (l.getD m d) < key (l.getD x d)) : Sd key d l2 a b := by
  have get : ∀ x, x ≤ m → l2.getD x d = if x < i then l.getD x d else if x = i then l.getD m d else l.getD (x - 1) d := by
    intro x hx
    by_cases e1 : x < i
    · rw [if_pos e1, h.lo x e1]
    · rw [if_neg e1]
      by_cases e2 : x = i
      · rw [if_pos e2, e2, h.at_]
      · rw [if_neg e2, h.hi x (by omega) hx]
  intro x y x1 x2 x3
  rw [get x (by omega), get y (by omega)]
  by_cases e1 : x < i
  · rw [if_pos e1]
    by_cases f1 : y < i
    · rw [if_pos f1]; exact hs _ _ x1 x2 (by omega)
    · rw [if_neg f1]
      by_cases f2 : y = i
      · rw [if_pos f2]; exact hlo x x1 e1
      · rw [if_neg f2]; exact hs _ _ x1 (by omega) (by omega)
  · rw [if_neg e1]
    by_cases e2 : x = i
    · rw [if_pos e2, if_neg (show ¬ y < i by omega)]
      by_cases f2 : y = i
      · rw [if_pos f2]; exact Int.le_refl _
      · rw [if_neg f2]; have := hhi (y - 1) (by omega) (by omega); omega
    · rw [if_neg e2, if_neg (show ¬ y < i by omega), if_neg (show ¬ y = i by omega)]; exact hs _ _ (by omega) (by omega) (by omega)
/-- How the symmetric merge parts a range. -/
structure Parts (key : α → Int) (d : α) (l l1 : List α) (a s mid e b : Nat) : Prop where
  rl : Rl key d l l1 a b
  s1 : Sd key d l1 a s
  s2 : Sd key d l1 s mid
  s3 : Sd key d l1 mid e
  s4 : Sd key d l1 e b
  cr : ∀ i j, a ≤ i → i < mid → mid ≤ j → j < b → key (l1.getD i d) ≤ key (l1.getD j d)
theorem Parts.stay {l : List α} {a m b mid s : Nat} (h1 : Sd key d l a m) (h2 : Sd key d l m b) (hs : a ≤ s ∧ s ≤ mid ∧ s ≤ m ∧ m ≤ mid + m - s ∧ mid ≤ mid + m - s ∧ mid + m - s ≤ b)
    (hc : ∀ i j, a ≤ i → i < s → mid + m - s ≤ j → j < b → key (l.getD i d) ≤ key (l.getD j d)) (hn : ¬ (s < m ∧ m < mid + m - s)) : Parts key d l l a s mid (mid + m - s) b := by
  obtain ⟨e1, e2, e3, e4, e5, e6⟩ := hs
  by_cases hm : s = m
  · subst hm
    have he : mid + s - s = mid := by omega
    rw [he] at hc ⊢
    refine ⟨Rl.refl _ _ _, h1, h2.sub (Nat.le_refl _) (by omega), Sd.small (by omega), h2.sub e2 (Nat.le_refl _), fun i j i1 i2 j1 j2 => ?_⟩
    by_cases hi : i < s
    · exact hc i j i1 hi j1 j2
    · exact h2 i j (by omega) (by omega) j2
  · have hs2 : s = mid := by omega
    subst hs2
    have he : s + m - s = m := by omega
    rw [he] at hc ⊢
    refine ⟨Rl.refl _ _ _, h1.sub (Nat.le_refl _) (by omega), Sd.small (by omega), h1.sub e1 (Nat.le_refl _), h2, fun i j i1 i2 j1 j2 => ?_⟩
    by_cases hj : j < m
    · exact h1 i j i1 (by omega) hj
    · exact hc i j i1 i2 (by omega) j2
theorem Parts.rot {P X Y Z : List α} {a m b mid s : Nat} (hP : P.length = s) (hX : X.length = m - s) (hY : Y.length = mid + m - s - m) (h1 : Sd key d (P ++ X ++ Y ++ Z) a m) (h2 : Sd key d (P ++ X ++ Y ++ Z) m b) (hs : a ≤ s ∧ s ≤ mid ∧ s ≤ m ∧ m ≤ mid + m - s ∧ mid ≤ mid + m - s ∧ mid + m - s ≤ b)
    (hlt : ∀ i j, s ≤ i → i < m → m ≤ j → j < mid + m - s → key ((P ++ X ++ Y ++ Z).getD j d) < key ((P ++ X ++ Y ++ Z).getD i d))
    (hc : ∀ i j, a ≤ i → i < s → mid + m - s ≤ j → j < b → key ((P ++ X ++ Y ++ Z).getD i d) ≤ key ((P ++ X ++ Y ++ Z).getD j d))
    (hXm : ∀ x ∈ X, ∃ i, s ≤ i ∧ i < m ∧ x = (P ++ X ++ Y ++ Z).getD i d) (hYm : ∀ y ∈ Y, ∃ i, m ≤ i ∧ i < mid + m - s ∧ y = (P ++ X ++ Y ++ Z).getD i d) :
    Parts key d (P ++ X ++ Y ++ Z) (P ++ Y ++ X ++ Z) a s mid (mid + m - s) b := by
  obtain ⟨e1, e2, e3, e4, e5, e6⟩ := hs
  have hr : Rl key d (P ++ X ++ Y ++ Z) (P ++ Y ++ X ++ Z) a b := Rl.rotate (by omega) (by omega) (fun x hx y hy => by
    obtain ⟨i, i1, i2, rfl⟩ := hXm x hx
    obtain ⟨j, j1, j2, rfl⟩ := hYm y hy
    have := hlt i j i1 i2 j1 j2
    omega)
  have g1 : ∀ i, i < s → (P ++ Y ++ X ++ Z).getD i d = (P ++ X ++ Y ++ Z).getD i d := fun i hi => by rw [rot_get, if_pos (by omega)]
  have g2 : ∀ i, s ≤ i → i < mid → (P ++ Y ++ X ++ Z).getD i d = (P ++ X ++ Y ++ Z).getD (i + (m - s)) d := fun i i1 i2 => by rw [rot_get, if_neg (by omega), if_pos (by omega), hX]
  have g3 : ∀ i, mid ≤ i → i < mid + m - s → (P ++ Y ++ X ++ Z).getD i d = (P ++ X ++ Y ++ Z).getD (i - (mid + m - s - m)) d := fun i i1 i2 => by rw [rot_get, if_neg (by omega), if_neg (by omega), if_pos (by omega), hY]
  have g4 : ∀ i, mid + m - s ≤ i → (P ++ Y ++ X ++ Z).getD i d = (P ++ X ++ Y ++ Z).getD i d := fun i hi => by rw [rot_get, if_neg (by omega), if_neg (by omega), if_neg (by omega)]
  refine ⟨hr, fun i j i1 i2 i3 => ?_, fun i j i1 i2 i3 => ?_, fun i j i1 i2 i3 => ?_, fun i j i1 i2 i3 => ?_, fun i j i1 i2 j1 j2 => ?_⟩
  · rw [g1 i (by omega), g1 j (by omega)]; exact h1 i j i1 i2 (by omega)
  · rw [g2 i i1 (by omega), g2 j (by omega) i3]; exact h2 _ _ (by omega) (by omega) (by omega)
  · rw [g3 i i1 (by omega), g3 j (by omega) i3]; exact h1 _ _ (by omega) (by omega) (by omega)
  · rw [g4 i i1, g4 j (by omega)]; exact h2 _ _ (by omega) i2 i3
  · by_cases hi : i < s
    · rw [g1 i hi]
      by_cases hj : j < mid + m - s
      · rw [g3 j j1 hj]; exact h1 _ _ i1 (by omega) (by omega)
      · rw [g4 j (by omega)]; exact hc i j i1 hi (by omega) j2
    · rw [g2 i (by omega) i2]
      by_cases hj : j < mid + m - s
      · rw [g3 j j1 hj]
        have := hlt (j - (mid + m - s - m)) (i + (m - s)) (by omega) (by omega) (by omega) (by omega)
        omega
      · rw [g4 j (by omega)]; exact h2 _ _ (by omega) (by omega) j2
theorem cross_left {l1 l2 : List α} {a mid b : Nat} (h : ∀ i j, a ≤ i → i < mid → mid ≤ j → j < b → key (l1.getD i d) ≤ key (l1.getD j d)) (hr : Rl key d l1 l2 a mid) : ∀ i j, a ≤ i → i < mid → mid ≤ j → j < b → key (l2.getD i d) ≤ key (l2.getD j d) := fun i j i1 i2 j1 j2 => by
  obtain ⟨k, k1, k2, e⟩ := hr.mem i i1 i2
  rw [e, hr.out j (by omega)]
  exact h k j k1 k2 j1 j2
theorem cross_right {l1 l2 : List α} {a mid b : Nat} (h : ∀ i j, a ≤ i → i < mid → mid ≤ j → j < b → key (l1.getD i d) ≤ key (l1.getD j d)) (hr : Rl key d l1 l2 mid b) : ∀ i j, a ≤ i → i < mid → mid ≤ j → j < b → key (l2.getD i d) ≤ key (l2.getD j d) := fun i j i1 i2 j1 j2 => by
  obtain ⟨k, k1, k2, e⟩ := hr.mem j j1 j2
  rw [e, hr.out i (by omega)]
  exact h i k i1 i2 k1 k2
/-- The search of the symmetric merge. -/
theorem sym_lo {l : List α} {a m b mid h st0 r0 : Nat} (ham : a < m) (hmb : m < b) (hmid : mid = (a + b) / 2) (h1 : Sd key d l a m) (h2 : Sd key d l m b) (e0 : st0 = if mid < m then mid + m - b else a) (e1 : r0 = if mid < m then mid else m) (i1 : st0 ≤ h) (i2 : h < r0)
    (hk : key (l.getD h d) ≤ key (l.getD (mid + m - 1 - h) d)) : ∀ x, st0 ≤ x → x < h + 1 → key (l.getD x d) ≤ key (l.getD (mid + m - 1 - x) d) := fun x x1 x2 => by
  have f1 := h1 x h (by split at e0 <;> omega) (by omega) (by split at e1 <;> omega)
  have f2 := h2 (mid + m - 1 - h) (mid + m - 1 - x) (by split at e1 <;> omega) (by omega) (by split at e0 <;> omega)
  omega
theorem sym_hi {l : List α} {a m b mid h st0 r0 : Nat} (ham : a < m) (hmb : m < b) (hmid : mid = (a + b) / 2) (h1 : Sd key d l a m) (h2 : Sd key d l m b) (e0 : st0 = if mid < m then mid + m - b else a) (e1 : r0 = if mid < m then mid else m) (i1 : st0 ≤ h) (i2 : h < r0)
    (hk : key (l.getD (mid + m - 1 - h) d) < key (l.getD h d)) : ∀ x, h ≤ x → x < r0 → key (l.getD (mid + m - 1 - x) d) < key (l.getD x d) := fun x x1 x2 => by
  have f1 := h1 h x (by split at e0 <;> omega) (by omega) (by split at e1 <;> omega)
  have f2 := h2 (mid + m - 1 - x) (mid + m - 1 - h) (by split at e1 <;> omega) (by omega) (by split at e0 <;> omega)
  omega
end Go.StS
namespace Go.StS
set_option linter.unusedVariables false
variable {α : Type} {key : α → Int} {d : α}
theorem dvd_gap {b x A : Nat} (h1 : b ∣ x) (h2 : b ∣ A) (h : x ≤ A) : x = A ∨ x + b ≤ A := by
  obtain ⟨u, rfl⟩ := h1
  obtain ⟨v, rfl⟩ := h2
  rcases Nat.eq_zero_or_pos b with hb | hb
  · subst hb; left; simp
  · have huv : u ≤ v := Nat.le_of_mul_le_mul_left h hb
    rcases Nat.lt_or_ge u v with h3 | h3
    · right
      have := Nat.mul_le_mul_left b h3
      rw [Nat.mul_succ] at this
      exact this
    · left; congr 1; omega
/-- All blocks of a size are in order. -/
def Bk (key : α → Int) (d : α) (l : List α) (s n : Nat) : Prop := ∀ x, s ∣ x → Sd key d l x (min (x + s) n)
/-- Blocks ahead of A are in order. -/
def Bd (key : α → Int) (d : α) (l : List α) (s A : Nat) : Prop := ∀ x, s ∣ x → x + s ≤ A → Sd key d l x (x + s)
theorem Bd.zero (l : List α) (s : Nat) (hs : 0 < s) : Bd key d l s 0 := fun x _ h => by omega
theorem Bd.step {l l2 : List α} {s A : Nat} (h : Bd key d l s A) (hA : s ∣ A) (hr : Rl key d l l2 A (s + A)) (h2 : Sd key d l2 A (s + A)) : Bd key d l2 s (s + A) := fun x hx hle => by
  rcases dvd_gap hx hA (by omega) with e | e
  · subst e; exact h2.sub (Nat.le_refl _) (by omega)
  · exact (h x hx e).congr (fun i i1 i2 => hr.out i (by omega))
theorem Bd.fin {l l2 : List α} {s A n : Nat} (h : Bd key d l s A) (hA : s ∣ A) (hAn : A ≤ n) (hn : n < s + A) (hr : Rl key d l l2 A n) (h2 : Sd key d l2 A n) : Bk key d l2 s n := fun x hx => by
  rcases Nat.lt_or_ge A x with h3 | h3
  · rcases dvd_gap hA hx (Nat.le_of_lt h3) with e | e
    · omega
    · exact Sd.small (by omega)
  · rcases dvd_gap hx hA h3 with e | e
    · subst e; exact h2.sub (Nat.le_refl _) (by omega)
    · rw [Nat.min_eq_left (by omega)]
      exact (h x hx e).congr (fun i i1 i2 => hr.out i (by omega))
/-- Blocks from A on. -/
def Br (key : α → Int) (d : α) (l : List α) (s n A : Nat) : Prop := ∀ x, s ∣ x → A ≤ x → Sd key d l x (min (x + s) n)
theorem Bk.br {l : List α} {s n : Nat} (h : Bk key d l s n) : Br key d l s n 0 := fun x hx _ => h x hx
theorem Br.step {l l2 : List α} {s n A B : Nat} (h : Br key d l s n A) (hAB : A ≤ B) (hr : Rl key d l l2 A B) : Br key d l2 s n B := fun x hx hle => (h x hx (by omega)).congr (fun i i1 i2 => hr.out i (by omega))
theorem dvd_dbl {s A : Nat} (h : 2 * s ∣ A) : s ∣ A := Nat.dvd_trans ⟨2, by rw [Nat.mul_comm]⟩ h
theorem Br.two {l : List α} {s n A : Nat} (h : Br key d l s n A) (hA : 2 * s ∣ A) (hn : 2 * s + A ≤ n) : Sd key d l A (A + s) ∧ Sd key d l (A + s) (2 * s + A) := by
  have h1 := h A (dvd_dbl hA) (Nat.le_refl _)
  have h2 := h (A + s) (Nat.dvd_add (dvd_dbl hA) (Nat.dvd_refl _)) (by omega)
  rw [Nat.min_eq_left (by omega)] at h1
  rw [Nat.min_eq_left (by omega)] at h2
  exact ⟨h1, h2.sub (Nat.le_refl _) (by omega)⟩
theorem Br.last {l : List α} {s n A : Nat} (h : Br key d l s n A) (hA : 2 * s ∣ A) (hn : n < 2 * s + A) (hm : A + s < n) : Sd key d l A (A + s) ∧ Sd key d l (A + s) n := by
  have h1 := h A (dvd_dbl hA) (Nat.le_refl _)
  have h2 := h (A + s) (Nat.dvd_add (dvd_dbl hA) (Nat.dvd_refl _)) (by omega)
  rw [Nat.min_eq_left (by omega)] at h1
  rw [Nat.min_eq_right (by omega)] at h2
  exact ⟨h1, h2⟩
theorem Br.one {l : List α} {s n A : Nat} (h : Br key d l s n A) (hA : 2 * s ∣ A) (hm : n ≤ A + s) : Sd key d l A n := by
  have h1 := h A (dvd_dbl hA) (Nat.le_refl _)
  rwa [Nat.min_eq_right (by omega)] at h1
theorem Bk.all {l : List α} {s n : Nat} (h : Bk key d l s n) (hn : n ≤ s) : Sd key d l 0 n := by
  have := h 0 (Nat.dvd_zero _)
  rwa [Nat.min_eq_right (by omega)] at this
end Go.StS
